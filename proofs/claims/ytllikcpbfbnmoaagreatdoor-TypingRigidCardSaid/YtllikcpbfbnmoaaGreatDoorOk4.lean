/- Printed functions are what the program's functions come to, part 5. -/
import Derived.Test.YtllikcpbfbnmoaaGreatDoorFs0
import Derived.Test.YtllikcpbfbnmoaaGreatDoorFs1
import Derived.Test.YtllikcpbfbnmoaaGreatDoorFs2
import Derived.Test.YtllikcpbfbnmoaaGreatDoorProg
import Derived.KernelRfl
set_option maxRecDepth 100000
set_option maxHeartbeats 0
namespace Go.Proofs.YtllikcpbfbnmoaaGreatDoor.Ev
open GoEv
abbrev OK4 (f : Nat) (F : Sm → List V → H → A) : Prop := FOK Tryz.prog X (theD Tryz.prog X) f F
theorem ok5 : OK4 5 F5 := ⟨Tryz.f5, Tryz.f5.body.getD .skip, hn5, na5, Tryz.func5, by kernel_rfl, by kernel_rfl⟩
theorem ok12 : OK4 12 F12 := ⟨Tryz.f12, Tryz.f12.body.getD .skip, hn12, na12, Tryz.func12, by kernel_rfl, by kernel_rfl⟩
theorem ok14 : OK4 14 F14 := ⟨Tryz.f14, Tryz.f14.body.getD .skip, hn14, na14, Tryz.func14, by kernel_rfl, by kernel_rfl⟩
theorem ok26 : OK4 26 F26 := ⟨Tryz.f26, Tryz.f26.body.getD .skip, hn26, na26, Tryz.func26, by kernel_rfl, by kernel_rfl⟩
theorem ok27 : OK4 27 F27 := ⟨Tryz.f27, Tryz.f27.body.getD .skip, hn27, na27, Tryz.func27, by kernel_rfl, by kernel_rfl⟩
theorem ok32 : OK4 32 F32 := ⟨Tryz.f32, Tryz.f32.body.getD .skip, hn32, na32, Tryz.func32, by kernel_rfl, by kernel_rfl⟩
theorem ok39 : OK4 39 F39 := ⟨Tryz.f39, Tryz.f39.body.getD .skip, hn39, na39, Tryz.func39, by kernel_rfl, by kernel_rfl⟩
theorem ok41 : OK4 41 F41 := ⟨Tryz.f41, Tryz.f41.body.getD .skip, hn41, na41, Tryz.func41, by kernel_rfl, by kernel_rfl⟩
theorem ok45 : OK4 45 F45 := ⟨Tryz.f45, Tryz.f45.body.getD .skip, hn45, na45, Tryz.func45, by kernel_rfl, by kernel_rfl⟩
theorem ok48 : OK4 48 F48 := ⟨Tryz.f48, Tryz.f48.body.getD .skip, hn48, na48, Tryz.func48, by kernel_rfl, by kernel_rfl⟩
theorem ok49 : OK4 49 F49 := ⟨Tryz.f49, Tryz.f49.body.getD .skip, hn49, na49, Tryz.func49, by kernel_rfl, by kernel_rfl⟩
theorem ok53 : OK4 53 F53 := ⟨Tryz.f53, Tryz.f53.body.getD .skip, hn53, na53, Tryz.func53, by kernel_rfl, by kernel_rfl⟩
theorem ok56 : OK4 56 F56 := ⟨Tryz.f56, Tryz.f56.body.getD .skip, hn56, na56, Tryz.func56, by kernel_rfl, by kernel_rfl⟩
theorem ok59 : OK4 59 F59 := ⟨Tryz.f59, Tryz.f59.body.getD .skip, hn59, na59, Tryz.func59, by kernel_rfl, by kernel_rfl⟩
theorem ok63 : OK4 63 F63 := ⟨Tryz.f63, Tryz.f63.body.getD .skip, hn63, na63, Tryz.func63, by kernel_rfl, by kernel_rfl⟩
theorem ok67 : OK4 67 F67 := ⟨Tryz.f67, Tryz.f67.body.getD .skip, hn67, na67, Tryz.func67, by kernel_rfl, by kernel_rfl⟩
theorem ok71 : OK4 71 F71 := ⟨Tryz.f71, Tryz.f71.body.getD .skip, hn71, na71, Tryz.func71, by kernel_rfl, by kernel_rfl⟩
theorem ok77 : OK4 77 F77 := ⟨Tryz.f77, Tryz.f77.body.getD .skip, hn77, na77, Tryz.func77, by kernel_rfl, by kernel_rfl⟩
theorem ok78 : OK4 78 F78 := ⟨Tryz.f78, Tryz.f78.body.getD .skip, hn78, na78, Tryz.func78, by kernel_rfl, by kernel_rfl⟩
theorem ok82 : OK4 82 F82 := ⟨Tryz.f82, Tryz.f82.body.getD .skip, hn82, na82, Tryz.func82, by kernel_rfl, by kernel_rfl⟩
theorem ok83 : OK4 83 F83 := ⟨Tryz.f83, Tryz.f83.body.getD .skip, hn83, na83, Tryz.func83, by kernel_rfl, by kernel_rfl⟩
theorem ok85 : OK4 85 F85 := ⟨Tryz.f85, Tryz.f85.body.getD .skip, hn85, na85, Tryz.func85, by kernel_rfl, by kernel_rfl⟩
theorem ok91 : OK4 91 F91 := ⟨Tryz.f91, Tryz.f91.body.getD .skip, hn91, na91, Tryz.func91, by kernel_rfl, by kernel_rfl⟩
theorem ok93 : OK4 93 F93 := ⟨Tryz.f93, Tryz.f93.body.getD .skip, hn93, na93, Tryz.func93, by kernel_rfl, by kernel_rfl⟩
theorem ok95 : OK4 95 F95 := ⟨Tryz.f95, Tryz.f95.body.getD .skip, hn95, na95, Tryz.func95, by kernel_rfl, by kernel_rfl⟩
theorem ok102 : OK4 102 F102 := ⟨Tryz.f102, Tryz.f102.body.getD .skip, hn102, na102, Tryz.func102, by kernel_rfl, by kernel_rfl⟩
theorem ok132 : OK4 132 F132 := ⟨Tryz.f132, Tryz.f132.body.getD .skip, hn132, na132, Tryz.func132, by kernel_rfl, by kernel_rfl⟩
theorem ok136 : OK4 136 F136 := ⟨Tryz.f136, Tryz.f136.body.getD .skip, hn136, na136, Tryz.func136, by kernel_rfl, by kernel_rfl⟩
theorem ok137 : OK4 137 F137 := ⟨Tryz.f137, Tryz.f137.body.getD .skip, hn137, na137, Tryz.func137, by kernel_rfl, by kernel_rfl⟩
theorem ok140 : OK4 140 F140 := ⟨Tryz.f140, Tryz.f140.body.getD .skip, hn140, na140, Tryz.func140, by kernel_rfl, by kernel_rfl⟩
theorem ok143 : OK4 143 F143 := ⟨Tryz.f143, Tryz.f143.body.getD .skip, hn143, na143, Tryz.func143, by kernel_rfl, by kernel_rfl⟩
theorem ok151 : OK4 151 F151 := ⟨Tryz.f151, Tryz.f151.body.getD .skip, hn151, na151, Tryz.func151, by kernel_rfl, by kernel_rfl⟩
theorem ok153 : OK4 153 F153 := ⟨Tryz.f153, Tryz.f153.body.getD .skip, hn153, na153, Tryz.func153, by kernel_rfl, by kernel_rfl⟩
theorem ok181 : OK4 181 F181 := ⟨Tryz.f181, Tryz.f181.body.getD .skip, hn181, na181, Tryz.func181, by kernel_rfl, by kernel_rfl⟩
theorem ok203 : OK4 203 F203 := ⟨Tryz.f203, Tryz.f203.body.getD .skip, hn203, na203, Tryz.func203, by kernel_rfl, by kernel_rfl⟩
theorem ok213 : OK4 213 F213 := ⟨Tryz.f213, Tryz.f213.body.getD .skip, hn213, na213, Tryz.func213, by kernel_rfl, by kernel_rfl⟩
theorem ok231 : OK4 231 F231 := ⟨Tryz.f231, Tryz.f231.body.getD .skip, hn231, na231, Tryz.func231, by kernel_rfl, by kernel_rfl⟩
theorem ok238 : OK4 238 F238 := ⟨Tryz.f238, Tryz.f238.body.getD .skip, hn238, na238, Tryz.func238, by kernel_rfl, by kernel_rfl⟩
theorem ok239 : OK4 239 F239 := ⟨Tryz.f239, Tryz.f239.body.getD .skip, hn239, na239, Tryz.func239, by kernel_rfl, by kernel_rfl⟩
theorem ok253 : OK4 253 F253 := ⟨Tryz.f253, Tryz.f253.body.getD .skip, hn253, na253, Tryz.func253, by kernel_rfl, by kernel_rfl⟩
theorem ok260 : OK4 260 F260 := ⟨Tryz.f260, Tryz.f260.body.getD .skip, hn260, na260, Tryz.func260, by kernel_rfl, by kernel_rfl⟩
theorem ok272 : OK4 272 F272 := ⟨Tryz.f272, Tryz.f272.body.getD .skip, hn272, na272, Tryz.func272, by kernel_rfl, by kernel_rfl⟩
theorem ok299 : OK4 299 F299 := ⟨Tryz.f299, Tryz.f299.body.getD .skip, hn299, na299, Tryz.func299, by kernel_rfl, by kernel_rfl⟩
theorem ok305 : OK4 305 F305 := ⟨Tryz.f305, Tryz.f305.body.getD .skip, hn305, na305, Tryz.func305, by kernel_rfl, by kernel_rfl⟩
theorem ok319 : OK4 319 F319 := ⟨Tryz.f319, Tryz.f319.body.getD .skip, hn319, na319, Tryz.func319, by kernel_rfl, by kernel_rfl⟩
theorem ok320 : OK4 320 F320 := ⟨Tryz.f320, Tryz.f320.body.getD .skip, hn320, na320, Tryz.func320, by kernel_rfl, by kernel_rfl⟩
theorem ok325 : OK4 325 F325 := ⟨Tryz.f325, Tryz.f325.body.getD .skip, hn325, na325, Tryz.func325, by kernel_rfl, by kernel_rfl⟩
theorem ok327 : OK4 327 F327 := ⟨Tryz.f327, Tryz.f327.body.getD .skip, hn327, na327, Tryz.func327, by kernel_rfl, by kernel_rfl⟩
theorem ok341 : OK4 341 F341 := ⟨Tryz.f341, Tryz.f341.body.getD .skip, hn341, na341, Tryz.func341, by kernel_rfl, by kernel_rfl⟩
theorem ok345 : OK4 345 F345 := ⟨Tryz.f345, Tryz.f345.body.getD .skip, hn345, na345, Tryz.func345, by kernel_rfl, by kernel_rfl⟩
theorem ok353 : OK4 353 F353 := ⟨Tryz.f353, Tryz.f353.body.getD .skip, hn353, na353, Tryz.func353, by kernel_rfl, by kernel_rfl⟩
theorem ok359 : OK4 359 F359 := ⟨Tryz.f359, Tryz.f359.body.getD .skip, hn359, na359, Tryz.func359, by kernel_rfl, by kernel_rfl⟩
theorem ok375 : OK4 375 F375 := ⟨Tryz.f375, Tryz.f375.body.getD .skip, hn375, na375, Tryz.func375, by kernel_rfl, by kernel_rfl⟩
theorem ok383 : OK4 383 F383 := ⟨Tryz.f383, Tryz.f383.body.getD .skip, hn383, na383, Tryz.func383, by kernel_rfl, by kernel_rfl⟩
theorem ok394 : OK4 394 F394 := ⟨Tryz.f394, Tryz.f394.body.getD .skip, hn394, na394, Tryz.func394, by kernel_rfl, by kernel_rfl⟩
theorem ok405 : OK4 405 F405 := ⟨Tryz.f405, Tryz.f405.body.getD .skip, hn405, na405, Tryz.func405, by kernel_rfl, by kernel_rfl⟩
theorem ok420 : OK4 420 F420 := ⟨Tryz.f420, Tryz.f420.body.getD .skip, hn420, na420, Tryz.func420, by kernel_rfl, by kernel_rfl⟩
theorem ok425 : OK4 425 F425 := ⟨Tryz.f425, Tryz.f425.body.getD .skip, hn425, na425, Tryz.func425, by kernel_rfl, by kernel_rfl⟩
theorem ok433 : OK4 433 F433 := ⟨Tryz.f433, Tryz.f433.body.getD .skip, hn433, na433, Tryz.func433, by kernel_rfl, by kernel_rfl⟩
theorem ok434 : OK4 434 F434 := ⟨Tryz.f434, Tryz.f434.body.getD .skip, hn434, na434, Tryz.func434, by kernel_rfl, by kernel_rfl⟩
theorem ok439 : OK4 439 F439 := ⟨Tryz.f439, Tryz.f439.body.getD .skip, hn439, na439, Tryz.func439, by kernel_rfl, by kernel_rfl⟩
theorem ok445 : OK4 445 F445 := ⟨Tryz.f445, Tryz.f445.body.getD .skip, hn445, na445, Tryz.func445, by kernel_rfl, by kernel_rfl⟩
theorem ok450 : OK4 450 F450 := ⟨Tryz.f450, Tryz.f450.body.getD .skip, hn450, na450, Tryz.func450, by kernel_rfl, by kernel_rfl⟩
theorem ok466 : OK4 466 F466 := ⟨Tryz.f466, Tryz.f466.body.getD .skip, hn466, na466, Tryz.func466, by kernel_rfl, by kernel_rfl⟩
theorem ok467 : OK4 467 F467 := ⟨Tryz.f467, Tryz.f467.body.getD .skip, hn467, na467, Tryz.func467, by kernel_rfl, by kernel_rfl⟩
theorem ok486 : OK4 486 F486 := ⟨Tryz.f486, Tryz.f486.body.getD .skip, hn486, na486, Tryz.func486, by kernel_rfl, by kernel_rfl⟩
theorem ok489 : OK4 489 F489 := ⟨Tryz.f489, Tryz.f489.body.getD .skip, hn489, na489, Tryz.func489, by kernel_rfl, by kernel_rfl⟩
theorem ok505 : OK4 505 F505 := ⟨Tryz.f505, Tryz.f505.body.getD .skip, hn505, na505, Tryz.func505, by kernel_rfl, by kernel_rfl⟩
theorem ok547 : OK4 547 F547 := ⟨Tryz.f547, Tryz.f547.body.getD .skip, hn547, na547, Tryz.func547, by kernel_rfl, by kernel_rfl⟩
theorem ok581 : OK4 581 F581 := ⟨Tryz.f581, Tryz.f581.body.getD .skip, hn581, na581, Tryz.func581, by kernel_rfl, by kernel_rfl⟩
theorem ok584 : OK4 584 F584 := ⟨Tryz.f584, Tryz.f584.body.getD .skip, hn584, na584, Tryz.func584, by kernel_rfl, by kernel_rfl⟩
theorem ok588 : OK4 588 F588 := ⟨Tryz.f588, Tryz.f588.body.getD .skip, hn588, na588, Tryz.func588, by kernel_rfl, by kernel_rfl⟩
end Go.Proofs.YtllikcpbfbnmoaaGreatDoor.Ev
