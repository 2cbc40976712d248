/- Printed functions are what the program's functions come to, part 3. -/
import Derived.Test.YtdgaheekfeomoaaGreatDoorFs0
import Derived.Test.YtdgaheekfeomoaaGreatDoorFs1
import Derived.Test.YtdgaheekfeomoaaGreatDoorFs2
import Derived.Test.YtdgaheekfeomoaaGreatDoorFs3
import Derived.Test.YtdgaheekfeomoaaGreatDoorProg
import Derived.KernelRfl
set_option maxRecDepth 100000
namespace Go.Proofs.YtdgaheekfeomoaaGreatDoor.Ev
open GoEv
abbrev OK2 (f : Nat) (F : Sm → List V → H → A) : Prop := FOK Tryz.prog X (theD Tryz.prog X) f F
theorem ok3 : OK2 3 F3 := ⟨Tryz.f3, Tryz.f3.body.getD .skip, hn3, na3, Tryz.func3, by kernel_rfl, by kernel_rfl⟩
theorem ok7 : OK2 7 F7 := ⟨Tryz.f7, Tryz.f7.body.getD .skip, hn7, na7, Tryz.func7, by kernel_rfl, by kernel_rfl⟩
theorem ok8 : OK2 8 F8 := ⟨Tryz.f8, Tryz.f8.body.getD .skip, hn8, na8, Tryz.func8, by kernel_rfl, by kernel_rfl⟩
theorem ok12 : OK2 12 F12 := ⟨Tryz.f12, Tryz.f12.body.getD .skip, hn12, na12, Tryz.func12, by kernel_rfl, by kernel_rfl⟩
theorem ok16 : OK2 16 F16 := ⟨Tryz.f16, Tryz.f16.body.getD .skip, hn16, na16, Tryz.func16, by kernel_rfl, by kernel_rfl⟩
theorem ok20 : OK2 20 F20 := ⟨Tryz.f20, Tryz.f20.body.getD .skip, hn20, na20, Tryz.func20, by kernel_rfl, by kernel_rfl⟩
theorem ok24 : OK2 24 F24 := ⟨Tryz.f24, Tryz.f24.body.getD .skip, hn24, na24, Tryz.func24, by kernel_rfl, by kernel_rfl⟩
theorem ok28 : OK2 28 F28 := ⟨Tryz.f28, Tryz.f28.body.getD .skip, hn28, na28, Tryz.func28, by kernel_rfl, by kernel_rfl⟩
theorem ok32 : OK2 32 F32 := ⟨Tryz.f32, Tryz.f32.body.getD .skip, hn32, na32, Tryz.func32, by kernel_rfl, by kernel_rfl⟩
theorem ok37 : OK2 37 F37 := ⟨Tryz.f37, Tryz.f37.body.getD .skip, hn37, na37, Tryz.func37, by kernel_rfl, by kernel_rfl⟩
theorem ok41 : OK2 41 F41 := ⟨Tryz.f41, Tryz.f41.body.getD .skip, hn41, na41, Tryz.func41, by kernel_rfl, by kernel_rfl⟩
theorem ok45 : OK2 45 F45 := ⟨Tryz.f45, Tryz.f45.body.getD .skip, hn45, na45, Tryz.func45, by kernel_rfl, by kernel_rfl⟩
theorem ok49 : OK2 49 F49 := ⟨Tryz.f49, Tryz.f49.body.getD .skip, hn49, na49, Tryz.func49, by kernel_rfl, by kernel_rfl⟩
theorem ok54 : OK2 54 F54 := ⟨Tryz.f54, Tryz.f54.body.getD .skip, hn54, na54, Tryz.func54, by kernel_rfl, by kernel_rfl⟩
theorem ok58 : OK2 58 F58 := ⟨Tryz.f58, Tryz.f58.body.getD .skip, hn58, na58, Tryz.func58, by kernel_rfl, by kernel_rfl⟩
theorem ok62 : OK2 62 F62 := ⟨Tryz.f62, Tryz.f62.body.getD .skip, hn62, na62, Tryz.func62, by kernel_rfl, by kernel_rfl⟩
theorem ok66 : OK2 66 F66 := ⟨Tryz.f66, Tryz.f66.body.getD .skip, hn66, na66, Tryz.func66, by kernel_rfl, by kernel_rfl⟩
theorem ok70 : OK2 70 F70 := ⟨Tryz.f70, Tryz.f70.body.getD .skip, hn70, na70, Tryz.func70, by kernel_rfl, by kernel_rfl⟩
theorem ok74 : OK2 74 F74 := ⟨Tryz.f74, Tryz.f74.body.getD .skip, hn74, na74, Tryz.func74, by kernel_rfl, by kernel_rfl⟩
theorem ok79 : OK2 79 F79 := ⟨Tryz.f79, Tryz.f79.body.getD .skip, hn79, na79, Tryz.func79, by kernel_rfl, by kernel_rfl⟩
theorem ok83 : OK2 83 F83 := ⟨Tryz.f83, Tryz.f83.body.getD .skip, hn83, na83, Tryz.func83, by kernel_rfl, by kernel_rfl⟩
theorem ok92 : OK2 92 F92 := ⟨Tryz.f92, Tryz.f92.body.getD .skip, hn92, na92, Tryz.func92, by kernel_rfl, by kernel_rfl⟩
theorem ok98 : OK2 98 F98 := ⟨Tryz.f98, Tryz.f98.body.getD .skip, hn98, na98, Tryz.func98, by kernel_rfl, by kernel_rfl⟩
theorem ok103 : OK2 103 F103 := ⟨Tryz.f103, Tryz.f103.body.getD .skip, hn103, na103, Tryz.func103, by kernel_rfl, by kernel_rfl⟩
theorem ok107 : OK2 107 F107 := ⟨Tryz.f107, Tryz.f107.body.getD .skip, hn107, na107, Tryz.func107, by kernel_rfl, by kernel_rfl⟩
theorem ok111 : OK2 111 F111 := ⟨Tryz.f111, Tryz.f111.body.getD .skip, hn111, na111, Tryz.func111, by kernel_rfl, by kernel_rfl⟩
theorem ok115 : OK2 115 F115 := ⟨Tryz.f115, Tryz.f115.body.getD .skip, hn115, na115, Tryz.func115, by kernel_rfl, by kernel_rfl⟩
theorem ok119 : OK2 119 F119 := ⟨Tryz.f119, Tryz.f119.body.getD .skip, hn119, na119, Tryz.func119, by kernel_rfl, by kernel_rfl⟩
theorem ok126 : OK2 126 F126 := ⟨Tryz.f126, Tryz.f126.body.getD .skip, hn126, na126, Tryz.func126, by kernel_rfl, by kernel_rfl⟩
theorem ok135 : OK2 135 F135 := ⟨Tryz.f135, Tryz.f135.body.getD .skip, hn135, na135, Tryz.func135, by kernel_rfl, by kernel_rfl⟩
theorem ok141 : OK2 141 F141 := ⟨Tryz.f141, Tryz.f141.body.getD .skip, hn141, na141, Tryz.func141, by kernel_rfl, by kernel_rfl⟩
theorem ok145 : OK2 145 F145 := ⟨Tryz.f145, Tryz.f145.body.getD .skip, hn145, na145, Tryz.func145, by kernel_rfl, by kernel_rfl⟩
theorem ok151 : OK2 151 F151 := ⟨Tryz.f151, Tryz.f151.body.getD .skip, hn151, na151, Tryz.func151, by kernel_rfl, by kernel_rfl⟩
theorem ok157 : OK2 157 F157 := ⟨Tryz.f157, Tryz.f157.body.getD .skip, hn157, na157, Tryz.func157, by kernel_rfl, by kernel_rfl⟩
theorem ok161 : OK2 161 F161 := ⟨Tryz.f161, Tryz.f161.body.getD .skip, hn161, na161, Tryz.func161, by kernel_rfl, by kernel_rfl⟩
theorem ok170 : OK2 170 F170 := ⟨Tryz.f170, Tryz.f170.body.getD .skip, hn170, na170, Tryz.func170, by kernel_rfl, by kernel_rfl⟩
theorem ok174 : OK2 174 F174 := ⟨Tryz.f174, Tryz.f174.body.getD .skip, hn174, na174, Tryz.func174, by kernel_rfl, by kernel_rfl⟩
theorem ok178 : OK2 178 F178 := ⟨Tryz.f178, Tryz.f178.body.getD .skip, hn178, na178, Tryz.func178, by kernel_rfl, by kernel_rfl⟩
theorem ok184 : OK2 184 F184 := ⟨Tryz.f184, Tryz.f184.body.getD .skip, hn184, na184, Tryz.func184, by kernel_rfl, by kernel_rfl⟩
theorem ok190 : OK2 190 F190 := ⟨Tryz.f190, Tryz.f190.body.getD .skip, hn190, na190, Tryz.func190, by kernel_rfl, by kernel_rfl⟩
theorem ok194 : OK2 194 F194 := ⟨Tryz.f194, Tryz.f194.body.getD .skip, hn194, na194, Tryz.func194, by kernel_rfl, by kernel_rfl⟩
theorem ok198 : OK2 198 F198 := ⟨Tryz.f198, Tryz.f198.body.getD .skip, hn198, na198, Tryz.func198, by kernel_rfl, by kernel_rfl⟩
theorem ok202 : OK2 202 F202 := ⟨Tryz.f202, Tryz.f202.body.getD .skip, hn202, na202, Tryz.func202, by kernel_rfl, by kernel_rfl⟩
theorem ok210 : OK2 210 F210 := ⟨Tryz.f210, Tryz.f210.body.getD .skip, hn210, na210, Tryz.func210, by kernel_rfl, by kernel_rfl⟩
theorem ok218 : OK2 218 F218 := ⟨Tryz.f218, Tryz.f218.body.getD .skip, hn218, na218, Tryz.func218, by kernel_rfl, by kernel_rfl⟩
theorem ok235 : OK2 235 F235 := ⟨Tryz.f235, Tryz.f235.body.getD .skip, hn235, na235, Tryz.func235, by kernel_rfl, by kernel_rfl⟩
theorem ok241 : OK2 241 F241 := ⟨Tryz.f241, Tryz.f241.body.getD .skip, hn241, na241, Tryz.func241, by kernel_rfl, by kernel_rfl⟩
theorem ok258 : OK2 258 F258 := ⟨Tryz.f258, Tryz.f258.body.getD .skip, hn258, na258, Tryz.func258, by kernel_rfl, by kernel_rfl⟩
theorem ok270 : OK2 270 F270 := ⟨Tryz.f270, Tryz.f270.body.getD .skip, hn270, na270, Tryz.func270, by kernel_rfl, by kernel_rfl⟩
theorem ok275 : OK2 275 F275 := ⟨Tryz.f275, Tryz.f275.body.getD .skip, hn275, na275, Tryz.func275, by kernel_rfl, by kernel_rfl⟩
theorem ok279 : OK2 279 F279 := ⟨Tryz.f279, Tryz.f279.body.getD .skip, hn279, na279, Tryz.func279, by kernel_rfl, by kernel_rfl⟩
theorem ok283 : OK2 283 F283 := ⟨Tryz.f283, Tryz.f283.body.getD .skip, hn283, na283, Tryz.func283, by kernel_rfl, by kernel_rfl⟩
theorem ok292 : OK2 292 F292 := ⟨Tryz.f292, Tryz.f292.body.getD .skip, hn292, na292, Tryz.func292, by kernel_rfl, by kernel_rfl⟩
theorem ok297 : OK2 297 F297 := ⟨Tryz.f297, Tryz.f297.body.getD .skip, hn297, na297, Tryz.func297, by kernel_rfl, by kernel_rfl⟩
theorem ok302 : OK2 302 F302 := ⟨Tryz.f302, Tryz.f302.body.getD .skip, hn302, na302, Tryz.func302, by kernel_rfl, by kernel_rfl⟩
theorem ok305 : OK2 305 F305 := ⟨Tryz.f305, Tryz.f305.body.getD .skip, hn305, na305, Tryz.func305, by kernel_rfl, by kernel_rfl⟩
theorem ok307 : OK2 307 F307 := ⟨Tryz.f307, Tryz.f307.body.getD .skip, hn307, na307, Tryz.func307, by kernel_rfl, by kernel_rfl⟩
theorem ok311 : OK2 311 F311 := ⟨Tryz.f311, Tryz.f311.body.getD .skip, hn311, na311, Tryz.func311, by kernel_rfl, by kernel_rfl⟩
theorem ok317 : OK2 317 F317 := ⟨Tryz.f317, Tryz.f317.body.getD .skip, hn317, na317, Tryz.func317, by kernel_rfl, by kernel_rfl⟩
theorem ok326 : OK2 326 F326 := ⟨Tryz.f326, Tryz.f326.body.getD .skip, hn326, na326, Tryz.func326, by kernel_rfl, by kernel_rfl⟩
theorem ok370 : OK2 370 F370 := ⟨Tryz.f370, Tryz.f370.body.getD .skip, hn370, na370, Tryz.func370, by kernel_rfl, by kernel_rfl⟩
theorem ok374 : OK2 374 F374 := ⟨Tryz.f374, Tryz.f374.body.getD .skip, hn374, na374, Tryz.func374, by kernel_rfl, by kernel_rfl⟩
theorem ok381 : OK2 381 F381 := ⟨Tryz.f381, Tryz.f381.body.getD .skip, hn381, na381, Tryz.func381, by kernel_rfl, by kernel_rfl⟩
theorem ok387 : OK2 387 F387 := ⟨Tryz.f387, Tryz.f387.body.getD .skip, hn387, na387, Tryz.func387, by kernel_rfl, by kernel_rfl⟩
theorem ok391 : OK2 391 F391 := ⟨Tryz.f391, Tryz.f391.body.getD .skip, hn391, na391, Tryz.func391, by kernel_rfl, by kernel_rfl⟩
theorem ok397 : OK2 397 F397 := ⟨Tryz.f397, Tryz.f397.body.getD .skip, hn397, na397, Tryz.func397, by kernel_rfl, by kernel_rfl⟩
theorem ok402 : OK2 402 F402 := ⟨Tryz.f402, Tryz.f402.body.getD .skip, hn402, na402, Tryz.func402, by kernel_rfl, by kernel_rfl⟩
theorem ok407 : OK2 407 F407 := ⟨Tryz.f407, Tryz.f407.body.getD .skip, hn407, na407, Tryz.func407, by kernel_rfl, by kernel_rfl⟩
theorem ok424 : OK2 424 F424 := ⟨Tryz.f424, Tryz.f424.body.getD .skip, hn424, na424, Tryz.func424, by kernel_rfl, by kernel_rfl⟩
theorem ok443 : OK2 443 F443 := ⟨Tryz.f443, Tryz.f443.body.getD .skip, hn443, na443, Tryz.func443, by kernel_rfl, by kernel_rfl⟩
theorem ok454 : OK2 454 F454 := ⟨Tryz.f454, Tryz.f454.body.getD .skip, hn454, na454, Tryz.func454, by kernel_rfl, by kernel_rfl⟩
theorem ok459 : OK2 459 F459 := ⟨Tryz.f459, Tryz.f459.body.getD .skip, hn459, na459, Tryz.func459, by kernel_rfl, by kernel_rfl⟩
theorem ok466 : OK2 466 F466 := ⟨Tryz.f466, Tryz.f466.body.getD .skip, hn466, na466, Tryz.func466, by kernel_rfl, by kernel_rfl⟩
theorem ok470 : OK2 470 F470 := ⟨Tryz.f470, Tryz.f470.body.getD .skip, hn470, na470, Tryz.func470, by kernel_rfl, by kernel_rfl⟩
theorem ok501 : OK2 501 F501 := ⟨Tryz.f501, Tryz.f501.body.getD .skip, hn501, na501, Tryz.func501, by kernel_rfl, by kernel_rfl⟩
theorem ok512 : OK2 512 F512 := ⟨Tryz.f512, Tryz.f512.body.getD .skip, hn512, na512, Tryz.func512, by kernel_rfl, by kernel_rfl⟩
theorem ok518 : OK2 518 F518 := ⟨Tryz.f518, Tryz.f518.body.getD .skip, hn518, na518, Tryz.func518, by kernel_rfl, by kernel_rfl⟩
end Go.Proofs.YtdgaheekfeomoaaGreatDoor.Ev
