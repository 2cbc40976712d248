/- Printed functions are what the program's functions come to, part 5. -/
import Derived.Test.YtdgaheekfeomoaaGreatDoorFs0
import Derived.Test.YtdgaheekfeomoaaGreatDoorFs1
import Derived.Test.YtdgaheekfeomoaaGreatDoorFs2
import Derived.Test.YtdgaheekfeomoaaGreatDoorFs3
import Derived.Test.YtdgaheekfeomoaaGreatDoorProg
import Derived.KernelRfl
set_option maxRecDepth 100000
namespace Go.Proofs.YtdgaheekfeomoaaGreatDoor.Ev
open GoEv
abbrev OK4 (f : Nat) (F : Sm → List V → H → A) : Prop := FOK Tryz.prog X (theD Tryz.prog X) f F
theorem ok5 : OK4 5 F5 := ⟨Tryz.f5, Tryz.f5.body.getD .skip, hn5, na5, Tryz.func5, by kernel_rfl, by kernel_rfl⟩
theorem ok10 : OK4 10 F10 := ⟨Tryz.f10, Tryz.f10.body.getD .skip, hn10, na10, Tryz.func10, by kernel_rfl, by kernel_rfl⟩
theorem ok14 : OK4 14 F14 := ⟨Tryz.f14, Tryz.f14.body.getD .skip, hn14, na14, Tryz.func14, by kernel_rfl, by kernel_rfl⟩
theorem ok18 : OK4 18 F18 := ⟨Tryz.f18, Tryz.f18.body.getD .skip, hn18, na18, Tryz.func18, by kernel_rfl, by kernel_rfl⟩
theorem ok22 : OK4 22 F22 := ⟨Tryz.f22, Tryz.f22.body.getD .skip, hn22, na22, Tryz.func22, by kernel_rfl, by kernel_rfl⟩
theorem ok26 : OK4 26 F26 := ⟨Tryz.f26, Tryz.f26.body.getD .skip, hn26, na26, Tryz.func26, by kernel_rfl, by kernel_rfl⟩
theorem ok30 : OK4 30 F30 := ⟨Tryz.f30, Tryz.f30.body.getD .skip, hn30, na30, Tryz.func30, by kernel_rfl, by kernel_rfl⟩
theorem ok35 : OK4 35 F35 := ⟨Tryz.f35, Tryz.f35.body.getD .skip, hn35, na35, Tryz.func35, by kernel_rfl, by kernel_rfl⟩
theorem ok39 : OK4 39 F39 := ⟨Tryz.f39, Tryz.f39.body.getD .skip, hn39, na39, Tryz.func39, by kernel_rfl, by kernel_rfl⟩
theorem ok43 : OK4 43 F43 := ⟨Tryz.f43, Tryz.f43.body.getD .skip, hn43, na43, Tryz.func43, by kernel_rfl, by kernel_rfl⟩
theorem ok47 : OK4 47 F47 := ⟨Tryz.f47, Tryz.f47.body.getD .skip, hn47, na47, Tryz.func47, by kernel_rfl, by kernel_rfl⟩
theorem ok52 : OK4 52 F52 := ⟨Tryz.f52, Tryz.f52.body.getD .skip, hn52, na52, Tryz.func52, by kernel_rfl, by kernel_rfl⟩
theorem ok56 : OK4 56 F56 := ⟨Tryz.f56, Tryz.f56.body.getD .skip, hn56, na56, Tryz.func56, by kernel_rfl, by kernel_rfl⟩
theorem ok60 : OK4 60 F60 := ⟨Tryz.f60, Tryz.f60.body.getD .skip, hn60, na60, Tryz.func60, by kernel_rfl, by kernel_rfl⟩
theorem ok64 : OK4 64 F64 := ⟨Tryz.f64, Tryz.f64.body.getD .skip, hn64, na64, Tryz.func64, by kernel_rfl, by kernel_rfl⟩
theorem ok68 : OK4 68 F68 := ⟨Tryz.f68, Tryz.f68.body.getD .skip, hn68, na68, Tryz.func68, by kernel_rfl, by kernel_rfl⟩
theorem ok72 : OK4 72 F72 := ⟨Tryz.f72, Tryz.f72.body.getD .skip, hn72, na72, Tryz.func72, by kernel_rfl, by kernel_rfl⟩
theorem ok76 : OK4 76 F76 := ⟨Tryz.f76, Tryz.f76.body.getD .skip, hn76, na76, Tryz.func76, by kernel_rfl, by kernel_rfl⟩
theorem ok81 : OK4 81 F81 := ⟨Tryz.f81, Tryz.f81.body.getD .skip, hn81, na81, Tryz.func81, by kernel_rfl, by kernel_rfl⟩
theorem ok90 : OK4 90 F90 := ⟨Tryz.f90, Tryz.f90.body.getD .skip, hn90, na90, Tryz.func90, by kernel_rfl, by kernel_rfl⟩
theorem ok94 : OK4 94 F94 := ⟨Tryz.f94, Tryz.f94.body.getD .skip, hn94, na94, Tryz.func94, by kernel_rfl, by kernel_rfl⟩
theorem ok101 : OK4 101 F101 := ⟨Tryz.f101, Tryz.f101.body.getD .skip, hn101, na101, Tryz.func101, by kernel_rfl, by kernel_rfl⟩
theorem ok105 : OK4 105 F105 := ⟨Tryz.f105, Tryz.f105.body.getD .skip, hn105, na105, Tryz.func105, by kernel_rfl, by kernel_rfl⟩
theorem ok109 : OK4 109 F109 := ⟨Tryz.f109, Tryz.f109.body.getD .skip, hn109, na109, Tryz.func109, by kernel_rfl, by kernel_rfl⟩
theorem ok113 : OK4 113 F113 := ⟨Tryz.f113, Tryz.f113.body.getD .skip, hn113, na113, Tryz.func113, by kernel_rfl, by kernel_rfl⟩
theorem ok117 : OK4 117 F117 := ⟨Tryz.f117, Tryz.f117.body.getD .skip, hn117, na117, Tryz.func117, by kernel_rfl, by kernel_rfl⟩
theorem ok121 : OK4 121 F121 := ⟨Tryz.f121, Tryz.f121.body.getD .skip, hn121, na121, Tryz.func121, by kernel_rfl, by kernel_rfl⟩
theorem ok130 : OK4 130 F130 := ⟨Tryz.f130, Tryz.f130.body.getD .skip, hn130, na130, Tryz.func130, by kernel_rfl, by kernel_rfl⟩
theorem ok134 : OK4 134 F134 := ⟨Tryz.f134, Tryz.f134.body.getD .skip, hn134, na134, Tryz.func134, by kernel_rfl, by kernel_rfl⟩
theorem ok138 : OK4 138 F138 := ⟨Tryz.f138, Tryz.f138.body.getD .skip, hn138, na138, Tryz.func138, by kernel_rfl, by kernel_rfl⟩
theorem ok143 : OK4 143 F143 := ⟨Tryz.f143, Tryz.f143.body.getD .skip, hn143, na143, Tryz.func143, by kernel_rfl, by kernel_rfl⟩
theorem ok149 : OK4 149 F149 := ⟨Tryz.f149, Tryz.f149.body.getD .skip, hn149, na149, Tryz.func149, by kernel_rfl, by kernel_rfl⟩
theorem ok154 : OK4 154 F154 := ⟨Tryz.f154, Tryz.f154.body.getD .skip, hn154, na154, Tryz.func154, by kernel_rfl, by kernel_rfl⟩
theorem ok159 : OK4 159 F159 := ⟨Tryz.f159, Tryz.f159.body.getD .skip, hn159, na159, Tryz.func159, by kernel_rfl, by kernel_rfl⟩
theorem ok168 : OK4 168 F168 := ⟨Tryz.f168, Tryz.f168.body.getD .skip, hn168, na168, Tryz.func168, by kernel_rfl, by kernel_rfl⟩
theorem ok172 : OK4 172 F172 := ⟨Tryz.f172, Tryz.f172.body.getD .skip, hn172, na172, Tryz.func172, by kernel_rfl, by kernel_rfl⟩
theorem ok176 : OK4 176 F176 := ⟨Tryz.f176, Tryz.f176.body.getD .skip, hn176, na176, Tryz.func176, by kernel_rfl, by kernel_rfl⟩
theorem ok180 : OK4 180 F180 := ⟨Tryz.f180, Tryz.f180.body.getD .skip, hn180, na180, Tryz.func180, by kernel_rfl, by kernel_rfl⟩
theorem ok186 : OK4 186 F186 := ⟨Tryz.f186, Tryz.f186.body.getD .skip, hn186, na186, Tryz.func186, by kernel_rfl, by kernel_rfl⟩
theorem ok192 : OK4 192 F192 := ⟨Tryz.f192, Tryz.f192.body.getD .skip, hn192, na192, Tryz.func192, by kernel_rfl, by kernel_rfl⟩
theorem ok196 : OK4 196 F196 := ⟨Tryz.f196, Tryz.f196.body.getD .skip, hn196, na196, Tryz.func196, by kernel_rfl, by kernel_rfl⟩
theorem ok200 : OK4 200 F200 := ⟨Tryz.f200, Tryz.f200.body.getD .skip, hn200, na200, Tryz.func200, by kernel_rfl, by kernel_rfl⟩
theorem ok204 : OK4 204 F204 := ⟨Tryz.f204, Tryz.f204.body.getD .skip, hn204, na204, Tryz.func204, by kernel_rfl, by kernel_rfl⟩
theorem ok213 : OK4 213 F213 := ⟨Tryz.f213, Tryz.f213.body.getD .skip, hn213, na213, Tryz.func213, by kernel_rfl, by kernel_rfl⟩
theorem ok223 : OK4 223 F223 := ⟨Tryz.f223, Tryz.f223.body.getD .skip, hn223, na223, Tryz.func223, by kernel_rfl, by kernel_rfl⟩
theorem ok238 : OK4 238 F238 := ⟨Tryz.f238, Tryz.f238.body.getD .skip, hn238, na238, Tryz.func238, by kernel_rfl, by kernel_rfl⟩
theorem ok256 : OK4 256 F256 := ⟨Tryz.f256, Tryz.f256.body.getD .skip, hn256, na256, Tryz.func256, by kernel_rfl, by kernel_rfl⟩
theorem ok268 : OK4 268 F268 := ⟨Tryz.f268, Tryz.f268.body.getD .skip, hn268, na268, Tryz.func268, by kernel_rfl, by kernel_rfl⟩
theorem ok273 : OK4 273 F273 := ⟨Tryz.f273, Tryz.f273.body.getD .skip, hn273, na273, Tryz.func273, by kernel_rfl, by kernel_rfl⟩
theorem ok277 : OK4 277 F277 := ⟨Tryz.f277, Tryz.f277.body.getD .skip, hn277, na277, Tryz.func277, by kernel_rfl, by kernel_rfl⟩
theorem ok281 : OK4 281 F281 := ⟨Tryz.f281, Tryz.f281.body.getD .skip, hn281, na281, Tryz.func281, by kernel_rfl, by kernel_rfl⟩
theorem ok285 : OK4 285 F285 := ⟨Tryz.f285, Tryz.f285.body.getD .skip, hn285, na285, Tryz.func285, by kernel_rfl, by kernel_rfl⟩
theorem ok295 : OK4 295 F295 := ⟨Tryz.f295, Tryz.f295.body.getD .skip, hn295, na295, Tryz.func295, by kernel_rfl, by kernel_rfl⟩
theorem ok299 : OK4 299 F299 := ⟨Tryz.f299, Tryz.f299.body.getD .skip, hn299, na299, Tryz.func299, by kernel_rfl, by kernel_rfl⟩
theorem ok304 : OK4 304 F304 := ⟨Tryz.f304, Tryz.f304.body.getD .skip, hn304, na304, Tryz.func304, by kernel_rfl, by kernel_rfl⟩
theorem ok309 : OK4 309 F309 := ⟨Tryz.f309, Tryz.f309.body.getD .skip, hn309, na309, Tryz.func309, by kernel_rfl, by kernel_rfl⟩
theorem ok313 : OK4 313 F313 := ⟨Tryz.f313, Tryz.f313.body.getD .skip, hn313, na313, Tryz.func313, by kernel_rfl, by kernel_rfl⟩
theorem ok319 : OK4 319 F319 := ⟨Tryz.f319, Tryz.f319.body.getD .skip, hn319, na319, Tryz.func319, by kernel_rfl, by kernel_rfl⟩
theorem ok368 : OK4 368 F368 := ⟨Tryz.f368, Tryz.f368.body.getD .skip, hn368, na368, Tryz.func368, by kernel_rfl, by kernel_rfl⟩
theorem ok372 : OK4 372 F372 := ⟨Tryz.f372, Tryz.f372.body.getD .skip, hn372, na372, Tryz.func372, by kernel_rfl, by kernel_rfl⟩
theorem ok376 : OK4 376 F376 := ⟨Tryz.f376, Tryz.f376.body.getD .skip, hn376, na376, Tryz.func376, by kernel_rfl, by kernel_rfl⟩
theorem ok385 : OK4 385 F385 := ⟨Tryz.f385, Tryz.f385.body.getD .skip, hn385, na385, Tryz.func385, by kernel_rfl, by kernel_rfl⟩
theorem ok389 : OK4 389 F389 := ⟨Tryz.f389, Tryz.f389.body.getD .skip, hn389, na389, Tryz.func389, by kernel_rfl, by kernel_rfl⟩
theorem ok395 : OK4 395 F395 := ⟨Tryz.f395, Tryz.f395.body.getD .skip, hn395, na395, Tryz.func395, by kernel_rfl, by kernel_rfl⟩
theorem ok399 : OK4 399 F399 := ⟨Tryz.f399, Tryz.f399.body.getD .skip, hn399, na399, Tryz.func399, by kernel_rfl, by kernel_rfl⟩
theorem ok404 : OK4 404 F404 := ⟨Tryz.f404, Tryz.f404.body.getD .skip, hn404, na404, Tryz.func404, by kernel_rfl, by kernel_rfl⟩
theorem ok415 : OK4 415 F415 := ⟨Tryz.f415, Tryz.f415.body.getD .skip, hn415, na415, Tryz.func415, by kernel_rfl, by kernel_rfl⟩
theorem ok439 : OK4 439 F439 := ⟨Tryz.f439, Tryz.f439.body.getD .skip, hn439, na439, Tryz.func439, by kernel_rfl, by kernel_rfl⟩
theorem ok451 : OK4 451 F451 := ⟨Tryz.f451, Tryz.f451.body.getD .skip, hn451, na451, Tryz.func451, by kernel_rfl, by kernel_rfl⟩
theorem ok457 : OK4 457 F457 := ⟨Tryz.f457, Tryz.f457.body.getD .skip, hn457, na457, Tryz.func457, by kernel_rfl, by kernel_rfl⟩
theorem ok463 : OK4 463 F463 := ⟨Tryz.f463, Tryz.f463.body.getD .skip, hn463, na463, Tryz.func463, by kernel_rfl, by kernel_rfl⟩
theorem ok468 : OK4 468 F468 := ⟨Tryz.f468, Tryz.f468.body.getD .skip, hn468, na468, Tryz.func468, by kernel_rfl, by kernel_rfl⟩
theorem ok480 : OK4 480 F480 := ⟨Tryz.f480, Tryz.f480.body.getD .skip, hn480, na480, Tryz.func480, by kernel_rfl, by kernel_rfl⟩
theorem ok510 : OK4 510 F510 := ⟨Tryz.f510, Tryz.f510.body.getD .skip, hn510, na510, Tryz.func510, by kernel_rfl, by kernel_rfl⟩
theorem ok516 : OK4 516 F516 := ⟨Tryz.f516, Tryz.f516.body.getD .skip, hn516, na516, Tryz.func516, by kernel_rfl, by kernel_rfl⟩
theorem ok536 : OK4 536 F536 := ⟨Tryz.f536, Tryz.f536.body.getD .skip, hn536, na536, Tryz.func536, by kernel_rfl, by kernel_rfl⟩
end Go.Proofs.YtdgaheekfeomoaaGreatDoor.Ev
