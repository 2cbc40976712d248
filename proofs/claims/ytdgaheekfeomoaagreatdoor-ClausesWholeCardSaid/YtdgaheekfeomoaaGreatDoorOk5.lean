/- Printed functions are what the program's functions come to, part 6. -/
import Derived.Test.YtdgaheekfeomoaaGreatDoorFs0
import Derived.Test.YtdgaheekfeomoaaGreatDoorFs1
import Derived.Test.YtdgaheekfeomoaaGreatDoorFs2
import Derived.Test.YtdgaheekfeomoaaGreatDoorFs3
import Derived.Test.YtdgaheekfeomoaaGreatDoorProg
import Derived.KernelRfl
set_option maxRecDepth 100000
namespace Go.Proofs.YtdgaheekfeomoaaGreatDoor.Ev
open GoEv
abbrev OK5 (f : Nat) (F : Sm → List V → H → A) : Prop := FOK Tryz.prog X (theD Tryz.prog X) f F
theorem ok6 : OK5 6 F6 := ⟨Tryz.f6, Tryz.f6.body.getD .skip, hn6, na6, Tryz.func6, by kernel_rfl, by kernel_rfl⟩
theorem ok11 : OK5 11 F11 := ⟨Tryz.f11, Tryz.f11.body.getD .skip, hn11, na11, Tryz.func11, by kernel_rfl, by kernel_rfl⟩
theorem ok15 : OK5 15 F15 := ⟨Tryz.f15, Tryz.f15.body.getD .skip, hn15, na15, Tryz.func15, by kernel_rfl, by kernel_rfl⟩
theorem ok19 : OK5 19 F19 := ⟨Tryz.f19, Tryz.f19.body.getD .skip, hn19, na19, Tryz.func19, by kernel_rfl, by kernel_rfl⟩
theorem ok23 : OK5 23 F23 := ⟨Tryz.f23, Tryz.f23.body.getD .skip, hn23, na23, Tryz.func23, by kernel_rfl, by kernel_rfl⟩
theorem ok27 : OK5 27 F27 := ⟨Tryz.f27, Tryz.f27.body.getD .skip, hn27, na27, Tryz.func27, by kernel_rfl, by kernel_rfl⟩
theorem ok31 : OK5 31 F31 := ⟨Tryz.f31, Tryz.f31.body.getD .skip, hn31, na31, Tryz.func31, by kernel_rfl, by kernel_rfl⟩
theorem ok36 : OK5 36 F36 := ⟨Tryz.f36, Tryz.f36.body.getD .skip, hn36, na36, Tryz.func36, by kernel_rfl, by kernel_rfl⟩
theorem ok40 : OK5 40 F40 := ⟨Tryz.f40, Tryz.f40.body.getD .skip, hn40, na40, Tryz.func40, by kernel_rfl, by kernel_rfl⟩
theorem ok44 : OK5 44 F44 := ⟨Tryz.f44, Tryz.f44.body.getD .skip, hn44, na44, Tryz.func44, by kernel_rfl, by kernel_rfl⟩
theorem ok48 : OK5 48 F48 := ⟨Tryz.f48, Tryz.f48.body.getD .skip, hn48, na48, Tryz.func48, by kernel_rfl, by kernel_rfl⟩
theorem ok53 : OK5 53 F53 := ⟨Tryz.f53, Tryz.f53.body.getD .skip, hn53, na53, Tryz.func53, by kernel_rfl, by kernel_rfl⟩
theorem ok57 : OK5 57 F57 := ⟨Tryz.f57, Tryz.f57.body.getD .skip, hn57, na57, Tryz.func57, by kernel_rfl, by kernel_rfl⟩
theorem ok61 : OK5 61 F61 := ⟨Tryz.f61, Tryz.f61.body.getD .skip, hn61, na61, Tryz.func61, by kernel_rfl, by kernel_rfl⟩
theorem ok65 : OK5 65 F65 := ⟨Tryz.f65, Tryz.f65.body.getD .skip, hn65, na65, Tryz.func65, by kernel_rfl, by kernel_rfl⟩
theorem ok69 : OK5 69 F69 := ⟨Tryz.f69, Tryz.f69.body.getD .skip, hn69, na69, Tryz.func69, by kernel_rfl, by kernel_rfl⟩
theorem ok73 : OK5 73 F73 := ⟨Tryz.f73, Tryz.f73.body.getD .skip, hn73, na73, Tryz.func73, by kernel_rfl, by kernel_rfl⟩
theorem ok77 : OK5 77 F77 := ⟨Tryz.f77, Tryz.f77.body.getD .skip, hn77, na77, Tryz.func77, by kernel_rfl, by kernel_rfl⟩
theorem ok82 : OK5 82 F82 := ⟨Tryz.f82, Tryz.f82.body.getD .skip, hn82, na82, Tryz.func82, by kernel_rfl, by kernel_rfl⟩
theorem ok91 : OK5 91 F91 := ⟨Tryz.f91, Tryz.f91.body.getD .skip, hn91, na91, Tryz.func91, by kernel_rfl, by kernel_rfl⟩
theorem ok95 : OK5 95 F95 := ⟨Tryz.f95, Tryz.f95.body.getD .skip, hn95, na95, Tryz.func95, by kernel_rfl, by kernel_rfl⟩
theorem ok102 : OK5 102 F102 := ⟨Tryz.f102, Tryz.f102.body.getD .skip, hn102, na102, Tryz.func102, by kernel_rfl, by kernel_rfl⟩
theorem ok106 : OK5 106 F106 := ⟨Tryz.f106, Tryz.f106.body.getD .skip, hn106, na106, Tryz.func106, by kernel_rfl, by kernel_rfl⟩
theorem ok110 : OK5 110 F110 := ⟨Tryz.f110, Tryz.f110.body.getD .skip, hn110, na110, Tryz.func110, by kernel_rfl, by kernel_rfl⟩
theorem ok114 : OK5 114 F114 := ⟨Tryz.f114, Tryz.f114.body.getD .skip, hn114, na114, Tryz.func114, by kernel_rfl, by kernel_rfl⟩
theorem ok118 : OK5 118 F118 := ⟨Tryz.f118, Tryz.f118.body.getD .skip, hn118, na118, Tryz.func118, by kernel_rfl, by kernel_rfl⟩
theorem ok122 : OK5 122 F122 := ⟨Tryz.f122, Tryz.f122.body.getD .skip, hn122, na122, Tryz.func122, by kernel_rfl, by kernel_rfl⟩
theorem ok133 : OK5 133 F133 := ⟨Tryz.f133, Tryz.f133.body.getD .skip, hn133, na133, Tryz.func133, by kernel_rfl, by kernel_rfl⟩
theorem ok139 : OK5 139 F139 := ⟨Tryz.f139, Tryz.f139.body.getD .skip, hn139, na139, Tryz.func139, by kernel_rfl, by kernel_rfl⟩
theorem ok144 : OK5 144 F144 := ⟨Tryz.f144, Tryz.f144.body.getD .skip, hn144, na144, Tryz.func144, by kernel_rfl, by kernel_rfl⟩
theorem ok150 : OK5 150 F150 := ⟨Tryz.f150, Tryz.f150.body.getD .skip, hn150, na150, Tryz.func150, by kernel_rfl, by kernel_rfl⟩
theorem ok156 : OK5 156 F156 := ⟨Tryz.f156, Tryz.f156.body.getD .skip, hn156, na156, Tryz.func156, by kernel_rfl, by kernel_rfl⟩
theorem ok160 : OK5 160 F160 := ⟨Tryz.f160, Tryz.f160.body.getD .skip, hn160, na160, Tryz.func160, by kernel_rfl, by kernel_rfl⟩
theorem ok169 : OK5 169 F169 := ⟨Tryz.f169, Tryz.f169.body.getD .skip, hn169, na169, Tryz.func169, by kernel_rfl, by kernel_rfl⟩
theorem ok173 : OK5 173 F173 := ⟨Tryz.f173, Tryz.f173.body.getD .skip, hn173, na173, Tryz.func173, by kernel_rfl, by kernel_rfl⟩
theorem ok177 : OK5 177 F177 := ⟨Tryz.f177, Tryz.f177.body.getD .skip, hn177, na177, Tryz.func177, by kernel_rfl, by kernel_rfl⟩
theorem ok183 : OK5 183 F183 := ⟨Tryz.f183, Tryz.f183.body.getD .skip, hn183, na183, Tryz.func183, by kernel_rfl, by kernel_rfl⟩
theorem ok187 : OK5 187 F187 := ⟨Tryz.f187, Tryz.f187.body.getD .skip, hn187, na187, Tryz.func187, by kernel_rfl, by kernel_rfl⟩
theorem ok193 : OK5 193 F193 := ⟨Tryz.f193, Tryz.f193.body.getD .skip, hn193, na193, Tryz.func193, by kernel_rfl, by kernel_rfl⟩
theorem ok197 : OK5 197 F197 := ⟨Tryz.f197, Tryz.f197.body.getD .skip, hn197, na197, Tryz.func197, by kernel_rfl, by kernel_rfl⟩
theorem ok201 : OK5 201 F201 := ⟨Tryz.f201, Tryz.f201.body.getD .skip, hn201, na201, Tryz.func201, by kernel_rfl, by kernel_rfl⟩
theorem ok205 : OK5 205 F205 := ⟨Tryz.f205, Tryz.f205.body.getD .skip, hn205, na205, Tryz.func205, by kernel_rfl, by kernel_rfl⟩
theorem ok217 : OK5 217 F217 := ⟨Tryz.f217, Tryz.f217.body.getD .skip, hn217, na217, Tryz.func217, by kernel_rfl, by kernel_rfl⟩
theorem ok225 : OK5 225 F225 := ⟨Tryz.f225, Tryz.f225.body.getD .skip, hn225, na225, Tryz.func225, by kernel_rfl, by kernel_rfl⟩
theorem ok239 : OK5 239 F239 := ⟨Tryz.f239, Tryz.f239.body.getD .skip, hn239, na239, Tryz.func239, by kernel_rfl, by kernel_rfl⟩
theorem ok257 : OK5 257 F257 := ⟨Tryz.f257, Tryz.f257.body.getD .skip, hn257, na257, Tryz.func257, by kernel_rfl, by kernel_rfl⟩
theorem ok260 : OK5 260 F260 := ⟨Tryz.f260, Tryz.f260.body.getD .skip, hn260, na260, Tryz.func260, by kernel_rfl, by kernel_rfl⟩
theorem ok269 : OK5 269 F269 := ⟨Tryz.f269, Tryz.f269.body.getD .skip, hn269, na269, Tryz.func269, by kernel_rfl, by kernel_rfl⟩
theorem ok274 : OK5 274 F274 := ⟨Tryz.f274, Tryz.f274.body.getD .skip, hn274, na274, Tryz.func274, by kernel_rfl, by kernel_rfl⟩
theorem ok278 : OK5 278 F278 := ⟨Tryz.f278, Tryz.f278.body.getD .skip, hn278, na278, Tryz.func278, by kernel_rfl, by kernel_rfl⟩
theorem ok282 : OK5 282 F282 := ⟨Tryz.f282, Tryz.f282.body.getD .skip, hn282, na282, Tryz.func282, by kernel_rfl, by kernel_rfl⟩
theorem ok286 : OK5 286 F286 := ⟨Tryz.f286, Tryz.f286.body.getD .skip, hn286, na286, Tryz.func286, by kernel_rfl, by kernel_rfl⟩
theorem ok296 : OK5 296 F296 := ⟨Tryz.f296, Tryz.f296.body.getD .skip, hn296, na296, Tryz.func296, by kernel_rfl, by kernel_rfl⟩
theorem ok300 : OK5 300 F300 := ⟨Tryz.f300, Tryz.f300.body.getD .skip, hn300, na300, Tryz.func300, by kernel_rfl, by kernel_rfl⟩
theorem ok306 : OK5 306 F306 := ⟨Tryz.f306, Tryz.f306.body.getD .skip, hn306, na306, Tryz.func306, by kernel_rfl, by kernel_rfl⟩
theorem ok310 : OK5 310 F310 := ⟨Tryz.f310, Tryz.f310.body.getD .skip, hn310, na310, Tryz.func310, by kernel_rfl, by kernel_rfl⟩
theorem ok314 : OK5 314 F314 := ⟨Tryz.f314, Tryz.f314.body.getD .skip, hn314, na314, Tryz.func314, by kernel_rfl, by kernel_rfl⟩
theorem ok324 : OK5 324 F324 := ⟨Tryz.f324, Tryz.f324.body.getD .skip, hn324, na324, Tryz.func324, by kernel_rfl, by kernel_rfl⟩
theorem ok369 : OK5 369 F369 := ⟨Tryz.f369, Tryz.f369.body.getD .skip, hn369, na369, Tryz.func369, by kernel_rfl, by kernel_rfl⟩
theorem ok373 : OK5 373 F373 := ⟨Tryz.f373, Tryz.f373.body.getD .skip, hn373, na373, Tryz.func373, by kernel_rfl, by kernel_rfl⟩
theorem ok379 : OK5 379 F379 := ⟨Tryz.f379, Tryz.f379.body.getD .skip, hn379, na379, Tryz.func379, by kernel_rfl, by kernel_rfl⟩
theorem ok386 : OK5 386 F386 := ⟨Tryz.f386, Tryz.f386.body.getD .skip, hn386, na386, Tryz.func386, by kernel_rfl, by kernel_rfl⟩
theorem ok390 : OK5 390 F390 := ⟨Tryz.f390, Tryz.f390.body.getD .skip, hn390, na390, Tryz.func390, by kernel_rfl, by kernel_rfl⟩
theorem ok396 : OK5 396 F396 := ⟨Tryz.f396, Tryz.f396.body.getD .skip, hn396, na396, Tryz.func396, by kernel_rfl, by kernel_rfl⟩
theorem ok400 : OK5 400 F400 := ⟨Tryz.f400, Tryz.f400.body.getD .skip, hn400, na400, Tryz.func400, by kernel_rfl, by kernel_rfl⟩
theorem ok405 : OK5 405 F405 := ⟨Tryz.f405, Tryz.f405.body.getD .skip, hn405, na405, Tryz.func405, by kernel_rfl, by kernel_rfl⟩
theorem ok423 : OK5 423 F423 := ⟨Tryz.f423, Tryz.f423.body.getD .skip, hn423, na423, Tryz.func423, by kernel_rfl, by kernel_rfl⟩
theorem ok442 : OK5 442 F442 := ⟨Tryz.f442, Tryz.f442.body.getD .skip, hn442, na442, Tryz.func442, by kernel_rfl, by kernel_rfl⟩
theorem ok452 : OK5 452 F452 := ⟨Tryz.f452, Tryz.f452.body.getD .skip, hn452, na452, Tryz.func452, by kernel_rfl, by kernel_rfl⟩
theorem ok458 : OK5 458 F458 := ⟨Tryz.f458, Tryz.f458.body.getD .skip, hn458, na458, Tryz.func458, by kernel_rfl, by kernel_rfl⟩
theorem ok464 : OK5 464 F464 := ⟨Tryz.f464, Tryz.f464.body.getD .skip, hn464, na464, Tryz.func464, by kernel_rfl, by kernel_rfl⟩
theorem ok469 : OK5 469 F469 := ⟨Tryz.f469, Tryz.f469.body.getD .skip, hn469, na469, Tryz.func469, by kernel_rfl, by kernel_rfl⟩
theorem ok489 : OK5 489 F489 := ⟨Tryz.f489, Tryz.f489.body.getD .skip, hn489, na489, Tryz.func489, by kernel_rfl, by kernel_rfl⟩
theorem ok511 : OK5 511 F511 := ⟨Tryz.f511, Tryz.f511.body.getD .skip, hn511, na511, Tryz.func511, by kernel_rfl, by kernel_rfl⟩
theorem ok517 : OK5 517 F517 := ⟨Tryz.f517, Tryz.f517.body.getD .skip, hn517, na517, Tryz.func517, by kernel_rfl, by kernel_rfl⟩
end Go.Proofs.YtdgaheekfeomoaaGreatDoor.Ev
