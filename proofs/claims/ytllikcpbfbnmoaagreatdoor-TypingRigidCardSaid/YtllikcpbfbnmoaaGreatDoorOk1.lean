/- Printed functions are what the program's functions come to, part 2. -/
import Derived.Test.YtllikcpbfbnmoaaGreatDoorFs0
import Derived.Test.YtllikcpbfbnmoaaGreatDoorFs1
import Derived.Test.YtllikcpbfbnmoaaGreatDoorFs2
import Derived.Test.YtllikcpbfbnmoaaGreatDoorProg
import Derived.KernelRfl
set_option maxRecDepth 100000
set_option maxHeartbeats 0
namespace Go.Proofs.YtllikcpbfbnmoaaGreatDoor.Ev
open GoEv
abbrev OK1 (f : Nat) (F : Sm → List V → H → A) : Prop := FOK Tryz.prog X (theD Tryz.prog X) f F
theorem ok3 : OK1 3 F3 := ⟨Tryz.f3, Tryz.f3.body.getD .skip, hn3, na3, Tryz.func3, by kernel_rfl, by kernel_rfl⟩
theorem ok6 : OK1 6 F6 := ⟨Tryz.f6, Tryz.f6.body.getD .skip, hn6, na6, Tryz.func6, by kernel_rfl, by kernel_rfl⟩
theorem ok8 : OK1 8 F8 := ⟨Tryz.f8, Tryz.f8.body.getD .skip, hn8, na8, Tryz.func8, by kernel_rfl, by kernel_rfl⟩
theorem ok28 : OK1 28 F28 := ⟨Tryz.f28, Tryz.f28.body.getD .skip, hn28, na28, Tryz.func28, by kernel_rfl, by kernel_rfl⟩
theorem ok40 : OK1 40 F40 := ⟨Tryz.f40, Tryz.f40.body.getD .skip, hn40, na40, Tryz.func40, by kernel_rfl, by kernel_rfl⟩
theorem ok46 : OK1 46 F46 := ⟨Tryz.f46, Tryz.f46.body.getD .skip, hn46, na46, Tryz.func46, by kernel_rfl, by kernel_rfl⟩
theorem ok54 : OK1 54 F54 := ⟨Tryz.f54, Tryz.f54.body.getD .skip, hn54, na54, Tryz.func54, by kernel_rfl, by kernel_rfl⟩
theorem ok88 : OK1 88 F88 := ⟨Tryz.f88, Tryz.f88.body.getD .skip, hn88, na88, Tryz.func88, by kernel_rfl, by kernel_rfl⟩
theorem ok89 : OK1 89 F89 := ⟨Tryz.f89, Tryz.f89.body.getD .skip, hn89, na89, Tryz.func89, by kernel_rfl, by kernel_rfl⟩
theorem ok111 : OK1 111 F111 := ⟨Tryz.f111, Tryz.f111.body.getD .skip, hn111, na111, Tryz.func111, by kernel_rfl, by kernel_rfl⟩
theorem ok113 : OK1 113 F113 := ⟨Tryz.f113, Tryz.f113.body.getD .skip, hn113, na113, Tryz.func113, by kernel_rfl, by kernel_rfl⟩
theorem ok119 : OK1 119 F119 := ⟨Tryz.f119, Tryz.f119.body.getD .skip, hn119, na119, Tryz.func119, by kernel_rfl, by kernel_rfl⟩
theorem ok141 : OK1 141 F141 := ⟨Tryz.f141, Tryz.f141.body.getD .skip, hn141, na141, Tryz.func141, by kernel_rfl, by kernel_rfl⟩
theorem ok152 : OK1 152 F152 := ⟨Tryz.f152, Tryz.f152.body.getD .skip, hn152, na152, Tryz.func152, by kernel_rfl, by kernel_rfl⟩
theorem ok159 : OK1 159 F159 := ⟨Tryz.f159, Tryz.f159.body.getD .skip, hn159, na159, Tryz.func159, by kernel_rfl, by kernel_rfl⟩
theorem ok162 : OK1 162 F162 := ⟨Tryz.f162, Tryz.f162.body.getD .skip, hn162, na162, Tryz.func162, by kernel_rfl, by kernel_rfl⟩
theorem ok170 : OK1 170 F170 := ⟨Tryz.f170, Tryz.f170.body.getD .skip, hn170, na170, Tryz.func170, by kernel_rfl, by kernel_rfl⟩
theorem ok177 : OK1 177 F177 := ⟨Tryz.f177, Tryz.f177.body.getD .skip, hn177, na177, Tryz.func177, by kernel_rfl, by kernel_rfl⟩
theorem ok180 : OK1 180 F180 := ⟨Tryz.f180, Tryz.f180.body.getD .skip, hn180, na180, Tryz.func180, by kernel_rfl, by kernel_rfl⟩
theorem ok182 : OK1 182 F182 := ⟨Tryz.f182, Tryz.f182.body.getD .skip, hn182, na182, Tryz.func182, by kernel_rfl, by kernel_rfl⟩
theorem ok183 : OK1 183 F183 := ⟨Tryz.f183, Tryz.f183.body.getD .skip, hn183, na183, Tryz.func183, by kernel_rfl, by kernel_rfl⟩
theorem ok185 : OK1 185 F185 := ⟨Tryz.f185, Tryz.f185.body.getD .skip, hn185, na185, Tryz.func185, by kernel_rfl, by kernel_rfl⟩
theorem ok201 : OK1 201 F201 := ⟨Tryz.f201, Tryz.f201.body.getD .skip, hn201, na201, Tryz.func201, by kernel_rfl, by kernel_rfl⟩
theorem ok204 : OK1 204 F204 := ⟨Tryz.f204, Tryz.f204.body.getD .skip, hn204, na204, Tryz.func204, by kernel_rfl, by kernel_rfl⟩
theorem ok207 : OK1 207 F207 := ⟨Tryz.f207, Tryz.f207.body.getD .skip, hn207, na207, Tryz.func207, by kernel_rfl, by kernel_rfl⟩
theorem ok209 : OK1 209 F209 := ⟨Tryz.f209, Tryz.f209.body.getD .skip, hn209, na209, Tryz.func209, by kernel_rfl, by kernel_rfl⟩
theorem ok232 : OK1 232 F232 := ⟨Tryz.f232, Tryz.f232.body.getD .skip, hn232, na232, Tryz.func232, by kernel_rfl, by kernel_rfl⟩
theorem ok249 : OK1 249 F249 := ⟨Tryz.f249, Tryz.f249.body.getD .skip, hn249, na249, Tryz.func249, by kernel_rfl, by kernel_rfl⟩
theorem ok250 : OK1 250 F250 := ⟨Tryz.f250, Tryz.f250.body.getD .skip, hn250, na250, Tryz.func250, by kernel_rfl, by kernel_rfl⟩
theorem ok252 : OK1 252 F252 := ⟨Tryz.f252, Tryz.f252.body.getD .skip, hn252, na252, Tryz.func252, by kernel_rfl, by kernel_rfl⟩
theorem ok258 : OK1 258 F258 := ⟨Tryz.f258, Tryz.f258.body.getD .skip, hn258, na258, Tryz.func258, by kernel_rfl, by kernel_rfl⟩
theorem ok267 : OK1 267 F267 := ⟨Tryz.f267, Tryz.f267.body.getD .skip, hn267, na267, Tryz.func267, by kernel_rfl, by kernel_rfl⟩
theorem ok269 : OK1 269 F269 := ⟨Tryz.f269, Tryz.f269.body.getD .skip, hn269, na269, Tryz.func269, by kernel_rfl, by kernel_rfl⟩
theorem ok276 : OK1 276 F276 := ⟨Tryz.f276, Tryz.f276.body.getD .skip, hn276, na276, Tryz.func276, by kernel_rfl, by kernel_rfl⟩
theorem ok279 : OK1 279 F279 := ⟨Tryz.f279, Tryz.f279.body.getD .skip, hn279, na279, Tryz.func279, by kernel_rfl, by kernel_rfl⟩
theorem ok289 : OK1 289 F289 := ⟨Tryz.f289, Tryz.f289.body.getD .skip, hn289, na289, Tryz.func289, by kernel_rfl, by kernel_rfl⟩
theorem ok293 : OK1 293 F293 := ⟨Tryz.f293, Tryz.f293.body.getD .skip, hn293, na293, Tryz.func293, by kernel_rfl, by kernel_rfl⟩
theorem ok294 : OK1 294 F294 := ⟨Tryz.f294, Tryz.f294.body.getD .skip, hn294, na294, Tryz.func294, by kernel_rfl, by kernel_rfl⟩
theorem ok309 : OK1 309 F309 := ⟨Tryz.f309, Tryz.f309.body.getD .skip, hn309, na309, Tryz.func309, by kernel_rfl, by kernel_rfl⟩
theorem ok318 : OK1 318 F318 := ⟨Tryz.f318, Tryz.f318.body.getD .skip, hn318, na318, Tryz.func318, by kernel_rfl, by kernel_rfl⟩
theorem ok322 : OK1 322 F322 := ⟨Tryz.f322, Tryz.f322.body.getD .skip, hn322, na322, Tryz.func322, by kernel_rfl, by kernel_rfl⟩
theorem ok338 : OK1 338 F338 := ⟨Tryz.f338, Tryz.f338.body.getD .skip, hn338, na338, Tryz.func338, by kernel_rfl, by kernel_rfl⟩
theorem ok347 : OK1 347 F347 := ⟨Tryz.f347, Tryz.f347.body.getD .skip, hn347, na347, Tryz.func347, by kernel_rfl, by kernel_rfl⟩
theorem ok356 : OK1 356 F356 := ⟨Tryz.f356, Tryz.f356.body.getD .skip, hn356, na356, Tryz.func356, by kernel_rfl, by kernel_rfl⟩
theorem ok360 : OK1 360 F360 := ⟨Tryz.f360, Tryz.f360.body.getD .skip, hn360, na360, Tryz.func360, by kernel_rfl, by kernel_rfl⟩
theorem ok363 : OK1 363 F363 := ⟨Tryz.f363, Tryz.f363.body.getD .skip, hn363, na363, Tryz.func363, by kernel_rfl, by kernel_rfl⟩
theorem ok365 : OK1 365 F365 := ⟨Tryz.f365, Tryz.f365.body.getD .skip, hn365, na365, Tryz.func365, by kernel_rfl, by kernel_rfl⟩
theorem ok369 : OK1 369 F369 := ⟨Tryz.f369, Tryz.f369.body.getD .skip, hn369, na369, Tryz.func369, by kernel_rfl, by kernel_rfl⟩
theorem ok378 : OK1 378 F378 := ⟨Tryz.f378, Tryz.f378.body.getD .skip, hn378, na378, Tryz.func378, by kernel_rfl, by kernel_rfl⟩
theorem ok382 : OK1 382 F382 := ⟨Tryz.f382, Tryz.f382.body.getD .skip, hn382, na382, Tryz.func382, by kernel_rfl, by kernel_rfl⟩
theorem ok384 : OK1 384 F384 := ⟨Tryz.f384, Tryz.f384.body.getD .skip, hn384, na384, Tryz.func384, by kernel_rfl, by kernel_rfl⟩
theorem ok385 : OK1 385 F385 := ⟨Tryz.f385, Tryz.f385.body.getD .skip, hn385, na385, Tryz.func385, by kernel_rfl, by kernel_rfl⟩
theorem ok397 : OK1 397 F397 := ⟨Tryz.f397, Tryz.f397.body.getD .skip, hn397, na397, Tryz.func397, by kernel_rfl, by kernel_rfl⟩
theorem ok412 : OK1 412 F412 := ⟨Tryz.f412, Tryz.f412.body.getD .skip, hn412, na412, Tryz.func412, by kernel_rfl, by kernel_rfl⟩
theorem ok413 : OK1 413 F413 := ⟨Tryz.f413, Tryz.f413.body.getD .skip, hn413, na413, Tryz.func413, by kernel_rfl, by kernel_rfl⟩
theorem ok415 : OK1 415 F415 := ⟨Tryz.f415, Tryz.f415.body.getD .skip, hn415, na415, Tryz.func415, by kernel_rfl, by kernel_rfl⟩
theorem ok419 : OK1 419 F419 := ⟨Tryz.f419, Tryz.f419.body.getD .skip, hn419, na419, Tryz.func419, by kernel_rfl, by kernel_rfl⟩
theorem ok429 : OK1 429 F429 := ⟨Tryz.f429, Tryz.f429.body.getD .skip, hn429, na429, Tryz.func429, by kernel_rfl, by kernel_rfl⟩
theorem ok440 : OK1 440 F440 := ⟨Tryz.f440, Tryz.f440.body.getD .skip, hn440, na440, Tryz.func440, by kernel_rfl, by kernel_rfl⟩
theorem ok447 : OK1 447 F447 := ⟨Tryz.f447, Tryz.f447.body.getD .skip, hn447, na447, Tryz.func447, by kernel_rfl, by kernel_rfl⟩
theorem ok456 : OK1 456 F456 := ⟨Tryz.f456, Tryz.f456.body.getD .skip, hn456, na456, Tryz.func456, by kernel_rfl, by kernel_rfl⟩
theorem ok464 : OK1 464 F464 := ⟨Tryz.f464, Tryz.f464.body.getD .skip, hn464, na464, Tryz.func464, by kernel_rfl, by kernel_rfl⟩
theorem ok469 : OK1 469 F469 := ⟨Tryz.f469, Tryz.f469.body.getD .skip, hn469, na469, Tryz.func469, by kernel_rfl, by kernel_rfl⟩
theorem ok483 : OK1 483 F483 := ⟨Tryz.f483, Tryz.f483.body.getD .skip, hn483, na483, Tryz.func483, by kernel_rfl, by kernel_rfl⟩
theorem ok506 : OK1 506 F506 := ⟨Tryz.f506, Tryz.f506.body.getD .skip, hn506, na506, Tryz.func506, by kernel_rfl, by kernel_rfl⟩
theorem ok507 : OK1 507 F507 := ⟨Tryz.f507, Tryz.f507.body.getD .skip, hn507, na507, Tryz.func507, by kernel_rfl, by kernel_rfl⟩
theorem ok508 : OK1 508 F508 := ⟨Tryz.f508, Tryz.f508.body.getD .skip, hn508, na508, Tryz.func508, by kernel_rfl, by kernel_rfl⟩
theorem ok529 : OK1 529 F529 := ⟨Tryz.f529, Tryz.f529.body.getD .skip, hn529, na529, Tryz.func529, by kernel_rfl, by kernel_rfl⟩
theorem ok530 : OK1 530 F530 := ⟨Tryz.f530, Tryz.f530.body.getD .skip, hn530, na530, Tryz.func530, by kernel_rfl, by kernel_rfl⟩
theorem ok566 : OK1 566 F566 := ⟨Tryz.f566, Tryz.f566.body.getD .skip, hn566, na566, Tryz.func566, by kernel_rfl, by kernel_rfl⟩
theorem ok582 : OK1 582 F582 := ⟨Tryz.f582, Tryz.f582.body.getD .skip, hn582, na582, Tryz.func582, by kernel_rfl, by kernel_rfl⟩
theorem ok608 : OK1 608 F608 := ⟨Tryz.f608, Tryz.f608.body.getD .skip, hn608, na608, Tryz.func608, by kernel_rfl, by kernel_rfl⟩
end Go.Proofs.YtllikcpbfbnmoaaGreatDoor.Ev
