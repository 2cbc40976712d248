/- Printed functions are what the program's functions come to, part 4. -/
import Derived.Test.YtdgaheekfeomoaaGreatDoorFs0
import Derived.Test.YtdgaheekfeomoaaGreatDoorFs1
import Derived.Test.YtdgaheekfeomoaaGreatDoorFs2
import Derived.Test.YtdgaheekfeomoaaGreatDoorFs3
import Derived.Test.YtdgaheekfeomoaaGreatDoorProg
import Derived.KernelRfl
set_option maxRecDepth 100000
namespace Go.Proofs.YtdgaheekfeomoaaGreatDoor.Ev
open GoEv
abbrev OK3 (f : Nat) (F : Sm → List V → H → A) : Prop := FOK Tryz.prog X (theD Tryz.prog X) f F
theorem ok4 : OK3 4 F4 := ⟨Tryz.f4, Tryz.f4.body.getD .skip, hn4, na4, Tryz.func4, by kernel_rfl, by kernel_rfl⟩
theorem ok9 : OK3 9 F9 := ⟨Tryz.f9, Tryz.f9.body.getD .skip, hn9, na9, Tryz.func9, by kernel_rfl, by kernel_rfl⟩
theorem ok13 : OK3 13 F13 := ⟨Tryz.f13, Tryz.f13.body.getD .skip, hn13, na13, Tryz.func13, by kernel_rfl, by kernel_rfl⟩
theorem ok17 : OK3 17 F17 := ⟨Tryz.f17, Tryz.f17.body.getD .skip, hn17, na17, Tryz.func17, by kernel_rfl, by kernel_rfl⟩
theorem ok21 : OK3 21 F21 := ⟨Tryz.f21, Tryz.f21.body.getD .skip, hn21, na21, Tryz.func21, by kernel_rfl, by kernel_rfl⟩
theorem ok25 : OK3 25 F25 := ⟨Tryz.f25, Tryz.f25.body.getD .skip, hn25, na25, Tryz.func25, by kernel_rfl, by kernel_rfl⟩
theorem ok29 : OK3 29 F29 := ⟨Tryz.f29, Tryz.f29.body.getD .skip, hn29, na29, Tryz.func29, by kernel_rfl, by kernel_rfl⟩
theorem ok33 : OK3 33 F33 := ⟨Tryz.f33, Tryz.f33.body.getD .skip, hn33, na33, Tryz.func33, by kernel_rfl, by kernel_rfl⟩
theorem ok38 : OK3 38 F38 := ⟨Tryz.f38, Tryz.f38.body.getD .skip, hn38, na38, Tryz.func38, by kernel_rfl, by kernel_rfl⟩
theorem ok42 : OK3 42 F42 := ⟨Tryz.f42, Tryz.f42.body.getD .skip, hn42, na42, Tryz.func42, by kernel_rfl, by kernel_rfl⟩
theorem ok46 : OK3 46 F46 := ⟨Tryz.f46, Tryz.f46.body.getD .skip, hn46, na46, Tryz.func46, by kernel_rfl, by kernel_rfl⟩
theorem ok51 : OK3 51 F51 := ⟨Tryz.f51, Tryz.f51.body.getD .skip, hn51, na51, Tryz.func51, by kernel_rfl, by kernel_rfl⟩
theorem ok55 : OK3 55 F55 := ⟨Tryz.f55, Tryz.f55.body.getD .skip, hn55, na55, Tryz.func55, by kernel_rfl, by kernel_rfl⟩
theorem ok59 : OK3 59 F59 := ⟨Tryz.f59, Tryz.f59.body.getD .skip, hn59, na59, Tryz.func59, by kernel_rfl, by kernel_rfl⟩
theorem ok63 : OK3 63 F63 := ⟨Tryz.f63, Tryz.f63.body.getD .skip, hn63, na63, Tryz.func63, by kernel_rfl, by kernel_rfl⟩
theorem ok67 : OK3 67 F67 := ⟨Tryz.f67, Tryz.f67.body.getD .skip, hn67, na67, Tryz.func67, by kernel_rfl, by kernel_rfl⟩
theorem ok71 : OK3 71 F71 := ⟨Tryz.f71, Tryz.f71.body.getD .skip, hn71, na71, Tryz.func71, by kernel_rfl, by kernel_rfl⟩
theorem ok75 : OK3 75 F75 := ⟨Tryz.f75, Tryz.f75.body.getD .skip, hn75, na75, Tryz.func75, by kernel_rfl, by kernel_rfl⟩
theorem ok80 : OK3 80 F80 := ⟨Tryz.f80, Tryz.f80.body.getD .skip, hn80, na80, Tryz.func80, by kernel_rfl, by kernel_rfl⟩
theorem ok88 : OK3 88 F88 := ⟨Tryz.f88, Tryz.f88.body.getD .skip, hn88, na88, Tryz.func88, by kernel_rfl, by kernel_rfl⟩
theorem ok93 : OK3 93 F93 := ⟨Tryz.f93, Tryz.f93.body.getD .skip, hn93, na93, Tryz.func93, by kernel_rfl, by kernel_rfl⟩
theorem ok99 : OK3 99 F99 := ⟨Tryz.f99, Tryz.f99.body.getD .skip, hn99, na99, Tryz.func99, by kernel_rfl, by kernel_rfl⟩
theorem ok104 : OK3 104 F104 := ⟨Tryz.f104, Tryz.f104.body.getD .skip, hn104, na104, Tryz.func104, by kernel_rfl, by kernel_rfl⟩
theorem ok108 : OK3 108 F108 := ⟨Tryz.f108, Tryz.f108.body.getD .skip, hn108, na108, Tryz.func108, by kernel_rfl, by kernel_rfl⟩
theorem ok112 : OK3 112 F112 := ⟨Tryz.f112, Tryz.f112.body.getD .skip, hn112, na112, Tryz.func112, by kernel_rfl, by kernel_rfl⟩
theorem ok116 : OK3 116 F116 := ⟨Tryz.f116, Tryz.f116.body.getD .skip, hn116, na116, Tryz.func116, by kernel_rfl, by kernel_rfl⟩
theorem ok120 : OK3 120 F120 := ⟨Tryz.f120, Tryz.f120.body.getD .skip, hn120, na120, Tryz.func120, by kernel_rfl, by kernel_rfl⟩
theorem ok127 : OK3 127 F127 := ⟨Tryz.f127, Tryz.f127.body.getD .skip, hn127, na127, Tryz.func127, by kernel_rfl, by kernel_rfl⟩
theorem ok136 : OK3 136 F136 := ⟨Tryz.f136, Tryz.f136.body.getD .skip, hn136, na136, Tryz.func136, by kernel_rfl, by kernel_rfl⟩
theorem ok142 : OK3 142 F142 := ⟨Tryz.f142, Tryz.f142.body.getD .skip, hn142, na142, Tryz.func142, by kernel_rfl, by kernel_rfl⟩
theorem ok147 : OK3 147 F147 := ⟨Tryz.f147, Tryz.f147.body.getD .skip, hn147, na147, Tryz.func147, by kernel_rfl, by kernel_rfl⟩
theorem ok153 : OK3 153 F153 := ⟨Tryz.f153, Tryz.f153.body.getD .skip, hn153, na153, Tryz.func153, by kernel_rfl, by kernel_rfl⟩
theorem ok158 : OK3 158 F158 := ⟨Tryz.f158, Tryz.f158.body.getD .skip, hn158, na158, Tryz.func158, by kernel_rfl, by kernel_rfl⟩
theorem ok164 : OK3 164 F164 := ⟨Tryz.f164, Tryz.f164.body.getD .skip, hn164, na164, Tryz.func164, by kernel_rfl, by kernel_rfl⟩
theorem ok171 : OK3 171 F171 := ⟨Tryz.f171, Tryz.f171.body.getD .skip, hn171, na171, Tryz.func171, by kernel_rfl, by kernel_rfl⟩
theorem ok175 : OK3 175 F175 := ⟨Tryz.f175, Tryz.f175.body.getD .skip, hn175, na175, Tryz.func175, by kernel_rfl, by kernel_rfl⟩
theorem ok179 : OK3 179 F179 := ⟨Tryz.f179, Tryz.f179.body.getD .skip, hn179, na179, Tryz.func179, by kernel_rfl, by kernel_rfl⟩
theorem ok185 : OK3 185 F185 := ⟨Tryz.f185, Tryz.f185.body.getD .skip, hn185, na185, Tryz.func185, by kernel_rfl, by kernel_rfl⟩
theorem ok191 : OK3 191 F191 := ⟨Tryz.f191, Tryz.f191.body.getD .skip, hn191, na191, Tryz.func191, by kernel_rfl, by kernel_rfl⟩
theorem ok195 : OK3 195 F195 := ⟨Tryz.f195, Tryz.f195.body.getD .skip, hn195, na195, Tryz.func195, by kernel_rfl, by kernel_rfl⟩
theorem ok199 : OK3 199 F199 := ⟨Tryz.f199, Tryz.f199.body.getD .skip, hn199, na199, Tryz.func199, by kernel_rfl, by kernel_rfl⟩
theorem ok203 : OK3 203 F203 := ⟨Tryz.f203, Tryz.f203.body.getD .skip, hn203, na203, Tryz.func203, by kernel_rfl, by kernel_rfl⟩
theorem ok211 : OK3 211 F211 := ⟨Tryz.f211, Tryz.f211.body.getD .skip, hn211, na211, Tryz.func211, by kernel_rfl, by kernel_rfl⟩
theorem ok219 : OK3 219 F219 := ⟨Tryz.f219, Tryz.f219.body.getD .skip, hn219, na219, Tryz.func219, by kernel_rfl, by kernel_rfl⟩
theorem ok236 : OK3 236 F236 := ⟨Tryz.f236, Tryz.f236.body.getD .skip, hn236, na236, Tryz.func236, by kernel_rfl, by kernel_rfl⟩
theorem ok242 : OK3 242 F242 := ⟨Tryz.f242, Tryz.f242.body.getD .skip, hn242, na242, Tryz.func242, by kernel_rfl, by kernel_rfl⟩
theorem ok261 : OK3 261 F261 := ⟨Tryz.f261, Tryz.f261.body.getD .skip, hn261, na261, Tryz.func261, by kernel_rfl, by kernel_rfl⟩
theorem ok271 : OK3 271 F271 := ⟨Tryz.f271, Tryz.f271.body.getD .skip, hn271, na271, Tryz.func271, by kernel_rfl, by kernel_rfl⟩
theorem ok276 : OK3 276 F276 := ⟨Tryz.f276, Tryz.f276.body.getD .skip, hn276, na276, Tryz.func276, by kernel_rfl, by kernel_rfl⟩
theorem ok280 : OK3 280 F280 := ⟨Tryz.f280, Tryz.f280.body.getD .skip, hn280, na280, Tryz.func280, by kernel_rfl, by kernel_rfl⟩
theorem ok284 : OK3 284 F284 := ⟨Tryz.f284, Tryz.f284.body.getD .skip, hn284, na284, Tryz.func284, by kernel_rfl, by kernel_rfl⟩
theorem ok293 : OK3 293 F293 := ⟨Tryz.f293, Tryz.f293.body.getD .skip, hn293, na293, Tryz.func293, by kernel_rfl, by kernel_rfl⟩
theorem ok298 : OK3 298 F298 := ⟨Tryz.f298, Tryz.f298.body.getD .skip, hn298, na298, Tryz.func298, by kernel_rfl, by kernel_rfl⟩
theorem ok303 : OK3 303 F303 := ⟨Tryz.f303, Tryz.f303.body.getD .skip, hn303, na303, Tryz.func303, by kernel_rfl, by kernel_rfl⟩
theorem ok308 : OK3 308 F308 := ⟨Tryz.f308, Tryz.f308.body.getD .skip, hn308, na308, Tryz.func308, by kernel_rfl, by kernel_rfl⟩
theorem ok312 : OK3 312 F312 := ⟨Tryz.f312, Tryz.f312.body.getD .skip, hn312, na312, Tryz.func312, by kernel_rfl, by kernel_rfl⟩
theorem ok318 : OK3 318 F318 := ⟨Tryz.f318, Tryz.f318.body.getD .skip, hn318, na318, Tryz.func318, by kernel_rfl, by kernel_rfl⟩
theorem ok367 : OK3 367 F367 := ⟨Tryz.f367, Tryz.f367.body.getD .skip, hn367, na367, Tryz.func367, by kernel_rfl, by kernel_rfl⟩
theorem ok371 : OK3 371 F371 := ⟨Tryz.f371, Tryz.f371.body.getD .skip, hn371, na371, Tryz.func371, by kernel_rfl, by kernel_rfl⟩
theorem ok375 : OK3 375 F375 := ⟨Tryz.f375, Tryz.f375.body.getD .skip, hn375, na375, Tryz.func375, by kernel_rfl, by kernel_rfl⟩
theorem ok383 : OK3 383 F383 := ⟨Tryz.f383, Tryz.f383.body.getD .skip, hn383, na383, Tryz.func383, by kernel_rfl, by kernel_rfl⟩
theorem ok388 : OK3 388 F388 := ⟨Tryz.f388, Tryz.f388.body.getD .skip, hn388, na388, Tryz.func388, by kernel_rfl, by kernel_rfl⟩
theorem ok393 : OK3 393 F393 := ⟨Tryz.f393, Tryz.f393.body.getD .skip, hn393, na393, Tryz.func393, by kernel_rfl, by kernel_rfl⟩
theorem ok394 : OK3 394 F394 := ⟨Tryz.f394, Tryz.f394.body.getD .skip, hn394, na394, Tryz.func394, by kernel_rfl, by kernel_rfl⟩
theorem ok398 : OK3 398 F398 := ⟨Tryz.f398, Tryz.f398.body.getD .skip, hn398, na398, Tryz.func398, by kernel_rfl, by kernel_rfl⟩
theorem ok401 : OK3 401 F401 := ⟨Tryz.f401, Tryz.f401.body.getD .skip, hn401, na401, Tryz.func401, by kernel_rfl, by kernel_rfl⟩
theorem ok403 : OK3 403 F403 := ⟨Tryz.f403, Tryz.f403.body.getD .skip, hn403, na403, Tryz.func403, by kernel_rfl, by kernel_rfl⟩
theorem ok414 : OK3 414 F414 := ⟨Tryz.f414, Tryz.f414.body.getD .skip, hn414, na414, Tryz.func414, by kernel_rfl, by kernel_rfl⟩
theorem ok433 : OK3 433 F433 := ⟨Tryz.f433, Tryz.f433.body.getD .skip, hn433, na433, Tryz.func433, by kernel_rfl, by kernel_rfl⟩
theorem ok447 : OK3 447 F447 := ⟨Tryz.f447, Tryz.f447.body.getD .skip, hn447, na447, Tryz.func447, by kernel_rfl, by kernel_rfl⟩
theorem ok456 : OK3 456 F456 := ⟨Tryz.f456, Tryz.f456.body.getD .skip, hn456, na456, Tryz.func456, by kernel_rfl, by kernel_rfl⟩
theorem ok460 : OK3 460 F460 := ⟨Tryz.f460, Tryz.f460.body.getD .skip, hn460, na460, Tryz.func460, by kernel_rfl, by kernel_rfl⟩
theorem ok467 : OK3 467 F467 := ⟨Tryz.f467, Tryz.f467.body.getD .skip, hn467, na467, Tryz.func467, by kernel_rfl, by kernel_rfl⟩
theorem ok471 : OK3 471 F471 := ⟨Tryz.f471, Tryz.f471.body.getD .skip, hn471, na471, Tryz.func471, by kernel_rfl, by kernel_rfl⟩
theorem ok506 : OK3 506 F506 := ⟨Tryz.f506, Tryz.f506.body.getD .skip, hn506, na506, Tryz.func506, by kernel_rfl, by kernel_rfl⟩
theorem ok513 : OK3 513 F513 := ⟨Tryz.f513, Tryz.f513.body.getD .skip, hn513, na513, Tryz.func513, by kernel_rfl, by kernel_rfl⟩
theorem ok525 : OK3 525 F525 := ⟨Tryz.f525, Tryz.f525.body.getD .skip, hn525, na525, Tryz.func525, by kernel_rfl, by kernel_rfl⟩
end Go.Proofs.YtdgaheekfeomoaaGreatDoor.Ev
