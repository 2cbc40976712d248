/- Printed functions are what the program's functions come to, part 1. -/
import Derived.Test.YtllikcpbfbnmoaaGreatDoorFs0
import Derived.Test.YtllikcpbfbnmoaaGreatDoorFs1
import Derived.Test.YtllikcpbfbnmoaaGreatDoorFs2
import Derived.Test.YtllikcpbfbnmoaaGreatDoorProg
import Derived.KernelRfl
set_option maxRecDepth 100000
set_option maxHeartbeats 0
namespace Go.Proofs.YtllikcpbfbnmoaaGreatDoor.Ev
open GoEv
abbrev OK0 (f : Nat) (F : Sm → List V → H → A) : Prop := FOK Tryz.prog X (theD Tryz.prog X) f F
theorem ok4 : OK0 4 F4 := ⟨Tryz.f4, Tryz.f4.body.getD .skip, hn4, na4, Tryz.func4, by kernel_rfl, by kernel_rfl⟩
theorem ok7 : OK0 7 F7 := ⟨Tryz.f7, Tryz.f7.body.getD .skip, hn7, na7, Tryz.func7, by kernel_rfl, by kernel_rfl⟩
theorem ok15 : OK0 15 F15 := ⟨Tryz.f15, Tryz.f15.body.getD .skip, hn15, na15, Tryz.func15, by kernel_rfl, by kernel_rfl⟩
theorem ok18 : OK0 18 F18 := ⟨Tryz.f18, Tryz.f18.body.getD .skip, hn18, na18, Tryz.func18, by kernel_rfl, by kernel_rfl⟩
theorem ok19 : OK0 19 F19 := ⟨Tryz.f19, Tryz.f19.body.getD .skip, hn19, na19, Tryz.func19, by kernel_rfl, by kernel_rfl⟩
theorem ok23 : OK0 23 F23 := ⟨Tryz.f23, Tryz.f23.body.getD .skip, hn23, na23, Tryz.func23, by kernel_rfl, by kernel_rfl⟩
theorem ok34 : OK0 34 F34 := ⟨Tryz.f34, Tryz.f34.body.getD .skip, hn34, na34, Tryz.func34, by kernel_rfl, by kernel_rfl⟩
theorem ok36 : OK0 36 F36 := ⟨Tryz.f36, Tryz.f36.body.getD .skip, hn36, na36, Tryz.func36, by kernel_rfl, by kernel_rfl⟩
theorem ok38 : OK0 38 F38 := ⟨Tryz.f38, Tryz.f38.body.getD .skip, hn38, na38, Tryz.func38, by kernel_rfl, by kernel_rfl⟩
theorem ok42 : OK0 42 F42 := ⟨Tryz.f42, Tryz.f42.body.getD .skip, hn42, na42, Tryz.func42, by kernel_rfl, by kernel_rfl⟩
theorem ok47 : OK0 47 F47 := ⟨Tryz.f47, Tryz.f47.body.getD .skip, hn47, na47, Tryz.func47, by kernel_rfl, by kernel_rfl⟩
theorem ok60 : OK0 60 F60 := ⟨Tryz.f60, Tryz.f60.body.getD .skip, hn60, na60, Tryz.func60, by kernel_rfl, by kernel_rfl⟩
theorem ok62 : OK0 62 F62 := ⟨Tryz.f62, Tryz.f62.body.getD .skip, hn62, na62, Tryz.func62, by kernel_rfl, by kernel_rfl⟩
theorem ok72 : OK0 72 F72 := ⟨Tryz.f72, Tryz.f72.body.getD .skip, hn72, na72, Tryz.func72, by kernel_rfl, by kernel_rfl⟩
theorem ok76 : OK0 76 F76 := ⟨Tryz.f76, Tryz.f76.body.getD .skip, hn76, na76, Tryz.func76, by kernel_rfl, by kernel_rfl⟩
theorem ok81 : OK0 81 F81 := ⟨Tryz.f81, Tryz.f81.body.getD .skip, hn81, na81, Tryz.func81, by kernel_rfl, by kernel_rfl⟩
theorem ok104 : OK0 104 F104 := ⟨Tryz.f104, Tryz.f104.body.getD .skip, hn104, na104, Tryz.func104, by kernel_rfl, by kernel_rfl⟩
theorem ok105 : OK0 105 F105 := ⟨Tryz.f105, Tryz.f105.body.getD .skip, hn105, na105, Tryz.func105, by kernel_rfl, by kernel_rfl⟩
theorem ok116 : OK0 116 F116 := ⟨Tryz.f116, Tryz.f116.body.getD .skip, hn116, na116, Tryz.func116, by kernel_rfl, by kernel_rfl⟩
theorem ok121 : OK0 121 F121 := ⟨Tryz.f121, Tryz.f121.body.getD .skip, hn121, na121, Tryz.func121, by kernel_rfl, by kernel_rfl⟩
theorem ok125 : OK0 125 F125 := ⟨Tryz.f125, Tryz.f125.body.getD .skip, hn125, na125, Tryz.func125, by kernel_rfl, by kernel_rfl⟩
theorem ok126 : OK0 126 F126 := ⟨Tryz.f126, Tryz.f126.body.getD .skip, hn126, na126, Tryz.func126, by kernel_rfl, by kernel_rfl⟩
theorem ok128 : OK0 128 F128 := ⟨Tryz.f128, Tryz.f128.body.getD .skip, hn128, na128, Tryz.func128, by kernel_rfl, by kernel_rfl⟩
theorem ok145 : OK0 145 F145 := ⟨Tryz.f145, Tryz.f145.body.getD .skip, hn145, na145, Tryz.func145, by kernel_rfl, by kernel_rfl⟩
theorem ok146 : OK0 146 F146 := ⟨Tryz.f146, Tryz.f146.body.getD .skip, hn146, na146, Tryz.func146, by kernel_rfl, by kernel_rfl⟩
theorem ok163 : OK0 163 F163 := ⟨Tryz.f163, Tryz.f163.body.getD .skip, hn163, na163, Tryz.func163, by kernel_rfl, by kernel_rfl⟩
theorem ok174 : OK0 174 F174 := ⟨Tryz.f174, Tryz.f174.body.getD .skip, hn174, na174, Tryz.func174, by kernel_rfl, by kernel_rfl⟩
theorem ok195 : OK0 195 F195 := ⟨Tryz.f195, Tryz.f195.body.getD .skip, hn195, na195, Tryz.func195, by kernel_rfl, by kernel_rfl⟩
theorem ok200 : OK0 200 F200 := ⟨Tryz.f200, Tryz.f200.body.getD .skip, hn200, na200, Tryz.func200, by kernel_rfl, by kernel_rfl⟩
theorem ok206 : OK0 206 F206 := ⟨Tryz.f206, Tryz.f206.body.getD .skip, hn206, na206, Tryz.func206, by kernel_rfl, by kernel_rfl⟩
theorem ok208 : OK0 208 F208 := ⟨Tryz.f208, Tryz.f208.body.getD .skip, hn208, na208, Tryz.func208, by kernel_rfl, by kernel_rfl⟩
theorem ok212 : OK0 212 F212 := ⟨Tryz.f212, Tryz.f212.body.getD .skip, hn212, na212, Tryz.func212, by kernel_rfl, by kernel_rfl⟩
theorem ok215 : OK0 215 F215 := ⟨Tryz.f215, Tryz.f215.body.getD .skip, hn215, na215, Tryz.func215, by kernel_rfl, by kernel_rfl⟩
theorem ok216 : OK0 216 F216 := ⟨Tryz.f216, Tryz.f216.body.getD .skip, hn216, na216, Tryz.func216, by kernel_rfl, by kernel_rfl⟩
theorem ok217 : OK0 217 F217 := ⟨Tryz.f217, Tryz.f217.body.getD .skip, hn217, na217, Tryz.func217, by kernel_rfl, by kernel_rfl⟩
theorem ok222 : OK0 222 F222 := ⟨Tryz.f222, Tryz.f222.body.getD .skip, hn222, na222, Tryz.func222, by kernel_rfl, by kernel_rfl⟩
theorem ok251 : OK0 251 F251 := ⟨Tryz.f251, Tryz.f251.body.getD .skip, hn251, na251, Tryz.func251, by kernel_rfl, by kernel_rfl⟩
theorem ok259 : OK0 259 F259 := ⟨Tryz.f259, Tryz.f259.body.getD .skip, hn259, na259, Tryz.func259, by kernel_rfl, by kernel_rfl⟩
theorem ok266 : OK0 266 F266 := ⟨Tryz.f266, Tryz.f266.body.getD .skip, hn266, na266, Tryz.func266, by kernel_rfl, by kernel_rfl⟩
theorem ok268 : OK0 268 F268 := ⟨Tryz.f268, Tryz.f268.body.getD .skip, hn268, na268, Tryz.func268, by kernel_rfl, by kernel_rfl⟩
theorem ok271 : OK0 271 F271 := ⟨Tryz.f271, Tryz.f271.body.getD .skip, hn271, na271, Tryz.func271, by kernel_rfl, by kernel_rfl⟩
theorem ok275 : OK0 275 F275 := ⟨Tryz.f275, Tryz.f275.body.getD .skip, hn275, na275, Tryz.func275, by kernel_rfl, by kernel_rfl⟩
theorem ok281 : OK0 281 F281 := ⟨Tryz.f281, Tryz.f281.body.getD .skip, hn281, na281, Tryz.func281, by kernel_rfl, by kernel_rfl⟩
theorem ok283 : OK0 283 F283 := ⟨Tryz.f283, Tryz.f283.body.getD .skip, hn283, na283, Tryz.func283, by kernel_rfl, by kernel_rfl⟩
theorem ok284 : OK0 284 F284 := ⟨Tryz.f284, Tryz.f284.body.getD .skip, hn284, na284, Tryz.func284, by kernel_rfl, by kernel_rfl⟩
theorem ok285 : OK0 285 F285 := ⟨Tryz.f285, Tryz.f285.body.getD .skip, hn285, na285, Tryz.func285, by kernel_rfl, by kernel_rfl⟩
theorem ok315 : OK0 315 F315 := ⟨Tryz.f315, Tryz.f315.body.getD .skip, hn315, na315, Tryz.func315, by kernel_rfl, by kernel_rfl⟩
theorem ok352 : OK0 352 F352 := ⟨Tryz.f352, Tryz.f352.body.getD .skip, hn352, na352, Tryz.func352, by kernel_rfl, by kernel_rfl⟩
theorem ok362 : OK0 362 F362 := ⟨Tryz.f362, Tryz.f362.body.getD .skip, hn362, na362, Tryz.func362, by kernel_rfl, by kernel_rfl⟩
theorem ok373 : OK0 373 F373 := ⟨Tryz.f373, Tryz.f373.body.getD .skip, hn373, na373, Tryz.func373, by kernel_rfl, by kernel_rfl⟩
theorem ok387 : OK0 387 F387 := ⟨Tryz.f387, Tryz.f387.body.getD .skip, hn387, na387, Tryz.func387, by kernel_rfl, by kernel_rfl⟩
theorem ok389 : OK0 389 F389 := ⟨Tryz.f389, Tryz.f389.body.getD .skip, hn389, na389, Tryz.func389, by kernel_rfl, by kernel_rfl⟩
theorem ok393 : OK0 393 F393 := ⟨Tryz.f393, Tryz.f393.body.getD .skip, hn393, na393, Tryz.func393, by kernel_rfl, by kernel_rfl⟩
theorem ok396 : OK0 396 F396 := ⟨Tryz.f396, Tryz.f396.body.getD .skip, hn396, na396, Tryz.func396, by kernel_rfl, by kernel_rfl⟩
theorem ok403 : OK0 403 F403 := ⟨Tryz.f403, Tryz.f403.body.getD .skip, hn403, na403, Tryz.func403, by kernel_rfl, by kernel_rfl⟩
theorem ok414 : OK0 414 F414 := ⟨Tryz.f414, Tryz.f414.body.getD .skip, hn414, na414, Tryz.func414, by kernel_rfl, by kernel_rfl⟩
theorem ok418 : OK0 418 F418 := ⟨Tryz.f418, Tryz.f418.body.getD .skip, hn418, na418, Tryz.func418, by kernel_rfl, by kernel_rfl⟩
theorem ok421 : OK0 421 F421 := ⟨Tryz.f421, Tryz.f421.body.getD .skip, hn421, na421, Tryz.func421, by kernel_rfl, by kernel_rfl⟩
theorem ok422 : OK0 422 F422 := ⟨Tryz.f422, Tryz.f422.body.getD .skip, hn422, na422, Tryz.func422, by kernel_rfl, by kernel_rfl⟩
theorem ok426 : OK0 426 F426 := ⟨Tryz.f426, Tryz.f426.body.getD .skip, hn426, na426, Tryz.func426, by kernel_rfl, by kernel_rfl⟩
theorem ok444 : OK0 444 F444 := ⟨Tryz.f444, Tryz.f444.body.getD .skip, hn444, na444, Tryz.func444, by kernel_rfl, by kernel_rfl⟩
theorem ok446 : OK0 446 F446 := ⟨Tryz.f446, Tryz.f446.body.getD .skip, hn446, na446, Tryz.func446, by kernel_rfl, by kernel_rfl⟩
theorem ok454 : OK0 454 F454 := ⟨Tryz.f454, Tryz.f454.body.getD .skip, hn454, na454, Tryz.func454, by kernel_rfl, by kernel_rfl⟩
theorem ok458 : OK0 458 F458 := ⟨Tryz.f458, Tryz.f458.body.getD .skip, hn458, na458, Tryz.func458, by kernel_rfl, by kernel_rfl⟩
theorem ok462 : OK0 462 F462 := ⟨Tryz.f462, Tryz.f462.body.getD .skip, hn462, na462, Tryz.func462, by kernel_rfl, by kernel_rfl⟩
theorem ok471 : OK0 471 F471 := ⟨Tryz.f471, Tryz.f471.body.getD .skip, hn471, na471, Tryz.func471, by kernel_rfl, by kernel_rfl⟩
theorem ok492 : OK0 492 F492 := ⟨Tryz.f492, Tryz.f492.body.getD .skip, hn492, na492, Tryz.func492, by kernel_rfl, by kernel_rfl⟩
theorem ok525 : OK0 525 F525 := ⟨Tryz.f525, Tryz.f525.body.getD .skip, hn525, na525, Tryz.func525, by kernel_rfl, by kernel_rfl⟩
theorem ok540 : OK0 540 F540 := ⟨Tryz.f540, Tryz.f540.body.getD .skip, hn540, na540, Tryz.func540, by kernel_rfl, by kernel_rfl⟩
theorem ok546 : OK0 546 F546 := ⟨Tryz.f546, Tryz.f546.body.getD .skip, hn546, na546, Tryz.func546, by kernel_rfl, by kernel_rfl⟩
theorem ok594 : OK0 594 F594 := ⟨Tryz.f594, Tryz.f594.body.getD .skip, hn594, na594, Tryz.func594, by kernel_rfl, by kernel_rfl⟩
theorem ok599 : OK0 599 F599 := ⟨Tryz.f599, Tryz.f599.body.getD .skip, hn599, na599, Tryz.func599, by kernel_rfl, by kernel_rfl⟩
end Go.Proofs.YtllikcpbfbnmoaaGreatDoor.Ev
