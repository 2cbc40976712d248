/- Printed functions are what the program's functions come to, part 3. -/
import Derived.Test.YtllikcpbfbnmoaaGreatDoorFs0
import Derived.Test.YtllikcpbfbnmoaaGreatDoorFs1
import Derived.Test.YtllikcpbfbnmoaaGreatDoorFs2
import Derived.Test.YtllikcpbfbnmoaaGreatDoorProg
import Derived.KernelRfl
set_option maxRecDepth 100000
set_option maxHeartbeats 0
namespace Go.Proofs.YtllikcpbfbnmoaaGreatDoor.Ev
open GoEv
abbrev OK2 (f : Nat) (F : Sm → List V → H → A) : Prop := FOK Tryz.prog X (theD Tryz.prog X) f F
theorem ok17 : OK2 17 F17 := ⟨Tryz.f17, Tryz.f17.body.getD .skip, hn17, na17, Tryz.func17, by kernel_rfl, by kernel_rfl⟩
theorem ok21 : OK2 21 F21 := ⟨Tryz.f21, Tryz.f21.body.getD .skip, hn21, na21, Tryz.func21, by kernel_rfl, by kernel_rfl⟩
theorem ok22 : OK2 22 F22 := ⟨Tryz.f22, Tryz.f22.body.getD .skip, hn22, na22, Tryz.func22, by kernel_rfl, by kernel_rfl⟩
theorem ok44 : OK2 44 F44 := ⟨Tryz.f44, Tryz.f44.body.getD .skip, hn44, na44, Tryz.func44, by kernel_rfl, by kernel_rfl⟩
theorem ok80 : OK2 80 F80 := ⟨Tryz.f80, Tryz.f80.body.getD .skip, hn80, na80, Tryz.func80, by kernel_rfl, by kernel_rfl⟩
theorem ok84 : OK2 84 F84 := ⟨Tryz.f84, Tryz.f84.body.getD .skip, hn84, na84, Tryz.func84, by kernel_rfl, by kernel_rfl⟩
theorem ok92 : OK2 92 F92 := ⟨Tryz.f92, Tryz.f92.body.getD .skip, hn92, na92, Tryz.func92, by kernel_rfl, by kernel_rfl⟩
theorem ok108 : OK2 108 F108 := ⟨Tryz.f108, Tryz.f108.body.getD .skip, hn108, na108, Tryz.func108, by kernel_rfl, by kernel_rfl⟩
theorem ok114 : OK2 114 F114 := ⟨Tryz.f114, Tryz.f114.body.getD .skip, hn114, na114, Tryz.func114, by kernel_rfl, by kernel_rfl⟩
theorem ok117 : OK2 117 F117 := ⟨Tryz.f117, Tryz.f117.body.getD .skip, hn117, na117, Tryz.func117, by kernel_rfl, by kernel_rfl⟩
theorem ok118 : OK2 118 F118 := ⟨Tryz.f118, Tryz.f118.body.getD .skip, hn118, na118, Tryz.func118, by kernel_rfl, by kernel_rfl⟩
theorem ok123 : OK2 123 F123 := ⟨Tryz.f123, Tryz.f123.body.getD .skip, hn123, na123, Tryz.func123, by kernel_rfl, by kernel_rfl⟩
theorem ok130 : OK2 130 F130 := ⟨Tryz.f130, Tryz.f130.body.getD .skip, hn130, na130, Tryz.func130, by kernel_rfl, by kernel_rfl⟩
theorem ok133 : OK2 133 F133 := ⟨Tryz.f133, Tryz.f133.body.getD .skip, hn133, na133, Tryz.func133, by kernel_rfl, by kernel_rfl⟩
theorem ok134 : OK2 134 F134 := ⟨Tryz.f134, Tryz.f134.body.getD .skip, hn134, na134, Tryz.func134, by kernel_rfl, by kernel_rfl⟩
theorem ok142 : OK2 142 F142 := ⟨Tryz.f142, Tryz.f142.body.getD .skip, hn142, na142, Tryz.func142, by kernel_rfl, by kernel_rfl⟩
theorem ok147 : OK2 147 F147 := ⟨Tryz.f147, Tryz.f147.body.getD .skip, hn147, na147, Tryz.func147, by kernel_rfl, by kernel_rfl⟩
theorem ok148 : OK2 148 F148 := ⟨Tryz.f148, Tryz.f148.body.getD .skip, hn148, na148, Tryz.func148, by kernel_rfl, by kernel_rfl⟩
theorem ok150 : OK2 150 F150 := ⟨Tryz.f150, Tryz.f150.body.getD .skip, hn150, na150, Tryz.func150, by kernel_rfl, by kernel_rfl⟩
theorem ok154 : OK2 154 F154 := ⟨Tryz.f154, Tryz.f154.body.getD .skip, hn154, na154, Tryz.func154, by kernel_rfl, by kernel_rfl⟩
theorem ok157 : OK2 157 F157 := ⟨Tryz.f157, Tryz.f157.body.getD .skip, hn157, na157, Tryz.func157, by kernel_rfl, by kernel_rfl⟩
theorem ok172 : OK2 172 F172 := ⟨Tryz.f172, Tryz.f172.body.getD .skip, hn172, na172, Tryz.func172, by kernel_rfl, by kernel_rfl⟩
theorem ok179 : OK2 179 F179 := ⟨Tryz.f179, Tryz.f179.body.getD .skip, hn179, na179, Tryz.func179, by kernel_rfl, by kernel_rfl⟩
theorem ok186 : OK2 186 F186 := ⟨Tryz.f186, Tryz.f186.body.getD .skip, hn186, na186, Tryz.func186, by kernel_rfl, by kernel_rfl⟩
theorem ok188 : OK2 188 F188 := ⟨Tryz.f188, Tryz.f188.body.getD .skip, hn188, na188, Tryz.func188, by kernel_rfl, by kernel_rfl⟩
theorem ok189 : OK2 189 F189 := ⟨Tryz.f189, Tryz.f189.body.getD .skip, hn189, na189, Tryz.func189, by kernel_rfl, by kernel_rfl⟩
theorem ok196 : OK2 196 F196 := ⟨Tryz.f196, Tryz.f196.body.getD .skip, hn196, na196, Tryz.func196, by kernel_rfl, by kernel_rfl⟩
theorem ok205 : OK2 205 F205 := ⟨Tryz.f205, Tryz.f205.body.getD .skip, hn205, na205, Tryz.func205, by kernel_rfl, by kernel_rfl⟩
theorem ok224 : OK2 224 F224 := ⟨Tryz.f224, Tryz.f224.body.getD .skip, hn224, na224, Tryz.func224, by kernel_rfl, by kernel_rfl⟩
theorem ok237 : OK2 237 F237 := ⟨Tryz.f237, Tryz.f237.body.getD .skip, hn237, na237, Tryz.func237, by kernel_rfl, by kernel_rfl⟩
theorem ok256 : OK2 256 F256 := ⟨Tryz.f256, Tryz.f256.body.getD .skip, hn256, na256, Tryz.func256, by kernel_rfl, by kernel_rfl⟩
theorem ok264 : OK2 264 F264 := ⟨Tryz.f264, Tryz.f264.body.getD .skip, hn264, na264, Tryz.func264, by kernel_rfl, by kernel_rfl⟩
theorem ok265 : OK2 265 F265 := ⟨Tryz.f265, Tryz.f265.body.getD .skip, hn265, na265, Tryz.func265, by kernel_rfl, by kernel_rfl⟩
theorem ok270 : OK2 270 F270 := ⟨Tryz.f270, Tryz.f270.body.getD .skip, hn270, na270, Tryz.func270, by kernel_rfl, by kernel_rfl⟩
theorem ok274 : OK2 274 F274 := ⟨Tryz.f274, Tryz.f274.body.getD .skip, hn274, na274, Tryz.func274, by kernel_rfl, by kernel_rfl⟩
theorem ok278 : OK2 278 F278 := ⟨Tryz.f278, Tryz.f278.body.getD .skip, hn278, na278, Tryz.func278, by kernel_rfl, by kernel_rfl⟩
theorem ok323 : OK2 323 F323 := ⟨Tryz.f323, Tryz.f323.body.getD .skip, hn323, na323, Tryz.func323, by kernel_rfl, by kernel_rfl⟩
theorem ok324 : OK2 324 F324 := ⟨Tryz.f324, Tryz.f324.body.getD .skip, hn324, na324, Tryz.func324, by kernel_rfl, by kernel_rfl⟩
theorem ok337 : OK2 337 F337 := ⟨Tryz.f337, Tryz.f337.body.getD .skip, hn337, na337, Tryz.func337, by kernel_rfl, by kernel_rfl⟩
theorem ok339 : OK2 339 F339 := ⟨Tryz.f339, Tryz.f339.body.getD .skip, hn339, na339, Tryz.func339, by kernel_rfl, by kernel_rfl⟩
theorem ok340 : OK2 340 F340 := ⟨Tryz.f340, Tryz.f340.body.getD .skip, hn340, na340, Tryz.func340, by kernel_rfl, by kernel_rfl⟩
theorem ok348 : OK2 348 F348 := ⟨Tryz.f348, Tryz.f348.body.getD .skip, hn348, na348, Tryz.func348, by kernel_rfl, by kernel_rfl⟩
theorem ok351 : OK2 351 F351 := ⟨Tryz.f351, Tryz.f351.body.getD .skip, hn351, na351, Tryz.func351, by kernel_rfl, by kernel_rfl⟩
theorem ok357 : OK2 357 F357 := ⟨Tryz.f357, Tryz.f357.body.getD .skip, hn357, na357, Tryz.func357, by kernel_rfl, by kernel_rfl⟩
theorem ok366 : OK2 366 F366 := ⟨Tryz.f366, Tryz.f366.body.getD .skip, hn366, na366, Tryz.func366, by kernel_rfl, by kernel_rfl⟩
theorem ok370 : OK2 370 F370 := ⟨Tryz.f370, Tryz.f370.body.getD .skip, hn370, na370, Tryz.func370, by kernel_rfl, by kernel_rfl⟩
theorem ok376 : OK2 376 F376 := ⟨Tryz.f376, Tryz.f376.body.getD .skip, hn376, na376, Tryz.func376, by kernel_rfl, by kernel_rfl⟩
theorem ok377 : OK2 377 F377 := ⟨Tryz.f377, Tryz.f377.body.getD .skip, hn377, na377, Tryz.func377, by kernel_rfl, by kernel_rfl⟩
theorem ok379 : OK2 379 F379 := ⟨Tryz.f379, Tryz.f379.body.getD .skip, hn379, na379, Tryz.func379, by kernel_rfl, by kernel_rfl⟩
theorem ok381 : OK2 381 F381 := ⟨Tryz.f381, Tryz.f381.body.getD .skip, hn381, na381, Tryz.func381, by kernel_rfl, by kernel_rfl⟩
theorem ok388 : OK2 388 F388 := ⟨Tryz.f388, Tryz.f388.body.getD .skip, hn388, na388, Tryz.func388, by kernel_rfl, by kernel_rfl⟩
theorem ok404 : OK2 404 F404 := ⟨Tryz.f404, Tryz.f404.body.getD .skip, hn404, na404, Tryz.func404, by kernel_rfl, by kernel_rfl⟩
theorem ok416 : OK2 416 F416 := ⟨Tryz.f416, Tryz.f416.body.getD .skip, hn416, na416, Tryz.func416, by kernel_rfl, by kernel_rfl⟩
theorem ok435 : OK2 435 F435 := ⟨Tryz.f435, Tryz.f435.body.getD .skip, hn435, na435, Tryz.func435, by kernel_rfl, by kernel_rfl⟩
theorem ok443 : OK2 443 F443 := ⟨Tryz.f443, Tryz.f443.body.getD .skip, hn443, na443, Tryz.func443, by kernel_rfl, by kernel_rfl⟩
theorem ok452 : OK2 452 F452 := ⟨Tryz.f452, Tryz.f452.body.getD .skip, hn452, na452, Tryz.func452, by kernel_rfl, by kernel_rfl⟩
theorem ok455 : OK2 455 F455 := ⟨Tryz.f455, Tryz.f455.body.getD .skip, hn455, na455, Tryz.func455, by kernel_rfl, by kernel_rfl⟩
theorem ok461 : OK2 461 F461 := ⟨Tryz.f461, Tryz.f461.body.getD .skip, hn461, na461, Tryz.func461, by kernel_rfl, by kernel_rfl⟩
theorem ok463 : OK2 463 F463 := ⟨Tryz.f463, Tryz.f463.body.getD .skip, hn463, na463, Tryz.func463, by kernel_rfl, by kernel_rfl⟩
theorem ok468 : OK2 468 F468 := ⟨Tryz.f468, Tryz.f468.body.getD .skip, hn468, na468, Tryz.func468, by kernel_rfl, by kernel_rfl⟩
theorem ok470 : OK2 470 F470 := ⟨Tryz.f470, Tryz.f470.body.getD .skip, hn470, na470, Tryz.func470, by kernel_rfl, by kernel_rfl⟩
theorem ok494 : OK2 494 F494 := ⟨Tryz.f494, Tryz.f494.body.getD .skip, hn494, na494, Tryz.func494, by kernel_rfl, by kernel_rfl⟩
theorem ok502 : OK2 502 F502 := ⟨Tryz.f502, Tryz.f502.body.getD .skip, hn502, na502, Tryz.func502, by kernel_rfl, by kernel_rfl⟩
theorem ok514 : OK2 514 F514 := ⟨Tryz.f514, Tryz.f514.body.getD .skip, hn514, na514, Tryz.func514, by kernel_rfl, by kernel_rfl⟩
theorem ok545 : OK2 545 F545 := ⟨Tryz.f545, Tryz.f545.body.getD .skip, hn545, na545, Tryz.func545, by kernel_rfl, by kernel_rfl⟩
theorem ok555 : OK2 555 F555 := ⟨Tryz.f555, Tryz.f555.body.getD .skip, hn555, na555, Tryz.func555, by kernel_rfl, by kernel_rfl⟩
theorem ok565 : OK2 565 F565 := ⟨Tryz.f565, Tryz.f565.body.getD .skip, hn565, na565, Tryz.func565, by kernel_rfl, by kernel_rfl⟩
theorem ok567 : OK2 567 F567 := ⟨Tryz.f567, Tryz.f567.body.getD .skip, hn567, na567, Tryz.func567, by kernel_rfl, by kernel_rfl⟩
theorem ok568 : OK2 568 F568 := ⟨Tryz.f568, Tryz.f568.body.getD .skip, hn568, na568, Tryz.func568, by kernel_rfl, by kernel_rfl⟩
theorem ok598 : OK2 598 F598 := ⟨Tryz.f598, Tryz.f598.body.getD .skip, hn598, na598, Tryz.func598, by kernel_rfl, by kernel_rfl⟩
theorem ok601 : OK2 601 F601 := ⟨Tryz.f601, Tryz.f601.body.getD .skip, hn601, na601, Tryz.func601, by kernel_rfl, by kernel_rfl⟩
theorem ok609 : OK2 609 F609 := ⟨Tryz.f609, Tryz.f609.body.getD .skip, hn609, na609, Tryz.func609, by kernel_rfl, by kernel_rfl⟩
end Go.Proofs.YtllikcpbfbnmoaaGreatDoor.Ev
