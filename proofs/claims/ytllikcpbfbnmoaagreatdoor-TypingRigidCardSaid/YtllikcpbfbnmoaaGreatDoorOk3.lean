/- Printed functions are what the program's functions come to, part 4. -/
import Derived.Test.YtllikcpbfbnmoaaGreatDoorFs0
import Derived.Test.YtllikcpbfbnmoaaGreatDoorFs1
import Derived.Test.YtllikcpbfbnmoaaGreatDoorFs2
import Derived.Test.YtllikcpbfbnmoaaGreatDoorProg
import Derived.KernelRfl
set_option maxRecDepth 100000
set_option maxHeartbeats 0
namespace Go.Proofs.YtllikcpbfbnmoaaGreatDoor.Ev
open GoEv
abbrev OK3 (f : Nat) (F : Sm → List V → H → A) : Prop := FOK Tryz.prog X (theD Tryz.prog X) f F
theorem ok9 : OK3 9 F9 := ⟨Tryz.f9, Tryz.f9.body.getD .skip, hn9, na9, Tryz.func9, by kernel_rfl, by kernel_rfl⟩
theorem ok11 : OK3 11 F11 := ⟨Tryz.f11, Tryz.f11.body.getD .skip, hn11, na11, Tryz.func11, by kernel_rfl, by kernel_rfl⟩
theorem ok20 : OK3 20 F20 := ⟨Tryz.f20, Tryz.f20.body.getD .skip, hn20, na20, Tryz.func20, by kernel_rfl, by kernel_rfl⟩
theorem ok29 : OK3 29 F29 := ⟨Tryz.f29, Tryz.f29.body.getD .skip, hn29, na29, Tryz.func29, by kernel_rfl, by kernel_rfl⟩
theorem ok33 : OK3 33 F33 := ⟨Tryz.f33, Tryz.f33.body.getD .skip, hn33, na33, Tryz.func33, by kernel_rfl, by kernel_rfl⟩
theorem ok35 : OK3 35 F35 := ⟨Tryz.f35, Tryz.f35.body.getD .skip, hn35, na35, Tryz.func35, by kernel_rfl, by kernel_rfl⟩
theorem ok50 : OK3 50 F50 := ⟨Tryz.f50, Tryz.f50.body.getD .skip, hn50, na50, Tryz.func50, by kernel_rfl, by kernel_rfl⟩
theorem ok51 : OK3 51 F51 := ⟨Tryz.f51, Tryz.f51.body.getD .skip, hn51, na51, Tryz.func51, by kernel_rfl, by kernel_rfl⟩
theorem ok64 : OK3 64 F64 := ⟨Tryz.f64, Tryz.f64.body.getD .skip, hn64, na64, Tryz.func64, by kernel_rfl, by kernel_rfl⟩
theorem ok66 : OK3 66 F66 := ⟨Tryz.f66, Tryz.f66.body.getD .skip, hn66, na66, Tryz.func66, by kernel_rfl, by kernel_rfl⟩
theorem ok68 : OK3 68 F68 := ⟨Tryz.f68, Tryz.f68.body.getD .skip, hn68, na68, Tryz.func68, by kernel_rfl, by kernel_rfl⟩
theorem ok70 : OK3 70 F70 := ⟨Tryz.f70, Tryz.f70.body.getD .skip, hn70, na70, Tryz.func70, by kernel_rfl, by kernel_rfl⟩
theorem ok73 : OK3 73 F73 := ⟨Tryz.f73, Tryz.f73.body.getD .skip, hn73, na73, Tryz.func73, by kernel_rfl, by kernel_rfl⟩
theorem ok74 : OK3 74 F74 := ⟨Tryz.f74, Tryz.f74.body.getD .skip, hn74, na74, Tryz.func74, by kernel_rfl, by kernel_rfl⟩
theorem ok96 : OK3 96 F96 := ⟨Tryz.f96, Tryz.f96.body.getD .skip, hn96, na96, Tryz.func96, by kernel_rfl, by kernel_rfl⟩
theorem ok127 : OK3 127 F127 := ⟨Tryz.f127, Tryz.f127.body.getD .skip, hn127, na127, Tryz.func127, by kernel_rfl, by kernel_rfl⟩
theorem ok129 : OK3 129 F129 := ⟨Tryz.f129, Tryz.f129.body.getD .skip, hn129, na129, Tryz.func129, by kernel_rfl, by kernel_rfl⟩
theorem ok131 : OK3 131 F131 := ⟨Tryz.f131, Tryz.f131.body.getD .skip, hn131, na131, Tryz.func131, by kernel_rfl, by kernel_rfl⟩
theorem ok139 : OK3 139 F139 := ⟨Tryz.f139, Tryz.f139.body.getD .skip, hn139, na139, Tryz.func139, by kernel_rfl, by kernel_rfl⟩
theorem ok144 : OK3 144 F144 := ⟨Tryz.f144, Tryz.f144.body.getD .skip, hn144, na144, Tryz.func144, by kernel_rfl, by kernel_rfl⟩
theorem ok155 : OK3 155 F155 := ⟨Tryz.f155, Tryz.f155.body.getD .skip, hn155, na155, Tryz.func155, by kernel_rfl, by kernel_rfl⟩
theorem ok156 : OK3 156 F156 := ⟨Tryz.f156, Tryz.f156.body.getD .skip, hn156, na156, Tryz.func156, by kernel_rfl, by kernel_rfl⟩
theorem ok161 : OK3 161 F161 := ⟨Tryz.f161, Tryz.f161.body.getD .skip, hn161, na161, Tryz.func161, by kernel_rfl, by kernel_rfl⟩
theorem ok164 : OK3 164 F164 := ⟨Tryz.f164, Tryz.f164.body.getD .skip, hn164, na164, Tryz.func164, by kernel_rfl, by kernel_rfl⟩
theorem ok169 : OK3 169 F169 := ⟨Tryz.f169, Tryz.f169.body.getD .skip, hn169, na169, Tryz.func169, by kernel_rfl, by kernel_rfl⟩
theorem ok187 : OK3 187 F187 := ⟨Tryz.f187, Tryz.f187.body.getD .skip, hn187, na187, Tryz.func187, by kernel_rfl, by kernel_rfl⟩
theorem ok190 : OK3 190 F190 := ⟨Tryz.f190, Tryz.f190.body.getD .skip, hn190, na190, Tryz.func190, by kernel_rfl, by kernel_rfl⟩
theorem ok198 : OK3 198 F198 := ⟨Tryz.f198, Tryz.f198.body.getD .skip, hn198, na198, Tryz.func198, by kernel_rfl, by kernel_rfl⟩
theorem ok199 : OK3 199 F199 := ⟨Tryz.f199, Tryz.f199.body.getD .skip, hn199, na199, Tryz.func199, by kernel_rfl, by kernel_rfl⟩
theorem ok210 : OK3 210 F210 := ⟨Tryz.f210, Tryz.f210.body.getD .skip, hn210, na210, Tryz.func210, by kernel_rfl, by kernel_rfl⟩
theorem ok211 : OK3 211 F211 := ⟨Tryz.f211, Tryz.f211.body.getD .skip, hn211, na211, Tryz.func211, by kernel_rfl, by kernel_rfl⟩
theorem ok225 : OK3 225 F225 := ⟨Tryz.f225, Tryz.f225.body.getD .skip, hn225, na225, Tryz.func225, by kernel_rfl, by kernel_rfl⟩
theorem ok228 : OK3 228 F228 := ⟨Tryz.f228, Tryz.f228.body.getD .skip, hn228, na228, Tryz.func228, by kernel_rfl, by kernel_rfl⟩
theorem ok235 : OK3 235 F235 := ⟨Tryz.f235, Tryz.f235.body.getD .skip, hn235, na235, Tryz.func235, by kernel_rfl, by kernel_rfl⟩
theorem ok236 : OK3 236 F236 := ⟨Tryz.f236, Tryz.f236.body.getD .skip, hn236, na236, Tryz.func236, by kernel_rfl, by kernel_rfl⟩
theorem ok254 : OK3 254 F254 := ⟨Tryz.f254, Tryz.f254.body.getD .skip, hn254, na254, Tryz.func254, by kernel_rfl, by kernel_rfl⟩
theorem ok257 : OK3 257 F257 := ⟨Tryz.f257, Tryz.f257.body.getD .skip, hn257, na257, Tryz.func257, by kernel_rfl, by kernel_rfl⟩
theorem ok280 : OK3 280 F280 := ⟨Tryz.f280, Tryz.f280.body.getD .skip, hn280, na280, Tryz.func280, by kernel_rfl, by kernel_rfl⟩
theorem ok282 : OK3 282 F282 := ⟨Tryz.f282, Tryz.f282.body.getD .skip, hn282, na282, Tryz.func282, by kernel_rfl, by kernel_rfl⟩
theorem ok292 : OK3 292 F292 := ⟨Tryz.f292, Tryz.f292.body.getD .skip, hn292, na292, Tryz.func292, by kernel_rfl, by kernel_rfl⟩
theorem ok311 : OK3 311 F311 := ⟨Tryz.f311, Tryz.f311.body.getD .skip, hn311, na311, Tryz.func311, by kernel_rfl, by kernel_rfl⟩
theorem ok316 : OK3 316 F316 := ⟨Tryz.f316, Tryz.f316.body.getD .skip, hn316, na316, Tryz.func316, by kernel_rfl, by kernel_rfl⟩
theorem ok317 : OK3 317 F317 := ⟨Tryz.f317, Tryz.f317.body.getD .skip, hn317, na317, Tryz.func317, by kernel_rfl, by kernel_rfl⟩
theorem ok331 : OK3 331 F331 := ⟨Tryz.f331, Tryz.f331.body.getD .skip, hn331, na331, Tryz.func331, by kernel_rfl, by kernel_rfl⟩
theorem ok335 : OK3 335 F335 := ⟨Tryz.f335, Tryz.f335.body.getD .skip, hn335, na335, Tryz.func335, by kernel_rfl, by kernel_rfl⟩
theorem ok336 : OK3 336 F336 := ⟨Tryz.f336, Tryz.f336.body.getD .skip, hn336, na336, Tryz.func336, by kernel_rfl, by kernel_rfl⟩
theorem ok343 : OK3 343 F343 := ⟨Tryz.f343, Tryz.f343.body.getD .skip, hn343, na343, Tryz.func343, by kernel_rfl, by kernel_rfl⟩
theorem ok350 : OK3 350 F350 := ⟨Tryz.f350, Tryz.f350.body.getD .skip, hn350, na350, Tryz.func350, by kernel_rfl, by kernel_rfl⟩
theorem ok354 : OK3 354 F354 := ⟨Tryz.f354, Tryz.f354.body.getD .skip, hn354, na354, Tryz.func354, by kernel_rfl, by kernel_rfl⟩
theorem ok358 : OK3 358 F358 := ⟨Tryz.f358, Tryz.f358.body.getD .skip, hn358, na358, Tryz.func358, by kernel_rfl, by kernel_rfl⟩
theorem ok361 : OK3 361 F361 := ⟨Tryz.f361, Tryz.f361.body.getD .skip, hn361, na361, Tryz.func361, by kernel_rfl, by kernel_rfl⟩
theorem ok367 : OK3 367 F367 := ⟨Tryz.f367, Tryz.f367.body.getD .skip, hn367, na367, Tryz.func367, by kernel_rfl, by kernel_rfl⟩
theorem ok409 : OK3 409 F409 := ⟨Tryz.f409, Tryz.f409.body.getD .skip, hn409, na409, Tryz.func409, by kernel_rfl, by kernel_rfl⟩
theorem ok411 : OK3 411 F411 := ⟨Tryz.f411, Tryz.f411.body.getD .skip, hn411, na411, Tryz.func411, by kernel_rfl, by kernel_rfl⟩
theorem ok437 : OK3 437 F437 := ⟨Tryz.f437, Tryz.f437.body.getD .skip, hn437, na437, Tryz.func437, by kernel_rfl, by kernel_rfl⟩
theorem ok451 : OK3 451 F451 := ⟨Tryz.f451, Tryz.f451.body.getD .skip, hn451, na451, Tryz.func451, by kernel_rfl, by kernel_rfl⟩
theorem ok457 : OK3 457 F457 := ⟨Tryz.f457, Tryz.f457.body.getD .skip, hn457, na457, Tryz.func457, by kernel_rfl, by kernel_rfl⟩
theorem ok459 : OK3 459 F459 := ⟨Tryz.f459, Tryz.f459.body.getD .skip, hn459, na459, Tryz.func459, by kernel_rfl, by kernel_rfl⟩
theorem ok460 : OK3 460 F460 := ⟨Tryz.f460, Tryz.f460.body.getD .skip, hn460, na460, Tryz.func460, by kernel_rfl, by kernel_rfl⟩
theorem ok472 : OK3 472 F472 := ⟨Tryz.f472, Tryz.f472.body.getD .skip, hn472, na472, Tryz.func472, by kernel_rfl, by kernel_rfl⟩
theorem ok484 : OK3 484 F484 := ⟨Tryz.f484, Tryz.f484.body.getD .skip, hn484, na484, Tryz.func484, by kernel_rfl, by kernel_rfl⟩
theorem ok487 : OK3 487 F487 := ⟨Tryz.f487, Tryz.f487.body.getD .skip, hn487, na487, Tryz.func487, by kernel_rfl, by kernel_rfl⟩
theorem ok488 : OK3 488 F488 := ⟨Tryz.f488, Tryz.f488.body.getD .skip, hn488, na488, Tryz.func488, by kernel_rfl, by kernel_rfl⟩
theorem ok493 : OK3 493 F493 := ⟨Tryz.f493, Tryz.f493.body.getD .skip, hn493, na493, Tryz.func493, by kernel_rfl, by kernel_rfl⟩
theorem ok504 : OK3 504 F504 := ⟨Tryz.f504, Tryz.f504.body.getD .skip, hn504, na504, Tryz.func504, by kernel_rfl, by kernel_rfl⟩
theorem ok510 : OK3 510 F510 := ⟨Tryz.f510, Tryz.f510.body.getD .skip, hn510, na510, Tryz.func510, by kernel_rfl, by kernel_rfl⟩
theorem ok520 : OK3 520 F520 := ⟨Tryz.f520, Tryz.f520.body.getD .skip, hn520, na520, Tryz.func520, by kernel_rfl, by kernel_rfl⟩
theorem ok526 : OK3 526 F526 := ⟨Tryz.f526, Tryz.f526.body.getD .skip, hn526, na526, Tryz.func526, by kernel_rfl, by kernel_rfl⟩
theorem ok527 : OK3 527 F527 := ⟨Tryz.f527, Tryz.f527.body.getD .skip, hn527, na527, Tryz.func527, by kernel_rfl, by kernel_rfl⟩
theorem ok539 : OK3 539 F539 := ⟨Tryz.f539, Tryz.f539.body.getD .skip, hn539, na539, Tryz.func539, by kernel_rfl, by kernel_rfl⟩
theorem ok583 : OK3 583 F583 := ⟨Tryz.f583, Tryz.f583.body.getD .skip, hn583, na583, Tryz.func583, by kernel_rfl, by kernel_rfl⟩
theorem ok593 : OK3 593 F593 := ⟨Tryz.f593, Tryz.f593.body.getD .skip, hn593, na593, Tryz.func593, by kernel_rfl, by kernel_rfl⟩
end Go.Proofs.YtllikcpbfbnmoaaGreatDoor.Ev
