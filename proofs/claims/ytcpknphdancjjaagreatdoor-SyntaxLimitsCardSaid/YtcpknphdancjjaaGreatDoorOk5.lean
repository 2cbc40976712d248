/- Printed functions are what the program's functions come to, part 6. -/
import Derived.Test.YtcpknphdancjjaaGreatDoorFs0
import Derived.Test.YtcpknphdancjjaaGreatDoorFs1
import Derived.Test.YtcpknphdancjjaaGreatDoorFs2
import Derived.Test.YtcpknphdancjjaaGreatDoorFs3
import Derived.Test.YtcpknphdancjjaaGreatDoorProg
import Derived.KernelRfl
set_option maxRecDepth 100000
namespace Go.Proofs.YtcpknphdancjjaaGreatDoor.Ev
open GoEv
theorem ok6 : FOK Tryz.prog X (theD Tryz.prog X) 6 F6 := ⟨Tryz.f6, Tryz.f6.body.getD .skip, hn6, na6, Tryz.func6, by kernel_rfl, by kernel_rfl⟩
theorem ok10 : FOK Tryz.prog X (theD Tryz.prog X) 10 F10 := ⟨Tryz.f10, Tryz.f10.body.getD .skip, hn10, na10, Tryz.func10, by kernel_rfl, by kernel_rfl⟩
theorem ok14 : FOK Tryz.prog X (theD Tryz.prog X) 14 F14 := ⟨Tryz.f14, Tryz.f14.body.getD .skip, hn14, na14, Tryz.func14, by kernel_rfl, by kernel_rfl⟩
theorem ok18 : FOK Tryz.prog X (theD Tryz.prog X) 18 F18 := ⟨Tryz.f18, Tryz.f18.body.getD .skip, hn18, na18, Tryz.func18, by kernel_rfl, by kernel_rfl⟩
theorem ok22 : FOK Tryz.prog X (theD Tryz.prog X) 22 F22 := ⟨Tryz.f22, Tryz.f22.body.getD .skip, hn22, na22, Tryz.func22, by kernel_rfl, by kernel_rfl⟩
theorem ok28 : FOK Tryz.prog X (theD Tryz.prog X) 28 F28 := ⟨Tryz.f28, Tryz.f28.body.getD .skip, hn28, na28, Tryz.func28, by kernel_rfl, by kernel_rfl⟩
theorem ok37 : FOK Tryz.prog X (theD Tryz.prog X) 37 F37 := ⟨Tryz.f37, Tryz.f37.body.getD .skip, hn37, na37, Tryz.func37, by kernel_rfl, by kernel_rfl⟩
theorem ok41 : FOK Tryz.prog X (theD Tryz.prog X) 41 F41 := ⟨Tryz.f41, Tryz.f41.body.getD .skip, hn41, na41, Tryz.func41, by kernel_rfl, by kernel_rfl⟩
theorem ok47 : FOK Tryz.prog X (theD Tryz.prog X) 47 F47 := ⟨Tryz.f47, Tryz.f47.body.getD .skip, hn47, na47, Tryz.func47, by kernel_rfl, by kernel_rfl⟩
theorem ok51 : FOK Tryz.prog X (theD Tryz.prog X) 51 F51 := ⟨Tryz.f51, Tryz.f51.body.getD .skip, hn51, na51, Tryz.func51, by kernel_rfl, by kernel_rfl⟩
theorem ok57 : FOK Tryz.prog X (theD Tryz.prog X) 57 F57 := ⟨Tryz.f57, Tryz.f57.body.getD .skip, hn57, na57, Tryz.func57, by kernel_rfl, by kernel_rfl⟩
theorem ok62 : FOK Tryz.prog X (theD Tryz.prog X) 62 F62 := ⟨Tryz.f62, Tryz.f62.body.getD .skip, hn62, na62, Tryz.func62, by kernel_rfl, by kernel_rfl⟩
theorem ok67 : FOK Tryz.prog X (theD Tryz.prog X) 67 F67 := ⟨Tryz.f67, Tryz.f67.body.getD .skip, hn67, na67, Tryz.func67, by kernel_rfl, by kernel_rfl⟩
theorem ok78 : FOK Tryz.prog X (theD Tryz.prog X) 78 F78 := ⟨Tryz.f78, Tryz.f78.body.getD .skip, hn78, na78, Tryz.func78, by kernel_rfl, by kernel_rfl⟩
theorem ok83 : FOK Tryz.prog X (theD Tryz.prog X) 83 F83 := ⟨Tryz.f83, Tryz.f83.body.getD .skip, hn83, na83, Tryz.func83, by kernel_rfl, by kernel_rfl⟩
theorem ok89 : FOK Tryz.prog X (theD Tryz.prog X) 89 F89 := ⟨Tryz.f89, Tryz.f89.body.getD .skip, hn89, na89, Tryz.func89, by kernel_rfl, by kernel_rfl⟩
theorem ok93 : FOK Tryz.prog X (theD Tryz.prog X) 93 F93 := ⟨Tryz.f93, Tryz.f93.body.getD .skip, hn93, na93, Tryz.func93, by kernel_rfl, by kernel_rfl⟩
theorem ok97 : FOK Tryz.prog X (theD Tryz.prog X) 97 F97 := ⟨Tryz.f97, Tryz.f97.body.getD .skip, hn97, na97, Tryz.func97, by kernel_rfl, by kernel_rfl⟩
theorem ok104 : FOK Tryz.prog X (theD Tryz.prog X) 104 F104 := ⟨Tryz.f104, Tryz.f104.body.getD .skip, hn104, na104, Tryz.func104, by kernel_rfl, by kernel_rfl⟩
theorem ok108 : FOK Tryz.prog X (theD Tryz.prog X) 108 F108 := ⟨Tryz.f108, Tryz.f108.body.getD .skip, hn108, na108, Tryz.func108, by kernel_rfl, by kernel_rfl⟩
theorem ok117 : FOK Tryz.prog X (theD Tryz.prog X) 117 F117 := ⟨Tryz.f117, Tryz.f117.body.getD .skip, hn117, na117, Tryz.func117, by kernel_rfl, by kernel_rfl⟩
theorem ok122 : FOK Tryz.prog X (theD Tryz.prog X) 122 F122 := ⟨Tryz.f122, Tryz.f122.body.getD .skip, hn122, na122, Tryz.func122, by kernel_rfl, by kernel_rfl⟩
theorem ok128 : FOK Tryz.prog X (theD Tryz.prog X) 128 F128 := ⟨Tryz.f128, Tryz.f128.body.getD .skip, hn128, na128, Tryz.func128, by kernel_rfl, by kernel_rfl⟩
theorem ok141 : FOK Tryz.prog X (theD Tryz.prog X) 141 F141 := ⟨Tryz.f141, Tryz.f141.body.getD .skip, hn141, na141, Tryz.func141, by kernel_rfl, by kernel_rfl⟩
theorem ok151 : FOK Tryz.prog X (theD Tryz.prog X) 151 F151 := ⟨Tryz.f151, Tryz.f151.body.getD .skip, hn151, na151, Tryz.func151, by kernel_rfl, by kernel_rfl⟩
theorem ok156 : FOK Tryz.prog X (theD Tryz.prog X) 156 F156 := ⟨Tryz.f156, Tryz.f156.body.getD .skip, hn156, na156, Tryz.func156, by kernel_rfl, by kernel_rfl⟩
theorem ok160 : FOK Tryz.prog X (theD Tryz.prog X) 160 F160 := ⟨Tryz.f160, Tryz.f160.body.getD .skip, hn160, na160, Tryz.func160, by kernel_rfl, by kernel_rfl⟩
theorem ok169 : FOK Tryz.prog X (theD Tryz.prog X) 169 F169 := ⟨Tryz.f169, Tryz.f169.body.getD .skip, hn169, na169, Tryz.func169, by kernel_rfl, by kernel_rfl⟩
theorem ok184 : FOK Tryz.prog X (theD Tryz.prog X) 184 F184 := ⟨Tryz.f184, Tryz.f184.body.getD .skip, hn184, na184, Tryz.func184, by kernel_rfl, by kernel_rfl⟩
theorem ok192 : FOK Tryz.prog X (theD Tryz.prog X) 192 F192 := ⟨Tryz.f192, Tryz.f192.body.getD .skip, hn192, na192, Tryz.func192, by kernel_rfl, by kernel_rfl⟩
theorem ok205 : FOK Tryz.prog X (theD Tryz.prog X) 205 F205 := ⟨Tryz.f205, Tryz.f205.body.getD .skip, hn205, na205, Tryz.func205, by kernel_rfl, by kernel_rfl⟩
theorem ok210 : FOK Tryz.prog X (theD Tryz.prog X) 210 F210 := ⟨Tryz.f210, Tryz.f210.body.getD .skip, hn210, na210, Tryz.func210, by kernel_rfl, by kernel_rfl⟩
theorem ok240 : FOK Tryz.prog X (theD Tryz.prog X) 240 F240 := ⟨Tryz.f240, Tryz.f240.body.getD .skip, hn240, na240, Tryz.func240, by kernel_rfl, by kernel_rfl⟩
theorem ok266 : FOK Tryz.prog X (theD Tryz.prog X) 266 F266 := ⟨Tryz.f266, Tryz.f266.body.getD .skip, hn266, na266, Tryz.func266, by kernel_rfl, by kernel_rfl⟩
theorem ok303 : FOK Tryz.prog X (theD Tryz.prog X) 303 F303 := ⟨Tryz.f303, Tryz.f303.body.getD .skip, hn303, na303, Tryz.func303, by kernel_rfl, by kernel_rfl⟩
theorem ok328 : FOK Tryz.prog X (theD Tryz.prog X) 328 F328 := ⟨Tryz.f328, Tryz.f328.body.getD .skip, hn328, na328, Tryz.func328, by kernel_rfl, by kernel_rfl⟩
theorem ok377 : FOK Tryz.prog X (theD Tryz.prog X) 377 F377 := ⟨Tryz.f377, Tryz.f377.body.getD .skip, hn377, na377, Tryz.func377, by kernel_rfl, by kernel_rfl⟩
end Go.Proofs.YtcpknphdancjjaaGreatDoor.Ev
