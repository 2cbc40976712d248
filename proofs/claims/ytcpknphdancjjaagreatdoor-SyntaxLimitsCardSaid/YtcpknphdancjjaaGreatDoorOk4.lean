/- Printed functions are what the program's functions come to, part 5. -/
import Derived.Test.YtcpknphdancjjaaGreatDoorFs0
import Derived.Test.YtcpknphdancjjaaGreatDoorFs1
import Derived.Test.YtcpknphdancjjaaGreatDoorFs2
import Derived.Test.YtcpknphdancjjaaGreatDoorFs3
import Derived.Test.YtcpknphdancjjaaGreatDoorProg
import Derived.KernelRfl
set_option maxRecDepth 100000
namespace Go.Proofs.YtcpknphdancjjaaGreatDoor.Ev
open GoEv
theorem ok5 : FOK Tryz.prog X (theD Tryz.prog X) 5 F5 := ⟨Tryz.f5, Tryz.f5.body.getD .skip, hn5, na5, Tryz.func5, by kernel_rfl, by kernel_rfl⟩
theorem ok9 : FOK Tryz.prog X (theD Tryz.prog X) 9 F9 := ⟨Tryz.f9, Tryz.f9.body.getD .skip, hn9, na9, Tryz.func9, by kernel_rfl, by kernel_rfl⟩
theorem ok13 : FOK Tryz.prog X (theD Tryz.prog X) 13 F13 := ⟨Tryz.f13, Tryz.f13.body.getD .skip, hn13, na13, Tryz.func13, by kernel_rfl, by kernel_rfl⟩
theorem ok17 : FOK Tryz.prog X (theD Tryz.prog X) 17 F17 := ⟨Tryz.f17, Tryz.f17.body.getD .skip, hn17, na17, Tryz.func17, by kernel_rfl, by kernel_rfl⟩
theorem ok21 : FOK Tryz.prog X (theD Tryz.prog X) 21 F21 := ⟨Tryz.f21, Tryz.f21.body.getD .skip, hn21, na21, Tryz.func21, by kernel_rfl, by kernel_rfl⟩
theorem ok27 : FOK Tryz.prog X (theD Tryz.prog X) 27 F27 := ⟨Tryz.f27, Tryz.f27.body.getD .skip, hn27, na27, Tryz.func27, by kernel_rfl, by kernel_rfl⟩
theorem ok32 : FOK Tryz.prog X (theD Tryz.prog X) 32 F32 := ⟨Tryz.f32, Tryz.f32.body.getD .skip, hn32, na32, Tryz.func32, by kernel_rfl, by kernel_rfl⟩
theorem ok40 : FOK Tryz.prog X (theD Tryz.prog X) 40 F40 := ⟨Tryz.f40, Tryz.f40.body.getD .skip, hn40, na40, Tryz.func40, by kernel_rfl, by kernel_rfl⟩
theorem ok46 : FOK Tryz.prog X (theD Tryz.prog X) 46 F46 := ⟨Tryz.f46, Tryz.f46.body.getD .skip, hn46, na46, Tryz.func46, by kernel_rfl, by kernel_rfl⟩
theorem ok50 : FOK Tryz.prog X (theD Tryz.prog X) 50 F50 := ⟨Tryz.f50, Tryz.f50.body.getD .skip, hn50, na50, Tryz.func50, by kernel_rfl, by kernel_rfl⟩
theorem ok56 : FOK Tryz.prog X (theD Tryz.prog X) 56 F56 := ⟨Tryz.f56, Tryz.f56.body.getD .skip, hn56, na56, Tryz.func56, by kernel_rfl, by kernel_rfl⟩
theorem ok60 : FOK Tryz.prog X (theD Tryz.prog X) 60 F60 := ⟨Tryz.f60, Tryz.f60.body.getD .skip, hn60, na60, Tryz.func60, by kernel_rfl, by kernel_rfl⟩
theorem ok66 : FOK Tryz.prog X (theD Tryz.prog X) 66 F66 := ⟨Tryz.f66, Tryz.f66.body.getD .skip, hn66, na66, Tryz.func66, by kernel_rfl, by kernel_rfl⟩
theorem ok77 : FOK Tryz.prog X (theD Tryz.prog X) 77 F77 := ⟨Tryz.f77, Tryz.f77.body.getD .skip, hn77, na77, Tryz.func77, by kernel_rfl, by kernel_rfl⟩
theorem ok82 : FOK Tryz.prog X (theD Tryz.prog X) 82 F82 := ⟨Tryz.f82, Tryz.f82.body.getD .skip, hn82, na82, Tryz.func82, by kernel_rfl, by kernel_rfl⟩
theorem ok87 : FOK Tryz.prog X (theD Tryz.prog X) 87 F87 := ⟨Tryz.f87, Tryz.f87.body.getD .skip, hn87, na87, Tryz.func87, by kernel_rfl, by kernel_rfl⟩
theorem ok92 : FOK Tryz.prog X (theD Tryz.prog X) 92 F92 := ⟨Tryz.f92, Tryz.f92.body.getD .skip, hn92, na92, Tryz.func92, by kernel_rfl, by kernel_rfl⟩
theorem ok96 : FOK Tryz.prog X (theD Tryz.prog X) 96 F96 := ⟨Tryz.f96, Tryz.f96.body.getD .skip, hn96, na96, Tryz.func96, by kernel_rfl, by kernel_rfl⟩
theorem ok103 : FOK Tryz.prog X (theD Tryz.prog X) 103 F103 := ⟨Tryz.f103, Tryz.f103.body.getD .skip, hn103, na103, Tryz.func103, by kernel_rfl, by kernel_rfl⟩
theorem ok107 : FOK Tryz.prog X (theD Tryz.prog X) 107 F107 := ⟨Tryz.f107, Tryz.f107.body.getD .skip, hn107, na107, Tryz.func107, by kernel_rfl, by kernel_rfl⟩
theorem ok113 : FOK Tryz.prog X (theD Tryz.prog X) 113 F113 := ⟨Tryz.f113, Tryz.f113.body.getD .skip, hn113, na113, Tryz.func113, by kernel_rfl, by kernel_rfl⟩
theorem ok120 : FOK Tryz.prog X (theD Tryz.prog X) 120 F120 := ⟨Tryz.f120, Tryz.f120.body.getD .skip, hn120, na120, Tryz.func120, by kernel_rfl, by kernel_rfl⟩
theorem ok127 : FOK Tryz.prog X (theD Tryz.prog X) 127 F127 := ⟨Tryz.f127, Tryz.f127.body.getD .skip, hn127, na127, Tryz.func127, by kernel_rfl, by kernel_rfl⟩
theorem ok138 : FOK Tryz.prog X (theD Tryz.prog X) 138 F138 := ⟨Tryz.f138, Tryz.f138.body.getD .skip, hn138, na138, Tryz.func138, by kernel_rfl, by kernel_rfl⟩
theorem ok150 : FOK Tryz.prog X (theD Tryz.prog X) 150 F150 := ⟨Tryz.f150, Tryz.f150.body.getD .skip, hn150, na150, Tryz.func150, by kernel_rfl, by kernel_rfl⟩
theorem ok155 : FOK Tryz.prog X (theD Tryz.prog X) 155 F155 := ⟨Tryz.f155, Tryz.f155.body.getD .skip, hn155, na155, Tryz.func155, by kernel_rfl, by kernel_rfl⟩
theorem ok159 : FOK Tryz.prog X (theD Tryz.prog X) 159 F159 := ⟨Tryz.f159, Tryz.f159.body.getD .skip, hn159, na159, Tryz.func159, by kernel_rfl, by kernel_rfl⟩
theorem ok168 : FOK Tryz.prog X (theD Tryz.prog X) 168 F168 := ⟨Tryz.f168, Tryz.f168.body.getD .skip, hn168, na168, Tryz.func168, by kernel_rfl, by kernel_rfl⟩
theorem ok179 : FOK Tryz.prog X (theD Tryz.prog X) 179 F179 := ⟨Tryz.f179, Tryz.f179.body.getD .skip, hn179, na179, Tryz.func179, by kernel_rfl, by kernel_rfl⟩
theorem ok191 : FOK Tryz.prog X (theD Tryz.prog X) 191 F191 := ⟨Tryz.f191, Tryz.f191.body.getD .skip, hn191, na191, Tryz.func191, by kernel_rfl, by kernel_rfl⟩
theorem ok203 : FOK Tryz.prog X (theD Tryz.prog X) 203 F203 := ⟨Tryz.f203, Tryz.f203.body.getD .skip, hn203, na203, Tryz.func203, by kernel_rfl, by kernel_rfl⟩
theorem ok208 : FOK Tryz.prog X (theD Tryz.prog X) 208 F208 := ⟨Tryz.f208, Tryz.f208.body.getD .skip, hn208, na208, Tryz.func208, by kernel_rfl, by kernel_rfl⟩
theorem ok237 : FOK Tryz.prog X (theD Tryz.prog X) 237 F237 := ⟨Tryz.f237, Tryz.f237.body.getD .skip, hn237, na237, Tryz.func237, by kernel_rfl, by kernel_rfl⟩
theorem ok263 : FOK Tryz.prog X (theD Tryz.prog X) 263 F263 := ⟨Tryz.f263, Tryz.f263.body.getD .skip, hn263, na263, Tryz.func263, by kernel_rfl, by kernel_rfl⟩
theorem ok281 : FOK Tryz.prog X (theD Tryz.prog X) 281 F281 := ⟨Tryz.f281, Tryz.f281.body.getD .skip, hn281, na281, Tryz.func281, by kernel_rfl, by kernel_rfl⟩
theorem ok321 : FOK Tryz.prog X (theD Tryz.prog X) 321 F321 := ⟨Tryz.f321, Tryz.f321.body.getD .skip, hn321, na321, Tryz.func321, by kernel_rfl, by kernel_rfl⟩
theorem ok368 : FOK Tryz.prog X (theD Tryz.prog X) 368 F368 := ⟨Tryz.f368, Tryz.f368.body.getD .skip, hn368, na368, Tryz.func368, by kernel_rfl, by kernel_rfl⟩
end Go.Proofs.YtcpknphdancjjaaGreatDoor.Ev
