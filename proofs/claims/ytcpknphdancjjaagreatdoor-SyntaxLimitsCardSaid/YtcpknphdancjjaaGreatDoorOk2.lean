/- Printed functions are what the program's functions come to, part 3. -/
import Derived.Test.YtcpknphdancjjaaGreatDoorFs0
import Derived.Test.YtcpknphdancjjaaGreatDoorFs1
import Derived.Test.YtcpknphdancjjaaGreatDoorFs2
import Derived.Test.YtcpknphdancjjaaGreatDoorFs3
import Derived.Test.YtcpknphdancjjaaGreatDoorProg
import Derived.KernelRfl
set_option maxRecDepth 100000
namespace Go.Proofs.YtcpknphdancjjaaGreatDoor.Ev
open GoEv
theorem ok3 : FOK Tryz.prog X (theD Tryz.prog X) 3 F3 := ⟨Tryz.f3, Tryz.f3.body.getD .skip, hn3, na3, Tryz.func3, by kernel_rfl, by kernel_rfl⟩
theorem ok7 : FOK Tryz.prog X (theD Tryz.prog X) 7 F7 := ⟨Tryz.f7, Tryz.f7.body.getD .skip, hn7, na7, Tryz.func7, by kernel_rfl, by kernel_rfl⟩
theorem ok11 : FOK Tryz.prog X (theD Tryz.prog X) 11 F11 := ⟨Tryz.f11, Tryz.f11.body.getD .skip, hn11, na11, Tryz.func11, by kernel_rfl, by kernel_rfl⟩
theorem ok15 : FOK Tryz.prog X (theD Tryz.prog X) 15 F15 := ⟨Tryz.f15, Tryz.f15.body.getD .skip, hn15, na15, Tryz.func15, by kernel_rfl, by kernel_rfl⟩
theorem ok19 : FOK Tryz.prog X (theD Tryz.prog X) 19 F19 := ⟨Tryz.f19, Tryz.f19.body.getD .skip, hn19, na19, Tryz.func19, by kernel_rfl, by kernel_rfl⟩
theorem ok23 : FOK Tryz.prog X (theD Tryz.prog X) 23 F23 := ⟨Tryz.f23, Tryz.f23.body.getD .skip, hn23, na23, Tryz.func23, by kernel_rfl, by kernel_rfl⟩
theorem ok25 : FOK Tryz.prog X (theD Tryz.prog X) 25 F25 := ⟨Tryz.f25, Tryz.f25.body.getD .skip, hn25, na25, Tryz.func25, by kernel_rfl, by kernel_rfl⟩
theorem ok30 : FOK Tryz.prog X (theD Tryz.prog X) 30 F30 := ⟨Tryz.f30, Tryz.f30.body.getD .skip, hn30, na30, Tryz.func30, by kernel_rfl, by kernel_rfl⟩
theorem ok38 : FOK Tryz.prog X (theD Tryz.prog X) 38 F38 := ⟨Tryz.f38, Tryz.f38.body.getD .skip, hn38, na38, Tryz.func38, by kernel_rfl, by kernel_rfl⟩
theorem ok42 : FOK Tryz.prog X (theD Tryz.prog X) 42 F42 := ⟨Tryz.f42, Tryz.f42.body.getD .skip, hn42, na42, Tryz.func42, by kernel_rfl, by kernel_rfl⟩
theorem ok48 : FOK Tryz.prog X (theD Tryz.prog X) 48 F48 := ⟨Tryz.f48, Tryz.f48.body.getD .skip, hn48, na48, Tryz.func48, by kernel_rfl, by kernel_rfl⟩
theorem ok52 : FOK Tryz.prog X (theD Tryz.prog X) 52 F52 := ⟨Tryz.f52, Tryz.f52.body.getD .skip, hn52, na52, Tryz.func52, by kernel_rfl, by kernel_rfl⟩
theorem ok58 : FOK Tryz.prog X (theD Tryz.prog X) 58 F58 := ⟨Tryz.f58, Tryz.f58.body.getD .skip, hn58, na58, Tryz.func58, by kernel_rfl, by kernel_rfl⟩
theorem ok64 : FOK Tryz.prog X (theD Tryz.prog X) 64 F64 := ⟨Tryz.f64, Tryz.f64.body.getD .skip, hn64, na64, Tryz.func64, by kernel_rfl, by kernel_rfl⟩
theorem ok69 : FOK Tryz.prog X (theD Tryz.prog X) 69 F69 := ⟨Tryz.f69, Tryz.f69.body.getD .skip, hn69, na69, Tryz.func69, by kernel_rfl, by kernel_rfl⟩
theorem ok80 : FOK Tryz.prog X (theD Tryz.prog X) 80 F80 := ⟨Tryz.f80, Tryz.f80.body.getD .skip, hn80, na80, Tryz.func80, by kernel_rfl, by kernel_rfl⟩
theorem ok85 : FOK Tryz.prog X (theD Tryz.prog X) 85 F85 := ⟨Tryz.f85, Tryz.f85.body.getD .skip, hn85, na85, Tryz.func85, by kernel_rfl, by kernel_rfl⟩
theorem ok90 : FOK Tryz.prog X (theD Tryz.prog X) 90 F90 := ⟨Tryz.f90, Tryz.f90.body.getD .skip, hn90, na90, Tryz.func90, by kernel_rfl, by kernel_rfl⟩
theorem ok94 : FOK Tryz.prog X (theD Tryz.prog X) 94 F94 := ⟨Tryz.f94, Tryz.f94.body.getD .skip, hn94, na94, Tryz.func94, by kernel_rfl, by kernel_rfl⟩
theorem ok98 : FOK Tryz.prog X (theD Tryz.prog X) 98 F98 := ⟨Tryz.f98, Tryz.f98.body.getD .skip, hn98, na98, Tryz.func98, by kernel_rfl, by kernel_rfl⟩
theorem ok105 : FOK Tryz.prog X (theD Tryz.prog X) 105 F105 := ⟨Tryz.f105, Tryz.f105.body.getD .skip, hn105, na105, Tryz.func105, by kernel_rfl, by kernel_rfl⟩
theorem ok109 : FOK Tryz.prog X (theD Tryz.prog X) 109 F109 := ⟨Tryz.f109, Tryz.f109.body.getD .skip, hn109, na109, Tryz.func109, by kernel_rfl, by kernel_rfl⟩
theorem ok118 : FOK Tryz.prog X (theD Tryz.prog X) 118 F118 := ⟨Tryz.f118, Tryz.f118.body.getD .skip, hn118, na118, Tryz.func118, by kernel_rfl, by kernel_rfl⟩
theorem ok124 : FOK Tryz.prog X (theD Tryz.prog X) 124 F124 := ⟨Tryz.f124, Tryz.f124.body.getD .skip, hn124, na124, Tryz.func124, by kernel_rfl, by kernel_rfl⟩
theorem ok132 : FOK Tryz.prog X (theD Tryz.prog X) 132 F132 := ⟨Tryz.f132, Tryz.f132.body.getD .skip, hn132, na132, Tryz.func132, by kernel_rfl, by kernel_rfl⟩
theorem ok142 : FOK Tryz.prog X (theD Tryz.prog X) 142 F142 := ⟨Tryz.f142, Tryz.f142.body.getD .skip, hn142, na142, Tryz.func142, by kernel_rfl, by kernel_rfl⟩
theorem ok153 : FOK Tryz.prog X (theD Tryz.prog X) 153 F153 := ⟨Tryz.f153, Tryz.f153.body.getD .skip, hn153, na153, Tryz.func153, by kernel_rfl, by kernel_rfl⟩
theorem ok157 : FOK Tryz.prog X (theD Tryz.prog X) 157 F157 := ⟨Tryz.f157, Tryz.f157.body.getD .skip, hn157, na157, Tryz.func157, by kernel_rfl, by kernel_rfl⟩
theorem ok163 : FOK Tryz.prog X (theD Tryz.prog X) 163 F163 := ⟨Tryz.f163, Tryz.f163.body.getD .skip, hn163, na163, Tryz.func163, by kernel_rfl, by kernel_rfl⟩
theorem ok170 : FOK Tryz.prog X (theD Tryz.prog X) 170 F170 := ⟨Tryz.f170, Tryz.f170.body.getD .skip, hn170, na170, Tryz.func170, by kernel_rfl, by kernel_rfl⟩
theorem ok187 : FOK Tryz.prog X (theD Tryz.prog X) 187 F187 := ⟨Tryz.f187, Tryz.f187.body.getD .skip, hn187, na187, Tryz.func187, by kernel_rfl, by kernel_rfl⟩
theorem ok196 : FOK Tryz.prog X (theD Tryz.prog X) 196 F196 := ⟨Tryz.f196, Tryz.f196.body.getD .skip, hn196, na196, Tryz.func196, by kernel_rfl, by kernel_rfl⟩
theorem ok206 : FOK Tryz.prog X (theD Tryz.prog X) 206 F206 := ⟨Tryz.f206, Tryz.f206.body.getD .skip, hn206, na206, Tryz.func206, by kernel_rfl, by kernel_rfl⟩
theorem ok223 : FOK Tryz.prog X (theD Tryz.prog X) 223 F223 := ⟨Tryz.f223, Tryz.f223.body.getD .skip, hn223, na223, Tryz.func223, by kernel_rfl, by kernel_rfl⟩
theorem ok244 : FOK Tryz.prog X (theD Tryz.prog X) 244 F244 := ⟨Tryz.f244, Tryz.f244.body.getD .skip, hn244, na244, Tryz.func244, by kernel_rfl, by kernel_rfl⟩
theorem ok279 : FOK Tryz.prog X (theD Tryz.prog X) 279 F279 := ⟨Tryz.f279, Tryz.f279.body.getD .skip, hn279, na279, Tryz.func279, by kernel_rfl, by kernel_rfl⟩
theorem ok304 : FOK Tryz.prog X (theD Tryz.prog X) 304 F304 := ⟨Tryz.f304, Tryz.f304.body.getD .skip, hn304, na304, Tryz.func304, by kernel_rfl, by kernel_rfl⟩
theorem ok329 : FOK Tryz.prog X (theD Tryz.prog X) 329 F329 := ⟨Tryz.f329, Tryz.f329.body.getD .skip, hn329, na329, Tryz.func329, by kernel_rfl, by kernel_rfl⟩
theorem ok378 : FOK Tryz.prog X (theD Tryz.prog X) 378 F378 := ⟨Tryz.f378, Tryz.f378.body.getD .skip, hn378, na378, Tryz.func378, by kernel_rfl, by kernel_rfl⟩
end Go.Proofs.YtcpknphdancjjaaGreatDoor.Ev
