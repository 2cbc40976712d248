/- Printed functions are what the program's functions come to, part 4. -/
import Derived.Test.YtcpknphdancjjaaGreatDoorFs0
import Derived.Test.YtcpknphdancjjaaGreatDoorFs1
import Derived.Test.YtcpknphdancjjaaGreatDoorFs2
import Derived.Test.YtcpknphdancjjaaGreatDoorFs3
import Derived.Test.YtcpknphdancjjaaGreatDoorProg
import Derived.KernelRfl
set_option maxRecDepth 100000
namespace Go.Proofs.YtcpknphdancjjaaGreatDoor.Ev
open GoEv
theorem ok4 : FOK Tryz.prog X (theD Tryz.prog X) 4 F4 := ⟨Tryz.f4, Tryz.f4.body.getD .skip, hn4, na4, Tryz.func4, by kernel_rfl, by kernel_rfl⟩
theorem ok8 : FOK Tryz.prog X (theD Tryz.prog X) 8 F8 := ⟨Tryz.f8, Tryz.f8.body.getD .skip, hn8, na8, Tryz.func8, by kernel_rfl, by kernel_rfl⟩
theorem ok12 : FOK Tryz.prog X (theD Tryz.prog X) 12 F12 := ⟨Tryz.f12, Tryz.f12.body.getD .skip, hn12, na12, Tryz.func12, by kernel_rfl, by kernel_rfl⟩
theorem ok16 : FOK Tryz.prog X (theD Tryz.prog X) 16 F16 := ⟨Tryz.f16, Tryz.f16.body.getD .skip, hn16, na16, Tryz.func16, by kernel_rfl, by kernel_rfl⟩
theorem ok20 : FOK Tryz.prog X (theD Tryz.prog X) 20 F20 := ⟨Tryz.f20, Tryz.f20.body.getD .skip, hn20, na20, Tryz.func20, by kernel_rfl, by kernel_rfl⟩
theorem ok26 : FOK Tryz.prog X (theD Tryz.prog X) 26 F26 := ⟨Tryz.f26, Tryz.f26.body.getD .skip, hn26, na26, Tryz.func26, by kernel_rfl, by kernel_rfl⟩
theorem ok31 : FOK Tryz.prog X (theD Tryz.prog X) 31 F31 := ⟨Tryz.f31, Tryz.f31.body.getD .skip, hn31, na31, Tryz.func31, by kernel_rfl, by kernel_rfl⟩
theorem ok39 : FOK Tryz.prog X (theD Tryz.prog X) 39 F39 := ⟨Tryz.f39, Tryz.f39.body.getD .skip, hn39, na39, Tryz.func39, by kernel_rfl, by kernel_rfl⟩
theorem ok43 : FOK Tryz.prog X (theD Tryz.prog X) 43 F43 := ⟨Tryz.f43, Tryz.f43.body.getD .skip, hn43, na43, Tryz.func43, by kernel_rfl, by kernel_rfl⟩
theorem ok49 : FOK Tryz.prog X (theD Tryz.prog X) 49 F49 := ⟨Tryz.f49, Tryz.f49.body.getD .skip, hn49, na49, Tryz.func49, by kernel_rfl, by kernel_rfl⟩
theorem ok55 : FOK Tryz.prog X (theD Tryz.prog X) 55 F55 := ⟨Tryz.f55, Tryz.f55.body.getD .skip, hn55, na55, Tryz.func55, by kernel_rfl, by kernel_rfl⟩
theorem ok59 : FOK Tryz.prog X (theD Tryz.prog X) 59 F59 := ⟨Tryz.f59, Tryz.f59.body.getD .skip, hn59, na59, Tryz.func59, by kernel_rfl, by kernel_rfl⟩
theorem ok65 : FOK Tryz.prog X (theD Tryz.prog X) 65 F65 := ⟨Tryz.f65, Tryz.f65.body.getD .skip, hn65, na65, Tryz.func65, by kernel_rfl, by kernel_rfl⟩
theorem ok76 : FOK Tryz.prog X (theD Tryz.prog X) 76 F76 := ⟨Tryz.f76, Tryz.f76.body.getD .skip, hn76, na76, Tryz.func76, by kernel_rfl, by kernel_rfl⟩
theorem ok81 : FOK Tryz.prog X (theD Tryz.prog X) 81 F81 := ⟨Tryz.f81, Tryz.f81.body.getD .skip, hn81, na81, Tryz.func81, by kernel_rfl, by kernel_rfl⟩
theorem ok86 : FOK Tryz.prog X (theD Tryz.prog X) 86 F86 := ⟨Tryz.f86, Tryz.f86.body.getD .skip, hn86, na86, Tryz.func86, by kernel_rfl, by kernel_rfl⟩
theorem ok91 : FOK Tryz.prog X (theD Tryz.prog X) 91 F91 := ⟨Tryz.f91, Tryz.f91.body.getD .skip, hn91, na91, Tryz.func91, by kernel_rfl, by kernel_rfl⟩
theorem ok95 : FOK Tryz.prog X (theD Tryz.prog X) 95 F95 := ⟨Tryz.f95, Tryz.f95.body.getD .skip, hn95, na95, Tryz.func95, by kernel_rfl, by kernel_rfl⟩
theorem ok100 : FOK Tryz.prog X (theD Tryz.prog X) 100 F100 := ⟨Tryz.f100, Tryz.f100.body.getD .skip, hn100, na100, Tryz.func100, by kernel_rfl, by kernel_rfl⟩
theorem ok106 : FOK Tryz.prog X (theD Tryz.prog X) 106 F106 := ⟨Tryz.f106, Tryz.f106.body.getD .skip, hn106, na106, Tryz.func106, by kernel_rfl, by kernel_rfl⟩
theorem ok110 : FOK Tryz.prog X (theD Tryz.prog X) 110 F110 := ⟨Tryz.f110, Tryz.f110.body.getD .skip, hn110, na110, Tryz.func110, by kernel_rfl, by kernel_rfl⟩
theorem ok119 : FOK Tryz.prog X (theD Tryz.prog X) 119 F119 := ⟨Tryz.f119, Tryz.f119.body.getD .skip, hn119, na119, Tryz.func119, by kernel_rfl, by kernel_rfl⟩
theorem ok126 : FOK Tryz.prog X (theD Tryz.prog X) 126 F126 := ⟨Tryz.f126, Tryz.f126.body.getD .skip, hn126, na126, Tryz.func126, by kernel_rfl, by kernel_rfl⟩
theorem ok137 : FOK Tryz.prog X (theD Tryz.prog X) 137 F137 := ⟨Tryz.f137, Tryz.f137.body.getD .skip, hn137, na137, Tryz.func137, by kernel_rfl, by kernel_rfl⟩
theorem ok143 : FOK Tryz.prog X (theD Tryz.prog X) 143 F143 := ⟨Tryz.f143, Tryz.f143.body.getD .skip, hn143, na143, Tryz.func143, by kernel_rfl, by kernel_rfl⟩
theorem ok154 : FOK Tryz.prog X (theD Tryz.prog X) 154 F154 := ⟨Tryz.f154, Tryz.f154.body.getD .skip, hn154, na154, Tryz.func154, by kernel_rfl, by kernel_rfl⟩
theorem ok158 : FOK Tryz.prog X (theD Tryz.prog X) 158 F158 := ⟨Tryz.f158, Tryz.f158.body.getD .skip, hn158, na158, Tryz.func158, by kernel_rfl, by kernel_rfl⟩
theorem ok164 : FOK Tryz.prog X (theD Tryz.prog X) 164 F164 := ⟨Tryz.f164, Tryz.f164.body.getD .skip, hn164, na164, Tryz.func164, by kernel_rfl, by kernel_rfl⟩
theorem ok171 : FOK Tryz.prog X (theD Tryz.prog X) 171 F171 := ⟨Tryz.f171, Tryz.f171.body.getD .skip, hn171, na171, Tryz.func171, by kernel_rfl, by kernel_rfl⟩
theorem ok188 : FOK Tryz.prog X (theD Tryz.prog X) 188 F188 := ⟨Tryz.f188, Tryz.f188.body.getD .skip, hn188, na188, Tryz.func188, by kernel_rfl, by kernel_rfl⟩
theorem ok197 : FOK Tryz.prog X (theD Tryz.prog X) 197 F197 := ⟨Tryz.f197, Tryz.f197.body.getD .skip, hn197, na197, Tryz.func197, by kernel_rfl, by kernel_rfl⟩
theorem ok207 : FOK Tryz.prog X (theD Tryz.prog X) 207 F207 := ⟨Tryz.f207, Tryz.f207.body.getD .skip, hn207, na207, Tryz.func207, by kernel_rfl, by kernel_rfl⟩
theorem ok236 : FOK Tryz.prog X (theD Tryz.prog X) 236 F236 := ⟨Tryz.f236, Tryz.f236.body.getD .skip, hn236, na236, Tryz.func236, by kernel_rfl, by kernel_rfl⟩
theorem ok262 : FOK Tryz.prog X (theD Tryz.prog X) 262 F262 := ⟨Tryz.f262, Tryz.f262.body.getD .skip, hn262, na262, Tryz.func262, by kernel_rfl, by kernel_rfl⟩
theorem ok280 : FOK Tryz.prog X (theD Tryz.prog X) 280 F280 := ⟨Tryz.f280, Tryz.f280.body.getD .skip, hn280, na280, Tryz.func280, by kernel_rfl, by kernel_rfl⟩
theorem ok308 : FOK Tryz.prog X (theD Tryz.prog X) 308 F308 := ⟨Tryz.f308, Tryz.f308.body.getD .skip, hn308, na308, Tryz.func308, by kernel_rfl, by kernel_rfl⟩
theorem ok346 : FOK Tryz.prog X (theD Tryz.prog X) 346 F346 := ⟨Tryz.f346, Tryz.f346.body.getD .skip, hn346, na346, Tryz.func346, by kernel_rfl, by kernel_rfl⟩
end Go.Proofs.YtcpknphdancjjaaGreatDoor.Ev
