/- Printed functions are what the program's functions come to, part 6. -/
import Derived.Test.YtllikcpbfbnmoaaGreatDoorFs0
import Derived.Test.YtllikcpbfbnmoaaGreatDoorFs1
import Derived.Test.YtllikcpbfbnmoaaGreatDoorFs2
import Derived.Test.YtllikcpbfbnmoaaGreatDoorProg
import Derived.KernelRfl
set_option maxRecDepth 100000
set_option maxHeartbeats 0
namespace Go.Proofs.YtllikcpbfbnmoaaGreatDoor.Ev
open GoEv
abbrev OK5 (f : Nat) (F : Sm → List V → H → A) : Prop := FOK Tryz.prog X (theD Tryz.prog X) f F
theorem ok16 : OK5 16 F16 := ⟨Tryz.f16, Tryz.f16.body.getD .skip, hn16, na16, Tryz.func16, by kernel_rfl, by kernel_rfl⟩
theorem ok25 : OK5 25 F25 := ⟨Tryz.f25, Tryz.f25.body.getD .skip, hn25, na25, Tryz.func25, by kernel_rfl, by kernel_rfl⟩
theorem ok30 : OK5 30 F30 := ⟨Tryz.f30, Tryz.f30.body.getD .skip, hn30, na30, Tryz.func30, by kernel_rfl, by kernel_rfl⟩
theorem ok37 : OK5 37 F37 := ⟨Tryz.f37, Tryz.f37.body.getD .skip, hn37, na37, Tryz.func37, by kernel_rfl, by kernel_rfl⟩
theorem ok55 : OK5 55 F55 := ⟨Tryz.f55, Tryz.f55.body.getD .skip, hn55, na55, Tryz.func55, by kernel_rfl, by kernel_rfl⟩
theorem ok61 : OK5 61 F61 := ⟨Tryz.f61, Tryz.f61.body.getD .skip, hn61, na61, Tryz.func61, by kernel_rfl, by kernel_rfl⟩
theorem ok65 : OK5 65 F65 := ⟨Tryz.f65, Tryz.f65.body.getD .skip, hn65, na65, Tryz.func65, by kernel_rfl, by kernel_rfl⟩
theorem ok69 : OK5 69 F69 := ⟨Tryz.f69, Tryz.f69.body.getD .skip, hn69, na69, Tryz.func69, by kernel_rfl, by kernel_rfl⟩
theorem ok75 : OK5 75 F75 := ⟨Tryz.f75, Tryz.f75.body.getD .skip, hn75, na75, Tryz.func75, by kernel_rfl, by kernel_rfl⟩
theorem ok79 : OK5 79 F79 := ⟨Tryz.f79, Tryz.f79.body.getD .skip, hn79, na79, Tryz.func79, by kernel_rfl, by kernel_rfl⟩
theorem ok86 : OK5 86 F86 := ⟨Tryz.f86, Tryz.f86.body.getD .skip, hn86, na86, Tryz.func86, by kernel_rfl, by kernel_rfl⟩
theorem ok87 : OK5 87 F87 := ⟨Tryz.f87, Tryz.f87.body.getD .skip, hn87, na87, Tryz.func87, by kernel_rfl, by kernel_rfl⟩
theorem ok90 : OK5 90 F90 := ⟨Tryz.f90, Tryz.f90.body.getD .skip, hn90, na90, Tryz.func90, by kernel_rfl, by kernel_rfl⟩
theorem ok94 : OK5 94 F94 := ⟨Tryz.f94, Tryz.f94.body.getD .skip, hn94, na94, Tryz.func94, by kernel_rfl, by kernel_rfl⟩
theorem ok97 : OK5 97 F97 := ⟨Tryz.f97, Tryz.f97.body.getD .skip, hn97, na97, Tryz.func97, by kernel_rfl, by kernel_rfl⟩
theorem ok106 : OK5 106 F106 := ⟨Tryz.f106, Tryz.f106.body.getD .skip, hn106, na106, Tryz.func106, by kernel_rfl, by kernel_rfl⟩
theorem ok107 : OK5 107 F107 := ⟨Tryz.f107, Tryz.f107.body.getD .skip, hn107, na107, Tryz.func107, by kernel_rfl, by kernel_rfl⟩
theorem ok110 : OK5 110 F110 := ⟨Tryz.f110, Tryz.f110.body.getD .skip, hn110, na110, Tryz.func110, by kernel_rfl, by kernel_rfl⟩
theorem ok112 : OK5 112 F112 := ⟨Tryz.f112, Tryz.f112.body.getD .skip, hn112, na112, Tryz.func112, by kernel_rfl, by kernel_rfl⟩
theorem ok120 : OK5 120 F120 := ⟨Tryz.f120, Tryz.f120.body.getD .skip, hn120, na120, Tryz.func120, by kernel_rfl, by kernel_rfl⟩
theorem ok122 : OK5 122 F122 := ⟨Tryz.f122, Tryz.f122.body.getD .skip, hn122, na122, Tryz.func122, by kernel_rfl, by kernel_rfl⟩
theorem ok124 : OK5 124 F124 := ⟨Tryz.f124, Tryz.f124.body.getD .skip, hn124, na124, Tryz.func124, by kernel_rfl, by kernel_rfl⟩
theorem ok135 : OK5 135 F135 := ⟨Tryz.f135, Tryz.f135.body.getD .skip, hn135, na135, Tryz.func135, by kernel_rfl, by kernel_rfl⟩
theorem ok138 : OK5 138 F138 := ⟨Tryz.f138, Tryz.f138.body.getD .skip, hn138, na138, Tryz.func138, by kernel_rfl, by kernel_rfl⟩
theorem ok184 : OK5 184 F184 := ⟨Tryz.f184, Tryz.f184.body.getD .skip, hn184, na184, Tryz.func184, by kernel_rfl, by kernel_rfl⟩
theorem ok191 : OK5 191 F191 := ⟨Tryz.f191, Tryz.f191.body.getD .skip, hn191, na191, Tryz.func191, by kernel_rfl, by kernel_rfl⟩
theorem ok193 : OK5 193 F193 := ⟨Tryz.f193, Tryz.f193.body.getD .skip, hn193, na193, Tryz.func193, by kernel_rfl, by kernel_rfl⟩
theorem ok194 : OK5 194 F194 := ⟨Tryz.f194, Tryz.f194.body.getD .skip, hn194, na194, Tryz.func194, by kernel_rfl, by kernel_rfl⟩
theorem ok202 : OK5 202 F202 := ⟨Tryz.f202, Tryz.f202.body.getD .skip, hn202, na202, Tryz.func202, by kernel_rfl, by kernel_rfl⟩
theorem ok214 : OK5 214 F214 := ⟨Tryz.f214, Tryz.f214.body.getD .skip, hn214, na214, Tryz.func214, by kernel_rfl, by kernel_rfl⟩
theorem ok230 : OK5 230 F230 := ⟨Tryz.f230, Tryz.f230.body.getD .skip, hn230, na230, Tryz.func230, by kernel_rfl, by kernel_rfl⟩
theorem ok246 : OK5 246 F246 := ⟨Tryz.f246, Tryz.f246.body.getD .skip, hn246, na246, Tryz.func246, by kernel_rfl, by kernel_rfl⟩
theorem ok261 : OK5 261 F261 := ⟨Tryz.f261, Tryz.f261.body.getD .skip, hn261, na261, Tryz.func261, by kernel_rfl, by kernel_rfl⟩
theorem ok262 : OK5 262 F262 := ⟨Tryz.f262, Tryz.f262.body.getD .skip, hn262, na262, Tryz.func262, by kernel_rfl, by kernel_rfl⟩
theorem ok263 : OK5 263 F263 := ⟨Tryz.f263, Tryz.f263.body.getD .skip, hn263, na263, Tryz.func263, by kernel_rfl, by kernel_rfl⟩
theorem ok273 : OK5 273 F273 := ⟨Tryz.f273, Tryz.f273.body.getD .skip, hn273, na273, Tryz.func273, by kernel_rfl, by kernel_rfl⟩
theorem ok277 : OK5 277 F277 := ⟨Tryz.f277, Tryz.f277.body.getD .skip, hn277, na277, Tryz.func277, by kernel_rfl, by kernel_rfl⟩
theorem ok295 : OK5 295 F295 := ⟨Tryz.f295, Tryz.f295.body.getD .skip, hn295, na295, Tryz.func295, by kernel_rfl, by kernel_rfl⟩
theorem ok297 : OK5 297 F297 := ⟨Tryz.f297, Tryz.f297.body.getD .skip, hn297, na297, Tryz.func297, by kernel_rfl, by kernel_rfl⟩
theorem ok310 : OK5 310 F310 := ⟨Tryz.f310, Tryz.f310.body.getD .skip, hn310, na310, Tryz.func310, by kernel_rfl, by kernel_rfl⟩
theorem ok332 : OK5 332 F332 := ⟨Tryz.f332, Tryz.f332.body.getD .skip, hn332, na332, Tryz.func332, by kernel_rfl, by kernel_rfl⟩
theorem ok344 : OK5 344 F344 := ⟨Tryz.f344, Tryz.f344.body.getD .skip, hn344, na344, Tryz.func344, by kernel_rfl, by kernel_rfl⟩
theorem ok346 : OK5 346 F346 := ⟨Tryz.f346, Tryz.f346.body.getD .skip, hn346, na346, Tryz.func346, by kernel_rfl, by kernel_rfl⟩
theorem ok349 : OK5 349 F349 := ⟨Tryz.f349, Tryz.f349.body.getD .skip, hn349, na349, Tryz.func349, by kernel_rfl, by kernel_rfl⟩
theorem ok355 : OK5 355 F355 := ⟨Tryz.f355, Tryz.f355.body.getD .skip, hn355, na355, Tryz.func355, by kernel_rfl, by kernel_rfl⟩
theorem ok364 : OK5 364 F364 := ⟨Tryz.f364, Tryz.f364.body.getD .skip, hn364, na364, Tryz.func364, by kernel_rfl, by kernel_rfl⟩
theorem ok368 : OK5 368 F368 := ⟨Tryz.f368, Tryz.f368.body.getD .skip, hn368, na368, Tryz.func368, by kernel_rfl, by kernel_rfl⟩
theorem ok371 : OK5 371 F371 := ⟨Tryz.f371, Tryz.f371.body.getD .skip, hn371, na371, Tryz.func371, by kernel_rfl, by kernel_rfl⟩
theorem ok372 : OK5 372 F372 := ⟨Tryz.f372, Tryz.f372.body.getD .skip, hn372, na372, Tryz.func372, by kernel_rfl, by kernel_rfl⟩
theorem ok374 : OK5 374 F374 := ⟨Tryz.f374, Tryz.f374.body.getD .skip, hn374, na374, Tryz.func374, by kernel_rfl, by kernel_rfl⟩
theorem ok380 : OK5 380 F380 := ⟨Tryz.f380, Tryz.f380.body.getD .skip, hn380, na380, Tryz.func380, by kernel_rfl, by kernel_rfl⟩
theorem ok386 : OK5 386 F386 := ⟨Tryz.f386, Tryz.f386.body.getD .skip, hn386, na386, Tryz.func386, by kernel_rfl, by kernel_rfl⟩
theorem ok392 : OK5 392 F392 := ⟨Tryz.f392, Tryz.f392.body.getD .skip, hn392, na392, Tryz.func392, by kernel_rfl, by kernel_rfl⟩
theorem ok410 : OK5 410 F410 := ⟨Tryz.f410, Tryz.f410.body.getD .skip, hn410, na410, Tryz.func410, by kernel_rfl, by kernel_rfl⟩
theorem ok417 : OK5 417 F417 := ⟨Tryz.f417, Tryz.f417.body.getD .skip, hn417, na417, Tryz.func417, by kernel_rfl, by kernel_rfl⟩
theorem ok428 : OK5 428 F428 := ⟨Tryz.f428, Tryz.f428.body.getD .skip, hn428, na428, Tryz.func428, by kernel_rfl, by kernel_rfl⟩
theorem ok430 : OK5 430 F430 := ⟨Tryz.f430, Tryz.f430.body.getD .skip, hn430, na430, Tryz.func430, by kernel_rfl, by kernel_rfl⟩
theorem ok431 : OK5 431 F431 := ⟨Tryz.f431, Tryz.f431.body.getD .skip, hn431, na431, Tryz.func431, by kernel_rfl, by kernel_rfl⟩
theorem ok432 : OK5 432 F432 := ⟨Tryz.f432, Tryz.f432.body.getD .skip, hn432, na432, Tryz.func432, by kernel_rfl, by kernel_rfl⟩
theorem ok436 : OK5 436 F436 := ⟨Tryz.f436, Tryz.f436.body.getD .skip, hn436, na436, Tryz.func436, by kernel_rfl, by kernel_rfl⟩
theorem ok438 : OK5 438 F438 := ⟨Tryz.f438, Tryz.f438.body.getD .skip, hn438, na438, Tryz.func438, by kernel_rfl, by kernel_rfl⟩
theorem ok441 : OK5 441 F441 := ⟨Tryz.f441, Tryz.f441.body.getD .skip, hn441, na441, Tryz.func441, by kernel_rfl, by kernel_rfl⟩
theorem ok448 : OK5 448 F448 := ⟨Tryz.f448, Tryz.f448.body.getD .skip, hn448, na448, Tryz.func448, by kernel_rfl, by kernel_rfl⟩
theorem ok449 : OK5 449 F449 := ⟨Tryz.f449, Tryz.f449.body.getD .skip, hn449, na449, Tryz.func449, by kernel_rfl, by kernel_rfl⟩
theorem ok453 : OK5 453 F453 := ⟨Tryz.f453, Tryz.f453.body.getD .skip, hn453, na453, Tryz.func453, by kernel_rfl, by kernel_rfl⟩
theorem ok465 : OK5 465 F465 := ⟨Tryz.f465, Tryz.f465.body.getD .skip, hn465, na465, Tryz.func465, by kernel_rfl, by kernel_rfl⟩
theorem ok474 : OK5 474 F474 := ⟨Tryz.f474, Tryz.f474.body.getD .skip, hn474, na474, Tryz.func474, by kernel_rfl, by kernel_rfl⟩
theorem ok485 : OK5 485 F485 := ⟨Tryz.f485, Tryz.f485.body.getD .skip, hn485, na485, Tryz.func485, by kernel_rfl, by kernel_rfl⟩
theorem ok528 : OK5 528 F528 := ⟨Tryz.f528, Tryz.f528.body.getD .skip, hn528, na528, Tryz.func528, by kernel_rfl, by kernel_rfl⟩
theorem ok544 : OK5 544 F544 := ⟨Tryz.f544, Tryz.f544.body.getD .skip, hn544, na544, Tryz.func544, by kernel_rfl, by kernel_rfl⟩
theorem ok610 : OK5 610 F610 := ⟨Tryz.f610, Tryz.f610.body.getD .skip, hn610, na610, Tryz.func610, by kernel_rfl, by kernel_rfl⟩
end Go.Proofs.YtllikcpbfbnmoaaGreatDoor.Ev
