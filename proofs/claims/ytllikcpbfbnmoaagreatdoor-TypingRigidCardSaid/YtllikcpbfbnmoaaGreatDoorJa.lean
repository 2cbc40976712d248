/- Closed facts of the row, the small ones. -/
import Derived.Test.YtllikcpbfbnmoaaGreatDoorRows
import Derived.JoinedOf
import Derived.KernelRfl
set_option maxRecDepth 100000
namespace Go.Proofs.YtllikcpbfbnmoaaGreatDoor
open Go
noncomputable abbrev jP : Program := Tryz.pinned.checked.prog
noncomputable abbrev jF : Func := Tryz.f3
noncomputable abbrev jS : ChangeSpec := Rows.typingRigidSpec
noncomputable abbrev jC : OpenClaim := Rows.typingRigidRow
theorem j0 : (jC.wf (OpenSpec.ofChange jS)) = true := by kernel_rfl
theorem j3 : (jF.params.all (jP.readableRec ·)) = true := by kernel_rfl
theorem j4 : (namedTie jP jC.named jS.vars) = true := by kernel_rfl
theorem j5 : ((jC.stops == [])) = true := by kernel_rfl
theorem j6 : ((jP.stops == [])) = true := by kernel_rfl
theorem j7 : ((jC.knobs == [])) = true := by kernel_rfl
theorem j8 : ((jP.stopKnobs == [])) = true := by kernel_rfl
theorem j13 : ((jC.maps == (jF.params.toList ++ jS.plain.varTypes jP).any (jP.mapsRec ·))) = true := by kernel_rfl
theorem j14 : ((jC.ifaces == (jF.params.toList ++ jS.plain.varTypes jP).any (jP.ifacesRec ·))) = true := by kernel_rfl
theorem j15 : ((jC.mapsOut == jP.mapsAmong jF.resultTypes.toList)) = true := by kernel_rfl
theorem j16 : ((jC.loops == (jF.params.toList ++ jS.plain.varTypes jP).any (jP.loopsFrom ·))) = true := by kernel_rfl
theorem j17 : ((jC.wideKeys == (jF.params.toList ++ jS.plain.varTypes jP ++ jF.resultTypes.toList).any (jP.wideKeysFrom ·))) = true := by kernel_rfl
theorem j18 : (jS.vars.all (jP.varReadable ·)) = true := by kernel_rfl
theorem j19 : (jF.resultTypes.all (fun t => jP.readableRec t && decide (t < jP.types.size))) = true := by kernel_rfl
theorem j20 : ((jC.ifacesOut == jF.resultTypes.toList.any (jP.ifacesRec ·))) = true := by kernel_rfl
theorem j21 : ((jC.loopsOut == jF.resultTypes.toList.any (jP.loopsFrom ·))) = true := by kernel_rfl
theorem j23 : (jC.shortTexts.isNone) = true := by kernel_rfl
theorem j26 : ((jC.lifted == jP.liftsFinal)) = true := by kernel_rfl
theorem j27 : ((jP.make == some jC.make)) = true := by kernel_rfl
theorem j28 : ((jC.kinds == (if jC.domain.isEmpty then [] else jF.params.toList.map fun t => match jP.underlying t with | some (.int k) => some k | _ => none))) = true := by kernel_rfl
theorem j29 : ((jC.pinned == jC.pinnedBy)) = true := by kernel_rfl
theorem j30 : ((jC.veiled == (jF.params.toList ++ jS.plain.varTypes jP ++ jF.resultTypes.toList).any (jP.veiledRec ·))) = true := by kernel_rfl
theorem j31 : (jC.veiledFits jP jF.params.toList (jF.params.toList ++ jS.plain.varTypes jP ++ jF.resultTypes.toList)) = true := by kernel_rfl
def clL : List Nat := [3, 4, 10, 22, 23, 24, 57, 115, 58, 11, 25, 30, 26, 59, 116, 12, 29, 189, 255, 342, 31, 256, 27, 118, 191, 190, 343, 257, 117, 28, 344, 119, 436, 120, 192, 193, 13, 14, 32, 33, 60, 61, 62, 5, 15, 6, 16, 34, 63, 36, 67, 124, 197, 198, 68, 66, 123, 74, 83, 106, 78, 129, 130, 207, 293, 294, 295, 296, 208, 297, 298, 209, 228, 230, 319, 411, 320, 412, 482, 131, 183, 132, 210, 211, 108, 184, 69, 70, 71, 35, 64, 121, 65, 122, 194, 195, 196, 261, 351, 355, 213, 308, 309, 444, 514, 520, 515, 562, 516, 399, 400, 517, 563, 564, 592, 518, 519, 521, 522, 356, 441, 262, 352, 442, 264, 353, 443, 510, 511, 558, 559, 512, 513, 560, 561, 590, 591, 263, 265, 258, 205, 277, 373, 374, 453, 278, 133, 212, 299, 305, 403, 300, 398, 301, 302, 401, 402, 473, 303, 304, 306, 307, 135, 134, 279, 375, 310, 404, 269, 357, 280, 377, 378, 455, 376, 454, 281, 282, 379, 456, 457, 380, 448, 449, 222, 315, 409, 474, 475, 531, 476, 477, 532, 533, 576, 478, 479, 480, 481, 316, 317, 410, 450, 381, 458, 224, 283, 172, 459, 524, 525, 526, 565, 593, 382, 460, 383, 345, 437, 506, 554, 507, 555, 588, 589, 606, 556, 384, 461, 463, 462, 527, 567, 566, 594, 528, 529, 508, 285, 385, 464, 386, 465, 530, 568, 569, 595, 570, 571, 596, 597, 607, 572, 573, 574, 575, 231, 466, 387, 388, 232, 467, 469, 470, 389, 468, 509, 289, 392, 471, 393, 394, 557, 259, 346, 347, 260, 349, 350, 439, 440, 348, 438, 37, 72, 54, 107, 182, 127, 202, 203, 272, 359, 275, 266, 354, 273, 360, 361, 362, 364, 363, 365, 445, 366, 274, 367, 446, 451, 523, 370, 369, 368, 447, 371, 372, 452, 126, 201, 268, 271, 270, 358, 125, 199, 267, 200, 38, 73, 128, 204, 276, 206, 284, 292, 397, 396, 472, 287, 391, 286, 390, 288, 291, 290, 395, 39, 40, 75, 46, 76, 41, 77, 44, 82, 79, 7, 17, 42, 80, 43, 81, 137, 136, 45, 47, 84, 85, 138, 214, 311, 405, 331, 428, 503, 502, 501, 426, 425, 312, 406, 313, 245, 329, 330, 427, 86, 87, 139, 141, 140, 8, 18, 48, 88, 55, 109, 142, 56, 110, 112, 186, 250, 111, 185, 249, 113, 187, 251, 252, 253, 335, 336, 429, 430, 504, 431, 337, 339, 338, 432, 340, 433, 434, 505, 341, 435, 114, 188, 254, 9, 19, 49, 89, 90, 143, 144, 145, 147, 146, 148, 149, 150, 50, 51, 91, 93, 151, 94, 157, 153, 152, 154, 155, 52, 104, 103, 92, 156, 95, 158, 159, 97, 160, 161, 99, 162, 215, 217, 163, 218, 219, 220, 216, 314, 407, 168, 221, 408, 164, 165, 96, 166, 167, 98, 100, 101, 102, 169, 20, 53, 105, 170, 171, 223, 318, 173, 174, 225, 175, 226, 176, 180, 237, 323, 416, 417, 322, 413, 420, 493, 545, 546, 583, 601, 602, 492, 544, 584, 483, 414, 484, 534, 486, 487, 539, 581, 582, 598, 608, 609, 599, 610, 600, 485, 535, 536, 537, 577, 578, 579, 580, 538, 415, 422, 494, 547, 241, 495, 327, 421, 238, 177, 227, 229, 234, 233, 321, 178, 179, 235, 324, 418, 488, 540, 332, 334, 333, 489, 240, 242, 244, 541, 248, 490, 491, 543, 542, 236, 325, 419, 326, 181, 239, 243, 328, 423, 496, 497, 498, 548, 549, 585, 603, 499, 550, 551, 586, 604, 500, 552, 553, 587, 605, 424, 246, 247, 21]
end Go.Proofs.YtllikcpbfbnmoaaGreatDoor
