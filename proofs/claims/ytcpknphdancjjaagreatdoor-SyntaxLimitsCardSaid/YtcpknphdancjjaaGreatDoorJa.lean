/- Closed facts of the row, the small ones. -/
import Derived.Test.YtcpknphdancjjaaGreatDoorRows
import Derived.JoinedOf
import Derived.KernelRfl
set_option maxRecDepth 100000
namespace Go.Proofs.YtcpknphdancjjaaGreatDoor
open Go
noncomputable abbrev jP : Program := Tryz.pinned.checked.prog
noncomputable abbrev jF : Func := Tryz.f3
noncomputable abbrev jS : ChangeSpec := Rows.syntaxLimitsSpec
noncomputable abbrev jC : OpenClaim := Rows.syntaxLimitsRow
theorem j0 : (jC.wf (OpenSpec.ofChange jS)) = true := by kernel_rfl
theorem j3 : (jF.params.all (jP.readableRec ·)) = true := by kernel_rfl
theorem j4 : (namedTie jP jC.named jS.vars) = true := by kernel_rfl
theorem j5 : ((jC.stops == [])) = true := by kernel_rfl
theorem j6 : ((jP.stops == [])) = true := by kernel_rfl
theorem j7 : ((jC.knobs == [])) = true := by kernel_rfl
theorem j8 : ((jP.stopKnobs == [])) = true := by kernel_rfl
theorem j13 : ((jC.maps == (jF.params.toList ++ jS.plain.varTypes jP).any (jP.mapsRec ·))) = true := by kernel_rfl
theorem j14 : ((jC.ifaces == (jF.params.toList ++ jS.plain.varTypes jP).any (jP.ifacesRec ·))) = true := by kernel_rfl
theorem j15 : ((jC.mapsOut == jP.mapsAmong jF.resultTypes.toList)) = true := by kernel_rfl
theorem j16 : ((jC.loops == (jF.params.toList ++ jS.plain.varTypes jP).any (jP.loopsFrom ·))) = true := by kernel_rfl
theorem j17 : ((jC.wideKeys == (jF.params.toList ++ jS.plain.varTypes jP ++ jF.resultTypes.toList).any (jP.wideKeysFrom ·))) = true := by kernel_rfl
theorem j18 : (jS.vars.all (jP.varReadable ·)) = true := by kernel_rfl
theorem j19 : (jF.resultTypes.all (fun t => jP.readableRec t && decide (t < jP.types.size))) = true := by kernel_rfl
theorem j20 : ((jC.ifacesOut == jF.resultTypes.toList.any (jP.ifacesRec ·))) = true := by kernel_rfl
theorem j21 : ((jC.loopsOut == jF.resultTypes.toList.any (jP.loopsFrom ·))) = true := by kernel_rfl
theorem j23 : (jC.shortTexts.isNone) = true := by kernel_rfl
theorem j26 : ((jC.lifted == jP.liftsFinal)) = true := by kernel_rfl
theorem j27 : ((jP.make == some jC.make)) = true := by kernel_rfl
theorem j28 : ((jC.kinds == (if jC.domain.isEmpty then [] else jF.params.toList.map fun t => match jP.underlying t with | some (.int k) => some k | _ => none))) = true := by kernel_rfl
theorem j29 : ((jC.pinned == jC.pinnedBy)) = true := by kernel_rfl
theorem j30 : ((jC.veiled == (jF.params.toList ++ jS.plain.varTypes jP ++ jF.resultTypes.toList).any (jP.veiledRec ·))) = true := by kernel_rfl
theorem j31 : (jC.veiledFits jP jF.params.toList (jF.params.toList ++ jS.plain.varTypes jP ++ jF.resultTypes.toList)) = true := by kernel_rfl
def clL : List Nat := [3, 4, 5, 6, 9, 15, 40, 94, 95, 153, 155, 156, 157, 154, 158, 159, 160, 236, 303, 308, 237, 304, 346, 385, 386, 305, 347, 387, 348, 349, 147, 227, 210, 281, 282, 331, 330, 332, 283, 284, 333, 334, 379, 380, 388, 350, 161, 238, 129, 211, 212, 285, 286, 287, 335, 306, 351, 389, 131, 68, 130, 162, 239, 307, 352, 390, 391, 392, 411, 163, 240, 16, 41, 43, 98, 97, 66, 100, 103, 42, 96, 164, 44, 99, 101, 45, 102, 165, 241, 309, 353, 354, 355, 356, 357, 242, 243, 310, 358, 394, 412, 311, 361, 433, 455, 360, 484, 313, 314, 291, 336, 340, 341, 337, 339, 456, 485, 312, 457, 458, 290, 338, 486, 521, 492, 342, 522, 483, 520, 553, 574, 575, 588, 576, 549, 550, 577, 589, 590, 607, 578, 579, 580, 581, 523, 280, 328, 377, 329, 378, 405, 359, 393, 293, 166, 167, 139, 218, 219, 292, 220, 221, 294, 295, 46, 104, 169, 170, 244, 245, 246, 168, 247, 208, 248, 196, 171, 249, 315, 362, 197, 276, 277, 327, 375, 376, 316, 65, 124, 125, 198, 278, 126, 199, 200, 201, 202, 203, 279, 204, 127, 205, 206, 207, 209, 7, 10, 17, 47, 48, 105, 106, 107, 109, 108, 110, 111, 112, 172, 250, 173, 113, 18, 49, 19, 51, 55, 21, 58, 57, 50, 20, 56, 118, 117, 52, 53, 114, 115, 54, 116, 174, 251, 252, 175, 253, 258, 254, 317, 363, 176, 257, 395, 413, 434, 259, 414, 255, 365, 397, 396, 435, 415, 364, 256, 436, 366, 459, 321, 367, 368, 177, 178, 260, 261, 318, 319, 320, 22, 23, 59, 119, 179, 120, 180, 181, 262, 182, 184, 60, 121, 183, 185, 122, 186, 263, 187, 188, 264, 191, 265, 266, 189, 267, 190, 192, 193, 268, 11, 24, 61, 123, 194, 269, 322, 270, 195, 271, 273, 324, 370, 272, 323, 369, 274, 325, 371, 372, 373, 398, 399, 416, 417, 437, 418, 400, 402, 401, 419, 403, 420, 421, 438, 404, 422, 275, 326, 374, 25, 62, 63, 64, 8, 12, 26, 13, 27, 67, 128, 30, 69, 132, 32, 70, 133, 71, 72, 73, 134, 74, 135, 35, 75, 36, 84, 144, 224, 298, 345, 225, 299, 226, 300, 145, 146, 148, 149, 228, 229, 28, 76, 137, 216, 138, 217, 77, 38, 230, 301, 136, 213, 86, 150, 151, 231, 302, 232, 87, 152, 233, 234, 235, 214, 215, 288, 289, 29, 78, 79, 140, 222, 296, 343, 381, 297, 344, 382, 383, 384, 409, 432, 452, 482, 511, 517, 512, 548, 513, 514, 551, 552, 573, 515, 516, 518, 519, 454, 453, 410, 406, 423, 439, 460, 461, 487, 440, 462, 488, 524, 530, 557, 525, 554, 526, 527, 555, 556, 582, 528, 529, 531, 532, 464, 463, 441, 466, 467, 490, 465, 489, 442, 469, 470, 468, 491, 443, 444, 471, 493, 494, 472, 495, 496, 533, 558, 583, 591, 592, 608, 593, 594, 609, 610, 614, 595, 596, 597, 598, 559, 560, 584, 497, 473, 498, 534, 425, 500, 499, 535, 536, 537, 561, 585, 474, 501, 475, 424, 445, 476, 502, 477, 503, 538, 539, 562, 504, 478, 505, 507, 506, 540, 564, 563, 586, 541, 542, 479, 508, 543, 565, 544, 566, 587, 599, 600, 611, 601, 602, 612, 613, 615, 603, 604, 605, 606, 568, 567, 545, 546, 509, 569, 571, 572, 547, 570, 480, 426, 446, 481, 447, 448, 510, 407, 427, 428, 408, 430, 431, 450, 451, 429, 449, 80, 81, 82, 83, 141, 142, 143, 223, 14, 31, 33, 34, 37, 85, 39, 88, 89, 90, 91, 92, 93]
end Go.Proofs.YtcpknphdancjjaaGreatDoor
