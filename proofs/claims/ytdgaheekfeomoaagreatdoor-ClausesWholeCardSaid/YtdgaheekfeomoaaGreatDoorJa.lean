/- Closed facts of the row, the small ones. -/
import Derived.Test.YtdgaheekfeomoaaGreatDoorRows
import Derived.JoinedOf
import Derived.KernelRfl
set_option maxRecDepth 100000
namespace Go.Proofs.YtdgaheekfeomoaaGreatDoor
open Go
noncomputable abbrev jP : Program := Tryz.pinned.checked.prog
noncomputable abbrev jF : Func := Tryz.f3
noncomputable abbrev jS : ChangeSpec := Rows.clausesWholeSpec
noncomputable abbrev jC : OpenClaim := Rows.clausesWholeRow
theorem j0 : (jC.wf (OpenSpec.ofChange jS)) = true := by kernel_rfl
theorem j3 : (jF.params.all (jP.readableRec ·)) = true := by kernel_rfl
theorem j4 : (namedTie jP jC.named jS.vars) = true := by kernel_rfl
theorem j5 : ((jC.stops == [])) = true := by kernel_rfl
theorem j6 : ((jP.stops == [])) = true := by kernel_rfl
theorem j7 : ((jC.knobs == [])) = true := by kernel_rfl
theorem j8 : ((jP.stopKnobs == [])) = true := by kernel_rfl
theorem j13 : ((jC.maps == (jF.params.toList ++ jS.plain.varTypes jP).any (jP.mapsRec ·))) = true := by kernel_rfl
theorem j14 : ((jC.ifaces == (jF.params.toList ++ jS.plain.varTypes jP).any (jP.ifacesRec ·))) = true := by kernel_rfl
theorem j15 : ((jC.mapsOut == jP.mapsAmong jF.resultTypes.toList)) = true := by kernel_rfl
theorem j16 : ((jC.loops == (jF.params.toList ++ jS.plain.varTypes jP).any (jP.loopsFrom ·))) = true := by kernel_rfl
theorem j17 : ((jC.wideKeys == (jF.params.toList ++ jS.plain.varTypes jP ++ jF.resultTypes.toList).any (jP.wideKeysFrom ·))) = true := by kernel_rfl
theorem j18 : (jS.vars.all (jP.varReadable ·)) = true := by kernel_rfl
theorem j19 : (jF.resultTypes.all (fun t => jP.readableRec t && decide (t < jP.types.size))) = true := by kernel_rfl
theorem j20 : ((jC.ifacesOut == jF.resultTypes.toList.any (jP.ifacesRec ·))) = true := by kernel_rfl
theorem j21 : ((jC.loopsOut == jF.resultTypes.toList.any (jP.loopsFrom ·))) = true := by kernel_rfl
theorem j23 : (jC.shortTexts.isNone) = true := by kernel_rfl
theorem j26 : ((jC.lifted == jP.liftsFinal)) = true := by kernel_rfl
theorem j27 : ((jP.make == some jC.make)) = true := by kernel_rfl
theorem j28 : ((jC.kinds == (if jC.domain.isEmpty then [] else jF.params.toList.map fun t => match jP.underlying t with | some (.int k) => some k | _ => none))) = true := by kernel_rfl
theorem j29 : ((jC.pinned == jC.pinnedBy)) = true := by kernel_rfl
theorem j30 : ((jC.veiled == (jF.params.toList ++ jS.plain.varTypes jP ++ jF.resultTypes.toList).any (jP.veiledRec ·))) = true := by kernel_rfl
theorem j31 : (jC.veiledFits jP jF.params.toList (jF.params.toList ++ jS.plain.varTypes jP ++ jF.resultTypes.toList)) = true := by kernel_rfl
def clL : List Nat := [3, 4, 9, 10, 22, 23, 24, 25, 45, 11, 6, 12, 13, 26, 7, 5, 8, 14, 27, 46, 90, 91, 156, 157, 158, 160, 159, 161, 162, 163, 246, 322, 247, 164, 47, 92, 48, 94, 98, 50, 101, 100, 93, 49, 99, 169, 168, 95, 96, 165, 166, 97, 167, 248, 350, 351, 249, 352, 357, 353, 432, 497, 250, 356, 523, 546, 557, 358, 547, 354, 215, 323, 321, 558, 548, 214, 355, 559, 216, 563, 87, 85, 86, 251, 252, 359, 68, 133, 134, 135, 51, 52, 102, 170, 253, 171, 254, 255, 360, 256, 258, 103, 172, 257, 259, 173, 260, 361, 261, 262, 362, 265, 363, 364, 263, 365, 264, 266, 267, 366, 17, 36, 16, 34, 35, 69, 15, 28, 53, 104, 119, 194, 195, 220, 326, 327, 328, 329, 293, 379, 380, 294, 207, 331, 418, 489, 325, 417, 488, 175, 176, 196, 295, 296, 117, 113, 105, 174, 106, 112, 56, 110, 111, 183, 273, 186, 177, 268, 184, 274, 269, 145, 234, 235, 367, 433, 439, 434, 498, 435, 336, 337, 436, 499, 500, 524, 437, 438, 440, 441, 270, 275, 211, 317, 414, 480, 481, 520, 482, 483, 521, 522, 545, 484, 485, 486, 487, 318, 319, 415, 276, 278, 277, 271, 279, 368, 369, 442, 180, 280, 185, 281, 370, 375, 443, 284, 283, 372, 373, 374, 282, 371, 285, 286, 376, 55, 109, 179, 182, 181, 272, 54, 107, 178, 108, 29, 40, 64, 121, 200, 201, 305, 391, 392, 306, 393, 307, 74, 75, 144, 225, 231, 340, 226, 335, 227, 228, 338, 339, 422, 229, 230, 232, 233, 143, 57, 58, 114, 188, 187, 190, 116, 62, 118, 77, 151, 238, 239, 341, 423, 424, 147, 236, 342, 115, 189, 191, 192, 127, 60, 61, 287, 288, 289, 377, 444, 445, 130, 290, 291, 378, 446, 67, 30, 128, 212, 320, 416, 141, 142, 33, 129, 193, 292, 59, 66, 126, 210, 131, 132, 213, 31, 63, 120, 197, 198, 199, 300, 388, 454, 301, 389, 455, 303, 390, 456, 506, 507, 529, 530, 508, 509, 531, 532, 551, 552, 302, 304, 297, 309, 394, 457, 458, 510, 395, 396, 459, 397, 461, 462, 149, 460, 511, 398, 399, 463, 512, 513, 464, 465, 514, 515, 533, 534, 535, 553, 561, 466, 516, 467, 381, 447, 501, 525, 502, 526, 549, 550, 560, 527, 310, 400, 402, 401, 468, 518, 517, 536, 469, 470, 503, 315, 408, 472, 409, 473, 519, 537, 538, 554, 539, 540, 555, 556, 562, 541, 542, 543, 544, 475, 474, 410, 411, 476, 478, 479, 412, 477, 504, 382, 448, 505, 449, 450, 528, 298, 383, 384, 299, 386, 387, 452, 453, 385, 451, 32, 65, 122, 202, 308, 203, 204, 311, 404, 403, 471, 205, 312, 405, 407, 406, 314, 313, 123, 206, 124, 125, 208, 316, 413, 209, 224, 19, 18, 37, 70, 136, 217, 38, 71, 137, 218, 219, 324, 221, 330, 222, 332, 333, 419, 490, 420, 491, 492, 493, 334, 421, 494, 138, 223, 39, 72, 139, 140, 73, 41, 76, 146, 148, 150, 237, 20, 42, 78, 43, 79, 81, 153, 241, 80, 152, 240, 82, 154, 242, 243, 244, 343, 344, 425, 426, 495, 427, 345, 347, 346, 428, 348, 429, 430, 496, 349, 431, 83, 155, 245, 21, 44, 84, 88, 89]
end Go.Proofs.YtdgaheekfeomoaaGreatDoor
