/-
  The road of the law: the functions that it calls, the variables that they name; and the closed facts of the row, one by one. (No statement of the claim's own is proved here.)
-/
import Derived.Test.YtdkbkilgmmenkaaGreatDoorRows
import Derived.WalkKit
import Derived.ProofKit
import Derived.Test.YtdkbkilgmmenkaaGreatDoorTab
set_option linter.all false
namespace Go.Proofs.YtdkbkilgmmenkaaGreatDoor
open Go Go.Am
open Go.ChangeShapes Go.WideShapes Go.ChangeAt
def road : List Nat := [3, 4, 9, 7, 12, 18, 5, 10, 11, 13, 19, 47, 14, 15, 16, 20, 48, 100, 211, 249, 250, 404, 403, 405, 251, 252, 406, 407, 549, 550, 21, 22, 49, 101, 212, 367, 497, 621, 679, 368, 369, 370, 371, 498, 372, 102, 104, 213, 221, 103, 214, 105, 215, 373, 499, 622, 680, 699, 694, 693, 702, 704, 623, 171, 309, 452, 286, 141, 305, 448, 494, 434, 449, 140, 287, 588, 589, 590, 464, 591, 592, 163, 138, 285, 433, 306, 185, 325, 326, 304, 374, 500, 624, 216, 217, 375, 106, 218, 219, 220, 107, 108, 222, 223, 376, 501, 179, 283, 377, 164, 378, 502, 469, 224, 379, 503, 466, 225, 380, 381, 504, 471, 382, 505, 506, 226, 227, 383, 384, 366, 228, 386, 385, 281, 432, 387, 229, 389, 388, 391, 390, 230, 392, 460, 393, 23, 50, 110, 96, 121, 255, 408, 256, 409, 122, 115, 109, 231, 111, 113, 66, 139, 288, 289, 435, 436, 437, 576, 438, 577, 663, 578, 664, 692, 112, 232, 394, 114, 51, 116, 233, 24, 52, 117, 234, 235, 244, 239, 321, 208, 360, 359, 485, 491, 619, 486, 614, 487, 615, 616, 488, 617, 618, 677, 489, 490, 492, 493, 395, 507, 625, 626, 681, 627, 628, 682, 683, 700, 629, 630, 631, 632, 396, 238, 398, 516, 236, 397, 508, 509, 633, 510, 511, 634, 635, 684, 512, 513, 514, 515, 237, 240, 399, 517, 518, 636, 519, 520, 637, 638, 685, 521, 522, 523, 524, 241, 242, 400, 525, 526, 639, 527, 528, 640, 641, 686, 529, 530, 531, 532, 243, 245, 401, 533, 534, 642, 535, 536, 643, 644, 687, 537, 538, 539, 540, 246, 247, 402, 541, 542, 645, 543, 544, 646, 647, 688, 545, 546, 547, 548, 248, 54, 53, 118, 55, 119, 253, 254, 120, 25, 56, 73, 97, 26, 57, 123, 178, 319, 320, 461, 595, 596, 597, 462, 598, 463, 124, 134, 279, 431, 280, 257, 410, 58, 125, 152, 258, 128, 269, 68, 151, 153, 154, 295, 155, 296, 307, 450, 451, 166, 297, 167, 298, 299, 156, 300, 157, 301, 259, 411, 172, 310, 453, 311, 312, 454, 173, 313, 315, 412, 495, 620, 678, 413, 414, 551, 553, 648, 649, 650, 651, 552, 419, 415, 554, 416, 555, 126, 260, 417, 418, 556, 261, 420, 263, 262, 421, 264, 422, 455, 557, 652, 558, 559, 653, 654, 689, 560, 561, 562, 563, 265, 268, 424, 425, 267, 423, 266, 59, 27, 60, 127, 129, 270, 426, 564, 655, 565, 656, 130, 291, 353, 445, 690, 657, 658, 351, 457, 566, 271, 427, 567, 659, 272, 28, 61, 131, 273, 275, 274, 428, 429, 132, 276, 277, 430, 568, 569, 660, 570, 571, 661, 662, 691, 572, 573, 574, 575, 278, 63, 62, 29, 64, 133, 181, 65, 135, 282, 137, 284, 190, 343, 136, 30, 67, 142, 143, 290, 439, 440, 441, 442, 579, 443, 580, 444, 581, 582, 665, 695, 696, 701, 703, 583, 584, 586, 587, 585, 666, 145, 150, 146, 148, 294, 147, 144, 292, 293, 149, 31, 69, 158, 159, 302, 446, 303, 447, 70, 160, 162, 161, 71, 165, 168, 308, 72, 169, 170, 74, 75, 32, 76, 175, 174, 314, 456, 593, 667, 177, 317, 316, 318, 458, 459, 594, 668, 176, 33, 77, 180, 78, 182, 322, 183, 323, 324, 184, 79, 34, 80, 186, 327, 329, 467, 468, 470, 330, 472, 328, 465, 187, 331, 473, 599, 669, 603, 478, 670, 474, 600, 604, 671, 672, 697, 605, 332, 475, 333, 476, 477, 479, 602, 601, 673, 334, 335, 336, 337, 338, 480, 606, 607, 674, 608, 609, 675, 676, 698, 610, 611, 612, 613, 339, 35, 81, 188, 340, 341, 189, 342, 191, 344, 345, 346, 481, 82, 192, 347, 482, 348, 483, 36, 83, 193, 37, 85, 194, 90, 195, 84, 89, 38, 86, 39, 87, 40, 88, 91, 196, 92, 41, 93, 197, 349, 350, 198, 42, 94, 199, 352, 200, 201, 354, 43, 44, 95, 205, 204, 356, 203, 355, 484, 202, 206, 207, 357, 358, 210, 365, 209, 361, 362, 363, 364, 496, 45, 98, 46, 99, 17, 8, 6]
theorem road_bfs : bfs tab (1 + (tab.map fun x => x.1.length + 1).sum) [3] 0 [] = road := by kernel_rfl
theorem road_eq : Tryz.prog.closure 3 = road := closure_of tabs 3 road_bfs
theorem road_flags : (road.filter fun g => (tab[g]?).any (·.2.1)) = [679, 694, 408, 409, 516, 458] := by kernel_rfl
theorem road_vars : (road.flatMap fun g => (tab[g]?).elim [] (·.2.2.1)) = [0, 2, 3, 1, 1, 1, 4, 5] := by kernel_rfl
theorem road_unf : (road.any fun g => (tab[g]?).any (·.2.2.2)) = true := by kernel_rfl
theorem unf : Tryz.prog.unfollowed 3 = true := unfollowed_of tabs 3 road_eq road_unf
theorem rec3 : Tryz.prog.recurses 3 = true := recurses_of 3 unf
theorem jf1 : Rows.consoleNilRow.wf (OpenSpec.ofChange Rows.consoleNilSpec) = true := by kernel_rfl
theorem tysz : Tryz.prog.types.size = 739 := by kernel_rfl
theorem lay0 : (((List.range 739).drop 0).take 60).all (rowFine Tryz.prog) = true := by kernel_rfl
theorem lay1 : (((List.range 739).drop 60).take 60).all (rowFine Tryz.prog) = true := by kernel_rfl
theorem lay2 : (((List.range 739).drop 120).take 60).all (rowFine Tryz.prog) = true := by kernel_rfl
theorem lay3 : (((List.range 739).drop 180).take 60).all (rowFine Tryz.prog) = true := by kernel_rfl
theorem lay4 : (((List.range 739).drop 240).take 60).all (rowFine Tryz.prog) = true := by kernel_rfl
theorem lay5 : (((List.range 739).drop 300).take 60).all (rowFine Tryz.prog) = true := by kernel_rfl
theorem lay6 : (((List.range 739).drop 360).take 60).all (rowFine Tryz.prog) = true := by kernel_rfl
theorem lay7 : (((List.range 739).drop 420).take 60).all (rowFine Tryz.prog) = true := by kernel_rfl
theorem lay8 : (((List.range 739).drop 480).take 60).all (rowFine Tryz.prog) = true := by kernel_rfl
theorem lay9 : (((List.range 739).drop 540).take 60).all (rowFine Tryz.prog) = true := by kernel_rfl
theorem lay10 : (((List.range 739).drop 600).take 60).all (rowFine Tryz.prog) = true := by kernel_rfl
theorem lay11 : (((List.range 739).drop 660).take 60).all (rowFine Tryz.prog) = true := by kernel_rfl
theorem lay12 : (((List.range 739).drop 720).take 60).all (rowFine Tryz.prog) = true := by kernel_rfl
theorem layend : ((List.range 739).drop 780).all (rowFine Tryz.prog) = true := by kernel_rfl
theorem lays : (List.range 739).all (rowFine Tryz.prog) = true := drop_zero_all _ _ (drop_all' (rowFine Tryz.prog) (List.range 739) 0 60 60 rfl lay0 (drop_all' (rowFine Tryz.prog) (List.range 739) 60 60 120 rfl lay1 (drop_all' (rowFine Tryz.prog) (List.range 739) 120 60 180 rfl lay2 (drop_all' (rowFine Tryz.prog) (List.range 739) 180 60 240 rfl lay3 (drop_all' (rowFine Tryz.prog) (List.range 739) 240 60 300 rfl lay4 (drop_all' (rowFine Tryz.prog) (List.range 739) 300 60 360 rfl lay5 (drop_all' (rowFine Tryz.prog) (List.range 739) 360 60 420 rfl lay6 (drop_all' (rowFine Tryz.prog) (List.range 739) 420 60 480 rfl lay7 (drop_all' (rowFine Tryz.prog) (List.range 739) 480 60 540 rfl lay8 (drop_all' (rowFine Tryz.prog) (List.range 739) 540 60 600 rfl lay9 (drop_all' (rowFine Tryz.prog) (List.range 739) 600 60 660 rfl lay10 (drop_all' (rowFine Tryz.prog) (List.range 739) 660 60 720 rfl lay11 (drop_all' (rowFine Tryz.prog) (List.range 739) 720 60 780 rfl lay12 layend)))))))))))))
theorem layg : Tryz.prog.globals.all (fun g => decide (g.type < 739)) = true := by kernel_rfl
def parOk (f : Func) : Bool := f.params.all fun t => decide (t < 739)
theorem layf0 : ((Tryz.prog.funcs.toList.drop 0).take 100).all parOk = true := by kernel_rfl
theorem layf1 : ((Tryz.prog.funcs.toList.drop 100).take 100).all parOk = true := by kernel_rfl
theorem layf2 : ((Tryz.prog.funcs.toList.drop 200).take 100).all parOk = true := by kernel_rfl
theorem layf3 : ((Tryz.prog.funcs.toList.drop 300).take 100).all parOk = true := by kernel_rfl
theorem layf4 : ((Tryz.prog.funcs.toList.drop 400).take 100).all parOk = true := by kernel_rfl
theorem layf5 : ((Tryz.prog.funcs.toList.drop 500).take 100).all parOk = true := by kernel_rfl
theorem layf6 : ((Tryz.prog.funcs.toList.drop 600).take 100).all parOk = true := by kernel_rfl
theorem layf7 : ((Tryz.prog.funcs.toList.drop 700).take 100).all parOk = true := by kernel_rfl
theorem layfend : (Tryz.prog.funcs.toList.drop 800).all parOk = true := by kernel_rfl
theorem layfs : Tryz.prog.funcs.toList.all parOk = true := drop_zero_all _ _ (drop_all' parOk Tryz.prog.funcs.toList 0 100 100 rfl layf0 (drop_all' parOk Tryz.prog.funcs.toList 100 100 200 rfl layf1 (drop_all' parOk Tryz.prog.funcs.toList 200 100 300 rfl layf2 (drop_all' parOk Tryz.prog.funcs.toList 300 100 400 rfl layf3 (drop_all' parOk Tryz.prog.funcs.toList 400 100 500 rfl layf4 (drop_all' parOk Tryz.prog.funcs.toList 500 100 600 rfl layf5 (drop_all' parOk Tryz.prog.funcs.toList 600 100 700 rfl layf6 (drop_all' parOk Tryz.prog.funcs.toList 700 100 800 rfl layf7 layfend))))))))
theorem jf2 : laidOutB Tryz.prog = true := by
  unfold laidOutB
  rw [tysz, lays, layg, ← Array.all_toList]
  exact layfs
theorem jf3 : mapsRowed Tryz.prog = true := by kernel_rfl
theorem jf4 : Tryz.f3.params.all (Tryz.prog.readableRec ·) = true := by kernel_rfl
theorem jf5 : namedTie Tryz.prog Rows.consoleNilRow.named Rows.consoleNilSpec.vars = true := by kernel_rfl
theorem jf6 : (Rows.consoleNilRow.stops == []) = true := by kernel_rfl
theorem jf7 : (Tryz.prog.stops == []) = true := by kernel_rfl
theorem jf8 : (Rows.consoleNilRow.knobs == []) = true := by kernel_rfl
theorem jf9 : (Tryz.prog.stopKnobs == []) = true := by kernel_rfl
theorem jf10 : (Rows.consoleNilRow.inPlace == Tryz.prog.inPlace 3) = true := by
  rw [inPlace_of tabs 3 road_eq road_flags]
  kernel_rfl
theorem jf11 : (Rows.consoleNilRow.unfollowed == Tryz.prog.unfollowed 3) = true := by
  rw [unf]; rfl
theorem jf12 : (Rows.consoleNilRow.recurses == Tryz.prog.recurses 3) = true := by
  rw [rec3]; rfl
theorem jf13 : (Rows.consoleNilRow.named == Tryz.prog.varsNamed 3) = true := by
  rw [varsNamed_of tabs 3 road_eq road_flags road_vars]
  kernel_rfl
theorem jf14 : (Rows.consoleNilRow.maps == (Tryz.f3.params.toList ++ Rows.consoleNilSpec.plain.varTypes Tryz.prog).any (Tryz.prog.mapsRec ·)) = true := by kernel_rfl
theorem jf15 : (Rows.consoleNilRow.ifaces == (Tryz.f3.params.toList ++ Rows.consoleNilSpec.plain.varTypes Tryz.prog).any (Tryz.prog.ifacesRec ·)) = true := by kernel_rfl
theorem jf16 : (Rows.consoleNilRow.mapsOut == Tryz.prog.mapsAmong Tryz.f3.resultTypes.toList) = true := by kernel_rfl
theorem jf17 : (Rows.consoleNilRow.loops == (Tryz.f3.params.toList ++ Rows.consoleNilSpec.plain.varTypes Tryz.prog).any (Tryz.prog.loopsFrom ·)) = true := by kernel_rfl
theorem jf18 : (Rows.consoleNilRow.wideKeys == (Tryz.f3.params.toList ++ Rows.consoleNilSpec.plain.varTypes Tryz.prog ++ Tryz.f3.resultTypes.toList).any (Tryz.prog.wideKeysFrom ·)) = true := by kernel_rfl
theorem jf19 : Rows.consoleNilSpec.vars.all (Tryz.prog.varReadable ·) = true := by kernel_rfl
theorem jf20 : Tryz.f3.resultTypes.all (fun t => Tryz.prog.readableRec t && decide (t < Tryz.prog.types.size)) = true := by kernel_rfl
theorem jf21 : (Rows.consoleNilRow.ifacesOut == Tryz.f3.resultTypes.toList.any (Tryz.prog.ifacesRec ·)) = true := by kernel_rfl
theorem jf22 : (Rows.consoleNilRow.loopsOut == Tryz.f3.resultTypes.toList.any (Tryz.prog.loopsFrom ·)) = true := by kernel_rfl
theorem jf23 : (Rows.consoleNilRow.plainKeys == Tryz.prog.plainKeys) = true := by kernel_rfl
theorem jf24 : Rows.consoleNilRow.shortTexts.isNone = true := by kernel_rfl
theorem jf25 : Tryz.prog.stopsHeard = true := by kernel_rfl
theorem jf26 : Tryz.prog.mayEnter = true := by kernel_rfl
theorem jf27 : (Rows.consoleNilRow.lifted == Tryz.prog.liftsFinal) = true := by kernel_rfl
theorem jf28 : (Tryz.prog.make == some Rows.consoleNilRow.make) = true := by kernel_rfl
theorem jf29 : (Rows.consoleNilRow.kinds == (if Rows.consoleNilRow.domain.isEmpty then [] else Tryz.f3.params.toList.map fun t => match Tryz.prog.underlying t with | some (.int k) => some k | _ => Option.none)) = true := by kernel_rfl
theorem jf30 : (Rows.consoleNilRow.pinned == Rows.consoleNilRow.pinnedBy) = true := by kernel_rfl
theorem jf31 : (Rows.consoleNilRow.veiled == (Tryz.f3.params.toList ++ Rows.consoleNilSpec.plain.varTypes Tryz.prog ++ Tryz.f3.resultTypes.toList).any (Tryz.prog.veiledRec ·)) = true := by kernel_rfl
theorem jf32 : Rows.consoleNilRow.veiledFits Tryz.prog Tryz.f3.params.toList (Tryz.f3.params.toList ++ Rows.consoleNilSpec.plain.varTypes Tryz.prog ++ Tryz.f3.resultTypes.toList) = true := by kernel_rfl
theorem jand {a b : Bool} (ha : a = true) (hb : b = true) : (a && b) = true := by rw [ha, hb]; rfl
theorem joined : joinedFacts Tryz.prog 3 Tryz.f3 Rows.consoleNilSpec Rows.consoleNilRow = true := by
  unfold joinedFacts
  refine jand ?_ jf32
  refine jand ?_ jf31
  refine jand ?_ jf30
  refine jand ?_ (by kernel_rfl)
  refine jand ?_ jf28
  refine jand ?_ jf27
  refine jand ?_ jf26
  refine jand ?_ jf25
  refine jand ?_ jf24
  refine jand ?_ jf23
  refine jand ?_ jf22
  refine jand ?_ jf21
  refine jand ?_ jf20
  refine jand ?_ jf19
  refine jand ?_ jf18
  refine jand ?_ jf17
  refine jand ?_ jf16
  refine jand ?_ jf15
  refine jand ?_ jf14
  refine jand ?_ jf13
  refine jand ?_ jf12
  refine jand ?_ jf11
  refine jand ?_ jf10
  refine jand ?_ jf9
  refine jand ?_ jf8
  refine jand ?_ jf7
  refine jand ?_ jf6
  refine jand ?_ jf5
  refine jand ?_ jf4
  refine jand ?_ jf3
  refine jand ?_ jf2
  exact jf1
end Go.Proofs.YtdkbkilgmmenkaaGreatDoor
