/- Closed facts on the types of the translation, by program (gentypes.py). -/
import Derived.Test.YtnjpakhnaegdgabDoorGlo
import Derived.Test.YtnjpakhnaegdgabDoorProg
import Derived.KernelRfl
namespace Go.Proofs.YtnjpakhnaegdgabDoor
open Go.Ab
@[simp] theorem T0 : tyE Tryd.prog 2 = some (1, false) := by kernel_rfl
@[simp] theorem T1 : zeroE Tryd.prog 2 = some [V.int .i64 0] := by kernel_rfl
@[simp] theorem T2 : isInt Tryd.prog 2 = some .i64 := by kernel_rfl
@[simp] theorem T3 : tyE Tryd.prog 3 = some (1, false) := by kernel_rfl
@[simp] theorem T4 : zeroE Tryd.prog 3 = some [V.int .i64 0] := by kernel_rfl
@[simp] theorem T5 : isInt Tryd.prog 3 = some .i64 := by kernel_rfl
@[simp] theorem T6 : tyE Tryd.prog 4 = some (1, false) := by kernel_rfl
@[simp] theorem T7 : zeroE Tryd.prog 4 = some [V.bool false] := by kernel_rfl
@[simp] theorem T8 : tyE Tryd.prog 5 = some (1, false) := by kernel_rfl
@[simp] theorem T9 : zeroE Tryd.prog 5 = some [V.int .u8 0] := by kernel_rfl
@[simp] theorem T10 : isInt Tryd.prog 5 = some .u8 := by kernel_rfl
@[simp] theorem T11 : tyE Tryd.prog 6 = some (1, false) := by kernel_rfl
@[simp] theorem T12 : zeroE Tryd.prog 6 = some [V.int .u8 0] := by kernel_rfl
@[simp] theorem T13 : isInt Tryd.prog 6 = some .u8 := by kernel_rfl
@[simp] theorem T14 : tyE Tryd.prog 7 = some (4, true) := by kernel_rfl
@[simp] theorem T15 : zeroE Tryd.prog 7 = some [V.int .i64 0, V.int .i64 0, V.bool false, V.int .u8 0] := by kernel_rfl
@[simp] theorem T16 : fldE Tryd.prog 7 0 = some (0, 1, false) := by kernel_rfl
@[simp] theorem T17 : plE Tryd.prog 7 0 = some (0, 1) := by kernel_rfl
@[simp] theorem T18 : fldE Tryd.prog 7 1 = some (1, 1, false) := by kernel_rfl
@[simp] theorem T19 : plE Tryd.prog 7 1 = some (1, 1) := by kernel_rfl
@[simp] theorem T20 : fldE Tryd.prog 7 2 = some (2, 1, false) := by kernel_rfl
@[simp] theorem T21 : plE Tryd.prog 7 2 = some (2, 1) := by kernel_rfl
@[simp] theorem T22 : fldE Tryd.prog 7 3 = some (3, 1, false) := by kernel_rfl
@[simp] theorem T23 : plE Tryd.prog 7 3 = some (3, 1) := by kernel_rfl
@[simp] theorem T24 : allE Tryd.prog 7 = true := by kernel_rfl
@[simp] theorem T25 : tyE Tryd.prog 8 = some (4, true) := by kernel_rfl
@[simp] theorem T26 : zeroE Tryd.prog 8 = some [V.int .i64 0, V.int .i64 0, V.bool false, V.int .u8 0] := by kernel_rfl
@[simp] theorem T27 : fldE Tryd.prog 8 0 = some (0, 1, false) := by kernel_rfl
@[simp] theorem T28 : plE Tryd.prog 8 0 = some (0, 1) := by kernel_rfl
@[simp] theorem T29 : fldE Tryd.prog 8 1 = some (1, 1, false) := by kernel_rfl
@[simp] theorem T30 : plE Tryd.prog 8 1 = some (1, 1) := by kernel_rfl
@[simp] theorem T31 : fldE Tryd.prog 8 2 = some (2, 1, false) := by kernel_rfl
@[simp] theorem T32 : plE Tryd.prog 8 2 = some (2, 1) := by kernel_rfl
@[simp] theorem T33 : fldE Tryd.prog 8 3 = some (3, 1, false) := by kernel_rfl
@[simp] theorem T34 : plE Tryd.prog 8 3 = some (3, 1) := by kernel_rfl
@[simp] theorem T35 : allE Tryd.prog 8 = true := by kernel_rfl
@[simp] theorem T36 : tyE Tryd.prog 9 = some (1, false) := by kernel_rfl
@[simp] theorem T37 : zeroE Tryd.prog 9 = some [V.str []] := by kernel_rfl
@[simp] theorem T38 : isStr Tryd.prog 9 = true := by kernel_rfl
@[simp] theorem T39 : tyE Tryd.prog 10 = some (1, false) := by kernel_rfl
@[simp] theorem T40 : zeroE Tryd.prog 10 = some [V.str []] := by kernel_rfl
@[simp] theorem T41 : isStr Tryd.prog 10 = true := by kernel_rfl
@[simp] theorem T42 : tyE Tryd.prog 11 = some (1, false) := by kernel_rfl
@[simp] theorem T43 : zeroE Tryd.prog 11 = some [V.str []] := by kernel_rfl
@[simp] theorem T44 : isStr Tryd.prog 11 = true := by kernel_rfl
@[simp] theorem T45 : tyE Tryd.prog 12 = some (1, false) := by kernel_rfl
@[simp] theorem T46 : zeroE Tryd.prog 12 = some [V.int .u64 0] := by kernel_rfl
@[simp] theorem T47 : isInt Tryd.prog 12 = some .u64 := by kernel_rfl
@[simp] theorem T48 : tyE Tryd.prog 13 = some (2, true) := by kernel_rfl
@[simp] theorem T49 : zeroE Tryd.prog 13 = some [V.str [], V.int .u64 0] := by kernel_rfl
@[simp] theorem T50 : fldE Tryd.prog 13 0 = some (0, 1, false) := by kernel_rfl
@[simp] theorem T51 : plE Tryd.prog 13 0 = some (0, 1) := by kernel_rfl
@[simp] theorem T52 : fldE Tryd.prog 13 1 = some (1, 1, false) := by kernel_rfl
@[simp] theorem T53 : plE Tryd.prog 13 1 = some (1, 1) := by kernel_rfl
@[simp] theorem T54 : allE Tryd.prog 13 = true := by kernel_rfl
@[simp] theorem T55 : tyE Tryd.prog 14 = some (2, true) := by kernel_rfl
@[simp] theorem T56 : zeroE Tryd.prog 14 = some [V.str [], V.int .u64 0] := by kernel_rfl
@[simp] theorem T57 : fldE Tryd.prog 14 0 = some (0, 1, false) := by kernel_rfl
@[simp] theorem T58 : plE Tryd.prog 14 0 = some (0, 1) := by kernel_rfl
@[simp] theorem T59 : fldE Tryd.prog 14 1 = some (1, 1, false) := by kernel_rfl
@[simp] theorem T60 : plE Tryd.prog 14 1 = some (1, 1) := by kernel_rfl
@[simp] theorem T61 : allE Tryd.prog 14 = true := by kernel_rfl
@[simp] theorem T62 : tyE Tryd.prog 15 = some (1, false) := by kernel_rfl
@[simp] theorem T63 : zeroE Tryd.prog 15 = some [V.poi] := by kernel_rfl
@[simp] theorem T64 : tyE Tryd.prog 16 = some (1, false) := by kernel_rfl
@[simp] theorem T65 : zeroE Tryd.prog 16 = some [V.poi] := by kernel_rfl
@[simp] theorem T66 : tyE Tryd.prog 17 = some (1, false) := by kernel_rfl
@[simp] theorem T67 : zeroE Tryd.prog 17 = some [V.poi] := by kernel_rfl
@[simp] theorem T68 : tyE Tryd.prog 18 = some (1, true) := by kernel_rfl
@[simp] theorem T69 : zeroE Tryd.prog 18 = some [V.poi] := by kernel_rfl
@[simp] theorem T70 : fldE Tryd.prog 18 0 = some (0, 1, false) := by kernel_rfl
@[simp] theorem T71 : plE Tryd.prog 18 0 = some (0, 1) := by kernel_rfl
@[simp] theorem T72 : allE Tryd.prog 18 = true := by kernel_rfl
@[simp] theorem T73 : tyE Tryd.prog 19 = some (1, true) := by kernel_rfl
@[simp] theorem T74 : zeroE Tryd.prog 19 = some [V.poi] := by kernel_rfl
@[simp] theorem T75 : fldE Tryd.prog 19 0 = some (0, 1, false) := by kernel_rfl
@[simp] theorem T76 : plE Tryd.prog 19 0 = some (0, 1) := by kernel_rfl
@[simp] theorem T77 : allE Tryd.prog 19 = true := by kernel_rfl
@[simp] theorem T78 : tyE Tryd.prog 21 = some (1, false) := by kernel_rfl
@[simp] theorem T79 : zeroE Tryd.prog 21 = some [V.int .i32 0] := by kernel_rfl
@[simp] theorem T80 : isInt Tryd.prog 21 = some .i32 := by kernel_rfl
@[simp] theorem T81 : tyE Tryd.prog 22 = some (5, true) := by kernel_rfl
@[simp] theorem T82 : zeroE Tryd.prog 22 = some [V.int .i64 0, V.int .i64 0, V.int .i64 0, V.int .i64 0, V.int .i32 0] := by kernel_rfl
@[simp] theorem T83 : fldE Tryd.prog 22 0 = some (0, 1, false) := by kernel_rfl
@[simp] theorem T84 : plE Tryd.prog 22 0 = some (0, 1) := by kernel_rfl
@[simp] theorem T85 : fldE Tryd.prog 22 1 = some (1, 1, false) := by kernel_rfl
@[simp] theorem T86 : plE Tryd.prog 22 1 = some (1, 1) := by kernel_rfl
@[simp] theorem T87 : fldE Tryd.prog 22 2 = some (2, 1, false) := by kernel_rfl
@[simp] theorem T88 : plE Tryd.prog 22 2 = some (2, 1) := by kernel_rfl
@[simp] theorem T89 : fldE Tryd.prog 22 3 = some (3, 1, false) := by kernel_rfl
@[simp] theorem T90 : plE Tryd.prog 22 3 = some (3, 1) := by kernel_rfl
@[simp] theorem T91 : fldE Tryd.prog 22 4 = some (4, 1, false) := by kernel_rfl
@[simp] theorem T92 : plE Tryd.prog 22 4 = some (4, 1) := by kernel_rfl
@[simp] theorem T93 : allE Tryd.prog 22 = true := by kernel_rfl
@[simp] theorem T94 : tyE Tryd.prog 23 = some (5, true) := by kernel_rfl
@[simp] theorem T95 : zeroE Tryd.prog 23 = some [V.int .i64 0, V.int .i64 0, V.int .i64 0, V.int .i64 0, V.int .i32 0] := by kernel_rfl
@[simp] theorem T96 : fldE Tryd.prog 23 0 = some (0, 1, false) := by kernel_rfl
@[simp] theorem T97 : plE Tryd.prog 23 0 = some (0, 1) := by kernel_rfl
@[simp] theorem T98 : fldE Tryd.prog 23 1 = some (1, 1, false) := by kernel_rfl
@[simp] theorem T99 : plE Tryd.prog 23 1 = some (1, 1) := by kernel_rfl
@[simp] theorem T100 : fldE Tryd.prog 23 2 = some (2, 1, false) := by kernel_rfl
@[simp] theorem T101 : plE Tryd.prog 23 2 = some (2, 1) := by kernel_rfl
@[simp] theorem T102 : fldE Tryd.prog 23 3 = some (3, 1, false) := by kernel_rfl
@[simp] theorem T103 : plE Tryd.prog 23 3 = some (3, 1) := by kernel_rfl
@[simp] theorem T104 : fldE Tryd.prog 23 4 = some (4, 1, false) := by kernel_rfl
@[simp] theorem T105 : plE Tryd.prog 23 4 = some (4, 1) := by kernel_rfl
@[simp] theorem T106 : allE Tryd.prog 23 = true := by kernel_rfl
@[simp] theorem T107 : eqE Tryd.prog 23 = some [.i, .i, .i, .i, .i] := by kernel_rfl
@[simp] theorem T108 : tyE Tryd.prog 25 = some (1, false) := by kernel_rfl
@[simp] theorem T109 : zeroE Tryd.prog 25 = some [V.int .u32 0] := by kernel_rfl
@[simp] theorem T110 : isInt Tryd.prog 25 = some .u32 := by kernel_rfl
@[simp] theorem T111 : tyE Tryd.prog 26 = some (1, false) := by kernel_rfl
@[simp] theorem T112 : zeroE Tryd.prog 26 = some [V.int .i64 0] := by kernel_rfl
@[simp] theorem T113 : isInt Tryd.prog 26 = some .i64 := by kernel_rfl
@[simp] theorem T114 : tyE Tryd.prog 39 = some (1, false) := by kernel_rfl
@[simp] theorem T115 : zeroE Tryd.prog 39 = some [V.int .u64 0] := by kernel_rfl
@[simp] theorem T116 : isInt Tryd.prog 39 = some .u64 := by kernel_rfl
@[simp] theorem T117 : tyE Tryd.prog 44 = some (1, false) := by kernel_rfl
@[simp] theorem T118 : zeroE Tryd.prog 44 = some [V.sl 0 true []] := by kernel_rfl
@[simp] theorem T119 : slE Tryd.prog 44 = some (3, 1, 8) := by kernel_rfl
@[simp] theorem T120 : tyE Tryd.prog 47 = some (5, true) := by kernel_rfl
@[simp] theorem T121 : zeroE Tryd.prog 47 = some [V.bool false, V.bool false, V.bool false, V.int .i32 0, V.int .i32 0] := by kernel_rfl
@[simp] theorem T122 : fldE Tryd.prog 47 0 = some (0, 1, false) := by kernel_rfl
@[simp] theorem T123 : plE Tryd.prog 47 0 = some (0, 1) := by kernel_rfl
@[simp] theorem T124 : fldE Tryd.prog 47 1 = some (1, 1, false) := by kernel_rfl
@[simp] theorem T125 : plE Tryd.prog 47 1 = some (1, 1) := by kernel_rfl
@[simp] theorem T126 : fldE Tryd.prog 47 2 = some (2, 1, false) := by kernel_rfl
@[simp] theorem T127 : plE Tryd.prog 47 2 = some (2, 1) := by kernel_rfl
@[simp] theorem T128 : fldE Tryd.prog 47 3 = some (3, 1, false) := by kernel_rfl
@[simp] theorem T129 : plE Tryd.prog 47 3 = some (3, 1) := by kernel_rfl
@[simp] theorem T130 : fldE Tryd.prog 47 4 = some (4, 1, false) := by kernel_rfl
@[simp] theorem T131 : plE Tryd.prog 47 4 = some (4, 1) := by kernel_rfl
@[simp] theorem T132 : allE Tryd.prog 47 = true := by kernel_rfl
@[simp] theorem T133 : tyE Tryd.prog 48 = some (5, true) := by kernel_rfl
@[simp] theorem T134 : zeroE Tryd.prog 48 = some [V.bool false, V.bool false, V.bool false, V.int .i32 0, V.int .i32 0] := by kernel_rfl
@[simp] theorem T135 : fldE Tryd.prog 48 0 = some (0, 1, false) := by kernel_rfl
@[simp] theorem T136 : plE Tryd.prog 48 0 = some (0, 1) := by kernel_rfl
@[simp] theorem T137 : fldE Tryd.prog 48 1 = some (1, 1, false) := by kernel_rfl
@[simp] theorem T138 : plE Tryd.prog 48 1 = some (1, 1) := by kernel_rfl
@[simp] theorem T139 : fldE Tryd.prog 48 2 = some (2, 1, false) := by kernel_rfl
@[simp] theorem T140 : plE Tryd.prog 48 2 = some (2, 1) := by kernel_rfl
@[simp] theorem T141 : fldE Tryd.prog 48 3 = some (3, 1, false) := by kernel_rfl
@[simp] theorem T142 : plE Tryd.prog 48 3 = some (3, 1) := by kernel_rfl
@[simp] theorem T143 : fldE Tryd.prog 48 4 = some (4, 1, false) := by kernel_rfl
@[simp] theorem T144 : plE Tryd.prog 48 4 = some (4, 1) := by kernel_rfl
@[simp] theorem T145 : allE Tryd.prog 48 = true := by kernel_rfl
@[simp] theorem T146 : tyE Tryd.prog 55 = some (1, false) := by kernel_rfl
@[simp] theorem T147 : zeroE Tryd.prog 55 = some [V.int .i16 0] := by kernel_rfl
@[simp] theorem T148 : isInt Tryd.prog 55 = some .i16 := by kernel_rfl
@[simp] theorem T149 : tyE Tryd.prog 56 = some (65, true) := by kernel_rfl
@[simp] theorem T150 : zeroE Tryd.prog 56 = some [V.str [], V.str [], V.str [], V.str [], V.str [], V.str [], V.str [], V.str [], V.str [], V.str [], V.str [], V.str [], V.str [], V.str [], V.str [], V.str [], V.str [], V.str [], V.str [], V.str [], V.str [], V.str [], V.str [], V.str [], V.str [], V.str [], V.str [], V.str [], V.str [], V.str [], V.str [], V.str [], V.str [], V.str [], V.str [], V.str [], V.str [], V.str [], V.str [], V.str [], V.str [], V.str [], V.str [], V.str [], V.str [], V.str [], V.str [], V.str [], V.str [], V.str [], V.str [], V.str [], V.str [], V.str [], V.str [], V.str [], V.str [], V.str [], V.str [], V.str [], V.str [], V.str [], V.str [], V.str [], V.str []] := by kernel_rfl
@[simp] theorem T151 : arE Tryd.prog 56 = some (65, 1, false) := by kernel_rfl
@[simp] theorem T152 (i : Nat) : plE Tryd.prog 56 i = some (i * 1, 1) := plE_arr T151 i
@[simp] theorem T153 : allE Tryd.prog 56 = true := by kernel_rfl
@[simp] theorem T154 : tyE Tryd.prog 59 = some (1, false) := by kernel_rfl
@[simp] theorem T155 : zeroE Tryd.prog 59 = some [V.int .u64 0] := by kernel_rfl
@[simp] theorem T156 : isInt Tryd.prog 59 = some .u64 := by kernel_rfl
@[simp] theorem T157 : tyE Tryd.prog 65 = some (1, false) := by kernel_rfl
@[simp] theorem T158 : zeroE Tryd.prog 65 = some [V.sl 0 true []] := by kernel_rfl
@[simp] theorem T159 : slE Tryd.prog 65 = some (9, 1, 16) := by kernel_rfl
@[simp] theorem T160 : tyE Tryd.prog 68 = some (1, false) := by kernel_rfl
@[simp] theorem T161 : zeroE Tryd.prog 68 = some [V.sl 0 true []] := by kernel_rfl
@[simp] theorem T162 : slE Tryd.prog 68 = some (5, 1, 1) := by kernel_rfl
@[simp] theorem T163 : bsE Tryd.prog 68 = true := by kernel_rfl
@[simp] theorem T164 : tyE Tryd.prog 69 = some (24, true) := by kernel_rfl
@[simp] theorem T165 : zeroE Tryd.prog 69 = some [V.int .u8 0, V.int .u8 0, V.int .u8 0, V.int .u8 0, V.int .u8 0, V.int .u8 0, V.int .u8 0, V.int .u8 0, V.int .u8 0, V.int .u8 0, V.int .u8 0, V.int .u8 0, V.int .u8 0, V.int .u8 0, V.int .u8 0, V.int .u8 0, V.int .u8 0, V.int .u8 0, V.int .u8 0, V.int .u8 0, V.int .u8 0, V.int .u8 0, V.int .u8 0, V.int .u8 0] := by kernel_rfl
@[simp] theorem T166 : arE Tryd.prog 69 = some (24, 1, false) := by kernel_rfl
@[simp] theorem T167 (i : Nat) : plE Tryd.prog 69 i = some (i * 1, 1) := plE_arr T166 i
@[simp] theorem T168 : allE Tryd.prog 69 = true := by kernel_rfl
@[simp] theorem T169 : tyE Tryd.prog 75 = some (20, true) := by kernel_rfl
@[simp] theorem T170 : zeroE Tryd.prog 75 = some [V.int .u64 0, V.int .u64 0, V.int .u64 0, V.int .u64 0, V.int .u64 0, V.int .u64 0, V.int .u64 0, V.int .u64 0, V.int .u64 0, V.int .u64 0, V.int .u64 0, V.int .u64 0, V.int .u64 0, V.int .u64 0, V.int .u64 0, V.int .u64 0, V.int .u64 0, V.int .u64 0, V.int .u64 0, V.int .u64 0] := by kernel_rfl
@[simp] theorem T171 : arE Tryd.prog 75 = some (20, 1, false) := by kernel_rfl
@[simp] theorem T172 (i : Nat) : plE Tryd.prog 75 i = some (i * 1, 1) := plE_arr T171 i
@[simp] theorem T173 : allE Tryd.prog 75 = true := by kernel_rfl
@[simp] theorem T174 : tyE Tryd.prog 76 = some (65, true) := by kernel_rfl
@[simp] theorem T175 : zeroE Tryd.prog 76 = some [V.int .u8 0, V.int .u8 0, V.int .u8 0, V.int .u8 0, V.int .u8 0, V.int .u8 0, V.int .u8 0, V.int .u8 0, V.int .u8 0, V.int .u8 0, V.int .u8 0, V.int .u8 0, V.int .u8 0, V.int .u8 0, V.int .u8 0, V.int .u8 0, V.int .u8 0, V.int .u8 0, V.int .u8 0, V.int .u8 0, V.int .u8 0, V.int .u8 0, V.int .u8 0, V.int .u8 0, V.int .u8 0, V.int .u8 0, V.int .u8 0, V.int .u8 0, V.int .u8 0, V.int .u8 0, V.int .u8 0, V.int .u8 0, V.int .u8 0, V.int .u8 0, V.int .u8 0, V.int .u8 0, V.int .u8 0, V.int .u8 0, V.int .u8 0, V.int .u8 0, V.int .u8 0, V.int .u8 0, V.int .u8 0, V.int .u8 0, V.int .u8 0, V.int .u8 0, V.int .u8 0, V.int .u8 0, V.int .u8 0, V.int .u8 0, V.int .u8 0, V.int .u8 0, V.int .u8 0, V.int .u8 0, V.int .u8 0, V.int .u8 0, V.int .u8 0, V.int .u8 0, V.int .u8 0, V.int .u8 0, V.int .u8 0, V.int .u8 0, V.int .u8 0, V.int .u8 0, V.int .u8 0] := by kernel_rfl
@[simp] theorem T176 : arE Tryd.prog 76 = some (65, 1, false) := by kernel_rfl
@[simp] theorem T177 (i : Nat) : plE Tryd.prog 76 i = some (i * 1, 1) := plE_arr T176 i
@[simp] theorem T178 : allE Tryd.prog 76 = true := by kernel_rfl
@[simp] theorem T179 : tyE Tryd.prog 79 = some (32, true) := by kernel_rfl
@[simp] theorem T180 : zeroE Tryd.prog 79 = some [V.int .u8 0, V.int .u8 0, V.int .u8 0, V.int .u8 0, V.int .u8 0, V.int .u8 0, V.int .u8 0, V.int .u8 0, V.int .u8 0, V.int .u8 0, V.int .u8 0, V.int .u8 0, V.int .u8 0, V.int .u8 0, V.int .u8 0, V.int .u8 0, V.int .u8 0, V.int .u8 0, V.int .u8 0, V.int .u8 0, V.int .u8 0, V.int .u8 0, V.int .u8 0, V.int .u8 0, V.int .u8 0, V.int .u8 0, V.int .u8 0, V.int .u8 0, V.int .u8 0, V.int .u8 0, V.int .u8 0, V.int .u8 0] := by kernel_rfl
@[simp] theorem T181 : arE Tryd.prog 79 = some (32, 1, false) := by kernel_rfl
@[simp] theorem T182 (i : Nat) : plE Tryd.prog 79 i = some (i * 1, 1) := plE_arr T181 i
@[simp] theorem T183 : allE Tryd.prog 79 = true := by kernel_rfl
@[simp] theorem T184 : tyE Tryd.prog 80 = some (64, true) := by kernel_rfl
@[simp] theorem T185 : zeroE Tryd.prog 80 = some [V.int .u8 0, V.int .u8 0, V.int .u8 0, V.int .u8 0, V.int .u8 0, V.int .u8 0, V.int .u8 0, V.int .u8 0, V.int .u8 0, V.int .u8 0, V.int .u8 0, V.int .u8 0, V.int .u8 0, V.int .u8 0, V.int .u8 0, V.int .u8 0, V.int .u8 0, V.int .u8 0, V.int .u8 0, V.int .u8 0, V.int .u8 0, V.int .u8 0, V.int .u8 0, V.int .u8 0, V.int .u8 0, V.int .u8 0, V.int .u8 0, V.int .u8 0, V.int .u8 0, V.int .u8 0, V.int .u8 0, V.int .u8 0, V.int .u8 0, V.int .u8 0, V.int .u8 0, V.int .u8 0, V.int .u8 0, V.int .u8 0, V.int .u8 0, V.int .u8 0, V.int .u8 0, V.int .u8 0, V.int .u8 0, V.int .u8 0, V.int .u8 0, V.int .u8 0, V.int .u8 0, V.int .u8 0, V.int .u8 0, V.int .u8 0, V.int .u8 0, V.int .u8 0, V.int .u8 0, V.int .u8 0, V.int .u8 0, V.int .u8 0, V.int .u8 0, V.int .u8 0, V.int .u8 0, V.int .u8 0, V.int .u8 0, V.int .u8 0, V.int .u8 0, V.int .u8 0] := by kernel_rfl
@[simp] theorem T186 : arE Tryd.prog 80 = some (64, 1, false) := by kernel_rfl
@[simp] theorem T187 (i : Nat) : plE Tryd.prog 80 i = some (i * 1, 1) := plE_arr T186 i
@[simp] theorem T188 : allE Tryd.prog 80 = true := by kernel_rfl
@[simp] theorem T189 : tyE Tryd.prog 82 = some (4, true) := by kernel_rfl
@[simp] theorem T190 : zeroE Tryd.prog 82 = some [V.poi, V.poi, V.poi, V.str []] := by kernel_rfl
@[simp] theorem T191 : fldE Tryd.prog 82 0 = some (0, 1, false) := by kernel_rfl
@[simp] theorem T192 : plE Tryd.prog 82 0 = some (0, 1) := by kernel_rfl
@[simp] theorem T193 : fldE Tryd.prog 82 1 = some (1, 1, false) := by kernel_rfl
@[simp] theorem T194 : plE Tryd.prog 82 1 = some (1, 1) := by kernel_rfl
@[simp] theorem T195 : fldE Tryd.prog 82 2 = some (2, 1, false) := by kernel_rfl
@[simp] theorem T196 : plE Tryd.prog 82 2 = some (2, 1) := by kernel_rfl
@[simp] theorem T197 : fldE Tryd.prog 82 3 = some (3, 1, false) := by kernel_rfl
@[simp] theorem T198 : plE Tryd.prog 82 3 = some (3, 1) := by kernel_rfl
@[simp] theorem T199 : allE Tryd.prog 82 = true := by kernel_rfl
@[simp] theorem T200 : tyE Tryd.prog 83 = some (4, true) := by kernel_rfl
@[simp] theorem T201 : zeroE Tryd.prog 83 = some [V.poi, V.poi, V.poi, V.str []] := by kernel_rfl
@[simp] theorem T202 : fldE Tryd.prog 83 0 = some (0, 1, false) := by kernel_rfl
@[simp] theorem T203 : plE Tryd.prog 83 0 = some (0, 1) := by kernel_rfl
@[simp] theorem T204 : fldE Tryd.prog 83 1 = some (1, 1, false) := by kernel_rfl
@[simp] theorem T205 : plE Tryd.prog 83 1 = some (1, 1) := by kernel_rfl
@[simp] theorem T206 : fldE Tryd.prog 83 2 = some (2, 1, false) := by kernel_rfl
@[simp] theorem T207 : plE Tryd.prog 83 2 = some (2, 1) := by kernel_rfl
@[simp] theorem T208 : fldE Tryd.prog 83 3 = some (3, 1, false) := by kernel_rfl
@[simp] theorem T209 : plE Tryd.prog 83 3 = some (3, 1) := by kernel_rfl
@[simp] theorem T210 : allE Tryd.prog 83 = true := by kernel_rfl
@[simp] theorem T211 : tyE Tryd.prog 84 = some (0, true) := by kernel_rfl
@[simp] theorem T212 : zeroE Tryd.prog 84 = some [] := by kernel_rfl
@[simp] theorem T213 : arE Tryd.prog 84 = some (0, 1, false) := by kernel_rfl
@[simp] theorem T214 (i : Nat) : plE Tryd.prog 84 i = some (i * 1, 1) := plE_arr T213 i
@[simp] theorem T215 : allE Tryd.prog 84 = true := by kernel_rfl
@[simp] theorem T216 : tyE Tryd.prog 85 = some (0, true) := by kernel_rfl
@[simp] theorem T217 : zeroE Tryd.prog 85 = some [] := by kernel_rfl
@[simp] theorem T218 : plE Tryd.prog 85 0 = some (0, 0) := by kernel_rfl
@[simp] theorem T219 : allE Tryd.prog 85 = true := by kernel_rfl
@[simp] theorem T220 : tyE Tryd.prog 86 = some (0, true) := by kernel_rfl
@[simp] theorem T221 : zeroE Tryd.prog 86 = some [] := by kernel_rfl
@[simp] theorem T222 : plE Tryd.prog 86 0 = some (0, 0) := by kernel_rfl
@[simp] theorem T223 : allE Tryd.prog 86 = true := by kernel_rfl
@[simp] theorem T224 : tyE Tryd.prog 87 = some (1, false) := by kernel_rfl
@[simp] theorem T225 : zeroE Tryd.prog 87 = some [V.int .u8 0] := by kernel_rfl
@[simp] theorem T226 : isInt Tryd.prog 87 = some .u8 := by kernel_rfl
@[simp] theorem T227 : tyE Tryd.prog 88 = some (1, false) := by kernel_rfl
@[simp] theorem T228 : zeroE Tryd.prog 88 = some [V.int .u8 0] := by kernel_rfl
@[simp] theorem T229 : isInt Tryd.prog 88 = some .u8 := by kernel_rfl
@[simp] theorem T230 : tyE Tryd.prog 90 = some (1, false) := by kernel_rfl
@[simp] theorem T231 : zeroE Tryd.prog 90 = some [V.poi] := by kernel_rfl
@[simp] theorem T232 : tyE Tryd.prog 91 = some (1, false) := by kernel_rfl
@[simp] theorem T233 : zeroE Tryd.prog 91 = some [V.int .i32 0] := by kernel_rfl
@[simp] theorem T234 : isInt Tryd.prog 91 = some .i32 := by kernel_rfl
@[simp] theorem T235 : tyE Tryd.prog 92 = some (1, false) := by kernel_rfl
@[simp] theorem T236 : zeroE Tryd.prog 92 = some [V.int .i32 0] := by kernel_rfl
@[simp] theorem T237 : isInt Tryd.prog 92 = some .i32 := by kernel_rfl
@[simp] theorem T238 : tyE Tryd.prog 93 = some (11, true) := by kernel_rfl
@[simp] theorem T239 : zeroE Tryd.prog 93 = some [V.int .u64 0, V.int .u64 0, V.int .u32 0, V.int .u8 0, V.int .u8 0, V.int .u8 0, V.int .u8 0, V.poi, V.poi, V.int .i32 0, V.int .i32 0] := by kernel_rfl
@[simp] theorem T240 : fldE Tryd.prog 93 0 = some (0, 1, false) := by kernel_rfl
@[simp] theorem T241 : plE Tryd.prog 93 0 = some (0, 1) := by kernel_rfl
@[simp] theorem T242 : fldE Tryd.prog 93 1 = some (1, 1, false) := by kernel_rfl
@[simp] theorem T243 : plE Tryd.prog 93 1 = some (1, 1) := by kernel_rfl
@[simp] theorem T244 : fldE Tryd.prog 93 2 = some (2, 1, false) := by kernel_rfl
@[simp] theorem T245 : plE Tryd.prog 93 2 = some (2, 1) := by kernel_rfl
@[simp] theorem T246 : fldE Tryd.prog 93 3 = some (3, 1, false) := by kernel_rfl
@[simp] theorem T247 : plE Tryd.prog 93 3 = some (3, 1) := by kernel_rfl
@[simp] theorem T248 : fldE Tryd.prog 93 4 = some (4, 1, false) := by kernel_rfl
@[simp] theorem T249 : plE Tryd.prog 93 4 = some (4, 1) := by kernel_rfl
@[simp] theorem T250 : fldE Tryd.prog 93 5 = some (5, 1, false) := by kernel_rfl
@[simp] theorem T251 : plE Tryd.prog 93 5 = some (5, 1) := by kernel_rfl
@[simp] theorem T252 : fldE Tryd.prog 93 6 = some (6, 1, false) := by kernel_rfl
@[simp] theorem T253 : plE Tryd.prog 93 6 = some (6, 1) := by kernel_rfl
@[simp] theorem T254 : fldE Tryd.prog 93 7 = some (7, 1, false) := by kernel_rfl
@[simp] theorem T255 : plE Tryd.prog 93 7 = some (7, 1) := by kernel_rfl
@[simp] theorem T256 : fldE Tryd.prog 93 8 = some (8, 1, false) := by kernel_rfl
@[simp] theorem T257 : plE Tryd.prog 93 8 = some (8, 1) := by kernel_rfl
@[simp] theorem T258 : fldE Tryd.prog 93 9 = some (9, 1, false) := by kernel_rfl
@[simp] theorem T259 : plE Tryd.prog 93 9 = some (9, 1) := by kernel_rfl
@[simp] theorem T260 : fldE Tryd.prog 93 10 = some (10, 1, false) := by kernel_rfl
@[simp] theorem T261 : plE Tryd.prog 93 10 = some (10, 1) := by kernel_rfl
@[simp] theorem T262 : allE Tryd.prog 93 = true := by kernel_rfl
@[simp] theorem T263 : tyE Tryd.prog 94 = some (11, true) := by kernel_rfl
@[simp] theorem T264 : zeroE Tryd.prog 94 = some [V.int .u64 0, V.int .u64 0, V.int .u32 0, V.int .u8 0, V.int .u8 0, V.int .u8 0, V.int .u8 0, V.poi, V.poi, V.int .i32 0, V.int .i32 0] := by kernel_rfl
@[simp] theorem T265 : fldE Tryd.prog 94 0 = some (0, 1, false) := by kernel_rfl
@[simp] theorem T266 : plE Tryd.prog 94 0 = some (0, 1) := by kernel_rfl
@[simp] theorem T267 : fldE Tryd.prog 94 1 = some (1, 1, false) := by kernel_rfl
@[simp] theorem T268 : plE Tryd.prog 94 1 = some (1, 1) := by kernel_rfl
@[simp] theorem T269 : fldE Tryd.prog 94 2 = some (2, 1, false) := by kernel_rfl
@[simp] theorem T270 : plE Tryd.prog 94 2 = some (2, 1) := by kernel_rfl
@[simp] theorem T271 : fldE Tryd.prog 94 3 = some (3, 1, false) := by kernel_rfl
@[simp] theorem T272 : plE Tryd.prog 94 3 = some (3, 1) := by kernel_rfl
@[simp] theorem T273 : fldE Tryd.prog 94 4 = some (4, 1, false) := by kernel_rfl
@[simp] theorem T274 : plE Tryd.prog 94 4 = some (4, 1) := by kernel_rfl
@[simp] theorem T275 : fldE Tryd.prog 94 5 = some (5, 1, false) := by kernel_rfl
@[simp] theorem T276 : plE Tryd.prog 94 5 = some (5, 1) := by kernel_rfl
@[simp] theorem T277 : fldE Tryd.prog 94 6 = some (6, 1, false) := by kernel_rfl
@[simp] theorem T278 : plE Tryd.prog 94 6 = some (6, 1) := by kernel_rfl
@[simp] theorem T279 : fldE Tryd.prog 94 7 = some (7, 1, false) := by kernel_rfl
@[simp] theorem T280 : plE Tryd.prog 94 7 = some (7, 1) := by kernel_rfl
@[simp] theorem T281 : fldE Tryd.prog 94 8 = some (8, 1, false) := by kernel_rfl
@[simp] theorem T282 : plE Tryd.prog 94 8 = some (8, 1) := by kernel_rfl
@[simp] theorem T283 : fldE Tryd.prog 94 9 = some (9, 1, false) := by kernel_rfl
@[simp] theorem T284 : plE Tryd.prog 94 9 = some (9, 1) := by kernel_rfl
@[simp] theorem T285 : fldE Tryd.prog 94 10 = some (10, 1, false) := by kernel_rfl
@[simp] theorem T286 : plE Tryd.prog 94 10 = some (10, 1) := by kernel_rfl
@[simp] theorem T287 : allE Tryd.prog 94 = true := by kernel_rfl
end Go.Proofs.YtnjpakhnaegdgabDoor
