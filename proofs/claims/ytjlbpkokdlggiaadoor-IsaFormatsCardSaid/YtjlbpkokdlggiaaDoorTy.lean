/- Closed facts on the types of the translation, by program (gentypes.py). -/
import Derived.Test.YtjlbpkokdlggiaaDoorGlo
import Derived.Test.YtjlbpkokdlggiaaDoorProg
import Derived.KernelRfl
namespace Go.Proofs.YtjlbpkokdlggiaaDoor
open Go.Ab
@[simp] theorem T0 : tyE Tryd.prog 2 = some (1, false) := by kernel_rfl
@[simp] theorem T1 : zeroE Tryd.prog 2 = some [V.int .i64 0] := by kernel_rfl
@[simp] theorem T2 : isInt Tryd.prog 2 = some .i64 := by kernel_rfl
@[simp] theorem T3 : tyE Tryd.prog 3 = some (1, false) := by kernel_rfl
@[simp] theorem T4 : zeroE Tryd.prog 3 = some [V.int .i64 0] := by kernel_rfl
@[simp] theorem T5 : isInt Tryd.prog 3 = some .i64 := by kernel_rfl
@[simp] theorem T6 : tyE Tryd.prog 4 = some (1, false) := by kernel_rfl
@[simp] theorem T7 : zeroE Tryd.prog 4 = some [V.bool false] := by kernel_rfl
@[simp] theorem T8 : tyE Tryd.prog 5 = some (1, false) := by kernel_rfl
@[simp] theorem T9 : zeroE Tryd.prog 5 = some [V.int .u8 0] := by kernel_rfl
@[simp] theorem T10 : isInt Tryd.prog 5 = some .u8 := by kernel_rfl
@[simp] theorem T11 : tyE Tryd.prog 6 = some (1, false) := by kernel_rfl
@[simp] theorem T12 : zeroE Tryd.prog 6 = some [V.int .u8 0] := by kernel_rfl
@[simp] theorem T13 : isInt Tryd.prog 6 = some .u8 := by kernel_rfl
@[simp] theorem T14 : tyE Tryd.prog 7 = some (4, true) := by kernel_rfl
@[simp] theorem T15 : zeroE Tryd.prog 7 = some [V.int .i64 0, V.int .i64 0, V.bool false, V.int .u8 0] := by kernel_rfl
@[simp] theorem T16 : fldE Tryd.prog 7 0 = some (0, 1, false) := by kernel_rfl
@[simp] theorem T17 : plE Tryd.prog 7 0 = some (0, 1) := by kernel_rfl
@[simp] theorem T18 : fldE Tryd.prog 7 1 = some (1, 1, false) := by kernel_rfl
@[simp] theorem T19 : plE Tryd.prog 7 1 = some (1, 1) := by kernel_rfl
@[simp] theorem T20 : fldE Tryd.prog 7 2 = some (2, 1, false) := by kernel_rfl
@[simp] theorem T21 : plE Tryd.prog 7 2 = some (2, 1) := by kernel_rfl
@[simp] theorem T22 : fldE Tryd.prog 7 3 = some (3, 1, false) := by kernel_rfl
@[simp] theorem T23 : plE Tryd.prog 7 3 = some (3, 1) := by kernel_rfl
@[simp] theorem T24 : allE Tryd.prog 7 = true := by kernel_rfl
@[simp] theorem T25 : tyE Tryd.prog 8 = some (4, true) := by kernel_rfl
@[simp] theorem T26 : zeroE Tryd.prog 8 = some [V.int .i64 0, V.int .i64 0, V.bool false, V.int .u8 0] := by kernel_rfl
@[simp] theorem T27 : fldE Tryd.prog 8 0 = some (0, 1, false) := by kernel_rfl
@[simp] theorem T28 : plE Tryd.prog 8 0 = some (0, 1) := by kernel_rfl
@[simp] theorem T29 : fldE Tryd.prog 8 1 = some (1, 1, false) := by kernel_rfl
@[simp] theorem T30 : plE Tryd.prog 8 1 = some (1, 1) := by kernel_rfl
@[simp] theorem T31 : fldE Tryd.prog 8 2 = some (2, 1, false) := by kernel_rfl
@[simp] theorem T32 : plE Tryd.prog 8 2 = some (2, 1) := by kernel_rfl
@[simp] theorem T33 : fldE Tryd.prog 8 3 = some (3, 1, false) := by kernel_rfl
@[simp] theorem T34 : plE Tryd.prog 8 3 = some (3, 1) := by kernel_rfl
@[simp] theorem T35 : allE Tryd.prog 8 = true := by kernel_rfl
@[simp] theorem T36 : tyE Tryd.prog 9 = some (1, false) := by kernel_rfl
@[simp] theorem T37 : zeroE Tryd.prog 9 = some [V.str []] := by kernel_rfl
@[simp] theorem T38 : isStr Tryd.prog 9 = true := by kernel_rfl
@[simp] theorem T39 : tyE Tryd.prog 10 = some (1, false) := by kernel_rfl
@[simp] theorem T40 : zeroE Tryd.prog 10 = some [V.str []] := by kernel_rfl
@[simp] theorem T41 : isStr Tryd.prog 10 = true := by kernel_rfl
@[simp] theorem T42 : tyE Tryd.prog 11 = some (1, false) := by kernel_rfl
@[simp] theorem T43 : zeroE Tryd.prog 11 = some [V.str []] := by kernel_rfl
@[simp] theorem T44 : isStr Tryd.prog 11 = true := by kernel_rfl
@[simp] theorem T45 : tyE Tryd.prog 12 = some (1, false) := by kernel_rfl
@[simp] theorem T46 : zeroE Tryd.prog 12 = some [V.int .u64 0] := by kernel_rfl
@[simp] theorem T47 : isInt Tryd.prog 12 = some .u64 := by kernel_rfl
@[simp] theorem T48 : tyE Tryd.prog 13 = some (2, true) := by kernel_rfl
@[simp] theorem T49 : zeroE Tryd.prog 13 = some [V.str [], V.int .u64 0] := by kernel_rfl
@[simp] theorem T50 : fldE Tryd.prog 13 0 = some (0, 1, false) := by kernel_rfl
@[simp] theorem T51 : plE Tryd.prog 13 0 = some (0, 1) := by kernel_rfl
@[simp] theorem T52 : fldE Tryd.prog 13 1 = some (1, 1, false) := by kernel_rfl
@[simp] theorem T53 : plE Tryd.prog 13 1 = some (1, 1) := by kernel_rfl
@[simp] theorem T54 : allE Tryd.prog 13 = true := by kernel_rfl
@[simp] theorem T55 : tyE Tryd.prog 14 = some (2, true) := by kernel_rfl
@[simp] theorem T56 : zeroE Tryd.prog 14 = some [V.str [], V.int .u64 0] := by kernel_rfl
@[simp] theorem T57 : fldE Tryd.prog 14 0 = some (0, 1, false) := by kernel_rfl
@[simp] theorem T58 : plE Tryd.prog 14 0 = some (0, 1) := by kernel_rfl
@[simp] theorem T59 : fldE Tryd.prog 14 1 = some (1, 1, false) := by kernel_rfl
@[simp] theorem T60 : plE Tryd.prog 14 1 = some (1, 1) := by kernel_rfl
@[simp] theorem T61 : allE Tryd.prog 14 = true := by kernel_rfl
@[simp] theorem T62 : tyE Tryd.prog 15 = some (1, false) := by kernel_rfl
@[simp] theorem T63 : zeroE Tryd.prog 15 = some [V.poi] := by kernel_rfl
@[simp] theorem T64 : tyE Tryd.prog 16 = some (1, false) := by kernel_rfl
@[simp] theorem T65 : zeroE Tryd.prog 16 = some [V.poi] := by kernel_rfl
@[simp] theorem T66 : tyE Tryd.prog 17 = some (1, false) := by kernel_rfl
@[simp] theorem T67 : zeroE Tryd.prog 17 = some [V.poi] := by kernel_rfl
@[simp] theorem T68 : tyE Tryd.prog 18 = some (1, true) := by kernel_rfl
@[simp] theorem T69 : zeroE Tryd.prog 18 = some [V.poi] := by kernel_rfl
@[simp] theorem T70 : fldE Tryd.prog 18 0 = some (0, 1, false) := by kernel_rfl
@[simp] theorem T71 : plE Tryd.prog 18 0 = some (0, 1) := by kernel_rfl
@[simp] theorem T72 : allE Tryd.prog 18 = true := by kernel_rfl
@[simp] theorem T73 : tyE Tryd.prog 19 = some (1, true) := by kernel_rfl
@[simp] theorem T74 : zeroE Tryd.prog 19 = some [V.poi] := by kernel_rfl
@[simp] theorem T75 : fldE Tryd.prog 19 0 = some (0, 1, false) := by kernel_rfl
@[simp] theorem T76 : plE Tryd.prog 19 0 = some (0, 1) := by kernel_rfl
@[simp] theorem T77 : allE Tryd.prog 19 = true := by kernel_rfl
@[simp] theorem T78 : tyE Tryd.prog 21 = some (1, false) := by kernel_rfl
@[simp] theorem T79 : zeroE Tryd.prog 21 = some [V.int .i32 0] := by kernel_rfl
@[simp] theorem T80 : isInt Tryd.prog 21 = some .i32 := by kernel_rfl
@[simp] theorem T81 : tyE Tryd.prog 22 = some (1, false) := by kernel_rfl
@[simp] theorem T82 : zeroE Tryd.prog 22 = some [V.int .u32 0] := by kernel_rfl
@[simp] theorem T83 : isInt Tryd.prog 22 = some .u32 := by kernel_rfl
@[simp] theorem T84 : tyE Tryd.prog 25 = some (5, true) := by kernel_rfl
@[simp] theorem T85 : zeroE Tryd.prog 25 = some [V.int .i64 0, V.int .i64 0, V.int .i64 0, V.int .i64 0, V.int .i32 0] := by kernel_rfl
@[simp] theorem T86 : fldE Tryd.prog 25 0 = some (0, 1, false) := by kernel_rfl
@[simp] theorem T87 : plE Tryd.prog 25 0 = some (0, 1) := by kernel_rfl
@[simp] theorem T88 : fldE Tryd.prog 25 1 = some (1, 1, false) := by kernel_rfl
@[simp] theorem T89 : plE Tryd.prog 25 1 = some (1, 1) := by kernel_rfl
@[simp] theorem T90 : fldE Tryd.prog 25 2 = some (2, 1, false) := by kernel_rfl
@[simp] theorem T91 : plE Tryd.prog 25 2 = some (2, 1) := by kernel_rfl
@[simp] theorem T92 : fldE Tryd.prog 25 3 = some (3, 1, false) := by kernel_rfl
@[simp] theorem T93 : plE Tryd.prog 25 3 = some (3, 1) := by kernel_rfl
@[simp] theorem T94 : fldE Tryd.prog 25 4 = some (4, 1, false) := by kernel_rfl
@[simp] theorem T95 : plE Tryd.prog 25 4 = some (4, 1) := by kernel_rfl
@[simp] theorem T96 : allE Tryd.prog 25 = true := by kernel_rfl
@[simp] theorem T97 : tyE Tryd.prog 26 = some (5, true) := by kernel_rfl
@[simp] theorem T98 : zeroE Tryd.prog 26 = some [V.int .i64 0, V.int .i64 0, V.int .i64 0, V.int .i64 0, V.int .i32 0] := by kernel_rfl
@[simp] theorem T99 : fldE Tryd.prog 26 0 = some (0, 1, false) := by kernel_rfl
@[simp] theorem T100 : plE Tryd.prog 26 0 = some (0, 1) := by kernel_rfl
@[simp] theorem T101 : fldE Tryd.prog 26 1 = some (1, 1, false) := by kernel_rfl
@[simp] theorem T102 : plE Tryd.prog 26 1 = some (1, 1) := by kernel_rfl
@[simp] theorem T103 : fldE Tryd.prog 26 2 = some (2, 1, false) := by kernel_rfl
@[simp] theorem T104 : plE Tryd.prog 26 2 = some (2, 1) := by kernel_rfl
@[simp] theorem T105 : fldE Tryd.prog 26 3 = some (3, 1, false) := by kernel_rfl
@[simp] theorem T106 : plE Tryd.prog 26 3 = some (3, 1) := by kernel_rfl
@[simp] theorem T107 : fldE Tryd.prog 26 4 = some (4, 1, false) := by kernel_rfl
@[simp] theorem T108 : plE Tryd.prog 26 4 = some (4, 1) := by kernel_rfl
@[simp] theorem T109 : allE Tryd.prog 26 = true := by kernel_rfl
@[simp] theorem T110 : eqE Tryd.prog 26 = some [.i, .i, .i, .i, .i] := by kernel_rfl
@[simp] theorem T111 : tyE Tryd.prog 31 = some (1, false) := by kernel_rfl
@[simp] theorem T112 : zeroE Tryd.prog 31 = some [V.int .i64 0] := by kernel_rfl
@[simp] theorem T113 : isInt Tryd.prog 31 = some .i64 := by kernel_rfl
@[simp] theorem T114 : tyE Tryd.prog 38 = some (1, false) := by kernel_rfl
@[simp] theorem T115 : zeroE Tryd.prog 38 = some [V.int .u64 0] := by kernel_rfl
@[simp] theorem T116 : isInt Tryd.prog 38 = some .u64 := by kernel_rfl
@[simp] theorem T117 : tyE Tryd.prog 42 = some (1, false) := by kernel_rfl
@[simp] theorem T118 : zeroE Tryd.prog 42 = some [V.sl 0 true []] := by kernel_rfl
@[simp] theorem T119 : slE Tryd.prog 42 = some (5, 1, 1) := by kernel_rfl
@[simp] theorem T120 : bsE Tryd.prog 42 = true := by kernel_rfl
@[simp] theorem T121 : tyE Tryd.prog 43 = some (1, false) := by kernel_rfl
@[simp] theorem T122 : zeroE Tryd.prog 43 = some [V.sl 0 true []] := by kernel_rfl
@[simp] theorem T123 : slE Tryd.prog 43 = some (22, 1, 4) := by kernel_rfl
@[simp] theorem T124 : tyE Tryd.prog 44 = some (2, true) := by kernel_rfl
@[simp] theorem T125 : zeroE Tryd.prog 44 = some [V.int .i64 0, V.int .i64 0] := by kernel_rfl
@[simp] theorem T126 : fldE Tryd.prog 44 0 = some (0, 1, false) := by kernel_rfl
@[simp] theorem T127 : plE Tryd.prog 44 0 = some (0, 1) := by kernel_rfl
@[simp] theorem T128 : fldE Tryd.prog 44 1 = some (1, 1, false) := by kernel_rfl
@[simp] theorem T129 : plE Tryd.prog 44 1 = some (1, 1) := by kernel_rfl
@[simp] theorem T130 : allE Tryd.prog 44 = true := by kernel_rfl
@[simp] theorem T131 : tyE Tryd.prog 45 = some (2, true) := by kernel_rfl
@[simp] theorem T132 : zeroE Tryd.prog 45 = some [V.int .i64 0, V.int .i64 0] := by kernel_rfl
@[simp] theorem T133 : fldE Tryd.prog 45 0 = some (0, 1, false) := by kernel_rfl
@[simp] theorem T134 : plE Tryd.prog 45 0 = some (0, 1) := by kernel_rfl
@[simp] theorem T135 : fldE Tryd.prog 45 1 = some (1, 1, false) := by kernel_rfl
@[simp] theorem T136 : plE Tryd.prog 45 1 = some (1, 1) := by kernel_rfl
@[simp] theorem T137 : allE Tryd.prog 45 = true := by kernel_rfl
@[simp] theorem T138 : eqE Tryd.prog 45 = some [.i, .i] := by kernel_rfl
@[simp] theorem T139 : tyE Tryd.prog 49 = some (1, false) := by kernel_rfl
@[simp] theorem T140 : zeroE Tryd.prog 49 = some [V.sl 0 true []] := by kernel_rfl
@[simp] theorem T141 : slE Tryd.prog 49 = some (53, 2, 24) := by kernel_rfl
@[simp] theorem T142 : tyE Tryd.prog 52 = some (2, true) := by kernel_rfl
@[simp] theorem T143 : zeroE Tryd.prog 52 = some [V.str [], V.int .u32 0] := by kernel_rfl
@[simp] theorem T144 : fldE Tryd.prog 52 0 = some (0, 1, false) := by kernel_rfl
@[simp] theorem T145 : plE Tryd.prog 52 0 = some (0, 1) := by kernel_rfl
@[simp] theorem T146 : fldE Tryd.prog 52 1 = some (1, 1, false) := by kernel_rfl
@[simp] theorem T147 : plE Tryd.prog 52 1 = some (1, 1) := by kernel_rfl
@[simp] theorem T148 : allE Tryd.prog 52 = true := by kernel_rfl
@[simp] theorem T149 : tyE Tryd.prog 53 = some (2, true) := by kernel_rfl
@[simp] theorem T150 : zeroE Tryd.prog 53 = some [V.str [], V.int .u32 0] := by kernel_rfl
@[simp] theorem T151 : fldE Tryd.prog 53 0 = some (0, 1, false) := by kernel_rfl
@[simp] theorem T152 : plE Tryd.prog 53 0 = some (0, 1) := by kernel_rfl
@[simp] theorem T153 : fldE Tryd.prog 53 1 = some (1, 1, false) := by kernel_rfl
@[simp] theorem T154 : plE Tryd.prog 53 1 = some (1, 1) := by kernel_rfl
@[simp] theorem T155 : allE Tryd.prog 53 = true := by kernel_rfl
@[simp] theorem T156 : eqE Tryd.prog 53 = some [.s, .i] := by kernel_rfl
@[simp] theorem T157 : tyE Tryd.prog 55 = some (1, false) := by kernel_rfl
@[simp] theorem T158 : zeroE Tryd.prog 55 = some [V.sl 0 true []] := by kernel_rfl
@[simp] theorem T159 : slE Tryd.prog 55 = some (3, 1, 8) := by kernel_rfl
@[simp] theorem T160 : tyE Tryd.prog 65 = some (5, true) := by kernel_rfl
@[simp] theorem T161 : zeroE Tryd.prog 65 = some [V.bool false, V.bool false, V.bool false, V.int .i32 0, V.int .i32 0] := by kernel_rfl
@[simp] theorem T162 : fldE Tryd.prog 65 0 = some (0, 1, false) := by kernel_rfl
@[simp] theorem T163 : plE Tryd.prog 65 0 = some (0, 1) := by kernel_rfl
@[simp] theorem T164 : fldE Tryd.prog 65 1 = some (1, 1, false) := by kernel_rfl
@[simp] theorem T165 : plE Tryd.prog 65 1 = some (1, 1) := by kernel_rfl
@[simp] theorem T166 : fldE Tryd.prog 65 2 = some (2, 1, false) := by kernel_rfl
@[simp] theorem T167 : plE Tryd.prog 65 2 = some (2, 1) := by kernel_rfl
@[simp] theorem T168 : fldE Tryd.prog 65 3 = some (3, 1, false) := by kernel_rfl
@[simp] theorem T169 : plE Tryd.prog 65 3 = some (3, 1) := by kernel_rfl
@[simp] theorem T170 : fldE Tryd.prog 65 4 = some (4, 1, false) := by kernel_rfl
@[simp] theorem T171 : plE Tryd.prog 65 4 = some (4, 1) := by kernel_rfl
@[simp] theorem T172 : allE Tryd.prog 65 = true := by kernel_rfl
@[simp] theorem T173 : tyE Tryd.prog 66 = some (5, true) := by kernel_rfl
@[simp] theorem T174 : zeroE Tryd.prog 66 = some [V.bool false, V.bool false, V.bool false, V.int .i32 0, V.int .i32 0] := by kernel_rfl
@[simp] theorem T175 : fldE Tryd.prog 66 0 = some (0, 1, false) := by kernel_rfl
@[simp] theorem T176 : plE Tryd.prog 66 0 = some (0, 1) := by kernel_rfl
@[simp] theorem T177 : fldE Tryd.prog 66 1 = some (1, 1, false) := by kernel_rfl
@[simp] theorem T178 : plE Tryd.prog 66 1 = some (1, 1) := by kernel_rfl
@[simp] theorem T179 : fldE Tryd.prog 66 2 = some (2, 1, false) := by kernel_rfl
@[simp] theorem T180 : plE Tryd.prog 66 2 = some (2, 1) := by kernel_rfl
@[simp] theorem T181 : fldE Tryd.prog 66 3 = some (3, 1, false) := by kernel_rfl
@[simp] theorem T182 : plE Tryd.prog 66 3 = some (3, 1) := by kernel_rfl
@[simp] theorem T183 : fldE Tryd.prog 66 4 = some (4, 1, false) := by kernel_rfl
@[simp] theorem T184 : plE Tryd.prog 66 4 = some (4, 1) := by kernel_rfl
@[simp] theorem T185 : allE Tryd.prog 66 = true := by kernel_rfl
@[simp] theorem T186 : tyE Tryd.prog 71 = some (1, false) := by kernel_rfl
@[simp] theorem T187 : zeroE Tryd.prog 71 = some [V.int .i16 0] := by kernel_rfl
@[simp] theorem T188 : isInt Tryd.prog 71 = some .i16 := by kernel_rfl
@[simp] theorem T189 : tyE Tryd.prog 73 = some (65, true) := by kernel_rfl
@[simp] theorem T190 : zeroE Tryd.prog 73 = some [V.str [], V.str [], V.str [], V.str [], V.str [], V.str [], V.str [], V.str [], V.str [], V.str [], V.str [], V.str [], V.str [], V.str [], V.str [], V.str [], V.str [], V.str [], V.str [], V.str [], V.str [], V.str [], V.str [], V.str [], V.str [], V.str [], V.str [], V.str [], V.str [], V.str [], V.str [], V.str [], V.str [], V.str [], V.str [], V.str [], V.str [], V.str [], V.str [], V.str [], V.str [], V.str [], V.str [], V.str [], V.str [], V.str [], V.str [], V.str [], V.str [], V.str [], V.str [], V.str [], V.str [], V.str [], V.str [], V.str [], V.str [], V.str [], V.str [], V.str [], V.str [], V.str [], V.str [], V.str [], V.str []] := by kernel_rfl
@[simp] theorem T191 : arE Tryd.prog 73 = some (65, 1, false) := by kernel_rfl
@[simp] theorem T192 (i : Nat) : plE Tryd.prog 73 i = some (i * 1, 1) := plE_arr T191 i
@[simp] theorem T193 : allE Tryd.prog 73 = true := by kernel_rfl
@[simp] theorem T194 : tyE Tryd.prog 77 = some (1, false) := by kernel_rfl
@[simp] theorem T195 : zeroE Tryd.prog 77 = some [V.int .u64 0] := by kernel_rfl
@[simp] theorem T196 : isInt Tryd.prog 77 = some .u64 := by kernel_rfl
@[simp] theorem T197 : tyE Tryd.prog 78 = some (1, false) := by kernel_rfl
@[simp] theorem T198 : zeroE Tryd.prog 78 = some [V.sl 0 true []] := by kernel_rfl
@[simp] theorem T199 : slE Tryd.prog 78 = some (116, 13, 120) := by kernel_rfl
@[simp] theorem T200 : tyE Tryd.prog 79 = some (1, false) := by kernel_rfl
@[simp] theorem T201 : zeroE Tryd.prog 79 = some [V.poi] := by kernel_rfl
@[simp] theorem T202 : tyE Tryd.prog 80 = some (4, true) := by kernel_rfl
@[simp] theorem T203 : zeroE Tryd.prog 80 = some [V.sl 0 true [], V.sl 0 true [], V.poi, V.int .i64 0] := by kernel_rfl
@[simp] theorem T204 : fldE Tryd.prog 80 0 = some (0, 1, false) := by kernel_rfl
@[simp] theorem T205 : plE Tryd.prog 80 0 = some (0, 1) := by kernel_rfl
@[simp] theorem T206 : fldE Tryd.prog 80 1 = some (1, 1, false) := by kernel_rfl
@[simp] theorem T207 : plE Tryd.prog 80 1 = some (1, 1) := by kernel_rfl
@[simp] theorem T208 : fldE Tryd.prog 80 2 = some (2, 1, false) := by kernel_rfl
@[simp] theorem T209 : plE Tryd.prog 80 2 = some (2, 1) := by kernel_rfl
@[simp] theorem T210 : fldE Tryd.prog 80 3 = some (3, 1, false) := by kernel_rfl
@[simp] theorem T211 : plE Tryd.prog 80 3 = some (3, 1) := by kernel_rfl
@[simp] theorem T212 : allE Tryd.prog 80 = true := by kernel_rfl
@[simp] theorem T213 : tyE Tryd.prog 81 = some (4, true) := by kernel_rfl
@[simp] theorem T214 : zeroE Tryd.prog 81 = some [V.sl 0 true [], V.sl 0 true [], V.poi, V.int .i64 0] := by kernel_rfl
@[simp] theorem T215 : fldE Tryd.prog 81 0 = some (0, 1, false) := by kernel_rfl
@[simp] theorem T216 : plE Tryd.prog 81 0 = some (0, 1) := by kernel_rfl
@[simp] theorem T217 : fldE Tryd.prog 81 1 = some (1, 1, false) := by kernel_rfl
@[simp] theorem T218 : plE Tryd.prog 81 1 = some (1, 1) := by kernel_rfl
@[simp] theorem T219 : fldE Tryd.prog 81 2 = some (2, 1, false) := by kernel_rfl
@[simp] theorem T220 : plE Tryd.prog 81 2 = some (2, 1) := by kernel_rfl
@[simp] theorem T221 : fldE Tryd.prog 81 3 = some (3, 1, false) := by kernel_rfl
@[simp] theorem T222 : plE Tryd.prog 81 3 = some (3, 1) := by kernel_rfl
@[simp] theorem T223 : allE Tryd.prog 81 = true := by kernel_rfl
@[simp] theorem T224 : tyE Tryd.prog 86 = some (1, false) := by kernel_rfl
@[simp] theorem T225 : zeroE Tryd.prog 86 = some [V.sl 0 true []] := by kernel_rfl
@[simp] theorem T226 : slE Tryd.prog 86 = some (9, 1, 16) := by kernel_rfl
@[simp] theorem T227 : tyE Tryd.prog 88 = some (1, false) := by kernel_rfl
@[simp] theorem T228 : zeroE Tryd.prog 88 = some [V.poi] := by kernel_rfl
@[simp] theorem T229 : tyE Tryd.prog 89 = some (2, true) := by kernel_rfl
@[simp] theorem T230 : zeroE Tryd.prog 89 = some [V.poi, V.sl 0 true []] := by kernel_rfl
@[simp] theorem T231 : fldE Tryd.prog 89 0 = some (0, 1, false) := by kernel_rfl
@[simp] theorem T232 : plE Tryd.prog 89 0 = some (0, 1) := by kernel_rfl
@[simp] theorem T233 : fldE Tryd.prog 89 1 = some (1, 1, false) := by kernel_rfl
@[simp] theorem T234 : plE Tryd.prog 89 1 = some (1, 1) := by kernel_rfl
@[simp] theorem T235 : allE Tryd.prog 89 = true := by kernel_rfl
@[simp] theorem T236 : tyE Tryd.prog 90 = some (2, true) := by kernel_rfl
@[simp] theorem T237 : zeroE Tryd.prog 90 = some [V.poi, V.sl 0 true []] := by kernel_rfl
@[simp] theorem T238 : fldE Tryd.prog 90 0 = some (0, 1, false) := by kernel_rfl
@[simp] theorem T239 : plE Tryd.prog 90 0 = some (0, 1) := by kernel_rfl
@[simp] theorem T240 : fldE Tryd.prog 90 1 = some (1, 1, false) := by kernel_rfl
@[simp] theorem T241 : plE Tryd.prog 90 1 = some (1, 1) := by kernel_rfl
@[simp] theorem T242 : allE Tryd.prog 90 = true := by kernel_rfl
@[simp] theorem T243 : tyE Tryd.prog 105 = some (1, false) := by kernel_rfl
@[simp] theorem T244 : zeroE Tryd.prog 105 = some [V.poi] := by kernel_rfl
@[simp] theorem T245 : tyE Tryd.prog 110 = some (5, true) := by kernel_rfl
@[simp] theorem T246 : zeroE Tryd.prog 110 = some [V.int .i64 0, V.str [], V.int .i64 0, V.bool false, V.poi] := by kernel_rfl
@[simp] theorem T247 : fldE Tryd.prog 110 0 = some (0, 1, false) := by kernel_rfl
@[simp] theorem T248 : plE Tryd.prog 110 0 = some (0, 1) := by kernel_rfl
@[simp] theorem T249 : fldE Tryd.prog 110 1 = some (1, 1, false) := by kernel_rfl
@[simp] theorem T250 : plE Tryd.prog 110 1 = some (1, 1) := by kernel_rfl
@[simp] theorem T251 : fldE Tryd.prog 110 2 = some (2, 1, false) := by kernel_rfl
@[simp] theorem T252 : plE Tryd.prog 110 2 = some (2, 1) := by kernel_rfl
@[simp] theorem T253 : fldE Tryd.prog 110 3 = some (3, 1, false) := by kernel_rfl
@[simp] theorem T254 : plE Tryd.prog 110 3 = some (3, 1) := by kernel_rfl
@[simp] theorem T255 : fldE Tryd.prog 110 4 = some (4, 1, false) := by kernel_rfl
@[simp] theorem T256 : plE Tryd.prog 110 4 = some (4, 1) := by kernel_rfl
@[simp] theorem T257 : allE Tryd.prog 110 = true := by kernel_rfl
@[simp] theorem T258 : tyE Tryd.prog 111 = some (5, true) := by kernel_rfl
@[simp] theorem T259 : zeroE Tryd.prog 111 = some [V.int .i64 0, V.str [], V.int .i64 0, V.bool false, V.poi] := by kernel_rfl
@[simp] theorem T260 : fldE Tryd.prog 111 0 = some (0, 1, false) := by kernel_rfl
@[simp] theorem T261 : plE Tryd.prog 111 0 = some (0, 1) := by kernel_rfl
@[simp] theorem T262 : fldE Tryd.prog 111 1 = some (1, 1, false) := by kernel_rfl
@[simp] theorem T263 : plE Tryd.prog 111 1 = some (1, 1) := by kernel_rfl
@[simp] theorem T264 : fldE Tryd.prog 111 2 = some (2, 1, false) := by kernel_rfl
@[simp] theorem T265 : plE Tryd.prog 111 2 = some (2, 1) := by kernel_rfl
@[simp] theorem T266 : fldE Tryd.prog 111 3 = some (3, 1, false) := by kernel_rfl
@[simp] theorem T267 : plE Tryd.prog 111 3 = some (3, 1) := by kernel_rfl
@[simp] theorem T268 : fldE Tryd.prog 111 4 = some (4, 1, false) := by kernel_rfl
@[simp] theorem T269 : plE Tryd.prog 111 4 = some (4, 1) := by kernel_rfl
@[simp] theorem T270 : allE Tryd.prog 111 = true := by kernel_rfl
@[simp] theorem T271 : tyE Tryd.prog 112 = some (3, true) := by kernel_rfl
@[simp] theorem T272 : zeroE Tryd.prog 112 = some [V.int .i64 0, V.int .i64 0, V.int .i64 0] := by kernel_rfl
@[simp] theorem T273 : arE Tryd.prog 112 = some (3, 1, false) := by kernel_rfl
@[simp] theorem T274 (i : Nat) : plE Tryd.prog 112 i = some (i * 1, 1) := plE_arr T273 i
@[simp] theorem T275 : allE Tryd.prog 112 = true := by kernel_rfl
@[simp] theorem T276 : tyE Tryd.prog 113 = some (2, true) := by kernel_rfl
@[simp] theorem T277 : zeroE Tryd.prog 113 = some [V.int .i64 0, V.str []] := by kernel_rfl
@[simp] theorem T278 : fldE Tryd.prog 113 0 = some (0, 1, false) := by kernel_rfl
@[simp] theorem T279 : plE Tryd.prog 113 0 = some (0, 1) := by kernel_rfl
@[simp] theorem T280 : fldE Tryd.prog 113 1 = some (1, 1, false) := by kernel_rfl
@[simp] theorem T281 : plE Tryd.prog 113 1 = some (1, 1) := by kernel_rfl
@[simp] theorem T282 : allE Tryd.prog 113 = true := by kernel_rfl
@[simp] theorem T283 : tyE Tryd.prog 114 = some (2, true) := by kernel_rfl
@[simp] theorem T284 : zeroE Tryd.prog 114 = some [V.int .i64 0, V.str []] := by kernel_rfl
@[simp] theorem T285 : fldE Tryd.prog 114 0 = some (0, 1, false) := by kernel_rfl
@[simp] theorem T286 : plE Tryd.prog 114 0 = some (0, 1) := by kernel_rfl
@[simp] theorem T287 : fldE Tryd.prog 114 1 = some (1, 1, false) := by kernel_rfl
@[simp] theorem T288 : plE Tryd.prog 114 1 = some (1, 1) := by kernel_rfl
@[simp] theorem T289 : allE Tryd.prog 114 = true := by kernel_rfl
@[simp] theorem T290 : tyE Tryd.prog 115 = some (13, true) := by kernel_rfl
@[simp] theorem T291 : zeroE Tryd.prog 115 = some [V.int .i64 0, V.int .u32 0, V.int .i64 0, V.int .i64 0, V.str [], V.int .i64 0, V.bool false, V.poi, V.int .i64 0, V.int .i64 0, V.int .i64 0, V.int .i64 0, V.str []] := by kernel_rfl
@[simp] theorem T292 : fldE Tryd.prog 115 0 = some (0, 1, false) := by kernel_rfl
@[simp] theorem T293 : plE Tryd.prog 115 0 = some (0, 1) := by kernel_rfl
@[simp] theorem T294 : fldE Tryd.prog 115 1 = some (1, 1, false) := by kernel_rfl
@[simp] theorem T295 : plE Tryd.prog 115 1 = some (1, 1) := by kernel_rfl
@[simp] theorem T296 : fldE Tryd.prog 115 2 = some (2, 1, false) := by kernel_rfl
@[simp] theorem T297 : plE Tryd.prog 115 2 = some (2, 1) := by kernel_rfl
@[simp] theorem T298 : fldE Tryd.prog 115 3 = some (3, 5, true) := by kernel_rfl
@[simp] theorem T299 : plE Tryd.prog 115 3 = some (3, 5) := by kernel_rfl
@[simp] theorem T300 : fldE Tryd.prog 115 4 = some (8, 3, true) := by kernel_rfl
@[simp] theorem T301 : plE Tryd.prog 115 4 = some (8, 3) := by kernel_rfl
@[simp] theorem T302 : fldE Tryd.prog 115 5 = some (11, 2, true) := by kernel_rfl
@[simp] theorem T303 : plE Tryd.prog 115 5 = some (11, 2) := by kernel_rfl
@[simp] theorem T304 : allE Tryd.prog 115 = true := by kernel_rfl
@[simp] theorem T305 : tyE Tryd.prog 116 = some (13, true) := by kernel_rfl
@[simp] theorem T306 : zeroE Tryd.prog 116 = some [V.int .i64 0, V.int .u32 0, V.int .i64 0, V.int .i64 0, V.str [], V.int .i64 0, V.bool false, V.poi, V.int .i64 0, V.int .i64 0, V.int .i64 0, V.int .i64 0, V.str []] := by kernel_rfl
@[simp] theorem T307 : fldE Tryd.prog 116 0 = some (0, 1, false) := by kernel_rfl
@[simp] theorem T308 : plE Tryd.prog 116 0 = some (0, 1) := by kernel_rfl
@[simp] theorem T309 : fldE Tryd.prog 116 1 = some (1, 1, false) := by kernel_rfl
@[simp] theorem T310 : plE Tryd.prog 116 1 = some (1, 1) := by kernel_rfl
@[simp] theorem T311 : fldE Tryd.prog 116 2 = some (2, 1, false) := by kernel_rfl
@[simp] theorem T312 : plE Tryd.prog 116 2 = some (2, 1) := by kernel_rfl
@[simp] theorem T313 : fldE Tryd.prog 116 3 = some (3, 5, true) := by kernel_rfl
@[simp] theorem T314 : plE Tryd.prog 116 3 = some (3, 5) := by kernel_rfl
@[simp] theorem T315 : fldE Tryd.prog 116 4 = some (8, 3, true) := by kernel_rfl
@[simp] theorem T316 : plE Tryd.prog 116 4 = some (8, 3) := by kernel_rfl
@[simp] theorem T317 : fldE Tryd.prog 116 5 = some (11, 2, true) := by kernel_rfl
@[simp] theorem T318 : plE Tryd.prog 116 5 = some (11, 2) := by kernel_rfl
@[simp] theorem T319 : allE Tryd.prog 116 = true := by kernel_rfl
@[simp] theorem T320 : tyE Tryd.prog 118 = some (1, false) := by kernel_rfl
@[simp] theorem T321 : zeroE Tryd.prog 118 = some [V.sl 0 true []] := by kernel_rfl
@[simp] theorem T322 : slE Tryd.prog 118 = some (123, 6, 72) := by kernel_rfl
@[simp] theorem T323 : tyE Tryd.prog 121 = some (1, false) := by kernel_rfl
@[simp] theorem T324 : zeroE Tryd.prog 121 = some [V.sl 0 true []] := by kernel_rfl
@[simp] theorem T325 : slE Tryd.prog 121 = some (125, 3, 32) := by kernel_rfl
@[simp] theorem T326 : tyE Tryd.prog 122 = some (6, true) := by kernel_rfl
@[simp] theorem T327 : zeroE Tryd.prog 122 = some [V.str [], V.int .i64 0, V.sl 0 true [], V.int .i64 0, V.int .i64 0, V.int .i64 0] := by kernel_rfl
@[simp] theorem T328 : fldE Tryd.prog 122 0 = some (0, 1, false) := by kernel_rfl
@[simp] theorem T329 : plE Tryd.prog 122 0 = some (0, 1) := by kernel_rfl
@[simp] theorem T330 : fldE Tryd.prog 122 1 = some (1, 1, false) := by kernel_rfl
@[simp] theorem T331 : plE Tryd.prog 122 1 = some (1, 1) := by kernel_rfl
@[simp] theorem T332 : fldE Tryd.prog 122 2 = some (2, 1, false) := by kernel_rfl
@[simp] theorem T333 : plE Tryd.prog 122 2 = some (2, 1) := by kernel_rfl
@[simp] theorem T334 : fldE Tryd.prog 122 3 = some (3, 1, false) := by kernel_rfl
@[simp] theorem T335 : plE Tryd.prog 122 3 = some (3, 1) := by kernel_rfl
@[simp] theorem T336 : fldE Tryd.prog 122 4 = some (4, 1, false) := by kernel_rfl
@[simp] theorem T337 : plE Tryd.prog 122 4 = some (4, 1) := by kernel_rfl
@[simp] theorem T338 : fldE Tryd.prog 122 5 = some (5, 1, false) := by kernel_rfl
@[simp] theorem T339 : plE Tryd.prog 122 5 = some (5, 1) := by kernel_rfl
@[simp] theorem T340 : allE Tryd.prog 122 = true := by kernel_rfl
@[simp] theorem T341 : tyE Tryd.prog 123 = some (6, true) := by kernel_rfl
@[simp] theorem T342 : zeroE Tryd.prog 123 = some [V.str [], V.int .i64 0, V.sl 0 true [], V.int .i64 0, V.int .i64 0, V.int .i64 0] := by kernel_rfl
@[simp] theorem T343 : fldE Tryd.prog 123 0 = some (0, 1, false) := by kernel_rfl
@[simp] theorem T344 : plE Tryd.prog 123 0 = some (0, 1) := by kernel_rfl
@[simp] theorem T345 : fldE Tryd.prog 123 1 = some (1, 1, false) := by kernel_rfl
@[simp] theorem T346 : plE Tryd.prog 123 1 = some (1, 1) := by kernel_rfl
@[simp] theorem T347 : fldE Tryd.prog 123 2 = some (2, 1, false) := by kernel_rfl
@[simp] theorem T348 : plE Tryd.prog 123 2 = some (2, 1) := by kernel_rfl
@[simp] theorem T349 : fldE Tryd.prog 123 3 = some (3, 1, false) := by kernel_rfl
@[simp] theorem T350 : plE Tryd.prog 123 3 = some (3, 1) := by kernel_rfl
@[simp] theorem T351 : fldE Tryd.prog 123 4 = some (4, 1, false) := by kernel_rfl
@[simp] theorem T352 : plE Tryd.prog 123 4 = some (4, 1) := by kernel_rfl
@[simp] theorem T353 : fldE Tryd.prog 123 5 = some (5, 1, false) := by kernel_rfl
@[simp] theorem T354 : plE Tryd.prog 123 5 = some (5, 1) := by kernel_rfl
@[simp] theorem T355 : allE Tryd.prog 123 = true := by kernel_rfl
@[simp] theorem T356 : tyE Tryd.prog 124 = some (3, true) := by kernel_rfl
@[simp] theorem T357 : zeroE Tryd.prog 124 = some [V.int .i64 0, V.int .i64 0, V.str []] := by kernel_rfl
@[simp] theorem T358 : fldE Tryd.prog 124 0 = some (0, 1, false) := by kernel_rfl
@[simp] theorem T359 : plE Tryd.prog 124 0 = some (0, 1) := by kernel_rfl
@[simp] theorem T360 : fldE Tryd.prog 124 1 = some (1, 1, false) := by kernel_rfl
@[simp] theorem T361 : plE Tryd.prog 124 1 = some (1, 1) := by kernel_rfl
@[simp] theorem T362 : fldE Tryd.prog 124 2 = some (2, 1, false) := by kernel_rfl
@[simp] theorem T363 : plE Tryd.prog 124 2 = some (2, 1) := by kernel_rfl
@[simp] theorem T364 : allE Tryd.prog 124 = true := by kernel_rfl
@[simp] theorem T365 : tyE Tryd.prog 125 = some (3, true) := by kernel_rfl
@[simp] theorem T366 : zeroE Tryd.prog 125 = some [V.int .i64 0, V.int .i64 0, V.str []] := by kernel_rfl
@[simp] theorem T367 : fldE Tryd.prog 125 0 = some (0, 1, false) := by kernel_rfl
@[simp] theorem T368 : plE Tryd.prog 125 0 = some (0, 1) := by kernel_rfl
@[simp] theorem T369 : fldE Tryd.prog 125 1 = some (1, 1, false) := by kernel_rfl
@[simp] theorem T370 : plE Tryd.prog 125 1 = some (1, 1) := by kernel_rfl
@[simp] theorem T371 : fldE Tryd.prog 125 2 = some (2, 1, false) := by kernel_rfl
@[simp] theorem T372 : plE Tryd.prog 125 2 = some (2, 1) := by kernel_rfl
@[simp] theorem T373 : allE Tryd.prog 125 = true := by kernel_rfl
@[simp] theorem T374 : tyE Tryd.prog 133 = some (1, false) := by kernel_rfl
@[simp] theorem T375 : zeroE Tryd.prog 133 = some [V.poi] := by kernel_rfl
@[simp] theorem T376 : tyE Tryd.prog 139 = some (1, false) := by kernel_rfl
@[simp] theorem T377 : zeroE Tryd.prog 139 = some [V.poi] := by kernel_rfl
@[simp] theorem T378 : tyE Tryd.prog 147 = some (24, true) := by kernel_rfl
@[simp] theorem T379 : zeroE Tryd.prog 147 = some [V.int .u8 0, V.int .u8 0, V.int .u8 0, V.int .u8 0, V.int .u8 0, V.int .u8 0, V.int .u8 0, V.int .u8 0, V.int .u8 0, V.int .u8 0, V.int .u8 0, V.int .u8 0, V.int .u8 0, V.int .u8 0, V.int .u8 0, V.int .u8 0, V.int .u8 0, V.int .u8 0, V.int .u8 0, V.int .u8 0, V.int .u8 0, V.int .u8 0, V.int .u8 0, V.int .u8 0] := by kernel_rfl
@[simp] theorem T380 : arE Tryd.prog 147 = some (24, 1, false) := by kernel_rfl
@[simp] theorem T381 (i : Nat) : plE Tryd.prog 147 i = some (i * 1, 1) := plE_arr T380 i
@[simp] theorem T382 : allE Tryd.prog 147 = true := by kernel_rfl
@[simp] theorem T383 : tyE Tryd.prog 165 = some (1, false) := by kernel_rfl
@[simp] theorem T384 : zeroE Tryd.prog 165 = some [V.sl 0 true []] := by kernel_rfl
@[simp] theorem T385 : slE Tryd.prog 165 = some (169, 3, 32) := by kernel_rfl
@[simp] theorem T386 : tyE Tryd.prog 168 = some (3, true) := by kernel_rfl
@[simp] theorem T387 : zeroE Tryd.prog 168 = some [V.int .i64 0, V.str [], V.bool false] := by kernel_rfl
@[simp] theorem T388 : fldE Tryd.prog 168 0 = some (0, 1, false) := by kernel_rfl
@[simp] theorem T389 : plE Tryd.prog 168 0 = some (0, 1) := by kernel_rfl
@[simp] theorem T390 : fldE Tryd.prog 168 1 = some (1, 1, false) := by kernel_rfl
@[simp] theorem T391 : plE Tryd.prog 168 1 = some (1, 1) := by kernel_rfl
@[simp] theorem T392 : fldE Tryd.prog 168 2 = some (2, 1, false) := by kernel_rfl
@[simp] theorem T393 : plE Tryd.prog 168 2 = some (2, 1) := by kernel_rfl
@[simp] theorem T394 : allE Tryd.prog 168 = true := by kernel_rfl
@[simp] theorem T395 : tyE Tryd.prog 169 = some (3, true) := by kernel_rfl
@[simp] theorem T396 : zeroE Tryd.prog 169 = some [V.int .i64 0, V.str [], V.bool false] := by kernel_rfl
@[simp] theorem T397 : fldE Tryd.prog 169 0 = some (0, 1, false) := by kernel_rfl
@[simp] theorem T398 : plE Tryd.prog 169 0 = some (0, 1) := by kernel_rfl
@[simp] theorem T399 : fldE Tryd.prog 169 1 = some (1, 1, false) := by kernel_rfl
@[simp] theorem T400 : plE Tryd.prog 169 1 = some (1, 1) := by kernel_rfl
@[simp] theorem T401 : fldE Tryd.prog 169 2 = some (2, 1, false) := by kernel_rfl
@[simp] theorem T402 : plE Tryd.prog 169 2 = some (2, 1) := by kernel_rfl
@[simp] theorem T403 : allE Tryd.prog 169 = true := by kernel_rfl
@[simp] theorem T404 : tyE Tryd.prog 175 = some (20, true) := by kernel_rfl
@[simp] theorem T405 : zeroE Tryd.prog 175 = some [V.int .u64 0, V.int .u64 0, V.int .u64 0, V.int .u64 0, V.int .u64 0, V.int .u64 0, V.int .u64 0, V.int .u64 0, V.int .u64 0, V.int .u64 0, V.int .u64 0, V.int .u64 0, V.int .u64 0, V.int .u64 0, V.int .u64 0, V.int .u64 0, V.int .u64 0, V.int .u64 0, V.int .u64 0, V.int .u64 0] := by kernel_rfl
@[simp] theorem T406 : arE Tryd.prog 175 = some (20, 1, false) := by kernel_rfl
@[simp] theorem T407 (i : Nat) : plE Tryd.prog 175 i = some (i * 1, 1) := plE_arr T406 i
@[simp] theorem T408 : allE Tryd.prog 175 = true := by kernel_rfl
@[simp] theorem T409 : tyE Tryd.prog 176 = some (65, true) := by kernel_rfl
@[simp] theorem T410 : zeroE Tryd.prog 176 = some [V.int .u8 0, V.int .u8 0, V.int .u8 0, V.int .u8 0, V.int .u8 0, V.int .u8 0, V.int .u8 0, V.int .u8 0, V.int .u8 0, V.int .u8 0, V.int .u8 0, V.int .u8 0, V.int .u8 0, V.int .u8 0, V.int .u8 0, V.int .u8 0, V.int .u8 0, V.int .u8 0, V.int .u8 0, V.int .u8 0, V.int .u8 0, V.int .u8 0, V.int .u8 0, V.int .u8 0, V.int .u8 0, V.int .u8 0, V.int .u8 0, V.int .u8 0, V.int .u8 0, V.int .u8 0, V.int .u8 0, V.int .u8 0, V.int .u8 0, V.int .u8 0, V.int .u8 0, V.int .u8 0, V.int .u8 0, V.int .u8 0, V.int .u8 0, V.int .u8 0, V.int .u8 0, V.int .u8 0, V.int .u8 0, V.int .u8 0, V.int .u8 0, V.int .u8 0, V.int .u8 0, V.int .u8 0, V.int .u8 0, V.int .u8 0, V.int .u8 0, V.int .u8 0, V.int .u8 0, V.int .u8 0, V.int .u8 0, V.int .u8 0, V.int .u8 0, V.int .u8 0, V.int .u8 0, V.int .u8 0, V.int .u8 0, V.int .u8 0, V.int .u8 0, V.int .u8 0, V.int .u8 0] := by kernel_rfl
@[simp] theorem T411 : arE Tryd.prog 176 = some (65, 1, false) := by kernel_rfl
@[simp] theorem T412 (i : Nat) : plE Tryd.prog 176 i = some (i * 1, 1) := plE_arr T411 i
@[simp] theorem T413 : allE Tryd.prog 176 = true := by kernel_rfl
@[simp] theorem T414 : tyE Tryd.prog 188 = some (256, true) := by kernel_rfl
@[simp] theorem T415 : zeroE Tryd.prog 188 = some [V.bool false, V.bool false, V.bool false, V.bool false, V.bool false, V.bool false, V.bool false, V.bool false, V.bool false, V.bool false, V.bool false, V.bool false, V.bool false, V.bool false, V.bool false, V.bool false, V.bool false, V.bool false, V.bool false, V.bool false, V.bool false, V.bool false, V.bool false, V.bool false, V.bool false, V.bool false, V.bool false, V.bool false, V.bool false, V.bool false, V.bool false, V.bool false, V.bool false, V.bool false, V.bool false, V.bool false, V.bool false, V.bool false, V.bool false, V.bool false, V.bool false, V.bool false, V.bool false, V.bool false, V.bool false, V.bool false, V.bool false, V.bool false, V.bool false, V.bool false, V.bool false, V.bool false, V.bool false, V.bool false, V.bool false, V.bool false, V.bool false, V.bool false, V.bool false, V.bool false, V.bool false, V.bool false, V.bool false, V.bool false, V.bool false, V.bool false, V.bool false, V.bool false, V.bool false, V.bool false, V.bool false, V.bool false, V.bool false, V.bool false, V.bool false, V.bool false, V.bool false, V.bool false, V.bool false, V.bool false, V.bool false, V.bool false, V.bool false, V.bool false, V.bool false, V.bool false, V.bool false, V.bool false, V.bool false, V.bool false, V.bool false, V.bool false, V.bool false, V.bool false, V.bool false, V.bool false, V.bool false, V.bool false, V.bool false, V.bool false, V.bool false, V.bool false, V.bool false, V.bool false, V.bool false, V.bool false, V.bool false, V.bool false, V.bool false, V.bool false, V.bool false, V.bool false, V.bool false, V.bool false, V.bool false, V.bool false, V.bool false, V.bool false, V.bool false, V.bool false, V.bool false, V.bool false, V.bool false, V.bool false, V.bool false, V.bool false, V.bool false, V.bool false, V.bool false, V.bool false, V.bool false, V.bool false, V.bool false, V.bool false, V.bool false, V.bool false, V.bool false, V.bool false, V.bool false, V.bool false, V.bool false, V.bool false, V.bool false, V.bool false, V.bool false, V.bool false, V.bool false, V.bool false, V.bool false, V.bool false, V.bool false, V.bool false, V.bool false, V.bool false, V.bool false, V.bool false, V.bool false, V.bool false, V.bool false, V.bool false, V.bool false, V.bool false, V.bool false, V.bool false, V.bool false, V.bool false, V.bool false, V.bool false, V.bool false, V.bool false, V.bool false, V.bool false, V.bool false, V.bool false, V.bool false, V.bool false, V.bool false, V.bool false, V.bool false, V.bool false, V.bool false, V.bool false, V.bool false, V.bool false, V.bool false, V.bool false, V.bool false, V.bool false, V.bool false, V.bool false, V.bool false, V.bool false, V.bool false, V.bool false, V.bool false, V.bool false, V.bool false, V.bool false, V.bool false, V.bool false, V.bool false, V.bool false, V.bool false, V.bool false, V.bool false, V.bool false, V.bool false, V.bool false, V.bool false, V.bool false, V.bool false, V.bool false, V.bool false, V.bool false, V.bool false, V.bool false, V.bool false, V.bool false, V.bool false, V.bool false, V.bool false, V.bool false, V.bool false, V.bool false, V.bool false, V.bool false, V.bool false, V.bool false, V.bool false, V.bool false, V.bool false, V.bool false, V.bool false, V.bool false, V.bool false, V.bool false, V.bool false, V.bool false, V.bool false, V.bool false, V.bool false, V.bool false, V.bool false, V.bool false, V.bool false, V.bool false, V.bool false, V.bool false, V.bool false, V.bool false, V.bool false, V.bool false, V.bool false, V.bool false, V.bool false, V.bool false] := by kernel_rfl
@[simp] theorem T416 : arE Tryd.prog 188 = some (256, 1, false) := by kernel_rfl
@[simp] theorem T417 (i : Nat) : plE Tryd.prog 188 i = some (i * 1, 1) := plE_arr T416 i
@[simp] theorem T418 : allE Tryd.prog 188 = true := by kernel_rfl
@[simp] theorem T419 : tyE Tryd.prog 189 = some (256, true) := by kernel_rfl
@[simp] theorem T420 : zeroE Tryd.prog 189 = some [V.bool false, V.bool false, V.bool false, V.bool false, V.bool false, V.bool false, V.bool false, V.bool false, V.bool false, V.bool false, V.bool false, V.bool false, V.bool false, V.bool false, V.bool false, V.bool false, V.bool false, V.bool false, V.bool false, V.bool false, V.bool false, V.bool false, V.bool false, V.bool false, V.bool false, V.bool false, V.bool false, V.bool false, V.bool false, V.bool false, V.bool false, V.bool false, V.bool false, V.bool false, V.bool false, V.bool false, V.bool false, V.bool false, V.bool false, V.bool false, V.bool false, V.bool false, V.bool false, V.bool false, V.bool false, V.bool false, V.bool false, V.bool false, V.bool false, V.bool false, V.bool false, V.bool false, V.bool false, V.bool false, V.bool false, V.bool false, V.bool false, V.bool false, V.bool false, V.bool false, V.bool false, V.bool false, V.bool false, V.bool false, V.bool false, V.bool false, V.bool false, V.bool false, V.bool false, V.bool false, V.bool false, V.bool false, V.bool false, V.bool false, V.bool false, V.bool false, V.bool false, V.bool false, V.bool false, V.bool false, V.bool false, V.bool false, V.bool false, V.bool false, V.bool false, V.bool false, V.bool false, V.bool false, V.bool false, V.bool false, V.bool false, V.bool false, V.bool false, V.bool false, V.bool false, V.bool false, V.bool false, V.bool false, V.bool false, V.bool false, V.bool false, V.bool false, V.bool false, V.bool false, V.bool false, V.bool false, V.bool false, V.bool false, V.bool false, V.bool false, V.bool false, V.bool false, V.bool false, V.bool false, V.bool false, V.bool false, V.bool false, V.bool false, V.bool false, V.bool false, V.bool false, V.bool false, V.bool false, V.bool false, V.bool false, V.bool false, V.bool false, V.bool false, V.bool false, V.bool false, V.bool false, V.bool false, V.bool false, V.bool false, V.bool false, V.bool false, V.bool false, V.bool false, V.bool false, V.bool false, V.bool false, V.bool false, V.bool false, V.bool false, V.bool false, V.bool false, V.bool false, V.bool false, V.bool false, V.bool false, V.bool false, V.bool false, V.bool false, V.bool false, V.bool false, V.bool false, V.bool false, V.bool false, V.bool false, V.bool false, V.bool false, V.bool false, V.bool false, V.bool false, V.bool false, V.bool false, V.bool false, V.bool false, V.bool false, V.bool false, V.bool false, V.bool false, V.bool false, V.bool false, V.bool false, V.bool false, V.bool false, V.bool false, V.bool false, V.bool false, V.bool false, V.bool false, V.bool false, V.bool false, V.bool false, V.bool false, V.bool false, V.bool false, V.bool false, V.bool false, V.bool false, V.bool false, V.bool false, V.bool false, V.bool false, V.bool false, V.bool false, V.bool false, V.bool false, V.bool false, V.bool false, V.bool false, V.bool false, V.bool false, V.bool false, V.bool false, V.bool false, V.bool false, V.bool false, V.bool false, V.bool false, V.bool false, V.bool false, V.bool false, V.bool false, V.bool false, V.bool false, V.bool false, V.bool false, V.bool false, V.bool false, V.bool false, V.bool false, V.bool false, V.bool false, V.bool false, V.bool false, V.bool false, V.bool false, V.bool false, V.bool false, V.bool false, V.bool false, V.bool false, V.bool false, V.bool false, V.bool false, V.bool false, V.bool false, V.bool false, V.bool false, V.bool false, V.bool false, V.bool false, V.bool false, V.bool false, V.bool false, V.bool false, V.bool false, V.bool false, V.bool false, V.bool false, V.bool false, V.bool false, V.bool false, V.bool false] := by kernel_rfl
@[simp] theorem T421 : arE Tryd.prog 189 = some (256, 1, false) := by kernel_rfl
@[simp] theorem T422 (i : Nat) : plE Tryd.prog 189 i = some (i * 1, 1) := plE_arr T421 i
@[simp] theorem T423 : allE Tryd.prog 189 = true := by kernel_rfl
@[simp] theorem T424 : tyE Tryd.prog 193 = some (1, false) := by kernel_rfl
@[simp] theorem T425 : zeroE Tryd.prog 193 = some [V.poi] := by kernel_rfl
@[simp] theorem T426 : tyE Tryd.prog 196 = some (32, true) := by kernel_rfl
@[simp] theorem T427 : zeroE Tryd.prog 196 = some [V.int .u8 0, V.int .u8 0, V.int .u8 0, V.int .u8 0, V.int .u8 0, V.int .u8 0, V.int .u8 0, V.int .u8 0, V.int .u8 0, V.int .u8 0, V.int .u8 0, V.int .u8 0, V.int .u8 0, V.int .u8 0, V.int .u8 0, V.int .u8 0, V.int .u8 0, V.int .u8 0, V.int .u8 0, V.int .u8 0, V.int .u8 0, V.int .u8 0, V.int .u8 0, V.int .u8 0, V.int .u8 0, V.int .u8 0, V.int .u8 0, V.int .u8 0, V.int .u8 0, V.int .u8 0, V.int .u8 0, V.int .u8 0] := by kernel_rfl
@[simp] theorem T428 : arE Tryd.prog 196 = some (32, 1, false) := by kernel_rfl
@[simp] theorem T429 (i : Nat) : plE Tryd.prog 196 i = some (i * 1, 1) := plE_arr T428 i
@[simp] theorem T430 : allE Tryd.prog 196 = true := by kernel_rfl
@[simp] theorem T431 : tyE Tryd.prog 197 = some (64, true) := by kernel_rfl
@[simp] theorem T432 : zeroE Tryd.prog 197 = some [V.int .u8 0, V.int .u8 0, V.int .u8 0, V.int .u8 0, V.int .u8 0, V.int .u8 0, V.int .u8 0, V.int .u8 0, V.int .u8 0, V.int .u8 0, V.int .u8 0, V.int .u8 0, V.int .u8 0, V.int .u8 0, V.int .u8 0, V.int .u8 0, V.int .u8 0, V.int .u8 0, V.int .u8 0, V.int .u8 0, V.int .u8 0, V.int .u8 0, V.int .u8 0, V.int .u8 0, V.int .u8 0, V.int .u8 0, V.int .u8 0, V.int .u8 0, V.int .u8 0, V.int .u8 0, V.int .u8 0, V.int .u8 0, V.int .u8 0, V.int .u8 0, V.int .u8 0, V.int .u8 0, V.int .u8 0, V.int .u8 0, V.int .u8 0, V.int .u8 0, V.int .u8 0, V.int .u8 0, V.int .u8 0, V.int .u8 0, V.int .u8 0, V.int .u8 0, V.int .u8 0, V.int .u8 0, V.int .u8 0, V.int .u8 0, V.int .u8 0, V.int .u8 0, V.int .u8 0, V.int .u8 0, V.int .u8 0, V.int .u8 0, V.int .u8 0, V.int .u8 0, V.int .u8 0, V.int .u8 0, V.int .u8 0, V.int .u8 0, V.int .u8 0, V.int .u8 0] := by kernel_rfl
@[simp] theorem T433 : arE Tryd.prog 197 = some (64, 1, false) := by kernel_rfl
@[simp] theorem T434 (i : Nat) : plE Tryd.prog 197 i = some (i * 1, 1) := plE_arr T433 i
@[simp] theorem T435 : allE Tryd.prog 197 = true := by kernel_rfl
@[simp] theorem T436 : tyE Tryd.prog 201 = some (256, true) := by kernel_rfl
@[simp] theorem T437 : zeroE Tryd.prog 201 = some [V.int .u8 0, V.int .u8 0, V.int .u8 0, V.int .u8 0, V.int .u8 0, V.int .u8 0, V.int .u8 0, V.int .u8 0, V.int .u8 0, V.int .u8 0, V.int .u8 0, V.int .u8 0, V.int .u8 0, V.int .u8 0, V.int .u8 0, V.int .u8 0, V.int .u8 0, V.int .u8 0, V.int .u8 0, V.int .u8 0, V.int .u8 0, V.int .u8 0, V.int .u8 0, V.int .u8 0, V.int .u8 0, V.int .u8 0, V.int .u8 0, V.int .u8 0, V.int .u8 0, V.int .u8 0, V.int .u8 0, V.int .u8 0, V.int .u8 0, V.int .u8 0, V.int .u8 0, V.int .u8 0, V.int .u8 0, V.int .u8 0, V.int .u8 0, V.int .u8 0, V.int .u8 0, V.int .u8 0, V.int .u8 0, V.int .u8 0, V.int .u8 0, V.int .u8 0, V.int .u8 0, V.int .u8 0, V.int .u8 0, V.int .u8 0, V.int .u8 0, V.int .u8 0, V.int .u8 0, V.int .u8 0, V.int .u8 0, V.int .u8 0, V.int .u8 0, V.int .u8 0, V.int .u8 0, V.int .u8 0, V.int .u8 0, V.int .u8 0, V.int .u8 0, V.int .u8 0, V.int .u8 0, V.int .u8 0, V.int .u8 0, V.int .u8 0, V.int .u8 0, V.int .u8 0, V.int .u8 0, V.int .u8 0, V.int .u8 0, V.int .u8 0, V.int .u8 0, V.int .u8 0, V.int .u8 0, V.int .u8 0, V.int .u8 0, V.int .u8 0, V.int .u8 0, V.int .u8 0, V.int .u8 0, V.int .u8 0, V.int .u8 0, V.int .u8 0, V.int .u8 0, V.int .u8 0, V.int .u8 0, V.int .u8 0, V.int .u8 0, V.int .u8 0, V.int .u8 0, V.int .u8 0, V.int .u8 0, V.int .u8 0, V.int .u8 0, V.int .u8 0, V.int .u8 0, V.int .u8 0, V.int .u8 0, V.int .u8 0, V.int .u8 0, V.int .u8 0, V.int .u8 0, V.int .u8 0, V.int .u8 0, V.int .u8 0, V.int .u8 0, V.int .u8 0, V.int .u8 0, V.int .u8 0, V.int .u8 0, V.int .u8 0, V.int .u8 0, V.int .u8 0, V.int .u8 0, V.int .u8 0, V.int .u8 0, V.int .u8 0, V.int .u8 0, V.int .u8 0, V.int .u8 0, V.int .u8 0, V.int .u8 0, V.int .u8 0, V.int .u8 0, V.int .u8 0, V.int .u8 0, V.int .u8 0, V.int .u8 0, V.int .u8 0, V.int .u8 0, V.int .u8 0, V.int .u8 0, V.int .u8 0, V.int .u8 0, V.int .u8 0, V.int .u8 0, V.int .u8 0, V.int .u8 0, V.int .u8 0, V.int .u8 0, V.int .u8 0, V.int .u8 0, V.int .u8 0, V.int .u8 0, V.int .u8 0, V.int .u8 0, V.int .u8 0, V.int .u8 0, V.int .u8 0, V.int .u8 0, V.int .u8 0, V.int .u8 0, V.int .u8 0, V.int .u8 0, V.int .u8 0, V.int .u8 0, V.int .u8 0, V.int .u8 0, V.int .u8 0, V.int .u8 0, V.int .u8 0, V.int .u8 0, V.int .u8 0, V.int .u8 0, V.int .u8 0, V.int .u8 0, V.int .u8 0, V.int .u8 0, V.int .u8 0, V.int .u8 0, V.int .u8 0, V.int .u8 0, V.int .u8 0, V.int .u8 0, V.int .u8 0, V.int .u8 0, V.int .u8 0, V.int .u8 0, V.int .u8 0, V.int .u8 0, V.int .u8 0, V.int .u8 0, V.int .u8 0, V.int .u8 0, V.int .u8 0, V.int .u8 0, V.int .u8 0, V.int .u8 0, V.int .u8 0, V.int .u8 0, V.int .u8 0, V.int .u8 0, V.int .u8 0, V.int .u8 0, V.int .u8 0, V.int .u8 0, V.int .u8 0, V.int .u8 0, V.int .u8 0, V.int .u8 0, V.int .u8 0, V.int .u8 0, V.int .u8 0, V.int .u8 0, V.int .u8 0, V.int .u8 0, V.int .u8 0, V.int .u8 0, V.int .u8 0, V.int .u8 0, V.int .u8 0, V.int .u8 0, V.int .u8 0, V.int .u8 0, V.int .u8 0, V.int .u8 0, V.int .u8 0, V.int .u8 0, V.int .u8 0, V.int .u8 0, V.int .u8 0, V.int .u8 0, V.int .u8 0, V.int .u8 0, V.int .u8 0, V.int .u8 0, V.int .u8 0, V.int .u8 0, V.int .u8 0, V.int .u8 0, V.int .u8 0, V.int .u8 0, V.int .u8 0, V.int .u8 0, V.int .u8 0, V.int .u8 0, V.int .u8 0, V.int .u8 0, V.int .u8 0, V.int .u8 0, V.int .u8 0, V.int .u8 0, V.int .u8 0, V.int .u8 0, V.int .u8 0, V.int .u8 0, V.int .u8 0, V.int .u8 0, V.int .u8 0, V.int .u8 0, V.int .u8 0, V.int .u8 0, V.int .u8 0] := by kernel_rfl
@[simp] theorem T438 : arE Tryd.prog 201 = some (256, 1, false) := by kernel_rfl
@[simp] theorem T439 (i : Nat) : plE Tryd.prog 201 i = some (i * 1, 1) := plE_arr T438 i
@[simp] theorem T440 : allE Tryd.prog 201 = true := by kernel_rfl
@[simp] theorem T441 : tyE Tryd.prog 202 = some (2, true) := by kernel_rfl
@[simp] theorem T442 : zeroE Tryd.prog 202 = some [V.int .u8 0, V.int .u8 0] := by kernel_rfl
@[simp] theorem T443 : fldE Tryd.prog 202 0 = some (0, 1, false) := by kernel_rfl
@[simp] theorem T444 : plE Tryd.prog 202 0 = some (0, 1) := by kernel_rfl
@[simp] theorem T445 : fldE Tryd.prog 202 1 = some (1, 1, false) := by kernel_rfl
@[simp] theorem T446 : plE Tryd.prog 202 1 = some (1, 1) := by kernel_rfl
@[simp] theorem T447 : allE Tryd.prog 202 = true := by kernel_rfl
@[simp] theorem T448 : tyE Tryd.prog 203 = some (2, true) := by kernel_rfl
@[simp] theorem T449 : zeroE Tryd.prog 203 = some [V.int .u8 0, V.int .u8 0] := by kernel_rfl
@[simp] theorem T450 : fldE Tryd.prog 203 0 = some (0, 1, false) := by kernel_rfl
@[simp] theorem T451 : plE Tryd.prog 203 0 = some (0, 1) := by kernel_rfl
@[simp] theorem T452 : fldE Tryd.prog 203 1 = some (1, 1, false) := by kernel_rfl
@[simp] theorem T453 : plE Tryd.prog 203 1 = some (1, 1) := by kernel_rfl
@[simp] theorem T454 : allE Tryd.prog 203 = true := by kernel_rfl
@[simp] theorem T455 : tyE Tryd.prog 204 = some (32, true) := by kernel_rfl
@[simp] theorem T456 : zeroE Tryd.prog 204 = some [V.int .u8 0, V.int .u8 0, V.int .u8 0, V.int .u8 0, V.int .u8 0, V.int .u8 0, V.int .u8 0, V.int .u8 0, V.int .u8 0, V.int .u8 0, V.int .u8 0, V.int .u8 0, V.int .u8 0, V.int .u8 0, V.int .u8 0, V.int .u8 0, V.int .u8 0, V.int .u8 0, V.int .u8 0, V.int .u8 0, V.int .u8 0, V.int .u8 0, V.int .u8 0, V.int .u8 0, V.int .u8 0, V.int .u8 0, V.int .u8 0, V.int .u8 0, V.int .u8 0, V.int .u8 0, V.int .u8 0, V.int .u8 0] := by kernel_rfl
@[simp] theorem T457 : arE Tryd.prog 204 = some (16, 2, true) := by kernel_rfl
@[simp] theorem T458 (i : Nat) : plE Tryd.prog 204 i = some (i * 2, 2) := plE_arr T457 i
@[simp] theorem T459 : allE Tryd.prog 204 = true := by kernel_rfl
@[simp] theorem T460 : tyE Tryd.prog 205 = some (4, true) := by kernel_rfl
@[simp] theorem T461 : zeroE Tryd.prog 205 = some [V.poi, V.poi, V.poi, V.str []] := by kernel_rfl
@[simp] theorem T462 : fldE Tryd.prog 205 0 = some (0, 1, false) := by kernel_rfl
@[simp] theorem T463 : plE Tryd.prog 205 0 = some (0, 1) := by kernel_rfl
@[simp] theorem T464 : fldE Tryd.prog 205 1 = some (1, 1, false) := by kernel_rfl
@[simp] theorem T465 : plE Tryd.prog 205 1 = some (1, 1) := by kernel_rfl
@[simp] theorem T466 : fldE Tryd.prog 205 2 = some (2, 1, false) := by kernel_rfl
@[simp] theorem T467 : plE Tryd.prog 205 2 = some (2, 1) := by kernel_rfl
@[simp] theorem T468 : fldE Tryd.prog 205 3 = some (3, 1, false) := by kernel_rfl
@[simp] theorem T469 : plE Tryd.prog 205 3 = some (3, 1) := by kernel_rfl
@[simp] theorem T470 : allE Tryd.prog 205 = true := by kernel_rfl
@[simp] theorem T471 : tyE Tryd.prog 206 = some (4, true) := by kernel_rfl
@[simp] theorem T472 : zeroE Tryd.prog 206 = some [V.poi, V.poi, V.poi, V.str []] := by kernel_rfl
@[simp] theorem T473 : fldE Tryd.prog 206 0 = some (0, 1, false) := by kernel_rfl
@[simp] theorem T474 : plE Tryd.prog 206 0 = some (0, 1) := by kernel_rfl
@[simp] theorem T475 : fldE Tryd.prog 206 1 = some (1, 1, false) := by kernel_rfl
@[simp] theorem T476 : plE Tryd.prog 206 1 = some (1, 1) := by kernel_rfl
@[simp] theorem T477 : fldE Tryd.prog 206 2 = some (2, 1, false) := by kernel_rfl
@[simp] theorem T478 : plE Tryd.prog 206 2 = some (2, 1) := by kernel_rfl
@[simp] theorem T479 : fldE Tryd.prog 206 3 = some (3, 1, false) := by kernel_rfl
@[simp] theorem T480 : plE Tryd.prog 206 3 = some (3, 1) := by kernel_rfl
@[simp] theorem T481 : allE Tryd.prog 206 = true := by kernel_rfl
@[simp] theorem T482 : tyE Tryd.prog 207 = some (0, true) := by kernel_rfl
@[simp] theorem T483 : zeroE Tryd.prog 207 = some [] := by kernel_rfl
@[simp] theorem T484 : arE Tryd.prog 207 = some (0, 1, false) := by kernel_rfl
@[simp] theorem T485 (i : Nat) : plE Tryd.prog 207 i = some (i * 1, 1) := plE_arr T484 i
@[simp] theorem T486 : allE Tryd.prog 207 = true := by kernel_rfl
@[simp] theorem T487 : tyE Tryd.prog 208 = some (0, true) := by kernel_rfl
@[simp] theorem T488 : zeroE Tryd.prog 208 = some [] := by kernel_rfl
@[simp] theorem T489 : plE Tryd.prog 208 0 = some (0, 0) := by kernel_rfl
@[simp] theorem T490 : allE Tryd.prog 208 = true := by kernel_rfl
@[simp] theorem T491 : tyE Tryd.prog 209 = some (0, true) := by kernel_rfl
@[simp] theorem T492 : zeroE Tryd.prog 209 = some [] := by kernel_rfl
@[simp] theorem T493 : plE Tryd.prog 209 0 = some (0, 0) := by kernel_rfl
@[simp] theorem T494 : allE Tryd.prog 209 = true := by kernel_rfl
@[simp] theorem T495 : tyE Tryd.prog 210 = some (1, false) := by kernel_rfl
@[simp] theorem T496 : zeroE Tryd.prog 210 = some [V.int .u8 0] := by kernel_rfl
@[simp] theorem T497 : isInt Tryd.prog 210 = some .u8 := by kernel_rfl
@[simp] theorem T498 : tyE Tryd.prog 211 = some (1, false) := by kernel_rfl
@[simp] theorem T499 : zeroE Tryd.prog 211 = some [V.int .u8 0] := by kernel_rfl
@[simp] theorem T500 : isInt Tryd.prog 211 = some .u8 := by kernel_rfl
@[simp] theorem T501 : tyE Tryd.prog 213 = some (1, false) := by kernel_rfl
@[simp] theorem T502 : zeroE Tryd.prog 213 = some [V.int .i32 0] := by kernel_rfl
@[simp] theorem T503 : isInt Tryd.prog 213 = some .i32 := by kernel_rfl
@[simp] theorem T504 : tyE Tryd.prog 214 = some (1, false) := by kernel_rfl
@[simp] theorem T505 : zeroE Tryd.prog 214 = some [V.int .i32 0] := by kernel_rfl
@[simp] theorem T506 : isInt Tryd.prog 214 = some .i32 := by kernel_rfl
@[simp] theorem T507 : tyE Tryd.prog 215 = some (11, true) := by kernel_rfl
@[simp] theorem T508 : zeroE Tryd.prog 215 = some [V.int .u64 0, V.int .u64 0, V.int .u32 0, V.int .u8 0, V.int .u8 0, V.int .u8 0, V.int .u8 0, V.poi, V.poi, V.int .i32 0, V.int .i32 0] := by kernel_rfl
@[simp] theorem T509 : fldE Tryd.prog 215 0 = some (0, 1, false) := by kernel_rfl
@[simp] theorem T510 : plE Tryd.prog 215 0 = some (0, 1) := by kernel_rfl
@[simp] theorem T511 : fldE Tryd.prog 215 1 = some (1, 1, false) := by kernel_rfl
@[simp] theorem T512 : plE Tryd.prog 215 1 = some (1, 1) := by kernel_rfl
@[simp] theorem T513 : fldE Tryd.prog 215 2 = some (2, 1, false) := by kernel_rfl
@[simp] theorem T514 : plE Tryd.prog 215 2 = some (2, 1) := by kernel_rfl
@[simp] theorem T515 : fldE Tryd.prog 215 3 = some (3, 1, false) := by kernel_rfl
@[simp] theorem T516 : plE Tryd.prog 215 3 = some (3, 1) := by kernel_rfl
@[simp] theorem T517 : fldE Tryd.prog 215 4 = some (4, 1, false) := by kernel_rfl
@[simp] theorem T518 : plE Tryd.prog 215 4 = some (4, 1) := by kernel_rfl
@[simp] theorem T519 : fldE Tryd.prog 215 5 = some (5, 1, false) := by kernel_rfl
@[simp] theorem T520 : plE Tryd.prog 215 5 = some (5, 1) := by kernel_rfl
@[simp] theorem T521 : fldE Tryd.prog 215 6 = some (6, 1, false) := by kernel_rfl
@[simp] theorem T522 : plE Tryd.prog 215 6 = some (6, 1) := by kernel_rfl
@[simp] theorem T523 : fldE Tryd.prog 215 7 = some (7, 1, false) := by kernel_rfl
@[simp] theorem T524 : plE Tryd.prog 215 7 = some (7, 1) := by kernel_rfl
@[simp] theorem T525 : fldE Tryd.prog 215 8 = some (8, 1, false) := by kernel_rfl
@[simp] theorem T526 : plE Tryd.prog 215 8 = some (8, 1) := by kernel_rfl
@[simp] theorem T527 : fldE Tryd.prog 215 9 = some (9, 1, false) := by kernel_rfl
@[simp] theorem T528 : plE Tryd.prog 215 9 = some (9, 1) := by kernel_rfl
@[simp] theorem T529 : fldE Tryd.prog 215 10 = some (10, 1, false) := by kernel_rfl
@[simp] theorem T530 : plE Tryd.prog 215 10 = some (10, 1) := by kernel_rfl
@[simp] theorem T531 : allE Tryd.prog 215 = true := by kernel_rfl
@[simp] theorem T532 : tyE Tryd.prog 216 = some (11, true) := by kernel_rfl
@[simp] theorem T533 : zeroE Tryd.prog 216 = some [V.int .u64 0, V.int .u64 0, V.int .u32 0, V.int .u8 0, V.int .u8 0, V.int .u8 0, V.int .u8 0, V.poi, V.poi, V.int .i32 0, V.int .i32 0] := by kernel_rfl
@[simp] theorem T534 : fldE Tryd.prog 216 0 = some (0, 1, false) := by kernel_rfl
@[simp] theorem T535 : plE Tryd.prog 216 0 = some (0, 1) := by kernel_rfl
@[simp] theorem T536 : fldE Tryd.prog 216 1 = some (1, 1, false) := by kernel_rfl
@[simp] theorem T537 : plE Tryd.prog 216 1 = some (1, 1) := by kernel_rfl
@[simp] theorem T538 : fldE Tryd.prog 216 2 = some (2, 1, false) := by kernel_rfl
@[simp] theorem T539 : plE Tryd.prog 216 2 = some (2, 1) := by kernel_rfl
@[simp] theorem T540 : fldE Tryd.prog 216 3 = some (3, 1, false) := by kernel_rfl
@[simp] theorem T541 : plE Tryd.prog 216 3 = some (3, 1) := by kernel_rfl
@[simp] theorem T542 : fldE Tryd.prog 216 4 = some (4, 1, false) := by kernel_rfl
@[simp] theorem T543 : plE Tryd.prog 216 4 = some (4, 1) := by kernel_rfl
@[simp] theorem T544 : fldE Tryd.prog 216 5 = some (5, 1, false) := by kernel_rfl
@[simp] theorem T545 : plE Tryd.prog 216 5 = some (5, 1) := by kernel_rfl
@[simp] theorem T546 : fldE Tryd.prog 216 6 = some (6, 1, false) := by kernel_rfl
@[simp] theorem T547 : plE Tryd.prog 216 6 = some (6, 1) := by kernel_rfl
@[simp] theorem T548 : fldE Tryd.prog 216 7 = some (7, 1, false) := by kernel_rfl
@[simp] theorem T549 : plE Tryd.prog 216 7 = some (7, 1) := by kernel_rfl
@[simp] theorem T550 : fldE Tryd.prog 216 8 = some (8, 1, false) := by kernel_rfl
@[simp] theorem T551 : plE Tryd.prog 216 8 = some (8, 1) := by kernel_rfl
@[simp] theorem T552 : fldE Tryd.prog 216 9 = some (9, 1, false) := by kernel_rfl
@[simp] theorem T553 : plE Tryd.prog 216 9 = some (9, 1) := by kernel_rfl
@[simp] theorem T554 : fldE Tryd.prog 216 10 = some (10, 1, false) := by kernel_rfl
@[simp] theorem T555 : plE Tryd.prog 216 10 = some (10, 1) := by kernel_rfl
@[simp] theorem T556 : allE Tryd.prog 216 = true := by kernel_rfl
end Go.Proofs.YtjlbpkokdlggiaaDoor
