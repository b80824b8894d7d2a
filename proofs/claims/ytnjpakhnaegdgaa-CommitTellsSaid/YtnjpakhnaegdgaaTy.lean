/- Closed facts on the types of the translation, by program (gentypes.py). -/
import Derived.Test.YtnjpakhnaegdgaaAbW
import Derived.Test.YtnjpakhnaegdgaaProg
import Derived.KernelRfl
namespace Go.Proofs.Ytnjpakhnaegdgaa
open Go.Ab
@[simp] theorem T0 : tyE Try.prog 2 = some (1, false) := by kernel_rfl
@[simp] theorem T1 : zeroE Try.prog 2 = some [V.int .i64 0] := by kernel_rfl
@[simp] theorem T2 : isInt Try.prog 2 = some .i64 := by kernel_rfl
@[simp] theorem T3 : tyE Try.prog 3 = some (1, false) := by kernel_rfl
@[simp] theorem T4 : zeroE Try.prog 3 = some [V.int .i64 0] := by kernel_rfl
@[simp] theorem T5 : isInt Try.prog 3 = some .i64 := by kernel_rfl
@[simp] theorem T6 : tyE Try.prog 4 = some (1, false) := by kernel_rfl
@[simp] theorem T7 : zeroE Try.prog 4 = some [V.bool false] := by kernel_rfl
@[simp] theorem T8 : tyE Try.prog 5 = some (1, false) := by kernel_rfl
@[simp] theorem T9 : zeroE Try.prog 5 = some [V.int .u8 0] := by kernel_rfl
@[simp] theorem T10 : isInt Try.prog 5 = some .u8 := by kernel_rfl
@[simp] theorem T11 : tyE Try.prog 6 = some (1, false) := by kernel_rfl
@[simp] theorem T12 : zeroE Try.prog 6 = some [V.int .u8 0] := by kernel_rfl
@[simp] theorem T13 : isInt Try.prog 6 = some .u8 := by kernel_rfl
@[simp] theorem T14 : tyE Try.prog 7 = some (4, true) := by kernel_rfl
@[simp] theorem T15 : zeroE Try.prog 7 = some [V.int .i64 0, V.int .i64 0, V.bool false, V.int .u8 0] := by kernel_rfl
@[simp] theorem T16 : fldE Try.prog 7 0 = some (0, 1, false) := by kernel_rfl
@[simp] theorem T17 : plE Try.prog 7 0 = some (0, 1) := by kernel_rfl
@[simp] theorem T18 : fldE Try.prog 7 1 = some (1, 1, false) := by kernel_rfl
@[simp] theorem T19 : plE Try.prog 7 1 = some (1, 1) := by kernel_rfl
@[simp] theorem T20 : fldE Try.prog 7 2 = some (2, 1, false) := by kernel_rfl
@[simp] theorem T21 : plE Try.prog 7 2 = some (2, 1) := by kernel_rfl
@[simp] theorem T22 : fldE Try.prog 7 3 = some (3, 1, false) := by kernel_rfl
@[simp] theorem T23 : plE Try.prog 7 3 = some (3, 1) := by kernel_rfl
@[simp] theorem T24 : allE Try.prog 7 = true := by kernel_rfl
@[simp] theorem T25 : tyE Try.prog 8 = some (4, true) := by kernel_rfl
@[simp] theorem T26 : zeroE Try.prog 8 = some [V.int .i64 0, V.int .i64 0, V.bool false, V.int .u8 0] := by kernel_rfl
@[simp] theorem T27 : fldE Try.prog 8 0 = some (0, 1, false) := by kernel_rfl
@[simp] theorem T28 : plE Try.prog 8 0 = some (0, 1) := by kernel_rfl
@[simp] theorem T29 : fldE Try.prog 8 1 = some (1, 1, false) := by kernel_rfl
@[simp] theorem T30 : plE Try.prog 8 1 = some (1, 1) := by kernel_rfl
@[simp] theorem T31 : fldE Try.prog 8 2 = some (2, 1, false) := by kernel_rfl
@[simp] theorem T32 : plE Try.prog 8 2 = some (2, 1) := by kernel_rfl
@[simp] theorem T33 : fldE Try.prog 8 3 = some (3, 1, false) := by kernel_rfl
@[simp] theorem T34 : plE Try.prog 8 3 = some (3, 1) := by kernel_rfl
@[simp] theorem T35 : allE Try.prog 8 = true := by kernel_rfl
@[simp] theorem T36 : tyE Try.prog 9 = some (1, false) := by kernel_rfl
@[simp] theorem T37 : zeroE Try.prog 9 = some [V.str []] := by kernel_rfl
@[simp] theorem T38 : isStr Try.prog 9 = true := by kernel_rfl
@[simp] theorem T39 : tyE Try.prog 10 = some (1, false) := by kernel_rfl
@[simp] theorem T40 : zeroE Try.prog 10 = some [V.str []] := by kernel_rfl
@[simp] theorem T41 : isStr Try.prog 10 = true := by kernel_rfl
@[simp] theorem T42 : tyE Try.prog 11 = some (1, false) := by kernel_rfl
@[simp] theorem T43 : zeroE Try.prog 11 = some [V.str []] := by kernel_rfl
@[simp] theorem T44 : isStr Try.prog 11 = true := by kernel_rfl
@[simp] theorem T45 : tyE Try.prog 12 = some (1, false) := by kernel_rfl
@[simp] theorem T46 : zeroE Try.prog 12 = some [V.int .u64 0] := by kernel_rfl
@[simp] theorem T47 : isInt Try.prog 12 = some .u64 := by kernel_rfl
@[simp] theorem T48 : tyE Try.prog 13 = some (2, true) := by kernel_rfl
@[simp] theorem T49 : zeroE Try.prog 13 = some [V.str [], V.int .u64 0] := by kernel_rfl
@[simp] theorem T50 : fldE Try.prog 13 0 = some (0, 1, false) := by kernel_rfl
@[simp] theorem T51 : plE Try.prog 13 0 = some (0, 1) := by kernel_rfl
@[simp] theorem T52 : fldE Try.prog 13 1 = some (1, 1, false) := by kernel_rfl
@[simp] theorem T53 : plE Try.prog 13 1 = some (1, 1) := by kernel_rfl
@[simp] theorem T54 : allE Try.prog 13 = true := by kernel_rfl
@[simp] theorem T55 : tyE Try.prog 14 = some (2, true) := by kernel_rfl
@[simp] theorem T56 : zeroE Try.prog 14 = some [V.str [], V.int .u64 0] := by kernel_rfl
@[simp] theorem T57 : fldE Try.prog 14 0 = some (0, 1, false) := by kernel_rfl
@[simp] theorem T58 : plE Try.prog 14 0 = some (0, 1) := by kernel_rfl
@[simp] theorem T59 : fldE Try.prog 14 1 = some (1, 1, false) := by kernel_rfl
@[simp] theorem T60 : plE Try.prog 14 1 = some (1, 1) := by kernel_rfl
@[simp] theorem T61 : allE Try.prog 14 = true := by kernel_rfl
@[simp] theorem T62 : tyE Try.prog 15 = some (1, false) := by kernel_rfl
@[simp] theorem T63 : zeroE Try.prog 15 = some [V.poi] := by kernel_rfl
@[simp] theorem T64 : tyE Try.prog 16 = some (1, false) := by kernel_rfl
@[simp] theorem T65 : zeroE Try.prog 16 = some [V.poi] := by kernel_rfl
@[simp] theorem T66 : tyE Try.prog 17 = some (1, false) := by kernel_rfl
@[simp] theorem T67 : zeroE Try.prog 17 = some [V.poi] := by kernel_rfl
@[simp] theorem T68 : tyE Try.prog 18 = some (1, true) := by kernel_rfl
@[simp] theorem T69 : zeroE Try.prog 18 = some [V.poi] := by kernel_rfl
@[simp] theorem T70 : fldE Try.prog 18 0 = some (0, 1, false) := by kernel_rfl
@[simp] theorem T71 : plE Try.prog 18 0 = some (0, 1) := by kernel_rfl
@[simp] theorem T72 : allE Try.prog 18 = true := by kernel_rfl
@[simp] theorem T73 : tyE Try.prog 19 = some (1, true) := by kernel_rfl
@[simp] theorem T74 : zeroE Try.prog 19 = some [V.poi] := by kernel_rfl
@[simp] theorem T75 : fldE Try.prog 19 0 = some (0, 1, false) := by kernel_rfl
@[simp] theorem T76 : plE Try.prog 19 0 = some (0, 1) := by kernel_rfl
@[simp] theorem T77 : allE Try.prog 19 = true := by kernel_rfl
@[simp] theorem T78 : tyE Try.prog 21 = some (1, false) := by kernel_rfl
@[simp] theorem T79 : zeroE Try.prog 21 = some [V.int .i32 0] := by kernel_rfl
@[simp] theorem T80 : isInt Try.prog 21 = some .i32 := by kernel_rfl
@[simp] theorem T81 : tyE Try.prog 22 = some (1, false) := by kernel_rfl
@[simp] theorem T82 : zeroE Try.prog 22 = some [V.sl 0 true []] := by kernel_rfl
@[simp] theorem T83 : slE Try.prog 22 = some (9, 1, 16) := by kernel_rfl
@[simp] theorem T84 : tyE Try.prog 23 = some (2, true) := by kernel_rfl
@[simp] theorem T85 : zeroE Try.prog 23 = some [V.sl 0 true [], V.bool false] := by kernel_rfl
@[simp] theorem T86 : fldE Try.prog 23 0 = some (0, 1, false) := by kernel_rfl
@[simp] theorem T87 : plE Try.prog 23 0 = some (0, 1) := by kernel_rfl
@[simp] theorem T88 : fldE Try.prog 23 1 = some (1, 1, false) := by kernel_rfl
@[simp] theorem T89 : plE Try.prog 23 1 = some (1, 1) := by kernel_rfl
@[simp] theorem T90 : allE Try.prog 23 = true := by kernel_rfl
@[simp] theorem T91 : tyE Try.prog 24 = some (2, true) := by kernel_rfl
@[simp] theorem T92 : zeroE Try.prog 24 = some [V.sl 0 true [], V.bool false] := by kernel_rfl
@[simp] theorem T93 : fldE Try.prog 24 0 = some (0, 1, false) := by kernel_rfl
@[simp] theorem T94 : plE Try.prog 24 0 = some (0, 1) := by kernel_rfl
@[simp] theorem T95 : fldE Try.prog 24 1 = some (1, 1, false) := by kernel_rfl
@[simp] theorem T96 : plE Try.prog 24 1 = some (1, 1) := by kernel_rfl
@[simp] theorem T97 : allE Try.prog 24 = true := by kernel_rfl
@[simp] theorem T98 : tyE Try.prog 33 = some (1, false) := by kernel_rfl
@[simp] theorem T99 : zeroE Try.prog 33 = some [V.sl 0 true []] := by kernel_rfl
@[simp] theorem T100 : slE Try.prog 33 = some (3, 1, 8) := by kernel_rfl
@[simp] theorem T101 : tyE Try.prog 35 = some (1, false) := by kernel_rfl
@[simp] theorem T102 : zeroE Try.prog 35 = some [V.int .u64 0] := by kernel_rfl
@[simp] theorem T103 : isInt Try.prog 35 = some .u64 := by kernel_rfl
@[simp] theorem T104 : tyE Try.prog 43 = some (1, false) := by kernel_rfl
@[simp] theorem T105 : zeroE Try.prog 43 = some [V.int .u64 0] := by kernel_rfl
@[simp] theorem T106 : isInt Try.prog 43 = some .u64 := by kernel_rfl
@[simp] theorem T107 : tyE Try.prog 44 = some (3, true) := by kernel_rfl
@[simp] theorem T108 : zeroE Try.prog 44 = some [V.sl 0 true [], V.int .u64 0, V.int .i64 0] := by kernel_rfl
@[simp] theorem T109 : fldE Try.prog 44 0 = some (0, 1, false) := by kernel_rfl
@[simp] theorem T110 : plE Try.prog 44 0 = some (0, 1) := by kernel_rfl
@[simp] theorem T111 : fldE Try.prog 44 1 = some (1, 1, false) := by kernel_rfl
@[simp] theorem T112 : plE Try.prog 44 1 = some (1, 1) := by kernel_rfl
@[simp] theorem T113 : fldE Try.prog 44 2 = some (2, 1, false) := by kernel_rfl
@[simp] theorem T114 : plE Try.prog 44 2 = some (2, 1) := by kernel_rfl
@[simp] theorem T115 : allE Try.prog 44 = true := by kernel_rfl
@[simp] theorem T116 : tyE Try.prog 45 = some (3, true) := by kernel_rfl
@[simp] theorem T117 : zeroE Try.prog 45 = some [V.sl 0 true [], V.int .u64 0, V.int .i64 0] := by kernel_rfl
@[simp] theorem T118 : fldE Try.prog 45 0 = some (0, 1, false) := by kernel_rfl
@[simp] theorem T119 : plE Try.prog 45 0 = some (0, 1) := by kernel_rfl
@[simp] theorem T120 : fldE Try.prog 45 1 = some (1, 1, false) := by kernel_rfl
@[simp] theorem T121 : plE Try.prog 45 1 = some (1, 1) := by kernel_rfl
@[simp] theorem T122 : fldE Try.prog 45 2 = some (2, 1, false) := by kernel_rfl
@[simp] theorem T123 : plE Try.prog 45 2 = some (2, 1) := by kernel_rfl
@[simp] theorem T124 : allE Try.prog 45 = true := by kernel_rfl
@[simp] theorem T125 : tyE Try.prog 46 = some (1, false) := by kernel_rfl
@[simp] theorem T126 : zeroE Try.prog 46 = some [V.int .u32 0] := by kernel_rfl
@[simp] theorem T127 : isInt Try.prog 46 = some .u32 := by kernel_rfl
@[simp] theorem T128 : tyE Try.prog 47 = some (4, true) := by kernel_rfl
@[simp] theorem T129 : zeroE Try.prog 47 = some [V.int .i64 0, V.int .u64 0, V.int .u32 0, V.str []] := by kernel_rfl
@[simp] theorem T130 : fldE Try.prog 47 0 = some (0, 1, false) := by kernel_rfl
@[simp] theorem T131 : plE Try.prog 47 0 = some (0, 1) := by kernel_rfl
@[simp] theorem T132 : fldE Try.prog 47 1 = some (1, 1, false) := by kernel_rfl
@[simp] theorem T133 : plE Try.prog 47 1 = some (1, 1) := by kernel_rfl
@[simp] theorem T134 : fldE Try.prog 47 2 = some (2, 1, false) := by kernel_rfl
@[simp] theorem T135 : plE Try.prog 47 2 = some (2, 1) := by kernel_rfl
@[simp] theorem T136 : fldE Try.prog 47 3 = some (3, 1, false) := by kernel_rfl
@[simp] theorem T137 : plE Try.prog 47 3 = some (3, 1) := by kernel_rfl
@[simp] theorem T138 : allE Try.prog 47 = true := by kernel_rfl
@[simp] theorem T139 : tyE Try.prog 48 = some (4, true) := by kernel_rfl
@[simp] theorem T140 : zeroE Try.prog 48 = some [V.int .i64 0, V.int .u64 0, V.int .u32 0, V.str []] := by kernel_rfl
@[simp] theorem T141 : fldE Try.prog 48 0 = some (0, 1, false) := by kernel_rfl
@[simp] theorem T142 : plE Try.prog 48 0 = some (0, 1) := by kernel_rfl
@[simp] theorem T143 : fldE Try.prog 48 1 = some (1, 1, false) := by kernel_rfl
@[simp] theorem T144 : plE Try.prog 48 1 = some (1, 1) := by kernel_rfl
@[simp] theorem T145 : fldE Try.prog 48 2 = some (2, 1, false) := by kernel_rfl
@[simp] theorem T146 : plE Try.prog 48 2 = some (2, 1) := by kernel_rfl
@[simp] theorem T147 : fldE Try.prog 48 3 = some (3, 1, false) := by kernel_rfl
@[simp] theorem T148 : plE Try.prog 48 3 = some (3, 1) := by kernel_rfl
@[simp] theorem T149 : allE Try.prog 48 = true := by kernel_rfl
@[simp] theorem T150 : eqE Try.prog 48 = some [.i, .i, .i, .s] := by kernel_rfl
@[simp] theorem T151 : tyE Try.prog 52 = some (3, true) := by kernel_rfl
@[simp] theorem T152 : zeroE Try.prog 52 = some [V.int .i64 0, V.int .u32 0, V.str []] := by kernel_rfl
@[simp] theorem T153 : fldE Try.prog 52 0 = some (0, 1, false) := by kernel_rfl
@[simp] theorem T154 : plE Try.prog 52 0 = some (0, 1) := by kernel_rfl
@[simp] theorem T155 : fldE Try.prog 52 1 = some (1, 1, false) := by kernel_rfl
@[simp] theorem T156 : plE Try.prog 52 1 = some (1, 1) := by kernel_rfl
@[simp] theorem T157 : fldE Try.prog 52 2 = some (2, 1, false) := by kernel_rfl
@[simp] theorem T158 : plE Try.prog 52 2 = some (2, 1) := by kernel_rfl
@[simp] theorem T159 : allE Try.prog 52 = true := by kernel_rfl
@[simp] theorem T160 : tyE Try.prog 53 = some (3, true) := by kernel_rfl
@[simp] theorem T161 : zeroE Try.prog 53 = some [V.int .i64 0, V.int .u32 0, V.str []] := by kernel_rfl
@[simp] theorem T162 : fldE Try.prog 53 0 = some (0, 1, false) := by kernel_rfl
@[simp] theorem T163 : plE Try.prog 53 0 = some (0, 1) := by kernel_rfl
@[simp] theorem T164 : fldE Try.prog 53 1 = some (1, 1, false) := by kernel_rfl
@[simp] theorem T165 : plE Try.prog 53 1 = some (1, 1) := by kernel_rfl
@[simp] theorem T166 : fldE Try.prog 53 2 = some (2, 1, false) := by kernel_rfl
@[simp] theorem T167 : plE Try.prog 53 2 = some (2, 1) := by kernel_rfl
@[simp] theorem T168 : allE Try.prog 53 = true := by kernel_rfl
@[simp] theorem T169 : eqE Try.prog 53 = some [.i, .i, .s] := by kernel_rfl
@[simp] theorem T170 : tyE Try.prog 66 = some (1, false) := by kernel_rfl
@[simp] theorem T171 : zeroE Try.prog 66 = some [V.sl 0 true []] := by kernel_rfl
@[simp] theorem T172 : slE Try.prog 66 = some (48, 4, 40) := by kernel_rfl
@[simp] theorem T173 : tyE Try.prog 67 = some (3, true) := by kernel_rfl
@[simp] theorem T174 : zeroE Try.prog 67 = some [V.sl 0 true [], V.int .u64 0, V.int .u64 0] := by kernel_rfl
@[simp] theorem T175 : fldE Try.prog 67 0 = some (0, 1, false) := by kernel_rfl
@[simp] theorem T176 : plE Try.prog 67 0 = some (0, 1) := by kernel_rfl
@[simp] theorem T177 : fldE Try.prog 67 1 = some (1, 1, false) := by kernel_rfl
@[simp] theorem T178 : plE Try.prog 67 1 = some (1, 1) := by kernel_rfl
@[simp] theorem T179 : fldE Try.prog 67 2 = some (2, 1, false) := by kernel_rfl
@[simp] theorem T180 : plE Try.prog 67 2 = some (2, 1) := by kernel_rfl
@[simp] theorem T181 : allE Try.prog 67 = true := by kernel_rfl
@[simp] theorem T182 : tyE Try.prog 68 = some (3, true) := by kernel_rfl
@[simp] theorem T183 : zeroE Try.prog 68 = some [V.sl 0 true [], V.int .u64 0, V.int .u64 0] := by kernel_rfl
@[simp] theorem T184 : fldE Try.prog 68 0 = some (0, 1, false) := by kernel_rfl
@[simp] theorem T185 : plE Try.prog 68 0 = some (0, 1) := by kernel_rfl
@[simp] theorem T186 : fldE Try.prog 68 1 = some (1, 1, false) := by kernel_rfl
@[simp] theorem T187 : plE Try.prog 68 1 = some (1, 1) := by kernel_rfl
@[simp] theorem T188 : fldE Try.prog 68 2 = some (2, 1, false) := by kernel_rfl
@[simp] theorem T189 : plE Try.prog 68 2 = some (2, 1) := by kernel_rfl
@[simp] theorem T190 : allE Try.prog 68 = true := by kernel_rfl
@[simp] theorem T191 : tyE Try.prog 69 = some (2, true) := by kernel_rfl
@[simp] theorem T192 : zeroE Try.prog 69 = some [V.str [], V.sl 0 true []] := by kernel_rfl
@[simp] theorem T193 : fldE Try.prog 69 0 = some (0, 1, false) := by kernel_rfl
@[simp] theorem T194 : plE Try.prog 69 0 = some (0, 1) := by kernel_rfl
@[simp] theorem T195 : fldE Try.prog 69 1 = some (1, 1, false) := by kernel_rfl
@[simp] theorem T196 : plE Try.prog 69 1 = some (1, 1) := by kernel_rfl
@[simp] theorem T197 : allE Try.prog 69 = true := by kernel_rfl
@[simp] theorem T198 : tyE Try.prog 70 = some (2, true) := by kernel_rfl
@[simp] theorem T199 : zeroE Try.prog 70 = some [V.str [], V.sl 0 true []] := by kernel_rfl
@[simp] theorem T200 : fldE Try.prog 70 0 = some (0, 1, false) := by kernel_rfl
@[simp] theorem T201 : plE Try.prog 70 0 = some (0, 1) := by kernel_rfl
@[simp] theorem T202 : fldE Try.prog 70 1 = some (1, 1, false) := by kernel_rfl
@[simp] theorem T203 : plE Try.prog 70 1 = some (1, 1) := by kernel_rfl
@[simp] theorem T204 : allE Try.prog 70 = true := by kernel_rfl
@[simp] theorem T205 : tyE Try.prog 71 = some (5, true) := by kernel_rfl
@[simp] theorem T206 : zeroE Try.prog 71 = some [V.int .i64 0, V.int .u64 0, V.int .u32 0, V.str [], V.int .u64 0] := by kernel_rfl
@[simp] theorem T207 : fldE Try.prog 71 0 = some (0, 4, true) := by kernel_rfl
@[simp] theorem T208 : plE Try.prog 71 0 = some (0, 4) := by kernel_rfl
@[simp] theorem T209 : fldE Try.prog 71 1 = some (4, 1, false) := by kernel_rfl
@[simp] theorem T210 : plE Try.prog 71 1 = some (4, 1) := by kernel_rfl
@[simp] theorem T211 : allE Try.prog 71 = true := by kernel_rfl
@[simp] theorem T212 : tyE Try.prog 72 = some (5, true) := by kernel_rfl
@[simp] theorem T213 : zeroE Try.prog 72 = some [V.int .i64 0, V.int .u64 0, V.int .u32 0, V.str [], V.int .u64 0] := by kernel_rfl
@[simp] theorem T214 : fldE Try.prog 72 0 = some (0, 4, true) := by kernel_rfl
@[simp] theorem T215 : plE Try.prog 72 0 = some (0, 4) := by kernel_rfl
@[simp] theorem T216 : fldE Try.prog 72 1 = some (4, 1, false) := by kernel_rfl
@[simp] theorem T217 : plE Try.prog 72 1 = some (4, 1) := by kernel_rfl
@[simp] theorem T218 : allE Try.prog 72 = true := by kernel_rfl
@[simp] theorem T219 : eqE Try.prog 72 = some [.i, .i, .i, .s, .i] := by kernel_rfl
@[simp] theorem T220 : tyE Try.prog 76 = some (1, false) := by kernel_rfl
@[simp] theorem T221 : zeroE Try.prog 76 = some [V.sl 0 true []] := by kernel_rfl
@[simp] theorem T222 : slE Try.prog 76 = some (72, 5, 48) := by kernel_rfl
@[simp] theorem T223 : tyE Try.prog 86 = some (1, false) := by kernel_rfl
@[simp] theorem T224 : zeroE Try.prog 86 = some [V.sl 0 true []] := by kernel_rfl
@[simp] theorem T225 : slE Try.prog 86 = some (43, 1, 8) := by kernel_rfl
@[simp] theorem T226 : tyE Try.prog 98 = some (1, false) := by kernel_rfl
@[simp] theorem T227 : zeroE Try.prog 98 = some [V.sl 0 true []] := by kernel_rfl
@[simp] theorem T228 : slE Try.prog 98 = some (5, 1, 1) := by kernel_rfl
@[simp] theorem T229 : bsE Try.prog 98 = true := by kernel_rfl
@[simp] theorem T230 : tyE Try.prog 108 = some (4, true) := by kernel_rfl
@[simp] theorem T231 : zeroE Try.prog 108 = some [V.poi, V.poi, V.poi, V.str []] := by kernel_rfl
@[simp] theorem T232 : fldE Try.prog 108 0 = some (0, 1, false) := by kernel_rfl
@[simp] theorem T233 : plE Try.prog 108 0 = some (0, 1) := by kernel_rfl
@[simp] theorem T234 : fldE Try.prog 108 1 = some (1, 1, false) := by kernel_rfl
@[simp] theorem T235 : plE Try.prog 108 1 = some (1, 1) := by kernel_rfl
@[simp] theorem T236 : fldE Try.prog 108 2 = some (2, 1, false) := by kernel_rfl
@[simp] theorem T237 : plE Try.prog 108 2 = some (2, 1) := by kernel_rfl
@[simp] theorem T238 : fldE Try.prog 108 3 = some (3, 1, false) := by kernel_rfl
@[simp] theorem T239 : plE Try.prog 108 3 = some (3, 1) := by kernel_rfl
@[simp] theorem T240 : allE Try.prog 108 = true := by kernel_rfl
@[simp] theorem T241 : tyE Try.prog 109 = some (4, true) := by kernel_rfl
@[simp] theorem T242 : zeroE Try.prog 109 = some [V.poi, V.poi, V.poi, V.str []] := by kernel_rfl
@[simp] theorem T243 : fldE Try.prog 109 0 = some (0, 1, false) := by kernel_rfl
@[simp] theorem T244 : plE Try.prog 109 0 = some (0, 1) := by kernel_rfl
@[simp] theorem T245 : fldE Try.prog 109 1 = some (1, 1, false) := by kernel_rfl
@[simp] theorem T246 : plE Try.prog 109 1 = some (1, 1) := by kernel_rfl
@[simp] theorem T247 : fldE Try.prog 109 2 = some (2, 1, false) := by kernel_rfl
@[simp] theorem T248 : plE Try.prog 109 2 = some (2, 1) := by kernel_rfl
@[simp] theorem T249 : fldE Try.prog 109 3 = some (3, 1, false) := by kernel_rfl
@[simp] theorem T250 : plE Try.prog 109 3 = some (3, 1) := by kernel_rfl
@[simp] theorem T251 : allE Try.prog 109 = true := by kernel_rfl
@[simp] theorem T252 : tyE Try.prog 110 = some (0, true) := by kernel_rfl
@[simp] theorem T253 : zeroE Try.prog 110 = some [] := by kernel_rfl
@[simp] theorem T254 : arE Try.prog 110 = some (0, 1, false) := by kernel_rfl
@[simp] theorem T255 (i : Nat) : plE Try.prog 110 i = some (i * 1, 1) := plE_arr T254 i
@[simp] theorem T256 : allE Try.prog 110 = true := by kernel_rfl
@[simp] theorem T257 : tyE Try.prog 111 = some (0, true) := by kernel_rfl
@[simp] theorem T258 : zeroE Try.prog 111 = some [] := by kernel_rfl
@[simp] theorem T259 : plE Try.prog 111 0 = some (0, 0) := by kernel_rfl
@[simp] theorem T260 : allE Try.prog 111 = true := by kernel_rfl
@[simp] theorem T261 : tyE Try.prog 112 = some (0, true) := by kernel_rfl
@[simp] theorem T262 : zeroE Try.prog 112 = some [] := by kernel_rfl
@[simp] theorem T263 : plE Try.prog 112 0 = some (0, 0) := by kernel_rfl
@[simp] theorem T264 : allE Try.prog 112 = true := by kernel_rfl
@[simp] theorem T265 : tyE Try.prog 114 = some (1, false) := by kernel_rfl
@[simp] theorem T266 : zeroE Try.prog 114 = some [V.int .u8 0] := by kernel_rfl
@[simp] theorem T267 : isInt Try.prog 114 = some .u8 := by kernel_rfl
@[simp] theorem T268 : tyE Try.prog 115 = some (1, false) := by kernel_rfl
@[simp] theorem T269 : zeroE Try.prog 115 = some [V.int .u8 0] := by kernel_rfl
@[simp] theorem T270 : isInt Try.prog 115 = some .u8 := by kernel_rfl
@[simp] theorem T271 : tyE Try.prog 117 = some (1, false) := by kernel_rfl
@[simp] theorem T272 : zeroE Try.prog 117 = some [V.poi] := by kernel_rfl
@[simp] theorem T273 : tyE Try.prog 118 = some (1, false) := by kernel_rfl
@[simp] theorem T274 : zeroE Try.prog 118 = some [V.int .i32 0] := by kernel_rfl
@[simp] theorem T275 : isInt Try.prog 118 = some .i32 := by kernel_rfl
@[simp] theorem T276 : tyE Try.prog 119 = some (1, false) := by kernel_rfl
@[simp] theorem T277 : zeroE Try.prog 119 = some [V.int .i32 0] := by kernel_rfl
@[simp] theorem T278 : isInt Try.prog 119 = some .i32 := by kernel_rfl
@[simp] theorem T279 : tyE Try.prog 120 = some (11, true) := by kernel_rfl
@[simp] theorem T280 : zeroE Try.prog 120 = some [V.int .u64 0, V.int .u64 0, V.int .u32 0, V.int .u8 0, V.int .u8 0, V.int .u8 0, V.int .u8 0, V.poi, V.poi, V.int .i32 0, V.int .i32 0] := by kernel_rfl
@[simp] theorem T281 : fldE Try.prog 120 0 = some (0, 1, false) := by kernel_rfl
@[simp] theorem T282 : plE Try.prog 120 0 = some (0, 1) := by kernel_rfl
@[simp] theorem T283 : fldE Try.prog 120 1 = some (1, 1, false) := by kernel_rfl
@[simp] theorem T284 : plE Try.prog 120 1 = some (1, 1) := by kernel_rfl
@[simp] theorem T285 : fldE Try.prog 120 2 = some (2, 1, false) := by kernel_rfl
@[simp] theorem T286 : plE Try.prog 120 2 = some (2, 1) := by kernel_rfl
@[simp] theorem T287 : fldE Try.prog 120 3 = some (3, 1, false) := by kernel_rfl
@[simp] theorem T288 : plE Try.prog 120 3 = some (3, 1) := by kernel_rfl
@[simp] theorem T289 : fldE Try.prog 120 4 = some (4, 1, false) := by kernel_rfl
@[simp] theorem T290 : plE Try.prog 120 4 = some (4, 1) := by kernel_rfl
@[simp] theorem T291 : fldE Try.prog 120 5 = some (5, 1, false) := by kernel_rfl
@[simp] theorem T292 : plE Try.prog 120 5 = some (5, 1) := by kernel_rfl
@[simp] theorem T293 : fldE Try.prog 120 6 = some (6, 1, false) := by kernel_rfl
@[simp] theorem T294 : plE Try.prog 120 6 = some (6, 1) := by kernel_rfl
@[simp] theorem T295 : fldE Try.prog 120 7 = some (7, 1, false) := by kernel_rfl
@[simp] theorem T296 : plE Try.prog 120 7 = some (7, 1) := by kernel_rfl
@[simp] theorem T297 : fldE Try.prog 120 8 = some (8, 1, false) := by kernel_rfl
@[simp] theorem T298 : plE Try.prog 120 8 = some (8, 1) := by kernel_rfl
@[simp] theorem T299 : fldE Try.prog 120 9 = some (9, 1, false) := by kernel_rfl
@[simp] theorem T300 : plE Try.prog 120 9 = some (9, 1) := by kernel_rfl
@[simp] theorem T301 : fldE Try.prog 120 10 = some (10, 1, false) := by kernel_rfl
@[simp] theorem T302 : plE Try.prog 120 10 = some (10, 1) := by kernel_rfl
@[simp] theorem T303 : allE Try.prog 120 = true := by kernel_rfl
@[simp] theorem T304 : tyE Try.prog 121 = some (11, true) := by kernel_rfl
@[simp] theorem T305 : zeroE Try.prog 121 = some [V.int .u64 0, V.int .u64 0, V.int .u32 0, V.int .u8 0, V.int .u8 0, V.int .u8 0, V.int .u8 0, V.poi, V.poi, V.int .i32 0, V.int .i32 0] := by kernel_rfl
@[simp] theorem T306 : fldE Try.prog 121 0 = some (0, 1, false) := by kernel_rfl
@[simp] theorem T307 : plE Try.prog 121 0 = some (0, 1) := by kernel_rfl
@[simp] theorem T308 : fldE Try.prog 121 1 = some (1, 1, false) := by kernel_rfl
@[simp] theorem T309 : plE Try.prog 121 1 = some (1, 1) := by kernel_rfl
@[simp] theorem T310 : fldE Try.prog 121 2 = some (2, 1, false) := by kernel_rfl
@[simp] theorem T311 : plE Try.prog 121 2 = some (2, 1) := by kernel_rfl
@[simp] theorem T312 : fldE Try.prog 121 3 = some (3, 1, false) := by kernel_rfl
@[simp] theorem T313 : plE Try.prog 121 3 = some (3, 1) := by kernel_rfl
@[simp] theorem T314 : fldE Try.prog 121 4 = some (4, 1, false) := by kernel_rfl
@[simp] theorem T315 : plE Try.prog 121 4 = some (4, 1) := by kernel_rfl
@[simp] theorem T316 : fldE Try.prog 121 5 = some (5, 1, false) := by kernel_rfl
@[simp] theorem T317 : plE Try.prog 121 5 = some (5, 1) := by kernel_rfl
@[simp] theorem T318 : fldE Try.prog 121 6 = some (6, 1, false) := by kernel_rfl
@[simp] theorem T319 : plE Try.prog 121 6 = some (6, 1) := by kernel_rfl
@[simp] theorem T320 : fldE Try.prog 121 7 = some (7, 1, false) := by kernel_rfl
@[simp] theorem T321 : plE Try.prog 121 7 = some (7, 1) := by kernel_rfl
@[simp] theorem T322 : fldE Try.prog 121 8 = some (8, 1, false) := by kernel_rfl
@[simp] theorem T323 : plE Try.prog 121 8 = some (8, 1) := by kernel_rfl
@[simp] theorem T324 : fldE Try.prog 121 9 = some (9, 1, false) := by kernel_rfl
@[simp] theorem T325 : plE Try.prog 121 9 = some (9, 1) := by kernel_rfl
@[simp] theorem T326 : fldE Try.prog 121 10 = some (10, 1, false) := by kernel_rfl
@[simp] theorem T327 : plE Try.prog 121 10 = some (10, 1) := by kernel_rfl
@[simp] theorem T328 : allE Try.prog 121 = true := by kernel_rfl
end Go.Proofs.Ytnjpakhnaegdgaa
