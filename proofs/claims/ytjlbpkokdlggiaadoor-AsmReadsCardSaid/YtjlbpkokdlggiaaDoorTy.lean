/- Closed facts on the types of the translation, by program (gentypes.py). -/
import Derived.Test.YtjlbpkokdlggiaaDoorGlo
import Derived.Test.YtjlbpkokdlggiaaDoorProg
import Derived.KernelRfl
namespace Go.Proofs.YtjlbpkokdlggiaaDoor
open Go.Ab
@[simp] theorem T0 : tyE Tryd.prog 1 = some (1, false) := by kernel_rfl
@[simp] theorem T1 : zeroE Tryd.prog 1 = some [V.poi] := by kernel_rfl
@[simp] theorem T2 : tyE Tryd.prog 2 = some (1, false) := by kernel_rfl
@[simp] theorem T3 : zeroE Tryd.prog 2 = some [V.int .i64 0] := by kernel_rfl
@[simp] theorem T4 : isInt Tryd.prog 2 = some .i64 := by kernel_rfl
@[simp] theorem T5 : tyE Tryd.prog 3 = some (1, false) := by kernel_rfl
@[simp] theorem T6 : zeroE Tryd.prog 3 = some [V.int .i64 0] := by kernel_rfl
@[simp] theorem T7 : isInt Tryd.prog 3 = some .i64 := by kernel_rfl
@[simp] theorem T8 : tyE Tryd.prog 4 = some (1, false) := by kernel_rfl
@[simp] theorem T9 : zeroE Tryd.prog 4 = some [V.bool false] := by kernel_rfl
@[simp] theorem T10 : byE Tryd.prog 5 = true := by kernel_rfl
@[simp] theorem T11 : tyE Tryd.prog 5 = some (1, false) := by kernel_rfl
@[simp] theorem T12 : zeroE Tryd.prog 5 = some [V.int .u8 0] := by kernel_rfl
@[simp] theorem T13 : isInt Tryd.prog 5 = some .u8 := by kernel_rfl
@[simp] theorem T14 : byE Tryd.prog 6 = true := by kernel_rfl
@[simp] theorem T15 : tyE Tryd.prog 6 = some (1, false) := by kernel_rfl
@[simp] theorem T16 : zeroE Tryd.prog 6 = some [V.int .u8 0] := by kernel_rfl
@[simp] theorem T17 : isInt Tryd.prog 6 = some .u8 := by kernel_rfl
@[simp] theorem T18 : tyE Tryd.prog 7 = some (4, true) := by kernel_rfl
@[simp] theorem T19 : zeroE Tryd.prog 7 = some [V.int .i64 0, V.int .i64 0, V.bool false, V.int .u8 0] := by kernel_rfl
@[simp] theorem T20 : fldE Tryd.prog 7 0 = some (0, 1, false) := by kernel_rfl
@[simp] theorem T21 : plE Tryd.prog 7 0 = some (0, 1) := by kernel_rfl
@[simp] theorem T22 : fldE Tryd.prog 7 1 = some (1, 1, false) := by kernel_rfl
@[simp] theorem T23 : plE Tryd.prog 7 1 = some (1, 1) := by kernel_rfl
@[simp] theorem T24 : fldE Tryd.prog 7 2 = some (2, 1, false) := by kernel_rfl
@[simp] theorem T25 : plE Tryd.prog 7 2 = some (2, 1) := by kernel_rfl
@[simp] theorem T26 : fldE Tryd.prog 7 3 = some (3, 1, false) := by kernel_rfl
@[simp] theorem T27 : plE Tryd.prog 7 3 = some (3, 1) := by kernel_rfl
@[simp] theorem T28 : allE Tryd.prog 7 = true := by kernel_rfl
@[simp] theorem T29 : tyE Tryd.prog 8 = some (4, true) := by kernel_rfl
@[simp] theorem T30 : zeroE Tryd.prog 8 = some [V.int .i64 0, V.int .i64 0, V.bool false, V.int .u8 0] := by kernel_rfl
@[simp] theorem T31 : fldE Tryd.prog 8 0 = some (0, 1, false) := by kernel_rfl
@[simp] theorem T32 : plE Tryd.prog 8 0 = some (0, 1) := by kernel_rfl
@[simp] theorem T33 : fldE Tryd.prog 8 1 = some (1, 1, false) := by kernel_rfl
@[simp] theorem T34 : plE Tryd.prog 8 1 = some (1, 1) := by kernel_rfl
@[simp] theorem T35 : fldE Tryd.prog 8 2 = some (2, 1, false) := by kernel_rfl
@[simp] theorem T36 : plE Tryd.prog 8 2 = some (2, 1) := by kernel_rfl
@[simp] theorem T37 : fldE Tryd.prog 8 3 = some (3, 1, false) := by kernel_rfl
@[simp] theorem T38 : plE Tryd.prog 8 3 = some (3, 1) := by kernel_rfl
@[simp] theorem T39 : allE Tryd.prog 8 = true := by kernel_rfl
@[simp] theorem T40 : tyE Tryd.prog 9 = some (1, false) := by kernel_rfl
@[simp] theorem T41 : zeroE Tryd.prog 9 = some [V.str []] := by kernel_rfl
@[simp] theorem T42 : slE Tryd.prog 9 = none := by kernel_rfl
@[simp] theorem T43 : isStr Tryd.prog 9 = true := by kernel_rfl
@[simp] theorem T44 : tyE Tryd.prog 10 = some (1, false) := by kernel_rfl
@[simp] theorem T45 : zeroE Tryd.prog 10 = some [V.str []] := by kernel_rfl
@[simp] theorem T46 : slE Tryd.prog 10 = none := by kernel_rfl
@[simp] theorem T47 : isStr Tryd.prog 10 = true := by kernel_rfl
@[simp] theorem T48 : tyE Tryd.prog 11 = some (1, false) := by kernel_rfl
@[simp] theorem T49 : zeroE Tryd.prog 11 = some [V.str []] := by kernel_rfl
@[simp] theorem T50 : slE Tryd.prog 11 = none := by kernel_rfl
@[simp] theorem T51 : isStr Tryd.prog 11 = true := by kernel_rfl
@[simp] theorem T52 : tyE Tryd.prog 12 = some (1, false) := by kernel_rfl
@[simp] theorem T53 : zeroE Tryd.prog 12 = some [V.int .u64 0] := by kernel_rfl
@[simp] theorem T54 : isInt Tryd.prog 12 = some .u64 := by kernel_rfl
@[simp] theorem T55 : tyE Tryd.prog 13 = some (2, true) := by kernel_rfl
@[simp] theorem T56 : zeroE Tryd.prog 13 = some [V.str [], V.int .u64 0] := by kernel_rfl
@[simp] theorem T57 : fldE Tryd.prog 13 0 = some (0, 1, false) := by kernel_rfl
@[simp] theorem T58 : plE Tryd.prog 13 0 = some (0, 1) := by kernel_rfl
@[simp] theorem T59 : fldE Tryd.prog 13 1 = some (1, 1, false) := by kernel_rfl
@[simp] theorem T60 : plE Tryd.prog 13 1 = some (1, 1) := by kernel_rfl
@[simp] theorem T61 : allE Tryd.prog 13 = true := by kernel_rfl
@[simp] theorem T62 : tyE Tryd.prog 14 = some (2, true) := by kernel_rfl
@[simp] theorem T63 : zeroE Tryd.prog 14 = some [V.str [], V.int .u64 0] := by kernel_rfl
@[simp] theorem T64 : fldE Tryd.prog 14 0 = some (0, 1, false) := by kernel_rfl
@[simp] theorem T65 : plE Tryd.prog 14 0 = some (0, 1) := by kernel_rfl
@[simp] theorem T66 : fldE Tryd.prog 14 1 = some (1, 1, false) := by kernel_rfl
@[simp] theorem T67 : plE Tryd.prog 14 1 = some (1, 1) := by kernel_rfl
@[simp] theorem T68 : allE Tryd.prog 14 = true := by kernel_rfl
@[simp] theorem T69 : tyE Tryd.prog 15 = some (1, false) := by kernel_rfl
@[simp] theorem T70 : zeroE Tryd.prog 15 = some [V.nilp] := by kernel_rfl
@[simp] theorem T71 : tyE Tryd.prog 16 = some (1, false) := by kernel_rfl
@[simp] theorem T72 : zeroE Tryd.prog 16 = some [V.nilp] := by kernel_rfl
@[simp] theorem T73 : tyE Tryd.prog 17 = some (1, false) := by kernel_rfl
@[simp] theorem T74 : zeroE Tryd.prog 17 = some [V.nilp] := by kernel_rfl
@[simp] theorem T75 : tyE Tryd.prog 18 = some (1, true) := by kernel_rfl
@[simp] theorem T76 : zeroE Tryd.prog 18 = some [V.nilp] := by kernel_rfl
@[simp] theorem T77 : fldE Tryd.prog 18 0 = some (0, 1, false) := by kernel_rfl
@[simp] theorem T78 : plE Tryd.prog 18 0 = some (0, 1) := by kernel_rfl
@[simp] theorem T79 : allE Tryd.prog 18 = true := by kernel_rfl
@[simp] theorem T80 : tyE Tryd.prog 19 = some (1, true) := by kernel_rfl
@[simp] theorem T81 : zeroE Tryd.prog 19 = some [V.nilp] := by kernel_rfl
@[simp] theorem T82 : fldE Tryd.prog 19 0 = some (0, 1, false) := by kernel_rfl
@[simp] theorem T83 : plE Tryd.prog 19 0 = some (0, 1) := by kernel_rfl
@[simp] theorem T84 : allE Tryd.prog 19 = true := by kernel_rfl
@[simp] theorem T85 : tyE Tryd.prog 20 = some (1, false) := by kernel_rfl
@[simp] theorem T86 : zeroE Tryd.prog 20 = some [V.poi] := by kernel_rfl
@[simp] theorem T87 : tyE Tryd.prog 21 = some (1, false) := by kernel_rfl
@[simp] theorem T88 : zeroE Tryd.prog 21 = some [V.int .i32 0] := by kernel_rfl
@[simp] theorem T89 : isInt Tryd.prog 21 = some .i32 := by kernel_rfl
@[simp] theorem T90 : tyE Tryd.prog 22 = some (1, false) := by kernel_rfl
@[simp] theorem T91 : zeroE Tryd.prog 22 = some [V.int .u32 0] := by kernel_rfl
@[simp] theorem T92 : isInt Tryd.prog 22 = some .u32 := by kernel_rfl
@[simp] theorem T93 : tyE Tryd.prog 24 = some (1, false) := by kernel_rfl
@[simp] theorem T94 : zeroE Tryd.prog 24 = some [V.poi] := by kernel_rfl
@[simp] theorem T95 : tyE Tryd.prog 25 = some (5, true) := by kernel_rfl
@[simp] theorem T96 : zeroE Tryd.prog 25 = some [V.int .i64 0, V.int .i64 0, V.int .i64 0, V.int .i64 0, V.int .i32 0] := by kernel_rfl
@[simp] theorem T97 : fldE Tryd.prog 25 0 = some (0, 1, false) := by kernel_rfl
@[simp] theorem T98 : plE Tryd.prog 25 0 = some (0, 1) := by kernel_rfl
@[simp] theorem T99 : fldE Tryd.prog 25 1 = some (1, 1, false) := by kernel_rfl
@[simp] theorem T100 : plE Tryd.prog 25 1 = some (1, 1) := by kernel_rfl
@[simp] theorem T101 : fldE Tryd.prog 25 2 = some (2, 1, false) := by kernel_rfl
@[simp] theorem T102 : plE Tryd.prog 25 2 = some (2, 1) := by kernel_rfl
@[simp] theorem T103 : fldE Tryd.prog 25 3 = some (3, 1, false) := by kernel_rfl
@[simp] theorem T104 : plE Tryd.prog 25 3 = some (3, 1) := by kernel_rfl
@[simp] theorem T105 : fldE Tryd.prog 25 4 = some (4, 1, false) := by kernel_rfl
@[simp] theorem T106 : plE Tryd.prog 25 4 = some (4, 1) := by kernel_rfl
@[simp] theorem T107 : allE Tryd.prog 25 = true := by kernel_rfl
@[simp] theorem T108 : tyE Tryd.prog 26 = some (5, true) := by kernel_rfl
@[simp] theorem T109 : zeroE Tryd.prog 26 = some [V.int .i64 0, V.int .i64 0, V.int .i64 0, V.int .i64 0, V.int .i32 0] := by kernel_rfl
@[simp] theorem T110 : fldE Tryd.prog 26 0 = some (0, 1, false) := by kernel_rfl
@[simp] theorem T111 : plE Tryd.prog 26 0 = some (0, 1) := by kernel_rfl
@[simp] theorem T112 : fldE Tryd.prog 26 1 = some (1, 1, false) := by kernel_rfl
@[simp] theorem T113 : plE Tryd.prog 26 1 = some (1, 1) := by kernel_rfl
@[simp] theorem T114 : fldE Tryd.prog 26 2 = some (2, 1, false) := by kernel_rfl
@[simp] theorem T115 : plE Tryd.prog 26 2 = some (2, 1) := by kernel_rfl
@[simp] theorem T116 : fldE Tryd.prog 26 3 = some (3, 1, false) := by kernel_rfl
@[simp] theorem T117 : plE Tryd.prog 26 3 = some (3, 1) := by kernel_rfl
@[simp] theorem T118 : fldE Tryd.prog 26 4 = some (4, 1, false) := by kernel_rfl
@[simp] theorem T119 : plE Tryd.prog 26 4 = some (4, 1) := by kernel_rfl
@[simp] theorem T120 : allE Tryd.prog 26 = true := by kernel_rfl
@[simp] theorem T121 : eqE Tryd.prog 26 = some [.i, .i, .i, .i, .i] := by kernel_rfl
@[simp] theorem T122 : tyE Tryd.prog 27 = some (1, false) := by kernel_rfl
@[simp] theorem T123 : zeroE Tryd.prog 27 = some [V.poi] := by kernel_rfl
@[simp] theorem T124 : tyE Tryd.prog 29 = some (1, false) := by kernel_rfl
@[simp] theorem T125 : zeroE Tryd.prog 29 = some [V.poi] := by kernel_rfl
@[simp] theorem T126 : tyE Tryd.prog 30 = some (1, false) := by kernel_rfl
@[simp] theorem T127 : zeroE Tryd.prog 30 = some [V.poi] := by kernel_rfl
@[simp] theorem T128 : tyE Tryd.prog 31 = some (1, false) := by kernel_rfl
@[simp] theorem T129 : zeroE Tryd.prog 31 = some [V.int .i64 0] := by kernel_rfl
@[simp] theorem T130 : isInt Tryd.prog 31 = some .i64 := by kernel_rfl
@[simp] theorem T131 : tyE Tryd.prog 33 = some (1, false) := by kernel_rfl
@[simp] theorem T132 : zeroE Tryd.prog 33 = some [V.poi] := by kernel_rfl
@[simp] theorem T133 : tyE Tryd.prog 34 = some (1, false) := by kernel_rfl
@[simp] theorem T134 : zeroE Tryd.prog 34 = some [V.poi] := by kernel_rfl
@[simp] theorem T135 : tyE Tryd.prog 35 = some (1, false) := by kernel_rfl
@[simp] theorem T136 : zeroE Tryd.prog 35 = some [V.poi] := by kernel_rfl
@[simp] theorem T137 : tyE Tryd.prog 36 = some (1, false) := by kernel_rfl
@[simp] theorem T138 : zeroE Tryd.prog 36 = some [V.poi] := by kernel_rfl
@[simp] theorem T139 : tyE Tryd.prog 37 = some (1, false) := by kernel_rfl
@[simp] theorem T140 : zeroE Tryd.prog 37 = some [V.poi] := by kernel_rfl
@[simp] theorem T141 : tyE Tryd.prog 38 = some (1, false) := by kernel_rfl
@[simp] theorem T142 : zeroE Tryd.prog 38 = some [V.int .u64 0] := by kernel_rfl
@[simp] theorem T143 : isInt Tryd.prog 38 = some .u64 := by kernel_rfl
@[simp] theorem T144 : tyE Tryd.prog 39 = some (1, false) := by kernel_rfl
@[simp] theorem T145 : zeroE Tryd.prog 39 = some [V.poi] := by kernel_rfl
@[simp] theorem T146 : tyE Tryd.prog 40 = some (1, false) := by kernel_rfl
@[simp] theorem T147 : zeroE Tryd.prog 40 = some [V.poi] := by kernel_rfl
@[simp] theorem T148 : tyE Tryd.prog 41 = some (1, false) := by kernel_rfl
@[simp] theorem T149 : zeroE Tryd.prog 41 = some [V.poi] := by kernel_rfl
@[simp] theorem T150 : tyE Tryd.prog 42 = some (1, false) := by kernel_rfl
@[simp] theorem T151 : zeroE Tryd.prog 42 = some [V.sl 0 true []] := by kernel_rfl
@[simp] theorem T152 : slE Tryd.prog 42 = some (5, 1, 1) := by kernel_rfl
@[simp] theorem T153 : bsE Tryd.prog 42 = true := by kernel_rfl
@[simp] theorem T154 : tyE Tryd.prog 43 = some (1, false) := by kernel_rfl
@[simp] theorem T155 : zeroE Tryd.prog 43 = some [V.sl 0 true []] := by kernel_rfl
@[simp] theorem T156 : slE Tryd.prog 43 = some (22, 1, 4) := by kernel_rfl
@[simp] theorem T157 : tyE Tryd.prog 44 = some (2, true) := by kernel_rfl
@[simp] theorem T158 : zeroE Tryd.prog 44 = some [V.int .i64 0, V.int .i64 0] := by kernel_rfl
@[simp] theorem T159 : fldE Tryd.prog 44 0 = some (0, 1, false) := by kernel_rfl
@[simp] theorem T160 : plE Tryd.prog 44 0 = some (0, 1) := by kernel_rfl
@[simp] theorem T161 : fldE Tryd.prog 44 1 = some (1, 1, false) := by kernel_rfl
@[simp] theorem T162 : plE Tryd.prog 44 1 = some (1, 1) := by kernel_rfl
@[simp] theorem T163 : allE Tryd.prog 44 = true := by kernel_rfl
@[simp] theorem T164 : tyE Tryd.prog 45 = some (2, true) := by kernel_rfl
@[simp] theorem T165 : zeroE Tryd.prog 45 = some [V.int .i64 0, V.int .i64 0] := by kernel_rfl
@[simp] theorem T166 : fldE Tryd.prog 45 0 = some (0, 1, false) := by kernel_rfl
@[simp] theorem T167 : plE Tryd.prog 45 0 = some (0, 1) := by kernel_rfl
@[simp] theorem T168 : fldE Tryd.prog 45 1 = some (1, 1, false) := by kernel_rfl
@[simp] theorem T169 : plE Tryd.prog 45 1 = some (1, 1) := by kernel_rfl
@[simp] theorem T170 : allE Tryd.prog 45 = true := by kernel_rfl
@[simp] theorem T171 : eqE Tryd.prog 45 = some [.i, .i] := by kernel_rfl
@[simp] theorem T172 : tyE Tryd.prog 47 = some (1, false) := by kernel_rfl
@[simp] theorem T173 : zeroE Tryd.prog 47 = some [V.poi] := by kernel_rfl
@[simp] theorem T174 : tyE Tryd.prog 48 = some (1, false) := by kernel_rfl
@[simp] theorem T175 : zeroE Tryd.prog 48 = some [V.poi] := by kernel_rfl
@[simp] theorem T176 : tyE Tryd.prog 49 = some (1, false) := by kernel_rfl
@[simp] theorem T177 : zeroE Tryd.prog 49 = some [V.sl 0 true []] := by kernel_rfl
@[simp] theorem T178 : slE Tryd.prog 49 = some (53, 2, 24) := by kernel_rfl
@[simp] theorem T179 : tyE Tryd.prog 51 = some (1, false) := by kernel_rfl
@[simp] theorem T180 : zeroE Tryd.prog 51 = some [V.poi] := by kernel_rfl
@[simp] theorem T181 : tyE Tryd.prog 52 = some (2, true) := by kernel_rfl
@[simp] theorem T182 : zeroE Tryd.prog 52 = some [V.str [], V.int .u32 0] := by kernel_rfl
@[simp] theorem T183 : fldE Tryd.prog 52 0 = some (0, 1, false) := by kernel_rfl
@[simp] theorem T184 : plE Tryd.prog 52 0 = some (0, 1) := by kernel_rfl
@[simp] theorem T185 : fldE Tryd.prog 52 1 = some (1, 1, false) := by kernel_rfl
@[simp] theorem T186 : plE Tryd.prog 52 1 = some (1, 1) := by kernel_rfl
@[simp] theorem T187 : allE Tryd.prog 52 = true := by kernel_rfl
@[simp] theorem T188 : tyE Tryd.prog 53 = some (2, true) := by kernel_rfl
@[simp] theorem T189 : zeroE Tryd.prog 53 = some [V.str [], V.int .u32 0] := by kernel_rfl
@[simp] theorem T190 : fldE Tryd.prog 53 0 = some (0, 1, false) := by kernel_rfl
@[simp] theorem T191 : plE Tryd.prog 53 0 = some (0, 1) := by kernel_rfl
@[simp] theorem T192 : fldE Tryd.prog 53 1 = some (1, 1, false) := by kernel_rfl
@[simp] theorem T193 : plE Tryd.prog 53 1 = some (1, 1) := by kernel_rfl
@[simp] theorem T194 : allE Tryd.prog 53 = true := by kernel_rfl
@[simp] theorem T195 : eqE Tryd.prog 53 = some [.s, .i] := by kernel_rfl
@[simp] theorem T196 : tyE Tryd.prog 54 = some (1, false) := by kernel_rfl
@[simp] theorem T197 : zeroE Tryd.prog 54 = some [V.poi] := by kernel_rfl
@[simp] theorem T198 : tyE Tryd.prog 55 = some (1, false) := by kernel_rfl
@[simp] theorem T199 : zeroE Tryd.prog 55 = some [V.sl 0 true []] := by kernel_rfl
@[simp] theorem T200 : slE Tryd.prog 55 = some (3, 1, 8) := by kernel_rfl
@[simp] theorem T201 : tyE Tryd.prog 56 = some (1, false) := by kernel_rfl
@[simp] theorem T202 : zeroE Tryd.prog 56 = some [V.poi] := by kernel_rfl
@[simp] theorem T203 : tyE Tryd.prog 57 = some (1, false) := by kernel_rfl
@[simp] theorem T204 : zeroE Tryd.prog 57 = some [V.poi] := by kernel_rfl
@[simp] theorem T205 : tyE Tryd.prog 58 = some (1, false) := by kernel_rfl
@[simp] theorem T206 : zeroE Tryd.prog 58 = some [V.poi] := by kernel_rfl
@[simp] theorem T207 : tyE Tryd.prog 59 = some (1, false) := by kernel_rfl
@[simp] theorem T208 : zeroE Tryd.prog 59 = some [V.poi] := by kernel_rfl
@[simp] theorem T209 : tyE Tryd.prog 60 = some (1, false) := by kernel_rfl
@[simp] theorem T210 : zeroE Tryd.prog 60 = some [V.poi] := by kernel_rfl
@[simp] theorem T211 : tyE Tryd.prog 61 = some (1, false) := by kernel_rfl
@[simp] theorem T212 : zeroE Tryd.prog 61 = some [V.poi] := by kernel_rfl
@[simp] theorem T213 : tyE Tryd.prog 62 = some (1, false) := by kernel_rfl
@[simp] theorem T214 : zeroE Tryd.prog 62 = some [V.poi] := by kernel_rfl
@[simp] theorem T215 : tyE Tryd.prog 63 = some (1, false) := by kernel_rfl
@[simp] theorem T216 : zeroE Tryd.prog 63 = some [V.poi] := by kernel_rfl
@[simp] theorem T217 : tyE Tryd.prog 64 = some (1, false) := by kernel_rfl
@[simp] theorem T218 : zeroE Tryd.prog 64 = some [V.poi] := by kernel_rfl
@[simp] theorem T219 : tyE Tryd.prog 65 = some (5, true) := by kernel_rfl
@[simp] theorem T220 : zeroE Tryd.prog 65 = some [V.bool false, V.bool false, V.bool false, V.int .i32 0, V.int .i32 0] := by kernel_rfl
@[simp] theorem T221 : fldE Tryd.prog 65 0 = some (0, 1, false) := by kernel_rfl
@[simp] theorem T222 : plE Tryd.prog 65 0 = some (0, 1) := by kernel_rfl
@[simp] theorem T223 : fldE Tryd.prog 65 1 = some (1, 1, false) := by kernel_rfl
@[simp] theorem T224 : plE Tryd.prog 65 1 = some (1, 1) := by kernel_rfl
@[simp] theorem T225 : fldE Tryd.prog 65 2 = some (2, 1, false) := by kernel_rfl
@[simp] theorem T226 : plE Tryd.prog 65 2 = some (2, 1) := by kernel_rfl
@[simp] theorem T227 : fldE Tryd.prog 65 3 = some (3, 1, false) := by kernel_rfl
@[simp] theorem T228 : plE Tryd.prog 65 3 = some (3, 1) := by kernel_rfl
@[simp] theorem T229 : fldE Tryd.prog 65 4 = some (4, 1, false) := by kernel_rfl
@[simp] theorem T230 : plE Tryd.prog 65 4 = some (4, 1) := by kernel_rfl
@[simp] theorem T231 : allE Tryd.prog 65 = true := by kernel_rfl
@[simp] theorem T232 : tyE Tryd.prog 66 = some (5, true) := by kernel_rfl
@[simp] theorem T233 : zeroE Tryd.prog 66 = some [V.bool false, V.bool false, V.bool false, V.int .i32 0, V.int .i32 0] := by kernel_rfl
@[simp] theorem T234 : fldE Tryd.prog 66 0 = some (0, 1, false) := by kernel_rfl
@[simp] theorem T235 : plE Tryd.prog 66 0 = some (0, 1) := by kernel_rfl
@[simp] theorem T236 : fldE Tryd.prog 66 1 = some (1, 1, false) := by kernel_rfl
@[simp] theorem T237 : plE Tryd.prog 66 1 = some (1, 1) := by kernel_rfl
@[simp] theorem T238 : fldE Tryd.prog 66 2 = some (2, 1, false) := by kernel_rfl
@[simp] theorem T239 : plE Tryd.prog 66 2 = some (2, 1) := by kernel_rfl
@[simp] theorem T240 : fldE Tryd.prog 66 3 = some (3, 1, false) := by kernel_rfl
@[simp] theorem T241 : plE Tryd.prog 66 3 = some (3, 1) := by kernel_rfl
@[simp] theorem T242 : fldE Tryd.prog 66 4 = some (4, 1, false) := by kernel_rfl
@[simp] theorem T243 : plE Tryd.prog 66 4 = some (4, 1) := by kernel_rfl
@[simp] theorem T244 : allE Tryd.prog 66 = true := by kernel_rfl
@[simp] theorem T245 : tyE Tryd.prog 68 = some (1, false) := by kernel_rfl
@[simp] theorem T246 : zeroE Tryd.prog 68 = some [V.poi] := by kernel_rfl
@[simp] theorem T247 : tyE Tryd.prog 69 = some (1, false) := by kernel_rfl
@[simp] theorem T248 : zeroE Tryd.prog 69 = some [V.poi] := by kernel_rfl
@[simp] theorem T249 : tyE Tryd.prog 70 = some (1, false) := by kernel_rfl
@[simp] theorem T250 : zeroE Tryd.prog 70 = some [V.poi] := by kernel_rfl
@[simp] theorem T251 : tyE Tryd.prog 71 = some (1, false) := by kernel_rfl
@[simp] theorem T252 : zeroE Tryd.prog 71 = some [V.int .i16 0] := by kernel_rfl
@[simp] theorem T253 : isInt Tryd.prog 71 = some .i16 := by kernel_rfl
@[simp] theorem T254 : tyE Tryd.prog 72 = some (1, false) := by kernel_rfl
@[simp] theorem T255 : zeroE Tryd.prog 72 = some [V.poi] := by kernel_rfl
@[simp] theorem T256 : tyE Tryd.prog 73 = some (65, true) := by kernel_rfl
@[simp] theorem T257 : zeroE Tryd.prog 73 = some [V.str [], V.str [], V.str [], V.str [], V.str [], V.str [], V.str [], V.str [], V.str [], V.str [], V.str [], V.str [], V.str [], V.str [], V.str [], V.str [], V.str [], V.str [], V.str [], V.str [], V.str [], V.str [], V.str [], V.str [], V.str [], V.str [], V.str [], V.str [], V.str [], V.str [], V.str [], V.str [], V.str [], V.str [], V.str [], V.str [], V.str [], V.str [], V.str [], V.str [], V.str [], V.str [], V.str [], V.str [], V.str [], V.str [], V.str [], V.str [], V.str [], V.str [], V.str [], V.str [], V.str [], V.str [], V.str [], V.str [], V.str [], V.str [], V.str [], V.str [], V.str [], V.str [], V.str [], V.str [], V.str []] := by kernel_rfl
@[simp] theorem T258 : arE Tryd.prog 73 = some (65, 1, false) := by kernel_rfl
@[simp] theorem T259 (i : Nat) : plE Tryd.prog 73 i = some (i * 1, 1) := plE_arr T258 i
@[simp] theorem T260 : allE Tryd.prog 73 = true := by kernel_rfl
@[simp] theorem T261 : tyE Tryd.prog 74 = some (1, false) := by kernel_rfl
@[simp] theorem T262 : zeroE Tryd.prog 74 = some [V.poi] := by kernel_rfl
@[simp] theorem T263 : tyE Tryd.prog 75 = some (1, false) := by kernel_rfl
@[simp] theorem T264 : zeroE Tryd.prog 75 = some [V.poi] := by kernel_rfl
@[simp] theorem T265 : tyE Tryd.prog 76 = some (1, false) := by kernel_rfl
@[simp] theorem T266 : zeroE Tryd.prog 76 = some [V.poi] := by kernel_rfl
@[simp] theorem T267 : tyE Tryd.prog 77 = some (1, false) := by kernel_rfl
@[simp] theorem T268 : zeroE Tryd.prog 77 = some [V.int .u64 0] := by kernel_rfl
@[simp] theorem T269 : isInt Tryd.prog 77 = some .u64 := by kernel_rfl
@[simp] theorem T270 : tyE Tryd.prog 78 = some (1, false) := by kernel_rfl
@[simp] theorem T271 : zeroE Tryd.prog 78 = some [V.sl 0 true []] := by kernel_rfl
@[simp] theorem T272 : slE Tryd.prog 78 = some (116, 13, 120) := by kernel_rfl
@[simp] theorem T273 : tyE Tryd.prog 79 = some (1, false) := by kernel_rfl
@[simp] theorem T274 : zeroE Tryd.prog 79 = some [V.poi] := by kernel_rfl
@[simp] theorem T275 : mpE Tryd.prog 79 = some (2, false, [V.int .u32 0]) := by kernel_rfl
@[simp] theorem T276 : tyE Tryd.prog 80 = some (4, true) := by kernel_rfl
@[simp] theorem T277 : zeroE Tryd.prog 80 = some [V.sl 0 true [], V.sl 0 true [], V.poi, V.int .i64 0] := by kernel_rfl
@[simp] theorem T278 : fldE Tryd.prog 80 0 = some (0, 1, false) := by kernel_rfl
@[simp] theorem T279 : plE Tryd.prog 80 0 = some (0, 1) := by kernel_rfl
@[simp] theorem T280 : fldE Tryd.prog 80 1 = some (1, 1, false) := by kernel_rfl
@[simp] theorem T281 : plE Tryd.prog 80 1 = some (1, 1) := by kernel_rfl
@[simp] theorem T282 : fldE Tryd.prog 80 2 = some (2, 1, false) := by kernel_rfl
@[simp] theorem T283 : plE Tryd.prog 80 2 = some (2, 1) := by kernel_rfl
@[simp] theorem T284 : fldE Tryd.prog 80 3 = some (3, 1, false) := by kernel_rfl
@[simp] theorem T285 : plE Tryd.prog 80 3 = some (3, 1) := by kernel_rfl
@[simp] theorem T286 : allE Tryd.prog 80 = true := by kernel_rfl
@[simp] theorem T287 : tyE Tryd.prog 81 = some (4, true) := by kernel_rfl
@[simp] theorem T288 : zeroE Tryd.prog 81 = some [V.sl 0 true [], V.sl 0 true [], V.poi, V.int .i64 0] := by kernel_rfl
@[simp] theorem T289 : fldE Tryd.prog 81 0 = some (0, 1, false) := by kernel_rfl
@[simp] theorem T290 : plE Tryd.prog 81 0 = some (0, 1) := by kernel_rfl
@[simp] theorem T291 : fldE Tryd.prog 81 1 = some (1, 1, false) := by kernel_rfl
@[simp] theorem T292 : plE Tryd.prog 81 1 = some (1, 1) := by kernel_rfl
@[simp] theorem T293 : fldE Tryd.prog 81 2 = some (2, 1, false) := by kernel_rfl
@[simp] theorem T294 : plE Tryd.prog 81 2 = some (2, 1) := by kernel_rfl
@[simp] theorem T295 : fldE Tryd.prog 81 3 = some (3, 1, false) := by kernel_rfl
@[simp] theorem T296 : plE Tryd.prog 81 3 = some (3, 1) := by kernel_rfl
@[simp] theorem T297 : allE Tryd.prog 81 = true := by kernel_rfl
@[simp] theorem T298 : tyE Tryd.prog 83 = some (1, false) := by kernel_rfl
@[simp] theorem T299 : zeroE Tryd.prog 83 = some [V.poi] := by kernel_rfl
@[simp] theorem T300 : tyE Tryd.prog 84 = some (1, false) := by kernel_rfl
@[simp] theorem T301 : zeroE Tryd.prog 84 = some [V.poi] := by kernel_rfl
@[simp] theorem T302 : tyE Tryd.prog 85 = some (1, false) := by kernel_rfl
@[simp] theorem T303 : zeroE Tryd.prog 85 = some [V.poi] := by kernel_rfl
@[simp] theorem T304 : tyE Tryd.prog 86 = some (1, false) := by kernel_rfl
@[simp] theorem T305 : zeroE Tryd.prog 86 = some [V.sl 0 true []] := by kernel_rfl
@[simp] theorem T306 : slE Tryd.prog 86 = some (9, 1, 16) := by kernel_rfl
@[simp] theorem T307 : tyE Tryd.prog 87 = some (1, false) := by kernel_rfl
@[simp] theorem T308 : zeroE Tryd.prog 87 = some [V.poi] := by kernel_rfl
@[simp] theorem T309 : tyE Tryd.prog 88 = some (1, false) := by kernel_rfl
@[simp] theorem T310 : zeroE Tryd.prog 88 = some [V.nilp] := by kernel_rfl
@[simp] theorem T311 : tyE Tryd.prog 89 = some (2, true) := by kernel_rfl
@[simp] theorem T312 : zeroE Tryd.prog 89 = some [V.nilp, V.sl 0 true []] := by kernel_rfl
@[simp] theorem T313 : fldE Tryd.prog 89 0 = some (0, 1, false) := by kernel_rfl
@[simp] theorem T314 : plE Tryd.prog 89 0 = some (0, 1) := by kernel_rfl
@[simp] theorem T315 : fldE Tryd.prog 89 1 = some (1, 1, false) := by kernel_rfl
@[simp] theorem T316 : plE Tryd.prog 89 1 = some (1, 1) := by kernel_rfl
@[simp] theorem T317 : allE Tryd.prog 89 = true := by kernel_rfl
@[simp] theorem T318 : tyE Tryd.prog 90 = some (2, true) := by kernel_rfl
@[simp] theorem T319 : zeroE Tryd.prog 90 = some [V.nilp, V.sl 0 true []] := by kernel_rfl
@[simp] theorem T320 : fldE Tryd.prog 90 0 = some (0, 1, false) := by kernel_rfl
@[simp] theorem T321 : plE Tryd.prog 90 0 = some (0, 1) := by kernel_rfl
@[simp] theorem T322 : fldE Tryd.prog 90 1 = some (1, 1, false) := by kernel_rfl
@[simp] theorem T323 : plE Tryd.prog 90 1 = some (1, 1) := by kernel_rfl
@[simp] theorem T324 : allE Tryd.prog 90 = true := by kernel_rfl
@[simp] theorem T325 : tyE Tryd.prog 91 = some (1, false) := by kernel_rfl
@[simp] theorem T326 : zeroE Tryd.prog 91 = some [V.poi] := by kernel_rfl
@[simp] theorem T327 : tyE Tryd.prog 92 = some (1, false) := by kernel_rfl
@[simp] theorem T328 : zeroE Tryd.prog 92 = some [V.poi] := by kernel_rfl
@[simp] theorem T329 : tyE Tryd.prog 94 = some (1, false) := by kernel_rfl
@[simp] theorem T330 : zeroE Tryd.prog 94 = some [V.poi] := by kernel_rfl
@[simp] theorem T331 : tyE Tryd.prog 95 = some (1, false) := by kernel_rfl
@[simp] theorem T332 : zeroE Tryd.prog 95 = some [V.poi] := by kernel_rfl
@[simp] theorem T333 : tyE Tryd.prog 96 = some (1, false) := by kernel_rfl
@[simp] theorem T334 : zeroE Tryd.prog 96 = some [V.poi] := by kernel_rfl
@[simp] theorem T335 : tyE Tryd.prog 97 = some (1, false) := by kernel_rfl
@[simp] theorem T336 : zeroE Tryd.prog 97 = some [V.poi] := by kernel_rfl
@[simp] theorem T337 : tyE Tryd.prog 98 = some (1, false) := by kernel_rfl
@[simp] theorem T338 : zeroE Tryd.prog 98 = some [V.poi] := by kernel_rfl
@[simp] theorem T339 : tyE Tryd.prog 99 = some (1, false) := by kernel_rfl
@[simp] theorem T340 : zeroE Tryd.prog 99 = some [V.poi] := by kernel_rfl
@[simp] theorem T341 : tyE Tryd.prog 101 = some (1, false) := by kernel_rfl
@[simp] theorem T342 : zeroE Tryd.prog 101 = some [V.poi] := by kernel_rfl
@[simp] theorem T343 : tyE Tryd.prog 103 = some (1, false) := by kernel_rfl
@[simp] theorem T344 : zeroE Tryd.prog 103 = some [V.poi] := by kernel_rfl
@[simp] theorem T345 : tyE Tryd.prog 104 = some (1, false) := by kernel_rfl
@[simp] theorem T346 : zeroE Tryd.prog 104 = some [V.poi] := by kernel_rfl
@[simp] theorem T347 : tyE Tryd.prog 105 = some (1, false) := by kernel_rfl
@[simp] theorem T348 : zeroE Tryd.prog 105 = some [V.poi] := by kernel_rfl
@[simp] theorem T349 : mpE Tryd.prog 105 = some (6, true, [V.int .i64 0, V.str [], V.int .i64 0, V.bool false, V.poi]) := by kernel_rfl
@[simp] theorem T350 : tyE Tryd.prog 106 = some (1, false) := by kernel_rfl
@[simp] theorem T351 : zeroE Tryd.prog 106 = some [V.poi] := by kernel_rfl
@[simp] theorem T352 : tyE Tryd.prog 107 = some (1, false) := by kernel_rfl
@[simp] theorem T353 : zeroE Tryd.prog 107 = some [V.poi] := by kernel_rfl
@[simp] theorem T354 : tyE Tryd.prog 108 = some (1, false) := by kernel_rfl
@[simp] theorem T355 : zeroE Tryd.prog 108 = some [V.poi] := by kernel_rfl
@[simp] theorem T356 : tyE Tryd.prog 109 = some (1, false) := by kernel_rfl
@[simp] theorem T357 : zeroE Tryd.prog 109 = some [V.poi] := by kernel_rfl
@[simp] theorem T358 : tyE Tryd.prog 110 = some (5, true) := by kernel_rfl
@[simp] theorem T359 : zeroE Tryd.prog 110 = some [V.int .i64 0, V.str [], V.int .i64 0, V.bool false, V.poi] := by kernel_rfl
@[simp] theorem T360 : fldE Tryd.prog 110 0 = some (0, 1, false) := by kernel_rfl
@[simp] theorem T361 : plE Tryd.prog 110 0 = some (0, 1) := by kernel_rfl
@[simp] theorem T362 : fldE Tryd.prog 110 1 = some (1, 1, false) := by kernel_rfl
@[simp] theorem T363 : plE Tryd.prog 110 1 = some (1, 1) := by kernel_rfl
@[simp] theorem T364 : fldE Tryd.prog 110 2 = some (2, 1, false) := by kernel_rfl
@[simp] theorem T365 : plE Tryd.prog 110 2 = some (2, 1) := by kernel_rfl
@[simp] theorem T366 : fldE Tryd.prog 110 3 = some (3, 1, false) := by kernel_rfl
@[simp] theorem T367 : plE Tryd.prog 110 3 = some (3, 1) := by kernel_rfl
@[simp] theorem T368 : fldE Tryd.prog 110 4 = some (4, 1, false) := by kernel_rfl
@[simp] theorem T369 : plE Tryd.prog 110 4 = some (4, 1) := by kernel_rfl
@[simp] theorem T370 : allE Tryd.prog 110 = true := by kernel_rfl
@[simp] theorem T371 : tyE Tryd.prog 111 = some (5, true) := by kernel_rfl
@[simp] theorem T372 : zeroE Tryd.prog 111 = some [V.int .i64 0, V.str [], V.int .i64 0, V.bool false, V.poi] := by kernel_rfl
@[simp] theorem T373 : fldE Tryd.prog 111 0 = some (0, 1, false) := by kernel_rfl
@[simp] theorem T374 : plE Tryd.prog 111 0 = some (0, 1) := by kernel_rfl
@[simp] theorem T375 : fldE Tryd.prog 111 1 = some (1, 1, false) := by kernel_rfl
@[simp] theorem T376 : plE Tryd.prog 111 1 = some (1, 1) := by kernel_rfl
@[simp] theorem T377 : fldE Tryd.prog 111 2 = some (2, 1, false) := by kernel_rfl
@[simp] theorem T378 : plE Tryd.prog 111 2 = some (2, 1) := by kernel_rfl
@[simp] theorem T379 : fldE Tryd.prog 111 3 = some (3, 1, false) := by kernel_rfl
@[simp] theorem T380 : plE Tryd.prog 111 3 = some (3, 1) := by kernel_rfl
@[simp] theorem T381 : fldE Tryd.prog 111 4 = some (4, 1, false) := by kernel_rfl
@[simp] theorem T382 : plE Tryd.prog 111 4 = some (4, 1) := by kernel_rfl
@[simp] theorem T383 : allE Tryd.prog 111 = true := by kernel_rfl
@[simp] theorem T384 : tyE Tryd.prog 112 = some (3, true) := by kernel_rfl
@[simp] theorem T385 : zeroE Tryd.prog 112 = some [V.int .i64 0, V.int .i64 0, V.int .i64 0] := by kernel_rfl
@[simp] theorem T386 : arE Tryd.prog 112 = some (3, 1, false) := by kernel_rfl
@[simp] theorem T387 (i : Nat) : plE Tryd.prog 112 i = some (i * 1, 1) := plE_arr T386 i
@[simp] theorem T388 : allE Tryd.prog 112 = true := by kernel_rfl
@[simp] theorem T389 : tyE Tryd.prog 113 = some (2, true) := by kernel_rfl
@[simp] theorem T390 : zeroE Tryd.prog 113 = some [V.int .i64 0, V.str []] := by kernel_rfl
@[simp] theorem T391 : fldE Tryd.prog 113 0 = some (0, 1, false) := by kernel_rfl
@[simp] theorem T392 : plE Tryd.prog 113 0 = some (0, 1) := by kernel_rfl
@[simp] theorem T393 : fldE Tryd.prog 113 1 = some (1, 1, false) := by kernel_rfl
@[simp] theorem T394 : plE Tryd.prog 113 1 = some (1, 1) := by kernel_rfl
@[simp] theorem T395 : allE Tryd.prog 113 = true := by kernel_rfl
@[simp] theorem T396 : tyE Tryd.prog 114 = some (2, true) := by kernel_rfl
@[simp] theorem T397 : zeroE Tryd.prog 114 = some [V.int .i64 0, V.str []] := by kernel_rfl
@[simp] theorem T398 : fldE Tryd.prog 114 0 = some (0, 1, false) := by kernel_rfl
@[simp] theorem T399 : plE Tryd.prog 114 0 = some (0, 1) := by kernel_rfl
@[simp] theorem T400 : fldE Tryd.prog 114 1 = some (1, 1, false) := by kernel_rfl
@[simp] theorem T401 : plE Tryd.prog 114 1 = some (1, 1) := by kernel_rfl
@[simp] theorem T402 : allE Tryd.prog 114 = true := by kernel_rfl
@[simp] theorem T403 : tyE Tryd.prog 115 = some (13, true) := by kernel_rfl
@[simp] theorem T404 : zeroE Tryd.prog 115 = some [V.int .i64 0, V.int .u32 0, V.int .i64 0, V.int .i64 0, V.str [], V.int .i64 0, V.bool false, V.poi, V.int .i64 0, V.int .i64 0, V.int .i64 0, V.int .i64 0, V.str []] := by kernel_rfl
@[simp] theorem T405 : fldE Tryd.prog 115 0 = some (0, 1, false) := by kernel_rfl
@[simp] theorem T406 : plE Tryd.prog 115 0 = some (0, 1) := by kernel_rfl
@[simp] theorem T407 : fldE Tryd.prog 115 1 = some (1, 1, false) := by kernel_rfl
@[simp] theorem T408 : plE Tryd.prog 115 1 = some (1, 1) := by kernel_rfl
@[simp] theorem T409 : fldE Tryd.prog 115 2 = some (2, 1, false) := by kernel_rfl
@[simp] theorem T410 : plE Tryd.prog 115 2 = some (2, 1) := by kernel_rfl
@[simp] theorem T411 : fldE Tryd.prog 115 3 = some (3, 5, true) := by kernel_rfl
@[simp] theorem T412 : plE Tryd.prog 115 3 = some (3, 5) := by kernel_rfl
@[simp] theorem T413 : fldE Tryd.prog 115 4 = some (8, 3, true) := by kernel_rfl
@[simp] theorem T414 : plE Tryd.prog 115 4 = some (8, 3) := by kernel_rfl
@[simp] theorem T415 : fldE Tryd.prog 115 5 = some (11, 2, true) := by kernel_rfl
@[simp] theorem T416 : plE Tryd.prog 115 5 = some (11, 2) := by kernel_rfl
@[simp] theorem T417 : allE Tryd.prog 115 = true := by kernel_rfl
@[simp] theorem T418 : tyE Tryd.prog 116 = some (13, true) := by kernel_rfl
@[simp] theorem T419 : zeroE Tryd.prog 116 = some [V.int .i64 0, V.int .u32 0, V.int .i64 0, V.int .i64 0, V.str [], V.int .i64 0, V.bool false, V.poi, V.int .i64 0, V.int .i64 0, V.int .i64 0, V.int .i64 0, V.str []] := by kernel_rfl
@[simp] theorem T420 : fldE Tryd.prog 116 0 = some (0, 1, false) := by kernel_rfl
@[simp] theorem T421 : plE Tryd.prog 116 0 = some (0, 1) := by kernel_rfl
@[simp] theorem T422 : fldE Tryd.prog 116 1 = some (1, 1, false) := by kernel_rfl
@[simp] theorem T423 : plE Tryd.prog 116 1 = some (1, 1) := by kernel_rfl
@[simp] theorem T424 : fldE Tryd.prog 116 2 = some (2, 1, false) := by kernel_rfl
@[simp] theorem T425 : plE Tryd.prog 116 2 = some (2, 1) := by kernel_rfl
@[simp] theorem T426 : fldE Tryd.prog 116 3 = some (3, 5, true) := by kernel_rfl
@[simp] theorem T427 : plE Tryd.prog 116 3 = some (3, 5) := by kernel_rfl
@[simp] theorem T428 : fldE Tryd.prog 116 4 = some (8, 3, true) := by kernel_rfl
@[simp] theorem T429 : plE Tryd.prog 116 4 = some (8, 3) := by kernel_rfl
@[simp] theorem T430 : fldE Tryd.prog 116 5 = some (11, 2, true) := by kernel_rfl
@[simp] theorem T431 : plE Tryd.prog 116 5 = some (11, 2) := by kernel_rfl
@[simp] theorem T432 : allE Tryd.prog 116 = true := by kernel_rfl
@[simp] theorem T433 : tyE Tryd.prog 118 = some (1, false) := by kernel_rfl
@[simp] theorem T434 : zeroE Tryd.prog 118 = some [V.sl 0 true []] := by kernel_rfl
@[simp] theorem T435 : slE Tryd.prog 118 = some (123, 6, 72) := by kernel_rfl
@[simp] theorem T436 : tyE Tryd.prog 120 = some (1, false) := by kernel_rfl
@[simp] theorem T437 : zeroE Tryd.prog 120 = some [V.poi] := by kernel_rfl
@[simp] theorem T438 : tyE Tryd.prog 121 = some (1, false) := by kernel_rfl
@[simp] theorem T439 : zeroE Tryd.prog 121 = some [V.sl 0 true []] := by kernel_rfl
@[simp] theorem T440 : slE Tryd.prog 121 = some (125, 3, 32) := by kernel_rfl
@[simp] theorem T441 : tyE Tryd.prog 122 = some (6, true) := by kernel_rfl
@[simp] theorem T442 : zeroE Tryd.prog 122 = some [V.str [], V.int .i64 0, V.sl 0 true [], V.int .i64 0, V.int .i64 0, V.int .i64 0] := by kernel_rfl
@[simp] theorem T443 : fldE Tryd.prog 122 0 = some (0, 1, false) := by kernel_rfl
@[simp] theorem T444 : plE Tryd.prog 122 0 = some (0, 1) := by kernel_rfl
@[simp] theorem T445 : fldE Tryd.prog 122 1 = some (1, 1, false) := by kernel_rfl
@[simp] theorem T446 : plE Tryd.prog 122 1 = some (1, 1) := by kernel_rfl
@[simp] theorem T447 : fldE Tryd.prog 122 2 = some (2, 1, false) := by kernel_rfl
@[simp] theorem T448 : plE Tryd.prog 122 2 = some (2, 1) := by kernel_rfl
@[simp] theorem T449 : fldE Tryd.prog 122 3 = some (3, 1, false) := by kernel_rfl
@[simp] theorem T450 : plE Tryd.prog 122 3 = some (3, 1) := by kernel_rfl
@[simp] theorem T451 : fldE Tryd.prog 122 4 = some (4, 1, false) := by kernel_rfl
@[simp] theorem T452 : plE Tryd.prog 122 4 = some (4, 1) := by kernel_rfl
@[simp] theorem T453 : fldE Tryd.prog 122 5 = some (5, 1, false) := by kernel_rfl
@[simp] theorem T454 : plE Tryd.prog 122 5 = some (5, 1) := by kernel_rfl
@[simp] theorem T455 : allE Tryd.prog 122 = true := by kernel_rfl
@[simp] theorem T456 : tyE Tryd.prog 123 = some (6, true) := by kernel_rfl
@[simp] theorem T457 : zeroE Tryd.prog 123 = some [V.str [], V.int .i64 0, V.sl 0 true [], V.int .i64 0, V.int .i64 0, V.int .i64 0] := by kernel_rfl
@[simp] theorem T458 : fldE Tryd.prog 123 0 = some (0, 1, false) := by kernel_rfl
@[simp] theorem T459 : plE Tryd.prog 123 0 = some (0, 1) := by kernel_rfl
@[simp] theorem T460 : fldE Tryd.prog 123 1 = some (1, 1, false) := by kernel_rfl
@[simp] theorem T461 : plE Tryd.prog 123 1 = some (1, 1) := by kernel_rfl
@[simp] theorem T462 : fldE Tryd.prog 123 2 = some (2, 1, false) := by kernel_rfl
@[simp] theorem T463 : plE Tryd.prog 123 2 = some (2, 1) := by kernel_rfl
@[simp] theorem T464 : fldE Tryd.prog 123 3 = some (3, 1, false) := by kernel_rfl
@[simp] theorem T465 : plE Tryd.prog 123 3 = some (3, 1) := by kernel_rfl
@[simp] theorem T466 : fldE Tryd.prog 123 4 = some (4, 1, false) := by kernel_rfl
@[simp] theorem T467 : plE Tryd.prog 123 4 = some (4, 1) := by kernel_rfl
@[simp] theorem T468 : fldE Tryd.prog 123 5 = some (5, 1, false) := by kernel_rfl
@[simp] theorem T469 : plE Tryd.prog 123 5 = some (5, 1) := by kernel_rfl
@[simp] theorem T470 : allE Tryd.prog 123 = true := by kernel_rfl
@[simp] theorem T471 : tyE Tryd.prog 124 = some (3, true) := by kernel_rfl
@[simp] theorem T472 : zeroE Tryd.prog 124 = some [V.int .i64 0, V.int .i64 0, V.str []] := by kernel_rfl
@[simp] theorem T473 : fldE Tryd.prog 124 0 = some (0, 1, false) := by kernel_rfl
@[simp] theorem T474 : plE Tryd.prog 124 0 = some (0, 1) := by kernel_rfl
@[simp] theorem T475 : fldE Tryd.prog 124 1 = some (1, 1, false) := by kernel_rfl
@[simp] theorem T476 : plE Tryd.prog 124 1 = some (1, 1) := by kernel_rfl
@[simp] theorem T477 : fldE Tryd.prog 124 2 = some (2, 1, false) := by kernel_rfl
@[simp] theorem T478 : plE Tryd.prog 124 2 = some (2, 1) := by kernel_rfl
@[simp] theorem T479 : allE Tryd.prog 124 = true := by kernel_rfl
@[simp] theorem T480 : tyE Tryd.prog 125 = some (3, true) := by kernel_rfl
@[simp] theorem T481 : zeroE Tryd.prog 125 = some [V.int .i64 0, V.int .i64 0, V.str []] := by kernel_rfl
@[simp] theorem T482 : fldE Tryd.prog 125 0 = some (0, 1, false) := by kernel_rfl
@[simp] theorem T483 : plE Tryd.prog 125 0 = some (0, 1) := by kernel_rfl
@[simp] theorem T484 : fldE Tryd.prog 125 1 = some (1, 1, false) := by kernel_rfl
@[simp] theorem T485 : plE Tryd.prog 125 1 = some (1, 1) := by kernel_rfl
@[simp] theorem T486 : fldE Tryd.prog 125 2 = some (2, 1, false) := by kernel_rfl
@[simp] theorem T487 : plE Tryd.prog 125 2 = some (2, 1) := by kernel_rfl
@[simp] theorem T488 : allE Tryd.prog 125 = true := by kernel_rfl
@[simp] theorem T489 : tyE Tryd.prog 126 = some (1, false) := by kernel_rfl
@[simp] theorem T490 : zeroE Tryd.prog 126 = some [V.poi] := by kernel_rfl
@[simp] theorem T491 : tyE Tryd.prog 127 = some (1, false) := by kernel_rfl
@[simp] theorem T492 : zeroE Tryd.prog 127 = some [V.poi] := by kernel_rfl
@[simp] theorem T493 : tyE Tryd.prog 129 = some (1, false) := by kernel_rfl
@[simp] theorem T494 : zeroE Tryd.prog 129 = some [V.poi] := by kernel_rfl
@[simp] theorem T495 : tyE Tryd.prog 130 = some (1, false) := by kernel_rfl
@[simp] theorem T496 : zeroE Tryd.prog 130 = some [V.poi] := by kernel_rfl
@[simp] theorem T497 : tyE Tryd.prog 131 = some (1, false) := by kernel_rfl
@[simp] theorem T498 : zeroE Tryd.prog 131 = some [V.poi] := by kernel_rfl
@[simp] theorem T499 : tyE Tryd.prog 132 = some (1, false) := by kernel_rfl
@[simp] theorem T500 : zeroE Tryd.prog 132 = some [V.poi] := by kernel_rfl
@[simp] theorem T501 : tyE Tryd.prog 133 = some (1, false) := by kernel_rfl
@[simp] theorem T502 : zeroE Tryd.prog 133 = some [V.nilp] := by kernel_rfl
@[simp] theorem T503 : tyE Tryd.prog 134 = some (1, false) := by kernel_rfl
@[simp] theorem T504 : zeroE Tryd.prog 134 = some [V.poi] := by kernel_rfl
@[simp] theorem T505 : tyE Tryd.prog 136 = some (1, false) := by kernel_rfl
@[simp] theorem T506 : zeroE Tryd.prog 136 = some [V.poi] := by kernel_rfl
@[simp] theorem T507 : tyE Tryd.prog 138 = some (1, false) := by kernel_rfl
@[simp] theorem T508 : zeroE Tryd.prog 138 = some [V.poi] := by kernel_rfl
@[simp] theorem T509 : tyE Tryd.prog 139 = some (1, false) := by kernel_rfl
@[simp] theorem T510 : zeroE Tryd.prog 139 = some [V.nilp] := by kernel_rfl
@[simp] theorem T511 : tyE Tryd.prog 140 = some (1, false) := by kernel_rfl
@[simp] theorem T512 : zeroE Tryd.prog 140 = some [V.poi] := by kernel_rfl
@[simp] theorem T513 : tyE Tryd.prog 142 = some (1, false) := by kernel_rfl
@[simp] theorem T514 : zeroE Tryd.prog 142 = some [V.poi] := by kernel_rfl
@[simp] theorem T515 : tyE Tryd.prog 144 = some (1, false) := by kernel_rfl
@[simp] theorem T516 : zeroE Tryd.prog 144 = some [V.poi] := by kernel_rfl
@[simp] theorem T517 : tyE Tryd.prog 146 = some (1, false) := by kernel_rfl
@[simp] theorem T518 : zeroE Tryd.prog 146 = some [V.poi] := by kernel_rfl
@[simp] theorem T519 : tyE Tryd.prog 147 = some (24, true) := by kernel_rfl
@[simp] theorem T520 : zeroE Tryd.prog 147 = some [V.int .u8 0, V.int .u8 0, V.int .u8 0, V.int .u8 0, V.int .u8 0, V.int .u8 0, V.int .u8 0, V.int .u8 0, V.int .u8 0, V.int .u8 0, V.int .u8 0, V.int .u8 0, V.int .u8 0, V.int .u8 0, V.int .u8 0, V.int .u8 0, V.int .u8 0, V.int .u8 0, V.int .u8 0, V.int .u8 0, V.int .u8 0, V.int .u8 0, V.int .u8 0, V.int .u8 0] := by kernel_rfl
@[simp] theorem T521 : arE Tryd.prog 147 = some (24, 1, false) := by kernel_rfl
@[simp] theorem T522 (i : Nat) : plE Tryd.prog 147 i = some (i * 1, 1) := plE_arr T521 i
@[simp] theorem T523 : allE Tryd.prog 147 = true := by kernel_rfl
@[simp] theorem T524 : tyE Tryd.prog 148 = some (1, false) := by kernel_rfl
@[simp] theorem T525 : zeroE Tryd.prog 148 = some [V.poi] := by kernel_rfl
@[simp] theorem T526 : tyE Tryd.prog 149 = some (1, false) := by kernel_rfl
@[simp] theorem T527 : zeroE Tryd.prog 149 = some [V.poi] := by kernel_rfl
@[simp] theorem T528 : tyE Tryd.prog 151 = some (1, false) := by kernel_rfl
@[simp] theorem T529 : zeroE Tryd.prog 151 = some [V.poi] := by kernel_rfl
@[simp] theorem T530 : tyE Tryd.prog 153 = some (1, false) := by kernel_rfl
@[simp] theorem T531 : zeroE Tryd.prog 153 = some [V.poi] := by kernel_rfl
@[simp] theorem T532 : tyE Tryd.prog 154 = some (1, false) := by kernel_rfl
@[simp] theorem T533 : zeroE Tryd.prog 154 = some [V.poi] := by kernel_rfl
@[simp] theorem T534 : tyE Tryd.prog 155 = some (1, false) := by kernel_rfl
@[simp] theorem T535 : zeroE Tryd.prog 155 = some [V.poi] := by kernel_rfl
@[simp] theorem T536 : tyE Tryd.prog 157 = some (1, false) := by kernel_rfl
@[simp] theorem T537 : zeroE Tryd.prog 157 = some [V.poi] := by kernel_rfl
@[simp] theorem T538 : tyE Tryd.prog 158 = some (1, false) := by kernel_rfl
@[simp] theorem T539 : zeroE Tryd.prog 158 = some [V.poi] := by kernel_rfl
@[simp] theorem T540 : tyE Tryd.prog 160 = some (1, false) := by kernel_rfl
@[simp] theorem T541 : zeroE Tryd.prog 160 = some [V.poi] := by kernel_rfl
@[simp] theorem T542 : tyE Tryd.prog 162 = some (1, false) := by kernel_rfl
@[simp] theorem T543 : zeroE Tryd.prog 162 = some [V.poi] := by kernel_rfl
@[simp] theorem T544 : tyE Tryd.prog 164 = some (1, false) := by kernel_rfl
@[simp] theorem T545 : zeroE Tryd.prog 164 = some [V.poi] := by kernel_rfl
@[simp] theorem T546 : tyE Tryd.prog 165 = some (1, false) := by kernel_rfl
@[simp] theorem T547 : zeroE Tryd.prog 165 = some [V.sl 0 true []] := by kernel_rfl
@[simp] theorem T548 : slE Tryd.prog 165 = some (169, 3, 32) := by kernel_rfl
@[simp] theorem T549 : tyE Tryd.prog 167 = some (1, false) := by kernel_rfl
@[simp] theorem T550 : zeroE Tryd.prog 167 = some [V.poi] := by kernel_rfl
@[simp] theorem T551 : tyE Tryd.prog 168 = some (3, true) := by kernel_rfl
@[simp] theorem T552 : zeroE Tryd.prog 168 = some [V.int .i64 0, V.str [], V.bool false] := by kernel_rfl
@[simp] theorem T553 : fldE Tryd.prog 168 0 = some (0, 1, false) := by kernel_rfl
@[simp] theorem T554 : plE Tryd.prog 168 0 = some (0, 1) := by kernel_rfl
@[simp] theorem T555 : fldE Tryd.prog 168 1 = some (1, 1, false) := by kernel_rfl
@[simp] theorem T556 : plE Tryd.prog 168 1 = some (1, 1) := by kernel_rfl
@[simp] theorem T557 : fldE Tryd.prog 168 2 = some (2, 1, false) := by kernel_rfl
@[simp] theorem T558 : plE Tryd.prog 168 2 = some (2, 1) := by kernel_rfl
@[simp] theorem T559 : allE Tryd.prog 168 = true := by kernel_rfl
@[simp] theorem T560 : tyE Tryd.prog 169 = some (3, true) := by kernel_rfl
@[simp] theorem T561 : zeroE Tryd.prog 169 = some [V.int .i64 0, V.str [], V.bool false] := by kernel_rfl
@[simp] theorem T562 : fldE Tryd.prog 169 0 = some (0, 1, false) := by kernel_rfl
@[simp] theorem T563 : plE Tryd.prog 169 0 = some (0, 1) := by kernel_rfl
@[simp] theorem T564 : fldE Tryd.prog 169 1 = some (1, 1, false) := by kernel_rfl
@[simp] theorem T565 : plE Tryd.prog 169 1 = some (1, 1) := by kernel_rfl
@[simp] theorem T566 : fldE Tryd.prog 169 2 = some (2, 1, false) := by kernel_rfl
@[simp] theorem T567 : plE Tryd.prog 169 2 = some (2, 1) := by kernel_rfl
@[simp] theorem T568 : allE Tryd.prog 169 = true := by kernel_rfl
@[simp] theorem T569 : tyE Tryd.prog 170 = some (1, false) := by kernel_rfl
@[simp] theorem T570 : zeroE Tryd.prog 170 = some [V.poi] := by kernel_rfl
@[simp] theorem T571 : tyE Tryd.prog 172 = some (1, false) := by kernel_rfl
@[simp] theorem T572 : zeroE Tryd.prog 172 = some [V.poi] := by kernel_rfl
@[simp] theorem T573 : tyE Tryd.prog 173 = some (1, false) := by kernel_rfl
@[simp] theorem T574 : zeroE Tryd.prog 173 = some [V.poi] := by kernel_rfl
@[simp] theorem T575 : tyE Tryd.prog 174 = some (1, false) := by kernel_rfl
@[simp] theorem T576 : zeroE Tryd.prog 174 = some [V.poi] := by kernel_rfl
@[simp] theorem T577 : tyE Tryd.prog 175 = some (20, true) := by kernel_rfl
@[simp] theorem T578 : zeroE Tryd.prog 175 = some [V.int .u64 0, V.int .u64 0, V.int .u64 0, V.int .u64 0, V.int .u64 0, V.int .u64 0, V.int .u64 0, V.int .u64 0, V.int .u64 0, V.int .u64 0, V.int .u64 0, V.int .u64 0, V.int .u64 0, V.int .u64 0, V.int .u64 0, V.int .u64 0, V.int .u64 0, V.int .u64 0, V.int .u64 0, V.int .u64 0] := by kernel_rfl
@[simp] theorem T579 : arE Tryd.prog 175 = some (20, 1, false) := by kernel_rfl
@[simp] theorem T580 (i : Nat) : plE Tryd.prog 175 i = some (i * 1, 1) := plE_arr T579 i
@[simp] theorem T581 : allE Tryd.prog 175 = true := by kernel_rfl
@[simp] theorem T582 : tyE Tryd.prog 176 = some (65, true) := by kernel_rfl
@[simp] theorem T583 : zeroE Tryd.prog 176 = some [V.int .u8 0, V.int .u8 0, V.int .u8 0, V.int .u8 0, V.int .u8 0, V.int .u8 0, V.int .u8 0, V.int .u8 0, V.int .u8 0, V.int .u8 0, V.int .u8 0, V.int .u8 0, V.int .u8 0, V.int .u8 0, V.int .u8 0, V.int .u8 0, V.int .u8 0, V.int .u8 0, V.int .u8 0, V.int .u8 0, V.int .u8 0, V.int .u8 0, V.int .u8 0, V.int .u8 0, V.int .u8 0, V.int .u8 0, V.int .u8 0, V.int .u8 0, V.int .u8 0, V.int .u8 0, V.int .u8 0, V.int .u8 0, V.int .u8 0, V.int .u8 0, V.int .u8 0, V.int .u8 0, V.int .u8 0, V.int .u8 0, V.int .u8 0, V.int .u8 0, V.int .u8 0, V.int .u8 0, V.int .u8 0, V.int .u8 0, V.int .u8 0, V.int .u8 0, V.int .u8 0, V.int .u8 0, V.int .u8 0, V.int .u8 0, V.int .u8 0, V.int .u8 0, V.int .u8 0, V.int .u8 0, V.int .u8 0, V.int .u8 0, V.int .u8 0, V.int .u8 0, V.int .u8 0, V.int .u8 0, V.int .u8 0, V.int .u8 0, V.int .u8 0, V.int .u8 0, V.int .u8 0] := by kernel_rfl
@[simp] theorem T584 : arE Tryd.prog 176 = some (65, 1, false) := by kernel_rfl
@[simp] theorem T585 (i : Nat) : plE Tryd.prog 176 i = some (i * 1, 1) := plE_arr T584 i
@[simp] theorem T586 : allE Tryd.prog 176 = true := by kernel_rfl
@[simp] theorem T587 : tyE Tryd.prog 177 = some (1, false) := by kernel_rfl
@[simp] theorem T588 : zeroE Tryd.prog 177 = some [V.poi] := by kernel_rfl
@[simp] theorem T589 : tyE Tryd.prog 178 = some (1, false) := by kernel_rfl
@[simp] theorem T590 : zeroE Tryd.prog 178 = some [V.poi] := by kernel_rfl
@[simp] theorem T591 : tyE Tryd.prog 179 = some (1, false) := by kernel_rfl
@[simp] theorem T592 : zeroE Tryd.prog 179 = some [V.poi] := by kernel_rfl
@[simp] theorem T593 : tyE Tryd.prog 180 = some (1, false) := by kernel_rfl
@[simp] theorem T594 : zeroE Tryd.prog 180 = some [V.poi] := by kernel_rfl
@[simp] theorem T595 : tyE Tryd.prog 181 = some (1, false) := by kernel_rfl
@[simp] theorem T596 : zeroE Tryd.prog 181 = some [V.poi] := by kernel_rfl
@[simp] theorem T597 : tyE Tryd.prog 183 = some (1, false) := by kernel_rfl
@[simp] theorem T598 : zeroE Tryd.prog 183 = some [V.poi] := by kernel_rfl
@[simp] theorem T599 : tyE Tryd.prog 184 = some (1, false) := by kernel_rfl
@[simp] theorem T600 : zeroE Tryd.prog 184 = some [V.poi] := by kernel_rfl
@[simp] theorem T601 : tyE Tryd.prog 185 = some (1, false) := by kernel_rfl
@[simp] theorem T602 : zeroE Tryd.prog 185 = some [V.poi] := by kernel_rfl
@[simp] theorem T603 : tyE Tryd.prog 186 = some (1, false) := by kernel_rfl
@[simp] theorem T604 : zeroE Tryd.prog 186 = some [V.poi] := by kernel_rfl
@[simp] theorem T605 : tyE Tryd.prog 187 = some (1, false) := by kernel_rfl
@[simp] theorem T606 : zeroE Tryd.prog 187 = some [V.poi] := by kernel_rfl
@[simp] theorem T607 : tyE Tryd.prog 188 = some (256, true) := by kernel_rfl
@[simp] theorem T608 : zeroE Tryd.prog 188 = some [V.bool false, V.bool false, V.bool false, V.bool false, V.bool false, V.bool false, V.bool false, V.bool false, V.bool false, V.bool false, V.bool false, V.bool false, V.bool false, V.bool false, V.bool false, V.bool false, V.bool false, V.bool false, V.bool false, V.bool false, V.bool false, V.bool false, V.bool false, V.bool false, V.bool false, V.bool false, V.bool false, V.bool false, V.bool false, V.bool false, V.bool false, V.bool false, V.bool false, V.bool false, V.bool false, V.bool false, V.bool false, V.bool false, V.bool false, V.bool false, V.bool false, V.bool false, V.bool false, V.bool false, V.bool false, V.bool false, V.bool false, V.bool false, V.bool false, V.bool false, V.bool false, V.bool false, V.bool false, V.bool false, V.bool false, V.bool false, V.bool false, V.bool false, V.bool false, V.bool false, V.bool false, V.bool false, V.bool false, V.bool false, V.bool false, V.bool false, V.bool false, V.bool false, V.bool false, V.bool false, V.bool false, V.bool false, V.bool false, V.bool false, V.bool false, V.bool false, V.bool false, V.bool false, V.bool false, V.bool false, V.bool false, V.bool false, V.bool false, V.bool false, V.bool false, V.bool false, V.bool false, V.bool false, V.bool false, V.bool false, V.bool false, V.bool false, V.bool false, V.bool false, V.bool false, V.bool false, V.bool false, V.bool false, V.bool false, V.bool false, V.bool false, V.bool false, V.bool false, V.bool false, V.bool false, V.bool false, V.bool false, V.bool false, V.bool false, V.bool false, V.bool false, V.bool false, V.bool false, V.bool false, V.bool false, V.bool false, V.bool false, V.bool false, V.bool false, V.bool false, V.bool false, V.bool false, V.bool false, V.bool false, V.bool false, V.bool false, V.bool false, V.bool false, V.bool false, V.bool false, V.bool false, V.bool false, V.bool false, V.bool false, V.bool false, V.bool false, V.bool false, V.bool false, V.bool false, V.bool false, V.bool false, V.bool false, V.bool false, V.bool false, V.bool false, V.bool false, V.bool false, V.bool false, V.bool false, V.bool false, V.bool false, V.bool false, V.bool false, V.bool false, V.bool false, V.bool false, V.bool false, V.bool false, V.bool false, V.bool false, V.bool false, V.bool false, V.bool false, V.bool false, V.bool false, V.bool false, V.bool false, V.bool false, V.bool false, V.bool false, V.bool false, V.bool false, V.bool false, V.bool false, V.bool false, V.bool false, V.bool false, V.bool false, V.bool false, V.bool false, V.bool false, V.bool false, V.bool false, V.bool false, V.bool false, V.bool false, V.bool false, V.bool false, V.bool false, V.bool false, V.bool false, V.bool false, V.bool false, V.bool false, V.bool false, V.bool false, V.bool false, V.bool false, V.bool false, V.bool false, V.bool false, V.bool false, V.bool false, V.bool false, V.bool false, V.bool false, V.bool false, V.bool false, V.bool false, V.bool false, V.bool false, V.bool false, V.bool false, V.bool false, V.bool false, V.bool false, V.bool false, V.bool false, V.bool false, V.bool false, V.bool false, V.bool false, V.bool false, V.bool false, V.bool false, V.bool false, V.bool false, V.bool false, V.bool false, V.bool false, V.bool false, V.bool false, V.bool false, V.bool false, V.bool false, V.bool false, V.bool false, V.bool false, V.bool false, V.bool false, V.bool false, V.bool false, V.bool false, V.bool false, V.bool false, V.bool false, V.bool false, V.bool false, V.bool false, V.bool false, V.bool false, V.bool false, V.bool false, V.bool false, V.bool false, V.bool false] := by kernel_rfl
@[simp] theorem T609 : arE Tryd.prog 188 = some (256, 1, false) := by kernel_rfl
@[simp] theorem T610 (i : Nat) : plE Tryd.prog 188 i = some (i * 1, 1) := plE_arr T609 i
@[simp] theorem T611 : allE Tryd.prog 188 = true := by kernel_rfl
@[simp] theorem T612 : tyE Tryd.prog 189 = some (256, true) := by kernel_rfl
@[simp] theorem T613 : zeroE Tryd.prog 189 = some [V.bool false, V.bool false, V.bool false, V.bool false, V.bool false, V.bool false, V.bool false, V.bool false, V.bool false, V.bool false, V.bool false, V.bool false, V.bool false, V.bool false, V.bool false, V.bool false, V.bool false, V.bool false, V.bool false, V.bool false, V.bool false, V.bool false, V.bool false, V.bool false, V.bool false, V.bool false, V.bool false, V.bool false, V.bool false, V.bool false, V.bool false, V.bool false, V.bool false, V.bool false, V.bool false, V.bool false, V.bool false, V.bool false, V.bool false, V.bool false, V.bool false, V.bool false, V.bool false, V.bool false, V.bool false, V.bool false, V.bool false, V.bool false, V.bool false, V.bool false, V.bool false, V.bool false, V.bool false, V.bool false, V.bool false, V.bool false, V.bool false, V.bool false, V.bool false, V.bool false, V.bool false, V.bool false, V.bool false, V.bool false, V.bool false, V.bool false, V.bool false, V.bool false, V.bool false, V.bool false, V.bool false, V.bool false, V.bool false, V.bool false, V.bool false, V.bool false, V.bool false, V.bool false, V.bool false, V.bool false, V.bool false, V.bool false, V.bool false, V.bool false, V.bool false, V.bool false, V.bool false, V.bool false, V.bool false, V.bool false, V.bool false, V.bool false, V.bool false, V.bool false, V.bool false, V.bool false, V.bool false, V.bool false, V.bool false, V.bool false, V.bool false, V.bool false, V.bool false, V.bool false, V.bool false, V.bool false, V.bool false, V.bool false, V.bool false, V.bool false, V.bool false, V.bool false, V.bool false, V.bool false, V.bool false, V.bool false, V.bool false, V.bool false, V.bool false, V.bool false, V.bool false, V.bool false, V.bool false, V.bool false, V.bool false, V.bool false, V.bool false, V.bool false, V.bool false, V.bool false, V.bool false, V.bool false, V.bool false, V.bool false, V.bool false, V.bool false, V.bool false, V.bool false, V.bool false, V.bool false, V.bool false, V.bool false, V.bool false, V.bool false, V.bool false, V.bool false, V.bool false, V.bool false, V.bool false, V.bool false, V.bool false, V.bool false, V.bool false, V.bool false, V.bool false, V.bool false, V.bool false, V.bool false, V.bool false, V.bool false, V.bool false, V.bool false, V.bool false, V.bool false, V.bool false, V.bool false, V.bool false, V.bool false, V.bool false, V.bool false, V.bool false, V.bool false, V.bool false, V.bool false, V.bool false, V.bool false, V.bool false, V.bool false, V.bool false, V.bool false, V.bool false, V.bool false, V.bool false, V.bool false, V.bool false, V.bool false, V.bool false, V.bool false, V.bool false, V.bool false, V.bool false, V.bool false, V.bool false, V.bool false, V.bool false, V.bool false, V.bool false, V.bool false, V.bool false, V.bool false, V.bool false, V.bool false, V.bool false, V.bool false, V.bool false, V.bool false, V.bool false, V.bool false, V.bool false, V.bool false, V.bool false, V.bool false, V.bool false, V.bool false, V.bool false, V.bool false, V.bool false, V.bool false, V.bool false, V.bool false, V.bool false, V.bool false, V.bool false, V.bool false, V.bool false, V.bool false, V.bool false, V.bool false, V.bool false, V.bool false, V.bool false, V.bool false, V.bool false, V.bool false, V.bool false, V.bool false, V.bool false, V.bool false, V.bool false, V.bool false, V.bool false, V.bool false, V.bool false, V.bool false, V.bool false, V.bool false, V.bool false, V.bool false, V.bool false, V.bool false, V.bool false, V.bool false, V.bool false, V.bool false, V.bool false, V.bool false] := by kernel_rfl
@[simp] theorem T614 : arE Tryd.prog 189 = some (256, 1, false) := by kernel_rfl
@[simp] theorem T615 (i : Nat) : plE Tryd.prog 189 i = some (i * 1, 1) := plE_arr T614 i
@[simp] theorem T616 : allE Tryd.prog 189 = true := by kernel_rfl
@[simp] theorem T617 : tyE Tryd.prog 191 = some (1, false) := by kernel_rfl
@[simp] theorem T618 : zeroE Tryd.prog 191 = some [V.poi] := by kernel_rfl
@[simp] theorem T619 : tyE Tryd.prog 192 = some (1, false) := by kernel_rfl
@[simp] theorem T620 : zeroE Tryd.prog 192 = some [V.poi] := by kernel_rfl
@[simp] theorem T621 : tyE Tryd.prog 193 = some (1, false) := by kernel_rfl
@[simp] theorem T622 : zeroE Tryd.prog 193 = some [V.nilp] := by kernel_rfl
@[simp] theorem T623 : tyE Tryd.prog 194 = some (1, false) := by kernel_rfl
@[simp] theorem T624 : zeroE Tryd.prog 194 = some [V.poi] := by kernel_rfl
@[simp] theorem T625 : tyE Tryd.prog 195 = some (1, false) := by kernel_rfl
@[simp] theorem T626 : zeroE Tryd.prog 195 = some [V.poi] := by kernel_rfl
@[simp] theorem T627 : tyE Tryd.prog 196 = some (32, true) := by kernel_rfl
@[simp] theorem T628 : zeroE Tryd.prog 196 = some [V.int .u8 0, V.int .u8 0, V.int .u8 0, V.int .u8 0, V.int .u8 0, V.int .u8 0, V.int .u8 0, V.int .u8 0, V.int .u8 0, V.int .u8 0, V.int .u8 0, V.int .u8 0, V.int .u8 0, V.int .u8 0, V.int .u8 0, V.int .u8 0, V.int .u8 0, V.int .u8 0, V.int .u8 0, V.int .u8 0, V.int .u8 0, V.int .u8 0, V.int .u8 0, V.int .u8 0, V.int .u8 0, V.int .u8 0, V.int .u8 0, V.int .u8 0, V.int .u8 0, V.int .u8 0, V.int .u8 0, V.int .u8 0] := by kernel_rfl
@[simp] theorem T629 : arE Tryd.prog 196 = some (32, 1, false) := by kernel_rfl
@[simp] theorem T630 (i : Nat) : plE Tryd.prog 196 i = some (i * 1, 1) := plE_arr T629 i
@[simp] theorem T631 : allE Tryd.prog 196 = true := by kernel_rfl
@[simp] theorem T632 : tyE Tryd.prog 197 = some (64, true) := by kernel_rfl
@[simp] theorem T633 : zeroE Tryd.prog 197 = some [V.int .u8 0, V.int .u8 0, V.int .u8 0, V.int .u8 0, V.int .u8 0, V.int .u8 0, V.int .u8 0, V.int .u8 0, V.int .u8 0, V.int .u8 0, V.int .u8 0, V.int .u8 0, V.int .u8 0, V.int .u8 0, V.int .u8 0, V.int .u8 0, V.int .u8 0, V.int .u8 0, V.int .u8 0, V.int .u8 0, V.int .u8 0, V.int .u8 0, V.int .u8 0, V.int .u8 0, V.int .u8 0, V.int .u8 0, V.int .u8 0, V.int .u8 0, V.int .u8 0, V.int .u8 0, V.int .u8 0, V.int .u8 0, V.int .u8 0, V.int .u8 0, V.int .u8 0, V.int .u8 0, V.int .u8 0, V.int .u8 0, V.int .u8 0, V.int .u8 0, V.int .u8 0, V.int .u8 0, V.int .u8 0, V.int .u8 0, V.int .u8 0, V.int .u8 0, V.int .u8 0, V.int .u8 0, V.int .u8 0, V.int .u8 0, V.int .u8 0, V.int .u8 0, V.int .u8 0, V.int .u8 0, V.int .u8 0, V.int .u8 0, V.int .u8 0, V.int .u8 0, V.int .u8 0, V.int .u8 0, V.int .u8 0, V.int .u8 0, V.int .u8 0, V.int .u8 0] := by kernel_rfl
@[simp] theorem T634 : arE Tryd.prog 197 = some (64, 1, false) := by kernel_rfl
@[simp] theorem T635 (i : Nat) : plE Tryd.prog 197 i = some (i * 1, 1) := plE_arr T634 i
@[simp] theorem T636 : allE Tryd.prog 197 = true := by kernel_rfl
@[simp] theorem T637 : tyE Tryd.prog 198 = some (1, false) := by kernel_rfl
@[simp] theorem T638 : zeroE Tryd.prog 198 = some [V.poi] := by kernel_rfl
@[simp] theorem T639 : tyE Tryd.prog 200 = some (1, false) := by kernel_rfl
@[simp] theorem T640 : zeroE Tryd.prog 200 = some [V.poi] := by kernel_rfl
@[simp] theorem T641 : tyE Tryd.prog 201 = some (256, true) := by kernel_rfl
@[simp] theorem T642 : zeroE Tryd.prog 201 = some [V.int .u8 0, V.int .u8 0, V.int .u8 0, V.int .u8 0, V.int .u8 0, V.int .u8 0, V.int .u8 0, V.int .u8 0, V.int .u8 0, V.int .u8 0, V.int .u8 0, V.int .u8 0, V.int .u8 0, V.int .u8 0, V.int .u8 0, V.int .u8 0, V.int .u8 0, V.int .u8 0, V.int .u8 0, V.int .u8 0, V.int .u8 0, V.int .u8 0, V.int .u8 0, V.int .u8 0, V.int .u8 0, V.int .u8 0, V.int .u8 0, V.int .u8 0, V.int .u8 0, V.int .u8 0, V.int .u8 0, V.int .u8 0, V.int .u8 0, V.int .u8 0, V.int .u8 0, V.int .u8 0, V.int .u8 0, V.int .u8 0, V.int .u8 0, V.int .u8 0, V.int .u8 0, V.int .u8 0, V.int .u8 0, V.int .u8 0, V.int .u8 0, V.int .u8 0, V.int .u8 0, V.int .u8 0, V.int .u8 0, V.int .u8 0, V.int .u8 0, V.int .u8 0, V.int .u8 0, V.int .u8 0, V.int .u8 0, V.int .u8 0, V.int .u8 0, V.int .u8 0, V.int .u8 0, V.int .u8 0, V.int .u8 0, V.int .u8 0, V.int .u8 0, V.int .u8 0, V.int .u8 0, V.int .u8 0, V.int .u8 0, V.int .u8 0, V.int .u8 0, V.int .u8 0, V.int .u8 0, V.int .u8 0, V.int .u8 0, V.int .u8 0, V.int .u8 0, V.int .u8 0, V.int .u8 0, V.int .u8 0, V.int .u8 0, V.int .u8 0, V.int .u8 0, V.int .u8 0, V.int .u8 0, V.int .u8 0, V.int .u8 0, V.int .u8 0, V.int .u8 0, V.int .u8 0, V.int .u8 0, V.int .u8 0, V.int .u8 0, V.int .u8 0, V.int .u8 0, V.int .u8 0, V.int .u8 0, V.int .u8 0, V.int .u8 0, V.int .u8 0, V.int .u8 0, V.int .u8 0, V.int .u8 0, V.int .u8 0, V.int .u8 0, V.int .u8 0, V.int .u8 0, V.int .u8 0, V.int .u8 0, V.int .u8 0, V.int .u8 0, V.int .u8 0, V.int .u8 0, V.int .u8 0, V.int .u8 0, V.int .u8 0, V.int .u8 0, V.int .u8 0, V.int .u8 0, V.int .u8 0, V.int .u8 0, V.int .u8 0, V.int .u8 0, V.int .u8 0, V.int .u8 0, V.int .u8 0, V.int .u8 0, V.int .u8 0, V.int .u8 0, V.int .u8 0, V.int .u8 0, V.int .u8 0, V.int .u8 0, V.int .u8 0, V.int .u8 0, V.int .u8 0, V.int .u8 0, V.int .u8 0, V.int .u8 0, V.int .u8 0, V.int .u8 0, V.int .u8 0, V.int .u8 0, V.int .u8 0, V.int .u8 0, V.int .u8 0, V.int .u8 0, V.int .u8 0, V.int .u8 0, V.int .u8 0, V.int .u8 0, V.int .u8 0, V.int .u8 0, V.int .u8 0, V.int .u8 0, V.int .u8 0, V.int .u8 0, V.int .u8 0, V.int .u8 0, V.int .u8 0, V.int .u8 0, V.int .u8 0, V.int .u8 0, V.int .u8 0, V.int .u8 0, V.int .u8 0, V.int .u8 0, V.int .u8 0, V.int .u8 0, V.int .u8 0, V.int .u8 0, V.int .u8 0, V.int .u8 0, V.int .u8 0, V.int .u8 0, V.int .u8 0, V.int .u8 0, V.int .u8 0, V.int .u8 0, V.int .u8 0, V.int .u8 0, V.int .u8 0, V.int .u8 0, V.int .u8 0, V.int .u8 0, V.int .u8 0, V.int .u8 0, V.int .u8 0, V.int .u8 0, V.int .u8 0, V.int .u8 0, V.int .u8 0, V.int .u8 0, V.int .u8 0, V.int .u8 0, V.int .u8 0, V.int .u8 0, V.int .u8 0, V.int .u8 0, V.int .u8 0, V.int .u8 0, V.int .u8 0, V.int .u8 0, V.int .u8 0, V.int .u8 0, V.int .u8 0, V.int .u8 0, V.int .u8 0, V.int .u8 0, V.int .u8 0, V.int .u8 0, V.int .u8 0, V.int .u8 0, V.int .u8 0, V.int .u8 0, V.int .u8 0, V.int .u8 0, V.int .u8 0, V.int .u8 0, V.int .u8 0, V.int .u8 0, V.int .u8 0, V.int .u8 0, V.int .u8 0, V.int .u8 0, V.int .u8 0, V.int .u8 0, V.int .u8 0, V.int .u8 0, V.int .u8 0, V.int .u8 0, V.int .u8 0, V.int .u8 0, V.int .u8 0, V.int .u8 0, V.int .u8 0, V.int .u8 0, V.int .u8 0, V.int .u8 0, V.int .u8 0, V.int .u8 0, V.int .u8 0, V.int .u8 0, V.int .u8 0, V.int .u8 0, V.int .u8 0, V.int .u8 0, V.int .u8 0, V.int .u8 0, V.int .u8 0, V.int .u8 0, V.int .u8 0, V.int .u8 0, V.int .u8 0, V.int .u8 0, V.int .u8 0, V.int .u8 0, V.int .u8 0] := by kernel_rfl
@[simp] theorem T643 : arE Tryd.prog 201 = some (256, 1, false) := by kernel_rfl
@[simp] theorem T644 (i : Nat) : plE Tryd.prog 201 i = some (i * 1, 1) := plE_arr T643 i
@[simp] theorem T645 : allE Tryd.prog 201 = true := by kernel_rfl
@[simp] theorem T646 : tyE Tryd.prog 202 = some (2, true) := by kernel_rfl
@[simp] theorem T647 : zeroE Tryd.prog 202 = some [V.int .u8 0, V.int .u8 0] := by kernel_rfl
@[simp] theorem T648 : fldE Tryd.prog 202 0 = some (0, 1, false) := by kernel_rfl
@[simp] theorem T649 : plE Tryd.prog 202 0 = some (0, 1) := by kernel_rfl
@[simp] theorem T650 : fldE Tryd.prog 202 1 = some (1, 1, false) := by kernel_rfl
@[simp] theorem T651 : plE Tryd.prog 202 1 = some (1, 1) := by kernel_rfl
@[simp] theorem T652 : allE Tryd.prog 202 = true := by kernel_rfl
@[simp] theorem T653 : tyE Tryd.prog 203 = some (2, true) := by kernel_rfl
@[simp] theorem T654 : zeroE Tryd.prog 203 = some [V.int .u8 0, V.int .u8 0] := by kernel_rfl
@[simp] theorem T655 : fldE Tryd.prog 203 0 = some (0, 1, false) := by kernel_rfl
@[simp] theorem T656 : plE Tryd.prog 203 0 = some (0, 1) := by kernel_rfl
@[simp] theorem T657 : fldE Tryd.prog 203 1 = some (1, 1, false) := by kernel_rfl
@[simp] theorem T658 : plE Tryd.prog 203 1 = some (1, 1) := by kernel_rfl
@[simp] theorem T659 : allE Tryd.prog 203 = true := by kernel_rfl
@[simp] theorem T660 : tyE Tryd.prog 204 = some (32, true) := by kernel_rfl
@[simp] theorem T661 : zeroE Tryd.prog 204 = some [V.int .u8 0, V.int .u8 0, V.int .u8 0, V.int .u8 0, V.int .u8 0, V.int .u8 0, V.int .u8 0, V.int .u8 0, V.int .u8 0, V.int .u8 0, V.int .u8 0, V.int .u8 0, V.int .u8 0, V.int .u8 0, V.int .u8 0, V.int .u8 0, V.int .u8 0, V.int .u8 0, V.int .u8 0, V.int .u8 0, V.int .u8 0, V.int .u8 0, V.int .u8 0, V.int .u8 0, V.int .u8 0, V.int .u8 0, V.int .u8 0, V.int .u8 0, V.int .u8 0, V.int .u8 0, V.int .u8 0, V.int .u8 0] := by kernel_rfl
@[simp] theorem T662 : arE Tryd.prog 204 = some (16, 2, true) := by kernel_rfl
@[simp] theorem T663 (i : Nat) : plE Tryd.prog 204 i = some (i * 2, 2) := plE_arr T662 i
@[simp] theorem T664 : allE Tryd.prog 204 = true := by kernel_rfl
@[simp] theorem T665 : tyE Tryd.prog 205 = some (4, true) := by kernel_rfl
@[simp] theorem T666 : zeroE Tryd.prog 205 = some [V.nilp, V.nilp, V.nilp, V.str []] := by kernel_rfl
@[simp] theorem T667 : fldE Tryd.prog 205 0 = some (0, 1, false) := by kernel_rfl
@[simp] theorem T668 : plE Tryd.prog 205 0 = some (0, 1) := by kernel_rfl
@[simp] theorem T669 : fldE Tryd.prog 205 1 = some (1, 1, false) := by kernel_rfl
@[simp] theorem T670 : plE Tryd.prog 205 1 = some (1, 1) := by kernel_rfl
@[simp] theorem T671 : fldE Tryd.prog 205 2 = some (2, 1, false) := by kernel_rfl
@[simp] theorem T672 : plE Tryd.prog 205 2 = some (2, 1) := by kernel_rfl
@[simp] theorem T673 : fldE Tryd.prog 205 3 = some (3, 1, false) := by kernel_rfl
@[simp] theorem T674 : plE Tryd.prog 205 3 = some (3, 1) := by kernel_rfl
@[simp] theorem T675 : allE Tryd.prog 205 = true := by kernel_rfl
@[simp] theorem T676 : tyE Tryd.prog 206 = some (4, true) := by kernel_rfl
@[simp] theorem T677 : zeroE Tryd.prog 206 = some [V.nilp, V.nilp, V.nilp, V.str []] := by kernel_rfl
@[simp] theorem T678 : fldE Tryd.prog 206 0 = some (0, 1, false) := by kernel_rfl
@[simp] theorem T679 : plE Tryd.prog 206 0 = some (0, 1) := by kernel_rfl
@[simp] theorem T680 : fldE Tryd.prog 206 1 = some (1, 1, false) := by kernel_rfl
@[simp] theorem T681 : plE Tryd.prog 206 1 = some (1, 1) := by kernel_rfl
@[simp] theorem T682 : fldE Tryd.prog 206 2 = some (2, 1, false) := by kernel_rfl
@[simp] theorem T683 : plE Tryd.prog 206 2 = some (2, 1) := by kernel_rfl
@[simp] theorem T684 : fldE Tryd.prog 206 3 = some (3, 1, false) := by kernel_rfl
@[simp] theorem T685 : plE Tryd.prog 206 3 = some (3, 1) := by kernel_rfl
@[simp] theorem T686 : allE Tryd.prog 206 = true := by kernel_rfl
@[simp] theorem T687 : tyE Tryd.prog 207 = some (0, true) := by kernel_rfl
@[simp] theorem T688 : zeroE Tryd.prog 207 = some [] := by kernel_rfl
@[simp] theorem T689 : arE Tryd.prog 207 = some (0, 1, false) := by kernel_rfl
@[simp] theorem T690 (i : Nat) : plE Tryd.prog 207 i = some (i * 1, 1) := plE_arr T689 i
@[simp] theorem T691 : allE Tryd.prog 207 = true := by kernel_rfl
@[simp] theorem T692 : tyE Tryd.prog 208 = some (0, true) := by kernel_rfl
@[simp] theorem T693 : zeroE Tryd.prog 208 = some [] := by kernel_rfl
@[simp] theorem T694 : plE Tryd.prog 208 0 = some (0, 0) := by kernel_rfl
@[simp] theorem T695 : allE Tryd.prog 208 = true := by kernel_rfl
@[simp] theorem T696 : tyE Tryd.prog 209 = some (0, true) := by kernel_rfl
@[simp] theorem T697 : zeroE Tryd.prog 209 = some [] := by kernel_rfl
@[simp] theorem T698 : plE Tryd.prog 209 0 = some (0, 0) := by kernel_rfl
@[simp] theorem T699 : allE Tryd.prog 209 = true := by kernel_rfl
@[simp] theorem T700 : byE Tryd.prog 210 = true := by kernel_rfl
@[simp] theorem T701 : tyE Tryd.prog 210 = some (1, false) := by kernel_rfl
@[simp] theorem T702 : zeroE Tryd.prog 210 = some [V.int .u8 0] := by kernel_rfl
@[simp] theorem T703 : isInt Tryd.prog 210 = some .u8 := by kernel_rfl
@[simp] theorem T704 : byE Tryd.prog 211 = true := by kernel_rfl
@[simp] theorem T705 : tyE Tryd.prog 211 = some (1, false) := by kernel_rfl
@[simp] theorem T706 : zeroE Tryd.prog 211 = some [V.int .u8 0] := by kernel_rfl
@[simp] theorem T707 : isInt Tryd.prog 211 = some .u8 := by kernel_rfl
@[simp] theorem T708 : tyE Tryd.prog 212 = some (1, false) := by kernel_rfl
@[simp] theorem T709 : zeroE Tryd.prog 212 = some [V.poi] := by kernel_rfl
@[simp] theorem T710 : tyE Tryd.prog 213 = some (1, false) := by kernel_rfl
@[simp] theorem T711 : zeroE Tryd.prog 213 = some [V.int .i32 0] := by kernel_rfl
@[simp] theorem T712 : isInt Tryd.prog 213 = some .i32 := by kernel_rfl
@[simp] theorem T713 : tyE Tryd.prog 214 = some (1, false) := by kernel_rfl
@[simp] theorem T714 : zeroE Tryd.prog 214 = some [V.int .i32 0] := by kernel_rfl
@[simp] theorem T715 : isInt Tryd.prog 214 = some .i32 := by kernel_rfl
@[simp] theorem T716 : tyE Tryd.prog 215 = some (11, true) := by kernel_rfl
@[simp] theorem T717 : zeroE Tryd.prog 215 = some [V.int .u64 0, V.int .u64 0, V.int .u32 0, V.int .u8 0, V.int .u8 0, V.int .u8 0, V.int .u8 0, V.poi, V.nilp, V.int .i32 0, V.int .i32 0] := by kernel_rfl
@[simp] theorem T718 : fldE Tryd.prog 215 0 = some (0, 1, false) := by kernel_rfl
@[simp] theorem T719 : plE Tryd.prog 215 0 = some (0, 1) := by kernel_rfl
@[simp] theorem T720 : fldE Tryd.prog 215 1 = some (1, 1, false) := by kernel_rfl
@[simp] theorem T721 : plE Tryd.prog 215 1 = some (1, 1) := by kernel_rfl
@[simp] theorem T722 : fldE Tryd.prog 215 2 = some (2, 1, false) := by kernel_rfl
@[simp] theorem T723 : plE Tryd.prog 215 2 = some (2, 1) := by kernel_rfl
@[simp] theorem T724 : fldE Tryd.prog 215 3 = some (3, 1, false) := by kernel_rfl
@[simp] theorem T725 : plE Tryd.prog 215 3 = some (3, 1) := by kernel_rfl
@[simp] theorem T726 : fldE Tryd.prog 215 4 = some (4, 1, false) := by kernel_rfl
@[simp] theorem T727 : plE Tryd.prog 215 4 = some (4, 1) := by kernel_rfl
@[simp] theorem T728 : fldE Tryd.prog 215 5 = some (5, 1, false) := by kernel_rfl
@[simp] theorem T729 : plE Tryd.prog 215 5 = some (5, 1) := by kernel_rfl
@[simp] theorem T730 : fldE Tryd.prog 215 6 = some (6, 1, false) := by kernel_rfl
@[simp] theorem T731 : plE Tryd.prog 215 6 = some (6, 1) := by kernel_rfl
@[simp] theorem T732 : fldE Tryd.prog 215 7 = some (7, 1, false) := by kernel_rfl
@[simp] theorem T733 : plE Tryd.prog 215 7 = some (7, 1) := by kernel_rfl
@[simp] theorem T734 : fldE Tryd.prog 215 8 = some (8, 1, false) := by kernel_rfl
@[simp] theorem T735 : plE Tryd.prog 215 8 = some (8, 1) := by kernel_rfl
@[simp] theorem T736 : fldE Tryd.prog 215 9 = some (9, 1, false) := by kernel_rfl
@[simp] theorem T737 : plE Tryd.prog 215 9 = some (9, 1) := by kernel_rfl
@[simp] theorem T738 : fldE Tryd.prog 215 10 = some (10, 1, false) := by kernel_rfl
@[simp] theorem T739 : plE Tryd.prog 215 10 = some (10, 1) := by kernel_rfl
@[simp] theorem T740 : allE Tryd.prog 215 = true := by kernel_rfl
@[simp] theorem T741 : tyE Tryd.prog 216 = some (11, true) := by kernel_rfl
@[simp] theorem T742 : zeroE Tryd.prog 216 = some [V.int .u64 0, V.int .u64 0, V.int .u32 0, V.int .u8 0, V.int .u8 0, V.int .u8 0, V.int .u8 0, V.poi, V.nilp, V.int .i32 0, V.int .i32 0] := by kernel_rfl
@[simp] theorem T743 : fldE Tryd.prog 216 0 = some (0, 1, false) := by kernel_rfl
@[simp] theorem T744 : plE Tryd.prog 216 0 = some (0, 1) := by kernel_rfl
@[simp] theorem T745 : fldE Tryd.prog 216 1 = some (1, 1, false) := by kernel_rfl
@[simp] theorem T746 : plE Tryd.prog 216 1 = some (1, 1) := by kernel_rfl
@[simp] theorem T747 : fldE Tryd.prog 216 2 = some (2, 1, false) := by kernel_rfl
@[simp] theorem T748 : plE Tryd.prog 216 2 = some (2, 1) := by kernel_rfl
@[simp] theorem T749 : fldE Tryd.prog 216 3 = some (3, 1, false) := by kernel_rfl
@[simp] theorem T750 : plE Tryd.prog 216 3 = some (3, 1) := by kernel_rfl
@[simp] theorem T751 : fldE Tryd.prog 216 4 = some (4, 1, false) := by kernel_rfl
@[simp] theorem T752 : plE Tryd.prog 216 4 = some (4, 1) := by kernel_rfl
@[simp] theorem T753 : fldE Tryd.prog 216 5 = some (5, 1, false) := by kernel_rfl
@[simp] theorem T754 : plE Tryd.prog 216 5 = some (5, 1) := by kernel_rfl
@[simp] theorem T755 : fldE Tryd.prog 216 6 = some (6, 1, false) := by kernel_rfl
@[simp] theorem T756 : plE Tryd.prog 216 6 = some (6, 1) := by kernel_rfl
@[simp] theorem T757 : fldE Tryd.prog 216 7 = some (7, 1, false) := by kernel_rfl
@[simp] theorem T758 : plE Tryd.prog 216 7 = some (7, 1) := by kernel_rfl
@[simp] theorem T759 : fldE Tryd.prog 216 8 = some (8, 1, false) := by kernel_rfl
@[simp] theorem T760 : plE Tryd.prog 216 8 = some (8, 1) := by kernel_rfl
@[simp] theorem T761 : fldE Tryd.prog 216 9 = some (9, 1, false) := by kernel_rfl
@[simp] theorem T762 : plE Tryd.prog 216 9 = some (9, 1) := by kernel_rfl
@[simp] theorem T763 : fldE Tryd.prog 216 10 = some (10, 1, false) := by kernel_rfl
@[simp] theorem T764 : plE Tryd.prog 216 10 = some (10, 1) := by kernel_rfl
@[simp] theorem T765 : allE Tryd.prog 216 = true := by kernel_rfl
end Go.Proofs.YtjlbpkokdlggiaaDoor
