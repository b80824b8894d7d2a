/- Closed facts on the types of the translation, by program (gentypes.py). -/
import Derived.Test.YtjlbpkokdlggiaaGreatDoorGlo
import Derived.Test.YtjlbpkokdlggiaaGreatDoorProg
import Derived.KernelRfl
namespace Go.Proofs.YtjlbpkokdlggiaaGreatDoor
open Go.Ab
@[simp] theorem T0 : tyE Tryz.prog 1 = some (1, false) := by kernel_rfl
@[simp] theorem T1 : zeroE Tryz.prog 1 = some [V.poi] := by kernel_rfl
@[simp] theorem T2 : tyE Tryz.prog 2 = some (1, false) := by kernel_rfl
@[simp] theorem T3 : zeroE Tryz.prog 2 = some [V.int .i64 0] := by kernel_rfl
@[simp] theorem T4 : isInt Tryz.prog 2 = some .i64 := by kernel_rfl
@[simp] theorem T5 : tyE Tryz.prog 3 = some (1, false) := by kernel_rfl
@[simp] theorem T6 : zeroE Tryz.prog 3 = some [V.int .i64 0] := by kernel_rfl
@[simp] theorem T7 : isInt Tryz.prog 3 = some .i64 := by kernel_rfl
@[simp] theorem T8 : tyE Tryz.prog 4 = some (1, false) := by kernel_rfl
@[simp] theorem T9 : zeroE Tryz.prog 4 = some [V.bool false] := by kernel_rfl
@[simp] theorem T10 : byE Tryz.prog 5 = true := by kernel_rfl
@[simp] theorem T11 : tyE Tryz.prog 5 = some (1, false) := by kernel_rfl
@[simp] theorem T12 : zeroE Tryz.prog 5 = some [V.int .u8 0] := by kernel_rfl
@[simp] theorem T13 : isInt Tryz.prog 5 = some .u8 := by kernel_rfl
@[simp] theorem T14 : byE Tryz.prog 6 = true := by kernel_rfl
@[simp] theorem T15 : tyE Tryz.prog 6 = some (1, false) := by kernel_rfl
@[simp] theorem T16 : zeroE Tryz.prog 6 = some [V.int .u8 0] := by kernel_rfl
@[simp] theorem T17 : isInt Tryz.prog 6 = some .u8 := by kernel_rfl
@[simp] theorem T18 : tyE Tryz.prog 7 = some (4, true) := by kernel_rfl
@[simp] theorem T19 : zeroE Tryz.prog 7 = some [V.int .i64 0, V.int .i64 0, V.bool false, V.int .u8 0] := by kernel_rfl
@[simp] theorem T20 : fldE Tryz.prog 7 0 = some (0, 1, false) := by kernel_rfl
@[simp] theorem T21 : plE Tryz.prog 7 0 = some (0, 1) := by kernel_rfl
@[simp] theorem T22 : fldE Tryz.prog 7 1 = some (1, 1, false) := by kernel_rfl
@[simp] theorem T23 : plE Tryz.prog 7 1 = some (1, 1) := by kernel_rfl
@[simp] theorem T24 : fldE Tryz.prog 7 2 = some (2, 1, false) := by kernel_rfl
@[simp] theorem T25 : plE Tryz.prog 7 2 = some (2, 1) := by kernel_rfl
@[simp] theorem T26 : fldE Tryz.prog 7 3 = some (3, 1, false) := by kernel_rfl
@[simp] theorem T27 : plE Tryz.prog 7 3 = some (3, 1) := by kernel_rfl
@[simp] theorem T28 : allE Tryz.prog 7 = true := by kernel_rfl
@[simp] theorem T29 : tyE Tryz.prog 8 = some (4, true) := by kernel_rfl
@[simp] theorem T30 : zeroE Tryz.prog 8 = some [V.int .i64 0, V.int .i64 0, V.bool false, V.int .u8 0] := by kernel_rfl
@[simp] theorem T31 : fldE Tryz.prog 8 0 = some (0, 1, false) := by kernel_rfl
@[simp] theorem T32 : plE Tryz.prog 8 0 = some (0, 1) := by kernel_rfl
@[simp] theorem T33 : fldE Tryz.prog 8 1 = some (1, 1, false) := by kernel_rfl
@[simp] theorem T34 : plE Tryz.prog 8 1 = some (1, 1) := by kernel_rfl
@[simp] theorem T35 : fldE Tryz.prog 8 2 = some (2, 1, false) := by kernel_rfl
@[simp] theorem T36 : plE Tryz.prog 8 2 = some (2, 1) := by kernel_rfl
@[simp] theorem T37 : fldE Tryz.prog 8 3 = some (3, 1, false) := by kernel_rfl
@[simp] theorem T38 : plE Tryz.prog 8 3 = some (3, 1) := by kernel_rfl
@[simp] theorem T39 : allE Tryz.prog 8 = true := by kernel_rfl
@[simp] theorem T40 : tyE Tryz.prog 9 = some (1, false) := by kernel_rfl
@[simp] theorem T41 : zeroE Tryz.prog 9 = some [V.str []] := by kernel_rfl
@[simp] theorem T42 : slE Tryz.prog 9 = none := by kernel_rfl
@[simp] theorem T43 : isStr Tryz.prog 9 = true := by kernel_rfl
@[simp] theorem T44 : tyE Tryz.prog 10 = some (1, false) := by kernel_rfl
@[simp] theorem T45 : zeroE Tryz.prog 10 = some [V.str []] := by kernel_rfl
@[simp] theorem T46 : slE Tryz.prog 10 = none := by kernel_rfl
@[simp] theorem T47 : isStr Tryz.prog 10 = true := by kernel_rfl
@[simp] theorem T48 : tyE Tryz.prog 11 = some (1, false) := by kernel_rfl
@[simp] theorem T49 : zeroE Tryz.prog 11 = some [V.str []] := by kernel_rfl
@[simp] theorem T50 : slE Tryz.prog 11 = none := by kernel_rfl
@[simp] theorem T51 : isStr Tryz.prog 11 = true := by kernel_rfl
@[simp] theorem T52 : tyE Tryz.prog 12 = some (1, false) := by kernel_rfl
@[simp] theorem T53 : zeroE Tryz.prog 12 = some [V.int .u64 0] := by kernel_rfl
@[simp] theorem T54 : isInt Tryz.prog 12 = some .u64 := by kernel_rfl
@[simp] theorem T55 : tyE Tryz.prog 13 = some (2, true) := by kernel_rfl
@[simp] theorem T56 : zeroE Tryz.prog 13 = some [V.str [], V.int .u64 0] := by kernel_rfl
@[simp] theorem T57 : fldE Tryz.prog 13 0 = some (0, 1, false) := by kernel_rfl
@[simp] theorem T58 : plE Tryz.prog 13 0 = some (0, 1) := by kernel_rfl
@[simp] theorem T59 : fldE Tryz.prog 13 1 = some (1, 1, false) := by kernel_rfl
@[simp] theorem T60 : plE Tryz.prog 13 1 = some (1, 1) := by kernel_rfl
@[simp] theorem T61 : allE Tryz.prog 13 = true := by kernel_rfl
@[simp] theorem T62 : tyE Tryz.prog 14 = some (2, true) := by kernel_rfl
@[simp] theorem T63 : zeroE Tryz.prog 14 = some [V.str [], V.int .u64 0] := by kernel_rfl
@[simp] theorem T64 : fldE Tryz.prog 14 0 = some (0, 1, false) := by kernel_rfl
@[simp] theorem T65 : plE Tryz.prog 14 0 = some (0, 1) := by kernel_rfl
@[simp] theorem T66 : fldE Tryz.prog 14 1 = some (1, 1, false) := by kernel_rfl
@[simp] theorem T67 : plE Tryz.prog 14 1 = some (1, 1) := by kernel_rfl
@[simp] theorem T68 : allE Tryz.prog 14 = true := by kernel_rfl
@[simp] theorem T69 : tyE Tryz.prog 15 = some (1, false) := by kernel_rfl
@[simp] theorem T70 : zeroE Tryz.prog 15 = some [V.nilp] := by kernel_rfl
@[simp] theorem T71 : tyE Tryz.prog 16 = some (1, false) := by kernel_rfl
@[simp] theorem T72 : zeroE Tryz.prog 16 = some [V.nilp] := by kernel_rfl
@[simp] theorem T73 : tyE Tryz.prog 17 = some (1, false) := by kernel_rfl
@[simp] theorem T74 : zeroE Tryz.prog 17 = some [V.nilp] := by kernel_rfl
@[simp] theorem T75 : tyE Tryz.prog 18 = some (1, true) := by kernel_rfl
@[simp] theorem T76 : zeroE Tryz.prog 18 = some [V.nilp] := by kernel_rfl
@[simp] theorem T77 : fldE Tryz.prog 18 0 = some (0, 1, false) := by kernel_rfl
@[simp] theorem T78 : plE Tryz.prog 18 0 = some (0, 1) := by kernel_rfl
@[simp] theorem T79 : allE Tryz.prog 18 = true := by kernel_rfl
@[simp] theorem T80 : tyE Tryz.prog 19 = some (1, true) := by kernel_rfl
@[simp] theorem T81 : zeroE Tryz.prog 19 = some [V.nilp] := by kernel_rfl
@[simp] theorem T82 : fldE Tryz.prog 19 0 = some (0, 1, false) := by kernel_rfl
@[simp] theorem T83 : plE Tryz.prog 19 0 = some (0, 1) := by kernel_rfl
@[simp] theorem T84 : allE Tryz.prog 19 = true := by kernel_rfl
@[simp] theorem T85 : tyE Tryz.prog 20 = some (1, false) := by kernel_rfl
@[simp] theorem T86 : zeroE Tryz.prog 20 = some [V.poi] := by kernel_rfl
@[simp] theorem T87 : tyE Tryz.prog 21 = some (1, false) := by kernel_rfl
@[simp] theorem T88 : zeroE Tryz.prog 21 = some [V.int .i32 0] := by kernel_rfl
@[simp] theorem T89 : isInt Tryz.prog 21 = some .i32 := by kernel_rfl
@[simp] theorem T90 : tyE Tryz.prog 22 = some (1, false) := by kernel_rfl
@[simp] theorem T91 : zeroE Tryz.prog 22 = some [V.sl 0 true []] := by kernel_rfl
@[simp] theorem T92 : slE Tryz.prog 22 = some (3, 1, 8) := by kernel_rfl
@[simp] theorem T93 : tyE Tryz.prog 23 = some (1, false) := by kernel_rfl
@[simp] theorem T94 : zeroE Tryz.prog 23 = some [V.poi] := by kernel_rfl
@[simp] theorem T95 : tyE Tryz.prog 26 = some (1, false) := by kernel_rfl
@[simp] theorem T96 : zeroE Tryz.prog 26 = some [V.poi] := by kernel_rfl
@[simp] theorem T97 : tyE Tryz.prog 27 = some (1, false) := by kernel_rfl
@[simp] theorem T98 : zeroE Tryz.prog 27 = some [V.poi] := by kernel_rfl
@[simp] theorem T99 : tyE Tryz.prog 28 = some (1, false) := by kernel_rfl
@[simp] theorem T100 : zeroE Tryz.prog 28 = some [V.sl 0 true []] := by kernel_rfl
@[simp] theorem T101 : slE Tryz.prog 28 = some (38, 1, 4) := by kernel_rfl
@[simp] theorem T102 : tyE Tryz.prog 31 = some (1, false) := by kernel_rfl
@[simp] theorem T103 : zeroE Tryz.prog 31 = some [V.int .i64 0] := by kernel_rfl
@[simp] theorem T104 : isInt Tryz.prog 31 = some .i64 := by kernel_rfl
@[simp] theorem T105 : tyE Tryz.prog 32 = some (2, true) := by kernel_rfl
@[simp] theorem T106 : zeroE Tryz.prog 32 = some [V.int .i64 0, V.int .i64 0] := by kernel_rfl
@[simp] theorem T107 : fldE Tryz.prog 32 0 = some (0, 1, false) := by kernel_rfl
@[simp] theorem T108 : plE Tryz.prog 32 0 = some (0, 1) := by kernel_rfl
@[simp] theorem T109 : fldE Tryz.prog 32 1 = some (1, 1, false) := by kernel_rfl
@[simp] theorem T110 : plE Tryz.prog 32 1 = some (1, 1) := by kernel_rfl
@[simp] theorem T111 : allE Tryz.prog 32 = true := by kernel_rfl
@[simp] theorem T112 : tyE Tryz.prog 33 = some (2, true) := by kernel_rfl
@[simp] theorem T113 : zeroE Tryz.prog 33 = some [V.int .i64 0, V.int .i64 0] := by kernel_rfl
@[simp] theorem T114 : fldE Tryz.prog 33 0 = some (0, 1, false) := by kernel_rfl
@[simp] theorem T115 : plE Tryz.prog 33 0 = some (0, 1) := by kernel_rfl
@[simp] theorem T116 : fldE Tryz.prog 33 1 = some (1, 1, false) := by kernel_rfl
@[simp] theorem T117 : plE Tryz.prog 33 1 = some (1, 1) := by kernel_rfl
@[simp] theorem T118 : allE Tryz.prog 33 = true := by kernel_rfl
@[simp] theorem T119 : eqE Tryz.prog 33 = some [.i, .i] := by kernel_rfl
@[simp] theorem T120 : tyE Tryz.prog 35 = some (1, false) := by kernel_rfl
@[simp] theorem T121 : zeroE Tryz.prog 35 = some [V.poi] := by kernel_rfl
@[simp] theorem T122 : tyE Tryz.prog 36 = some (1, false) := by kernel_rfl
@[simp] theorem T123 : zeroE Tryz.prog 36 = some [V.poi] := by kernel_rfl
@[simp] theorem T124 : tyE Tryz.prog 37 = some (1, false) := by kernel_rfl
@[simp] theorem T125 : zeroE Tryz.prog 37 = some [V.poi] := by kernel_rfl
@[simp] theorem T126 : tyE Tryz.prog 38 = some (1, false) := by kernel_rfl
@[simp] theorem T127 : zeroE Tryz.prog 38 = some [V.int .u32 0] := by kernel_rfl
@[simp] theorem T128 : isInt Tryz.prog 38 = some .u32 := by kernel_rfl
@[simp] theorem T129 : tyE Tryz.prog 39 = some (1, false) := by kernel_rfl
@[simp] theorem T130 : zeroE Tryz.prog 39 = some [V.sl 0 true []] := by kernel_rfl
@[simp] theorem T131 : slE Tryz.prog 39 = some (9, 1, 16) := by kernel_rfl
@[simp] theorem T132 : tyE Tryz.prog 40 = some (1, false) := by kernel_rfl
@[simp] theorem T133 : zeroE Tryz.prog 40 = some [V.poi] := by kernel_rfl
@[simp] theorem T134 : tyE Tryz.prog 41 = some (1, false) := by kernel_rfl
@[simp] theorem T135 : zeroE Tryz.prog 41 = some [V.sl 0 true []] := by kernel_rfl
@[simp] theorem T136 : slE Tryz.prog 41 = some (85, 2, 24) := by kernel_rfl
@[simp] theorem T137 : tyE Tryz.prog 43 = some (1, false) := by kernel_rfl
@[simp] theorem T138 : zeroE Tryz.prog 43 = some [V.poi] := by kernel_rfl
@[simp] theorem T139 : tyE Tryz.prog 44 = some (1, false) := by kernel_rfl
@[simp] theorem T140 : zeroE Tryz.prog 44 = some [V.poi] := by kernel_rfl
@[simp] theorem T141 : tyE Tryz.prog 47 = some (5, true) := by kernel_rfl
@[simp] theorem T142 : zeroE Tryz.prog 47 = some [V.int .i64 0, V.int .i64 0, V.int .i64 0, V.int .i64 0, V.int .i32 0] := by kernel_rfl
@[simp] theorem T143 : fldE Tryz.prog 47 0 = some (0, 1, false) := by kernel_rfl
@[simp] theorem T144 : plE Tryz.prog 47 0 = some (0, 1) := by kernel_rfl
@[simp] theorem T145 : fldE Tryz.prog 47 1 = some (1, 1, false) := by kernel_rfl
@[simp] theorem T146 : plE Tryz.prog 47 1 = some (1, 1) := by kernel_rfl
@[simp] theorem T147 : fldE Tryz.prog 47 2 = some (2, 1, false) := by kernel_rfl
@[simp] theorem T148 : plE Tryz.prog 47 2 = some (2, 1) := by kernel_rfl
@[simp] theorem T149 : fldE Tryz.prog 47 3 = some (3, 1, false) := by kernel_rfl
@[simp] theorem T150 : plE Tryz.prog 47 3 = some (3, 1) := by kernel_rfl
@[simp] theorem T151 : fldE Tryz.prog 47 4 = some (4, 1, false) := by kernel_rfl
@[simp] theorem T152 : plE Tryz.prog 47 4 = some (4, 1) := by kernel_rfl
@[simp] theorem T153 : allE Tryz.prog 47 = true := by kernel_rfl
@[simp] theorem T154 : tyE Tryz.prog 48 = some (5, true) := by kernel_rfl
@[simp] theorem T155 : zeroE Tryz.prog 48 = some [V.int .i64 0, V.int .i64 0, V.int .i64 0, V.int .i64 0, V.int .i32 0] := by kernel_rfl
@[simp] theorem T156 : fldE Tryz.prog 48 0 = some (0, 1, false) := by kernel_rfl
@[simp] theorem T157 : plE Tryz.prog 48 0 = some (0, 1) := by kernel_rfl
@[simp] theorem T158 : fldE Tryz.prog 48 1 = some (1, 1, false) := by kernel_rfl
@[simp] theorem T159 : plE Tryz.prog 48 1 = some (1, 1) := by kernel_rfl
@[simp] theorem T160 : fldE Tryz.prog 48 2 = some (2, 1, false) := by kernel_rfl
@[simp] theorem T161 : plE Tryz.prog 48 2 = some (2, 1) := by kernel_rfl
@[simp] theorem T162 : fldE Tryz.prog 48 3 = some (3, 1, false) := by kernel_rfl
@[simp] theorem T163 : plE Tryz.prog 48 3 = some (3, 1) := by kernel_rfl
@[simp] theorem T164 : fldE Tryz.prog 48 4 = some (4, 1, false) := by kernel_rfl
@[simp] theorem T165 : plE Tryz.prog 48 4 = some (4, 1) := by kernel_rfl
@[simp] theorem T166 : allE Tryz.prog 48 = true := by kernel_rfl
@[simp] theorem T167 : eqE Tryz.prog 48 = some [.i, .i, .i, .i, .i] := by kernel_rfl
@[simp] theorem T168 : tyE Tryz.prog 49 = some (1, false) := by kernel_rfl
@[simp] theorem T169 : zeroE Tryz.prog 49 = some [V.poi] := by kernel_rfl
@[simp] theorem T170 : tyE Tryz.prog 50 = some (1, false) := by kernel_rfl
@[simp] theorem T171 : zeroE Tryz.prog 50 = some [V.nilp] := by kernel_rfl
@[simp] theorem T172 : tyE Tryz.prog 51 = some (1, false) := by kernel_rfl
@[simp] theorem T173 : zeroE Tryz.prog 51 = some [V.sl 0 true []] := by kernel_rfl
@[simp] theorem T174 : slE Tryz.prog 51 = some (5, 1, 1) := by kernel_rfl
@[simp] theorem T175 : bsE Tryz.prog 51 = true := by kernel_rfl
@[simp] theorem T176 : tyE Tryz.prog 52 = some (2, true) := by kernel_rfl
@[simp] theorem T177 : zeroE Tryz.prog 52 = some [V.nilp, V.sl 0 true []] := by kernel_rfl
@[simp] theorem T178 : fldE Tryz.prog 52 0 = some (0, 1, false) := by kernel_rfl
@[simp] theorem T179 : plE Tryz.prog 52 0 = some (0, 1) := by kernel_rfl
@[simp] theorem T180 : fldE Tryz.prog 52 1 = some (1, 1, false) := by kernel_rfl
@[simp] theorem T181 : plE Tryz.prog 52 1 = some (1, 1) := by kernel_rfl
@[simp] theorem T182 : allE Tryz.prog 52 = true := by kernel_rfl
@[simp] theorem T183 : tyE Tryz.prog 53 = some (2, true) := by kernel_rfl
@[simp] theorem T184 : zeroE Tryz.prog 53 = some [V.nilp, V.sl 0 true []] := by kernel_rfl
@[simp] theorem T185 : fldE Tryz.prog 53 0 = some (0, 1, false) := by kernel_rfl
@[simp] theorem T186 : plE Tryz.prog 53 0 = some (0, 1) := by kernel_rfl
@[simp] theorem T187 : fldE Tryz.prog 53 1 = some (1, 1, false) := by kernel_rfl
@[simp] theorem T188 : plE Tryz.prog 53 1 = some (1, 1) := by kernel_rfl
@[simp] theorem T189 : allE Tryz.prog 53 = true := by kernel_rfl
@[simp] theorem T190 : tyE Tryz.prog 56 = some (1, false) := by kernel_rfl
@[simp] theorem T191 : zeroE Tryz.prog 56 = some [V.poi] := by kernel_rfl
@[simp] theorem T192 : tyE Tryz.prog 57 = some (1, false) := by kernel_rfl
@[simp] theorem T193 : zeroE Tryz.prog 57 = some [V.poi] := by kernel_rfl
@[simp] theorem T194 : tyE Tryz.prog 62 = some (1, false) := by kernel_rfl
@[simp] theorem T195 : zeroE Tryz.prog 62 = some [V.int .u64 0] := by kernel_rfl
@[simp] theorem T196 : isInt Tryz.prog 62 = some .u64 := by kernel_rfl
@[simp] theorem T197 : tyE Tryz.prog 66 = some (1, false) := by kernel_rfl
@[simp] theorem T198 : zeroE Tryz.prog 66 = some [V.sl 0 true []] := by kernel_rfl
@[simp] theorem T199 : slE Tryz.prog 66 = some (113, 13, 120) := by kernel_rfl
@[simp] theorem T200 : tyE Tryz.prog 67 = some (1, false) := by kernel_rfl
@[simp] theorem T201 : zeroE Tryz.prog 67 = some [V.poi] := by kernel_rfl
@[simp] theorem T202 : mpE Tryz.prog 67 = some (2, false, [V.int .u32 0]) := by kernel_rfl
@[simp] theorem T203 : tyE Tryz.prog 68 = some (4, true) := by kernel_rfl
@[simp] theorem T204 : zeroE Tryz.prog 68 = some [V.sl 0 true [], V.sl 0 true [], V.poi, V.int .i64 0] := by kernel_rfl
@[simp] theorem T205 : fldE Tryz.prog 68 0 = some (0, 1, false) := by kernel_rfl
@[simp] theorem T206 : plE Tryz.prog 68 0 = some (0, 1) := by kernel_rfl
@[simp] theorem T207 : fldE Tryz.prog 68 1 = some (1, 1, false) := by kernel_rfl
@[simp] theorem T208 : plE Tryz.prog 68 1 = some (1, 1) := by kernel_rfl
@[simp] theorem T209 : fldE Tryz.prog 68 2 = some (2, 1, false) := by kernel_rfl
@[simp] theorem T210 : plE Tryz.prog 68 2 = some (2, 1) := by kernel_rfl
@[simp] theorem T211 : fldE Tryz.prog 68 3 = some (3, 1, false) := by kernel_rfl
@[simp] theorem T212 : plE Tryz.prog 68 3 = some (3, 1) := by kernel_rfl
@[simp] theorem T213 : allE Tryz.prog 68 = true := by kernel_rfl
@[simp] theorem T214 : tyE Tryz.prog 69 = some (4, true) := by kernel_rfl
@[simp] theorem T215 : zeroE Tryz.prog 69 = some [V.sl 0 true [], V.sl 0 true [], V.poi, V.int .i64 0] := by kernel_rfl
@[simp] theorem T216 : fldE Tryz.prog 69 0 = some (0, 1, false) := by kernel_rfl
@[simp] theorem T217 : plE Tryz.prog 69 0 = some (0, 1) := by kernel_rfl
@[simp] theorem T218 : fldE Tryz.prog 69 1 = some (1, 1, false) := by kernel_rfl
@[simp] theorem T219 : plE Tryz.prog 69 1 = some (1, 1) := by kernel_rfl
@[simp] theorem T220 : fldE Tryz.prog 69 2 = some (2, 1, false) := by kernel_rfl
@[simp] theorem T221 : plE Tryz.prog 69 2 = some (2, 1) := by kernel_rfl
@[simp] theorem T222 : fldE Tryz.prog 69 3 = some (3, 1, false) := by kernel_rfl
@[simp] theorem T223 : plE Tryz.prog 69 3 = some (3, 1) := by kernel_rfl
@[simp] theorem T224 : allE Tryz.prog 69 = true := by kernel_rfl
@[simp] theorem T225 : tyE Tryz.prog 73 = some (1, false) := by kernel_rfl
@[simp] theorem T226 : zeroE Tryz.prog 73 = some [V.int .u64 0] := by kernel_rfl
@[simp] theorem T227 : isInt Tryz.prog 73 = some .u64 := by kernel_rfl
@[simp] theorem T228 : tyE Tryz.prog 84 = some (2, true) := by kernel_rfl
@[simp] theorem T229 : zeroE Tryz.prog 84 = some [V.str [], V.int .u32 0] := by kernel_rfl
@[simp] theorem T230 : fldE Tryz.prog 84 0 = some (0, 1, false) := by kernel_rfl
@[simp] theorem T231 : plE Tryz.prog 84 0 = some (0, 1) := by kernel_rfl
@[simp] theorem T232 : fldE Tryz.prog 84 1 = some (1, 1, false) := by kernel_rfl
@[simp] theorem T233 : plE Tryz.prog 84 1 = some (1, 1) := by kernel_rfl
@[simp] theorem T234 : allE Tryz.prog 84 = true := by kernel_rfl
@[simp] theorem T235 : tyE Tryz.prog 85 = some (2, true) := by kernel_rfl
@[simp] theorem T236 : zeroE Tryz.prog 85 = some [V.str [], V.int .u32 0] := by kernel_rfl
@[simp] theorem T237 : fldE Tryz.prog 85 0 = some (0, 1, false) := by kernel_rfl
@[simp] theorem T238 : plE Tryz.prog 85 0 = some (0, 1) := by kernel_rfl
@[simp] theorem T239 : fldE Tryz.prog 85 1 = some (1, 1, false) := by kernel_rfl
@[simp] theorem T240 : plE Tryz.prog 85 1 = some (1, 1) := by kernel_rfl
@[simp] theorem T241 : allE Tryz.prog 85 = true := by kernel_rfl
@[simp] theorem T242 : eqE Tryz.prog 85 = some [.s, .i] := by kernel_rfl
@[simp] theorem T243 : tyE Tryz.prog 89 = some (5, true) := by kernel_rfl
@[simp] theorem T244 : zeroE Tryz.prog 89 = some [V.bool false, V.bool false, V.bool false, V.int .i32 0, V.int .i32 0] := by kernel_rfl
@[simp] theorem T245 : fldE Tryz.prog 89 0 = some (0, 1, false) := by kernel_rfl
@[simp] theorem T246 : plE Tryz.prog 89 0 = some (0, 1) := by kernel_rfl
@[simp] theorem T247 : fldE Tryz.prog 89 1 = some (1, 1, false) := by kernel_rfl
@[simp] theorem T248 : plE Tryz.prog 89 1 = some (1, 1) := by kernel_rfl
@[simp] theorem T249 : fldE Tryz.prog 89 2 = some (2, 1, false) := by kernel_rfl
@[simp] theorem T250 : plE Tryz.prog 89 2 = some (2, 1) := by kernel_rfl
@[simp] theorem T251 : fldE Tryz.prog 89 3 = some (3, 1, false) := by kernel_rfl
@[simp] theorem T252 : plE Tryz.prog 89 3 = some (3, 1) := by kernel_rfl
@[simp] theorem T253 : fldE Tryz.prog 89 4 = some (4, 1, false) := by kernel_rfl
@[simp] theorem T254 : plE Tryz.prog 89 4 = some (4, 1) := by kernel_rfl
@[simp] theorem T255 : allE Tryz.prog 89 = true := by kernel_rfl
@[simp] theorem T256 : tyE Tryz.prog 90 = some (5, true) := by kernel_rfl
@[simp] theorem T257 : zeroE Tryz.prog 90 = some [V.bool false, V.bool false, V.bool false, V.int .i32 0, V.int .i32 0] := by kernel_rfl
@[simp] theorem T258 : fldE Tryz.prog 90 0 = some (0, 1, false) := by kernel_rfl
@[simp] theorem T259 : plE Tryz.prog 90 0 = some (0, 1) := by kernel_rfl
@[simp] theorem T260 : fldE Tryz.prog 90 1 = some (1, 1, false) := by kernel_rfl
@[simp] theorem T261 : plE Tryz.prog 90 1 = some (1, 1) := by kernel_rfl
@[simp] theorem T262 : fldE Tryz.prog 90 2 = some (2, 1, false) := by kernel_rfl
@[simp] theorem T263 : plE Tryz.prog 90 2 = some (2, 1) := by kernel_rfl
@[simp] theorem T264 : fldE Tryz.prog 90 3 = some (3, 1, false) := by kernel_rfl
@[simp] theorem T265 : plE Tryz.prog 90 3 = some (3, 1) := by kernel_rfl
@[simp] theorem T266 : fldE Tryz.prog 90 4 = some (4, 1, false) := by kernel_rfl
@[simp] theorem T267 : plE Tryz.prog 90 4 = some (4, 1) := by kernel_rfl
@[simp] theorem T268 : allE Tryz.prog 90 = true := by kernel_rfl
@[simp] theorem T269 : tyE Tryz.prog 92 = some (1, false) := by kernel_rfl
@[simp] theorem T270 : zeroE Tryz.prog 92 = some [V.poi] := by kernel_rfl
@[simp] theorem T271 : tyE Tryz.prog 94 = some (65, true) := by kernel_rfl
@[simp] theorem T272 : zeroE Tryz.prog 94 = some [V.str [], V.str [], V.str [], V.str [], V.str [], V.str [], V.str [], V.str [], V.str [], V.str [], V.str [], V.str [], V.str [], V.str [], V.str [], V.str [], V.str [], V.str [], V.str [], V.str [], V.str [], V.str [], V.str [], V.str [], V.str [], V.str [], V.str [], V.str [], V.str [], V.str [], V.str [], V.str [], V.str [], V.str [], V.str [], V.str [], V.str [], V.str [], V.str [], V.str [], V.str [], V.str [], V.str [], V.str [], V.str [], V.str [], V.str [], V.str [], V.str [], V.str [], V.str [], V.str [], V.str [], V.str [], V.str [], V.str [], V.str [], V.str [], V.str [], V.str [], V.str [], V.str [], V.str [], V.str [], V.str []] := by kernel_rfl
@[simp] theorem T273 : arE Tryz.prog 94 = some (65, 1, false) := by kernel_rfl
@[simp] theorem T274 (i : Nat) : plE Tryz.prog 94 i = some (i * 1, 1) := plE_arr T273 i
@[simp] theorem T275 : allE Tryz.prog 94 = true := by kernel_rfl
@[simp] theorem T276 : tyE Tryz.prog 101 = some (1, false) := by kernel_rfl
@[simp] theorem T277 : zeroE Tryz.prog 101 = some [V.nilp] := by kernel_rfl
@[simp] theorem T278 : tyE Tryz.prog 102 = some (1, false) := by kernel_rfl
@[simp] theorem T279 : zeroE Tryz.prog 102 = some [V.poi] := by kernel_rfl
@[simp] theorem T280 : mpE Tryz.prog 102 = some (6, true, [V.int .i64 0, V.str [], V.int .i64 0, V.bool false, V.poi]) := by kernel_rfl
@[simp] theorem T281 : tyE Tryz.prog 106 = some (1, false) := by kernel_rfl
@[simp] theorem T282 : zeroE Tryz.prog 106 = some [V.poi] := by kernel_rfl
@[simp] theorem T283 : tyE Tryz.prog 107 = some (5, true) := by kernel_rfl
@[simp] theorem T284 : zeroE Tryz.prog 107 = some [V.int .i64 0, V.str [], V.int .i64 0, V.bool false, V.poi] := by kernel_rfl
@[simp] theorem T285 : fldE Tryz.prog 107 0 = some (0, 1, false) := by kernel_rfl
@[simp] theorem T286 : plE Tryz.prog 107 0 = some (0, 1) := by kernel_rfl
@[simp] theorem T287 : fldE Tryz.prog 107 1 = some (1, 1, false) := by kernel_rfl
@[simp] theorem T288 : plE Tryz.prog 107 1 = some (1, 1) := by kernel_rfl
@[simp] theorem T289 : fldE Tryz.prog 107 2 = some (2, 1, false) := by kernel_rfl
@[simp] theorem T290 : plE Tryz.prog 107 2 = some (2, 1) := by kernel_rfl
@[simp] theorem T291 : fldE Tryz.prog 107 3 = some (3, 1, false) := by kernel_rfl
@[simp] theorem T292 : plE Tryz.prog 107 3 = some (3, 1) := by kernel_rfl
@[simp] theorem T293 : fldE Tryz.prog 107 4 = some (4, 1, false) := by kernel_rfl
@[simp] theorem T294 : plE Tryz.prog 107 4 = some (4, 1) := by kernel_rfl
@[simp] theorem T295 : allE Tryz.prog 107 = true := by kernel_rfl
@[simp] theorem T296 : tyE Tryz.prog 108 = some (5, true) := by kernel_rfl
@[simp] theorem T297 : zeroE Tryz.prog 108 = some [V.int .i64 0, V.str [], V.int .i64 0, V.bool false, V.poi] := by kernel_rfl
@[simp] theorem T298 : fldE Tryz.prog 108 0 = some (0, 1, false) := by kernel_rfl
@[simp] theorem T299 : plE Tryz.prog 108 0 = some (0, 1) := by kernel_rfl
@[simp] theorem T300 : fldE Tryz.prog 108 1 = some (1, 1, false) := by kernel_rfl
@[simp] theorem T301 : plE Tryz.prog 108 1 = some (1, 1) := by kernel_rfl
@[simp] theorem T302 : fldE Tryz.prog 108 2 = some (2, 1, false) := by kernel_rfl
@[simp] theorem T303 : plE Tryz.prog 108 2 = some (2, 1) := by kernel_rfl
@[simp] theorem T304 : fldE Tryz.prog 108 3 = some (3, 1, false) := by kernel_rfl
@[simp] theorem T305 : plE Tryz.prog 108 3 = some (3, 1) := by kernel_rfl
@[simp] theorem T306 : fldE Tryz.prog 108 4 = some (4, 1, false) := by kernel_rfl
@[simp] theorem T307 : plE Tryz.prog 108 4 = some (4, 1) := by kernel_rfl
@[simp] theorem T308 : allE Tryz.prog 108 = true := by kernel_rfl
@[simp] theorem T309 : tyE Tryz.prog 109 = some (3, true) := by kernel_rfl
@[simp] theorem T310 : zeroE Tryz.prog 109 = some [V.int .i64 0, V.int .i64 0, V.int .i64 0] := by kernel_rfl
@[simp] theorem T311 : arE Tryz.prog 109 = some (3, 1, false) := by kernel_rfl
@[simp] theorem T312 (i : Nat) : plE Tryz.prog 109 i = some (i * 1, 1) := plE_arr T311 i
@[simp] theorem T313 : allE Tryz.prog 109 = true := by kernel_rfl
@[simp] theorem T314 : tyE Tryz.prog 110 = some (2, true) := by kernel_rfl
@[simp] theorem T315 : zeroE Tryz.prog 110 = some [V.int .i64 0, V.str []] := by kernel_rfl
@[simp] theorem T316 : fldE Tryz.prog 110 0 = some (0, 1, false) := by kernel_rfl
@[simp] theorem T317 : plE Tryz.prog 110 0 = some (0, 1) := by kernel_rfl
@[simp] theorem T318 : fldE Tryz.prog 110 1 = some (1, 1, false) := by kernel_rfl
@[simp] theorem T319 : plE Tryz.prog 110 1 = some (1, 1) := by kernel_rfl
@[simp] theorem T320 : allE Tryz.prog 110 = true := by kernel_rfl
@[simp] theorem T321 : tyE Tryz.prog 111 = some (2, true) := by kernel_rfl
@[simp] theorem T322 : zeroE Tryz.prog 111 = some [V.int .i64 0, V.str []] := by kernel_rfl
@[simp] theorem T323 : fldE Tryz.prog 111 0 = some (0, 1, false) := by kernel_rfl
@[simp] theorem T324 : plE Tryz.prog 111 0 = some (0, 1) := by kernel_rfl
@[simp] theorem T325 : fldE Tryz.prog 111 1 = some (1, 1, false) := by kernel_rfl
@[simp] theorem T326 : plE Tryz.prog 111 1 = some (1, 1) := by kernel_rfl
@[simp] theorem T327 : allE Tryz.prog 111 = true := by kernel_rfl
@[simp] theorem T328 : tyE Tryz.prog 112 = some (13, true) := by kernel_rfl
@[simp] theorem T329 : zeroE Tryz.prog 112 = some [V.int .i64 0, V.int .u32 0, V.int .i64 0, V.int .i64 0, V.str [], V.int .i64 0, V.bool false, V.poi, V.int .i64 0, V.int .i64 0, V.int .i64 0, V.int .i64 0, V.str []] := by kernel_rfl
@[simp] theorem T330 : fldE Tryz.prog 112 0 = some (0, 1, false) := by kernel_rfl
@[simp] theorem T331 : plE Tryz.prog 112 0 = some (0, 1) := by kernel_rfl
@[simp] theorem T332 : fldE Tryz.prog 112 1 = some (1, 1, false) := by kernel_rfl
@[simp] theorem T333 : plE Tryz.prog 112 1 = some (1, 1) := by kernel_rfl
@[simp] theorem T334 : fldE Tryz.prog 112 2 = some (2, 1, false) := by kernel_rfl
@[simp] theorem T335 : plE Tryz.prog 112 2 = some (2, 1) := by kernel_rfl
@[simp] theorem T336 : fldE Tryz.prog 112 3 = some (3, 5, true) := by kernel_rfl
@[simp] theorem T337 : plE Tryz.prog 112 3 = some (3, 5) := by kernel_rfl
@[simp] theorem T338 : fldE Tryz.prog 112 4 = some (8, 3, true) := by kernel_rfl
@[simp] theorem T339 : plE Tryz.prog 112 4 = some (8, 3) := by kernel_rfl
@[simp] theorem T340 : fldE Tryz.prog 112 5 = some (11, 2, true) := by kernel_rfl
@[simp] theorem T341 : plE Tryz.prog 112 5 = some (11, 2) := by kernel_rfl
@[simp] theorem T342 : allE Tryz.prog 112 = true := by kernel_rfl
@[simp] theorem T343 : tyE Tryz.prog 113 = some (13, true) := by kernel_rfl
@[simp] theorem T344 : zeroE Tryz.prog 113 = some [V.int .i64 0, V.int .u32 0, V.int .i64 0, V.int .i64 0, V.str [], V.int .i64 0, V.bool false, V.poi, V.int .i64 0, V.int .i64 0, V.int .i64 0, V.int .i64 0, V.str []] := by kernel_rfl
@[simp] theorem T345 : fldE Tryz.prog 113 0 = some (0, 1, false) := by kernel_rfl
@[simp] theorem T346 : plE Tryz.prog 113 0 = some (0, 1) := by kernel_rfl
@[simp] theorem T347 : fldE Tryz.prog 113 1 = some (1, 1, false) := by kernel_rfl
@[simp] theorem T348 : plE Tryz.prog 113 1 = some (1, 1) := by kernel_rfl
@[simp] theorem T349 : fldE Tryz.prog 113 2 = some (2, 1, false) := by kernel_rfl
@[simp] theorem T350 : plE Tryz.prog 113 2 = some (2, 1) := by kernel_rfl
@[simp] theorem T351 : fldE Tryz.prog 113 3 = some (3, 5, true) := by kernel_rfl
@[simp] theorem T352 : plE Tryz.prog 113 3 = some (3, 5) := by kernel_rfl
@[simp] theorem T353 : fldE Tryz.prog 113 4 = some (8, 3, true) := by kernel_rfl
@[simp] theorem T354 : plE Tryz.prog 113 4 = some (8, 3) := by kernel_rfl
@[simp] theorem T355 : fldE Tryz.prog 113 5 = some (11, 2, true) := by kernel_rfl
@[simp] theorem T356 : plE Tryz.prog 113 5 = some (11, 2) := by kernel_rfl
@[simp] theorem T357 : allE Tryz.prog 113 = true := by kernel_rfl
@[simp] theorem T358 : tyE Tryz.prog 116 = some (1, false) := by kernel_rfl
@[simp] theorem T359 : zeroE Tryz.prog 116 = some [V.int .i16 0] := by kernel_rfl
@[simp] theorem T360 : isInt Tryz.prog 116 = some .i16 := by kernel_rfl
@[simp] theorem T361 : tyE Tryz.prog 129 = some (24, true) := by kernel_rfl
@[simp] theorem T362 : zeroE Tryz.prog 129 = some [V.int .u8 0, V.int .u8 0, V.int .u8 0, V.int .u8 0, V.int .u8 0, V.int .u8 0, V.int .u8 0, V.int .u8 0, V.int .u8 0, V.int .u8 0, V.int .u8 0, V.int .u8 0, V.int .u8 0, V.int .u8 0, V.int .u8 0, V.int .u8 0, V.int .u8 0, V.int .u8 0, V.int .u8 0, V.int .u8 0, V.int .u8 0, V.int .u8 0, V.int .u8 0, V.int .u8 0] := by kernel_rfl
@[simp] theorem T363 : arE Tryz.prog 129 = some (24, 1, false) := by kernel_rfl
@[simp] theorem T364 (i : Nat) : plE Tryz.prog 129 i = some (i * 1, 1) := plE_arr T363 i
@[simp] theorem T365 : allE Tryz.prog 129 = true := by kernel_rfl
@[simp] theorem T366 : tyE Tryz.prog 141 = some (1, false) := by kernel_rfl
@[simp] theorem T367 : zeroE Tryz.prog 141 = some [V.nilp] := by kernel_rfl
@[simp] theorem T368 : tyE Tryz.prog 158 = some (65, true) := by kernel_rfl
@[simp] theorem T369 : zeroE Tryz.prog 158 = some [V.int .u8 0, V.int .u8 0, V.int .u8 0, V.int .u8 0, V.int .u8 0, V.int .u8 0, V.int .u8 0, V.int .u8 0, V.int .u8 0, V.int .u8 0, V.int .u8 0, V.int .u8 0, V.int .u8 0, V.int .u8 0, V.int .u8 0, V.int .u8 0, V.int .u8 0, V.int .u8 0, V.int .u8 0, V.int .u8 0, V.int .u8 0, V.int .u8 0, V.int .u8 0, V.int .u8 0, V.int .u8 0, V.int .u8 0, V.int .u8 0, V.int .u8 0, V.int .u8 0, V.int .u8 0, V.int .u8 0, V.int .u8 0, V.int .u8 0, V.int .u8 0, V.int .u8 0, V.int .u8 0, V.int .u8 0, V.int .u8 0, V.int .u8 0, V.int .u8 0, V.int .u8 0, V.int .u8 0, V.int .u8 0, V.int .u8 0, V.int .u8 0, V.int .u8 0, V.int .u8 0, V.int .u8 0, V.int .u8 0, V.int .u8 0, V.int .u8 0, V.int .u8 0, V.int .u8 0, V.int .u8 0, V.int .u8 0, V.int .u8 0, V.int .u8 0, V.int .u8 0, V.int .u8 0, V.int .u8 0, V.int .u8 0, V.int .u8 0, V.int .u8 0, V.int .u8 0, V.int .u8 0] := by kernel_rfl
@[simp] theorem T370 : arE Tryz.prog 158 = some (65, 1, false) := by kernel_rfl
@[simp] theorem T371 (i : Nat) : plE Tryz.prog 158 i = some (i * 1, 1) := plE_arr T370 i
@[simp] theorem T372 : allE Tryz.prog 158 = true := by kernel_rfl
@[simp] theorem T373 : tyE Tryz.prog 182 = some (64, true) := by kernel_rfl
@[simp] theorem T374 : zeroE Tryz.prog 182 = some [V.int .u8 0, V.int .u8 0, V.int .u8 0, V.int .u8 0, V.int .u8 0, V.int .u8 0, V.int .u8 0, V.int .u8 0, V.int .u8 0, V.int .u8 0, V.int .u8 0, V.int .u8 0, V.int .u8 0, V.int .u8 0, V.int .u8 0, V.int .u8 0, V.int .u8 0, V.int .u8 0, V.int .u8 0, V.int .u8 0, V.int .u8 0, V.int .u8 0, V.int .u8 0, V.int .u8 0, V.int .u8 0, V.int .u8 0, V.int .u8 0, V.int .u8 0, V.int .u8 0, V.int .u8 0, V.int .u8 0, V.int .u8 0, V.int .u8 0, V.int .u8 0, V.int .u8 0, V.int .u8 0, V.int .u8 0, V.int .u8 0, V.int .u8 0, V.int .u8 0, V.int .u8 0, V.int .u8 0, V.int .u8 0, V.int .u8 0, V.int .u8 0, V.int .u8 0, V.int .u8 0, V.int .u8 0, V.int .u8 0, V.int .u8 0, V.int .u8 0, V.int .u8 0, V.int .u8 0, V.int .u8 0, V.int .u8 0, V.int .u8 0, V.int .u8 0, V.int .u8 0, V.int .u8 0, V.int .u8 0, V.int .u8 0, V.int .u8 0, V.int .u8 0, V.int .u8 0] := by kernel_rfl
@[simp] theorem T375 : arE Tryz.prog 182 = some (64, 1, false) := by kernel_rfl
@[simp] theorem T376 (i : Nat) : plE Tryz.prog 182 i = some (i * 1, 1) := plE_arr T375 i
@[simp] theorem T377 : allE Tryz.prog 182 = true := by kernel_rfl
@[simp] theorem T378 : tyE Tryz.prog 200 = some (4, true) := by kernel_rfl
@[simp] theorem T379 : zeroE Tryz.prog 200 = some [V.nilp, V.nilp, V.nilp, V.str []] := by kernel_rfl
@[simp] theorem T380 : fldE Tryz.prog 200 0 = some (0, 1, false) := by kernel_rfl
@[simp] theorem T381 : plE Tryz.prog 200 0 = some (0, 1) := by kernel_rfl
@[simp] theorem T382 : fldE Tryz.prog 200 1 = some (1, 1, false) := by kernel_rfl
@[simp] theorem T383 : plE Tryz.prog 200 1 = some (1, 1) := by kernel_rfl
@[simp] theorem T384 : fldE Tryz.prog 200 2 = some (2, 1, false) := by kernel_rfl
@[simp] theorem T385 : plE Tryz.prog 200 2 = some (2, 1) := by kernel_rfl
@[simp] theorem T386 : fldE Tryz.prog 200 3 = some (3, 1, false) := by kernel_rfl
@[simp] theorem T387 : plE Tryz.prog 200 3 = some (3, 1) := by kernel_rfl
@[simp] theorem T388 : allE Tryz.prog 200 = true := by kernel_rfl
@[simp] theorem T389 : tyE Tryz.prog 201 = some (4, true) := by kernel_rfl
@[simp] theorem T390 : zeroE Tryz.prog 201 = some [V.nilp, V.nilp, V.nilp, V.str []] := by kernel_rfl
@[simp] theorem T391 : fldE Tryz.prog 201 0 = some (0, 1, false) := by kernel_rfl
@[simp] theorem T392 : plE Tryz.prog 201 0 = some (0, 1) := by kernel_rfl
@[simp] theorem T393 : fldE Tryz.prog 201 1 = some (1, 1, false) := by kernel_rfl
@[simp] theorem T394 : plE Tryz.prog 201 1 = some (1, 1) := by kernel_rfl
@[simp] theorem T395 : fldE Tryz.prog 201 2 = some (2, 1, false) := by kernel_rfl
@[simp] theorem T396 : plE Tryz.prog 201 2 = some (2, 1) := by kernel_rfl
@[simp] theorem T397 : fldE Tryz.prog 201 3 = some (3, 1, false) := by kernel_rfl
@[simp] theorem T398 : plE Tryz.prog 201 3 = some (3, 1) := by kernel_rfl
@[simp] theorem T399 : allE Tryz.prog 201 = true := by kernel_rfl
@[simp] theorem T400 : tyE Tryz.prog 202 = some (0, true) := by kernel_rfl
@[simp] theorem T401 : zeroE Tryz.prog 202 = some [] := by kernel_rfl
@[simp] theorem T402 : arE Tryz.prog 202 = some (0, 1, false) := by kernel_rfl
@[simp] theorem T403 (i : Nat) : plE Tryz.prog 202 i = some (i * 1, 1) := plE_arr T402 i
@[simp] theorem T404 : allE Tryz.prog 202 = true := by kernel_rfl
@[simp] theorem T405 : tyE Tryz.prog 203 = some (0, true) := by kernel_rfl
@[simp] theorem T406 : zeroE Tryz.prog 203 = some [] := by kernel_rfl
@[simp] theorem T407 : plE Tryz.prog 203 0 = some (0, 0) := by kernel_rfl
@[simp] theorem T408 : allE Tryz.prog 203 = true := by kernel_rfl
@[simp] theorem T409 : tyE Tryz.prog 204 = some (0, true) := by kernel_rfl
@[simp] theorem T410 : zeroE Tryz.prog 204 = some [] := by kernel_rfl
@[simp] theorem T411 : plE Tryz.prog 204 0 = some (0, 0) := by kernel_rfl
@[simp] theorem T412 : allE Tryz.prog 204 = true := by kernel_rfl
@[simp] theorem T413 : byE Tryz.prog 205 = true := by kernel_rfl
@[simp] theorem T414 : tyE Tryz.prog 205 = some (1, false) := by kernel_rfl
@[simp] theorem T415 : zeroE Tryz.prog 205 = some [V.int .u8 0] := by kernel_rfl
@[simp] theorem T416 : isInt Tryz.prog 205 = some .u8 := by kernel_rfl
@[simp] theorem T417 : byE Tryz.prog 206 = true := by kernel_rfl
@[simp] theorem T418 : tyE Tryz.prog 206 = some (1, false) := by kernel_rfl
@[simp] theorem T419 : zeroE Tryz.prog 206 = some [V.int .u8 0] := by kernel_rfl
@[simp] theorem T420 : isInt Tryz.prog 206 = some .u8 := by kernel_rfl
@[simp] theorem T421 : tyE Tryz.prog 207 = some (1, false) := by kernel_rfl
@[simp] theorem T422 : zeroE Tryz.prog 207 = some [V.poi] := by kernel_rfl
@[simp] theorem T423 : tyE Tryz.prog 208 = some (1, false) := by kernel_rfl
@[simp] theorem T424 : zeroE Tryz.prog 208 = some [V.int .i32 0] := by kernel_rfl
@[simp] theorem T425 : isInt Tryz.prog 208 = some .i32 := by kernel_rfl
@[simp] theorem T426 : tyE Tryz.prog 209 = some (1, false) := by kernel_rfl
@[simp] theorem T427 : zeroE Tryz.prog 209 = some [V.int .i32 0] := by kernel_rfl
@[simp] theorem T428 : isInt Tryz.prog 209 = some .i32 := by kernel_rfl
@[simp] theorem T429 : tyE Tryz.prog 210 = some (11, true) := by kernel_rfl
@[simp] theorem T430 : zeroE Tryz.prog 210 = some [V.int .u64 0, V.int .u64 0, V.int .u32 0, V.int .u8 0, V.int .u8 0, V.int .u8 0, V.int .u8 0, V.poi, V.nilp, V.int .i32 0, V.int .i32 0] := by kernel_rfl
@[simp] theorem T431 : fldE Tryz.prog 210 0 = some (0, 1, false) := by kernel_rfl
@[simp] theorem T432 : plE Tryz.prog 210 0 = some (0, 1) := by kernel_rfl
@[simp] theorem T433 : fldE Tryz.prog 210 1 = some (1, 1, false) := by kernel_rfl
@[simp] theorem T434 : plE Tryz.prog 210 1 = some (1, 1) := by kernel_rfl
@[simp] theorem T435 : fldE Tryz.prog 210 2 = some (2, 1, false) := by kernel_rfl
@[simp] theorem T436 : plE Tryz.prog 210 2 = some (2, 1) := by kernel_rfl
@[simp] theorem T437 : fldE Tryz.prog 210 3 = some (3, 1, false) := by kernel_rfl
@[simp] theorem T438 : plE Tryz.prog 210 3 = some (3, 1) := by kernel_rfl
@[simp] theorem T439 : fldE Tryz.prog 210 4 = some (4, 1, false) := by kernel_rfl
@[simp] theorem T440 : plE Tryz.prog 210 4 = some (4, 1) := by kernel_rfl
@[simp] theorem T441 : fldE Tryz.prog 210 5 = some (5, 1, false) := by kernel_rfl
@[simp] theorem T442 : plE Tryz.prog 210 5 = some (5, 1) := by kernel_rfl
@[simp] theorem T443 : fldE Tryz.prog 210 6 = some (6, 1, false) := by kernel_rfl
@[simp] theorem T444 : plE Tryz.prog 210 6 = some (6, 1) := by kernel_rfl
@[simp] theorem T445 : fldE Tryz.prog 210 7 = some (7, 1, false) := by kernel_rfl
@[simp] theorem T446 : plE Tryz.prog 210 7 = some (7, 1) := by kernel_rfl
@[simp] theorem T447 : fldE Tryz.prog 210 8 = some (8, 1, false) := by kernel_rfl
@[simp] theorem T448 : plE Tryz.prog 210 8 = some (8, 1) := by kernel_rfl
@[simp] theorem T449 : fldE Tryz.prog 210 9 = some (9, 1, false) := by kernel_rfl
@[simp] theorem T450 : plE Tryz.prog 210 9 = some (9, 1) := by kernel_rfl
@[simp] theorem T451 : fldE Tryz.prog 210 10 = some (10, 1, false) := by kernel_rfl
@[simp] theorem T452 : plE Tryz.prog 210 10 = some (10, 1) := by kernel_rfl
@[simp] theorem T453 : allE Tryz.prog 210 = true := by kernel_rfl
@[simp] theorem T454 : tyE Tryz.prog 211 = some (11, true) := by kernel_rfl
@[simp] theorem T455 : zeroE Tryz.prog 211 = some [V.int .u64 0, V.int .u64 0, V.int .u32 0, V.int .u8 0, V.int .u8 0, V.int .u8 0, V.int .u8 0, V.poi, V.nilp, V.int .i32 0, V.int .i32 0] := by kernel_rfl
@[simp] theorem T456 : fldE Tryz.prog 211 0 = some (0, 1, false) := by kernel_rfl
@[simp] theorem T457 : plE Tryz.prog 211 0 = some (0, 1) := by kernel_rfl
@[simp] theorem T458 : fldE Tryz.prog 211 1 = some (1, 1, false) := by kernel_rfl
@[simp] theorem T459 : plE Tryz.prog 211 1 = some (1, 1) := by kernel_rfl
@[simp] theorem T460 : fldE Tryz.prog 211 2 = some (2, 1, false) := by kernel_rfl
@[simp] theorem T461 : plE Tryz.prog 211 2 = some (2, 1) := by kernel_rfl
@[simp] theorem T462 : fldE Tryz.prog 211 3 = some (3, 1, false) := by kernel_rfl
@[simp] theorem T463 : plE Tryz.prog 211 3 = some (3, 1) := by kernel_rfl
@[simp] theorem T464 : fldE Tryz.prog 211 4 = some (4, 1, false) := by kernel_rfl
@[simp] theorem T465 : plE Tryz.prog 211 4 = some (4, 1) := by kernel_rfl
@[simp] theorem T466 : fldE Tryz.prog 211 5 = some (5, 1, false) := by kernel_rfl
@[simp] theorem T467 : plE Tryz.prog 211 5 = some (5, 1) := by kernel_rfl
@[simp] theorem T468 : fldE Tryz.prog 211 6 = some (6, 1, false) := by kernel_rfl
@[simp] theorem T469 : plE Tryz.prog 211 6 = some (6, 1) := by kernel_rfl
@[simp] theorem T470 : fldE Tryz.prog 211 7 = some (7, 1, false) := by kernel_rfl
@[simp] theorem T471 : plE Tryz.prog 211 7 = some (7, 1) := by kernel_rfl
@[simp] theorem T472 : fldE Tryz.prog 211 8 = some (8, 1, false) := by kernel_rfl
@[simp] theorem T473 : plE Tryz.prog 211 8 = some (8, 1) := by kernel_rfl
@[simp] theorem T474 : fldE Tryz.prog 211 9 = some (9, 1, false) := by kernel_rfl
@[simp] theorem T475 : plE Tryz.prog 211 9 = some (9, 1) := by kernel_rfl
@[simp] theorem T476 : fldE Tryz.prog 211 10 = some (10, 1, false) := by kernel_rfl
@[simp] theorem T477 : plE Tryz.prog 211 10 = some (10, 1) := by kernel_rfl
@[simp] theorem T478 : allE Tryz.prog 211 = true := by kernel_rfl
end Go.Proofs.YtjlbpkokdlggiaaGreatDoor
