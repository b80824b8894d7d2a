/- Closed facts on the types of the translation, by program (gentypes.py). -/
import Derived.Test.YtjlbpkokdlggiaaGreatDoorGlo
import Derived.Test.YtjlbpkokdlggiaaGreatDoorProg
import Derived.KernelRfl
namespace Go.Proofs.YtjlbpkokdlggiaaGreatDoor
open Go.Ab
@[simp] theorem T0 : tyE Tryz.prog 1 = some (1, false) := by kernel_rfl
@[simp] theorem T1 : zeroE Tryz.prog 1 = some [V.poi] := by kernel_rfl
@[simp] theorem T2 : tyE Tryz.prog 2 = some (1, false) := by kernel_rfl
@[simp] theorem T3 : zeroE Tryz.prog 2 = some [V.int .i64 0] := by kernel_rfl
@[simp] theorem T4 : isInt Tryz.prog 2 = some .i64 := by kernel_rfl
@[simp] theorem T5 : tyE Tryz.prog 3 = some (1, false) := by kernel_rfl
@[simp] theorem T6 : zeroE Tryz.prog 3 = some [V.int .i64 0] := by kernel_rfl
@[simp] theorem T7 : isInt Tryz.prog 3 = some .i64 := by kernel_rfl
@[simp] theorem T8 : tyE Tryz.prog 4 = some (1, false) := by kernel_rfl
@[simp] theorem T9 : zeroE Tryz.prog 4 = some [V.bool false] := by kernel_rfl
@[simp] theorem T10 : byE Tryz.prog 5 = true := by kernel_rfl
@[simp] theorem T11 : tyE Tryz.prog 5 = some (1, false) := by kernel_rfl
@[simp] theorem T12 : zeroE Tryz.prog 5 = some [V.int .u8 0] := by kernel_rfl
@[simp] theorem T13 : isInt Tryz.prog 5 = some .u8 := by kernel_rfl
@[simp] theorem T14 : byE Tryz.prog 6 = true := by kernel_rfl
@[simp] theorem T15 : tyE Tryz.prog 6 = some (1, false) := by kernel_rfl
@[simp] theorem T16 : zeroE Tryz.prog 6 = some [V.int .u8 0] := by kernel_rfl
@[simp] theorem T17 : isInt Tryz.prog 6 = some .u8 := by kernel_rfl
@[simp] theorem T18 : tyE Tryz.prog 7 = some (4, true) := by kernel_rfl
@[simp] theorem T19 : zeroE Tryz.prog 7 = some [V.int .i64 0, V.int .i64 0, V.bool false, V.int .u8 0] := by kernel_rfl
@[simp] theorem T20 : fldE Tryz.prog 7 0 = some (0, 1, false) := by kernel_rfl
@[simp] theorem T21 : plE Tryz.prog 7 0 = some (0, 1) := by kernel_rfl
@[simp] theorem T22 : fldE Tryz.prog 7 1 = some (1, 1, false) := by kernel_rfl
@[simp] theorem T23 : plE Tryz.prog 7 1 = some (1, 1) := by kernel_rfl
@[simp] theorem T24 : fldE Tryz.prog 7 2 = some (2, 1, false) := by kernel_rfl
@[simp] theorem T25 : plE Tryz.prog 7 2 = some (2, 1) := by kernel_rfl
@[simp] theorem T26 : fldE Tryz.prog 7 3 = some (3, 1, false) := by kernel_rfl
@[simp] theorem T27 : plE Tryz.prog 7 3 = some (3, 1) := by kernel_rfl
@[simp] theorem T28 : allE Tryz.prog 7 = true := by kernel_rfl
@[simp] theorem T29 : tyE Tryz.prog 8 = some (4, true) := by kernel_rfl
@[simp] theorem T30 : zeroE Tryz.prog 8 = some [V.int .i64 0, V.int .i64 0, V.bool false, V.int .u8 0] := by kernel_rfl
@[simp] theorem T31 : fldE Tryz.prog 8 0 = some (0, 1, false) := by kernel_rfl
@[simp] theorem T32 : plE Tryz.prog 8 0 = some (0, 1) := by kernel_rfl
@[simp] theorem T33 : fldE Tryz.prog 8 1 = some (1, 1, false) := by kernel_rfl
@[simp] theorem T34 : plE Tryz.prog 8 1 = some (1, 1) := by kernel_rfl
@[simp] theorem T35 : fldE Tryz.prog 8 2 = some (2, 1, false) := by kernel_rfl
@[simp] theorem T36 : plE Tryz.prog 8 2 = some (2, 1) := by kernel_rfl
@[simp] theorem T37 : fldE Tryz.prog 8 3 = some (3, 1, false) := by kernel_rfl
@[simp] theorem T38 : plE Tryz.prog 8 3 = some (3, 1) := by kernel_rfl
@[simp] theorem T39 : allE Tryz.prog 8 = true := by kernel_rfl
@[simp] theorem T40 : tyE Tryz.prog 9 = some (1, false) := by kernel_rfl
@[simp] theorem T41 : zeroE Tryz.prog 9 = some [V.str []] := by kernel_rfl
@[simp] theorem T42 : slE Tryz.prog 9 = none := by kernel_rfl
@[simp] theorem T43 : isStr Tryz.prog 9 = true := by kernel_rfl
@[simp] theorem T44 : tyE Tryz.prog 10 = some (1, false) := by kernel_rfl
@[simp] theorem T45 : zeroE Tryz.prog 10 = some [V.str []] := by kernel_rfl
@[simp] theorem T46 : slE Tryz.prog 10 = none := by kernel_rfl
@[simp] theorem T47 : isStr Tryz.prog 10 = true := by kernel_rfl
@[simp] theorem T48 : tyE Tryz.prog 11 = some (1, false) := by kernel_rfl
@[simp] theorem T49 : zeroE Tryz.prog 11 = some [V.str []] := by kernel_rfl
@[simp] theorem T50 : slE Tryz.prog 11 = none := by kernel_rfl
@[simp] theorem T51 : isStr Tryz.prog 11 = true := by kernel_rfl
@[simp] theorem T52 : tyE Tryz.prog 12 = some (1, false) := by kernel_rfl
@[simp] theorem T53 : zeroE Tryz.prog 12 = some [V.int .u64 0] := by kernel_rfl
@[simp] theorem T54 : isInt Tryz.prog 12 = some .u64 := by kernel_rfl
@[simp] theorem T55 : tyE Tryz.prog 13 = some (2, true) := by kernel_rfl
@[simp] theorem T56 : zeroE Tryz.prog 13 = some [V.str [], V.int .u64 0] := by kernel_rfl
@[simp] theorem T57 : fldE Tryz.prog 13 0 = some (0, 1, false) := by kernel_rfl
@[simp] theorem T58 : plE Tryz.prog 13 0 = some (0, 1) := by kernel_rfl
@[simp] theorem T59 : fldE Tryz.prog 13 1 = some (1, 1, false) := by kernel_rfl
@[simp] theorem T60 : plE Tryz.prog 13 1 = some (1, 1) := by kernel_rfl
@[simp] theorem T61 : allE Tryz.prog 13 = true := by kernel_rfl
@[simp] theorem T62 : tyE Tryz.prog 14 = some (2, true) := by kernel_rfl
@[simp] theorem T63 : zeroE Tryz.prog 14 = some [V.str [], V.int .u64 0] := by kernel_rfl
@[simp] theorem T64 : fldE Tryz.prog 14 0 = some (0, 1, false) := by kernel_rfl
@[simp] theorem T65 : plE Tryz.prog 14 0 = some (0, 1) := by kernel_rfl
@[simp] theorem T66 : fldE Tryz.prog 14 1 = some (1, 1, false) := by kernel_rfl
@[simp] theorem T67 : plE Tryz.prog 14 1 = some (1, 1) := by kernel_rfl
@[simp] theorem T68 : allE Tryz.prog 14 = true := by kernel_rfl
@[simp] theorem T69 : tyE Tryz.prog 15 = some (1, false) := by kernel_rfl
@[simp] theorem T70 : zeroE Tryz.prog 15 = some [V.nilp] := by kernel_rfl
@[simp] theorem T71 : tyE Tryz.prog 16 = some (1, false) := by kernel_rfl
@[simp] theorem T72 : zeroE Tryz.prog 16 = some [V.nilp] := by kernel_rfl
@[simp] theorem T73 : tyE Tryz.prog 17 = some (1, false) := by kernel_rfl
@[simp] theorem T74 : zeroE Tryz.prog 17 = some [V.nilp] := by kernel_rfl
@[simp] theorem T75 : tyE Tryz.prog 18 = some (1, true) := by kernel_rfl
@[simp] theorem T76 : zeroE Tryz.prog 18 = some [V.nilp] := by kernel_rfl
@[simp] theorem T77 : fldE Tryz.prog 18 0 = some (0, 1, false) := by kernel_rfl
@[simp] theorem T78 : plE Tryz.prog 18 0 = some (0, 1) := by kernel_rfl
@[simp] theorem T79 : allE Tryz.prog 18 = true := by kernel_rfl
@[simp] theorem T80 : tyE Tryz.prog 19 = some (1, true) := by kernel_rfl
@[simp] theorem T81 : zeroE Tryz.prog 19 = some [V.nilp] := by kernel_rfl
@[simp] theorem T82 : fldE Tryz.prog 19 0 = some (0, 1, false) := by kernel_rfl
@[simp] theorem T83 : plE Tryz.prog 19 0 = some (0, 1) := by kernel_rfl
@[simp] theorem T84 : allE Tryz.prog 19 = true := by kernel_rfl
@[simp] theorem T85 : tyE Tryz.prog 20 = some (1, false) := by kernel_rfl
@[simp] theorem T86 : zeroE Tryz.prog 20 = some [V.poi] := by kernel_rfl
@[simp] theorem T87 : tyE Tryz.prog 21 = some (1, false) := by kernel_rfl
@[simp] theorem T88 : zeroE Tryz.prog 21 = some [V.int .i32 0] := by kernel_rfl
@[simp] theorem T89 : isInt Tryz.prog 21 = some .i32 := by kernel_rfl
@[simp] theorem T90 : tyE Tryz.prog 22 = some (1, false) := by kernel_rfl
@[simp] theorem T91 : zeroE Tryz.prog 22 = some [V.sl 0 true []] := by kernel_rfl
@[simp] theorem T92 : slE Tryz.prog 22 = some (3, 1, 8) := by kernel_rfl
@[simp] theorem T93 : tyE Tryz.prog 23 = some (1, false) := by kernel_rfl
@[simp] theorem T94 : zeroE Tryz.prog 23 = some [V.poi] := by kernel_rfl
@[simp] theorem T95 : tyE Tryz.prog 24 = some (1, false) := by kernel_rfl
@[simp] theorem T96 : zeroE Tryz.prog 24 = some [V.poi] := by kernel_rfl
@[simp] theorem T97 : tyE Tryz.prog 25 = some (1, false) := by kernel_rfl
@[simp] theorem T98 : zeroE Tryz.prog 25 = some [V.poi] := by kernel_rfl
@[simp] theorem T99 : tyE Tryz.prog 26 = some (1, false) := by kernel_rfl
@[simp] theorem T100 : zeroE Tryz.prog 26 = some [V.poi] := by kernel_rfl
@[simp] theorem T101 : tyE Tryz.prog 27 = some (1, false) := by kernel_rfl
@[simp] theorem T102 : zeroE Tryz.prog 27 = some [V.poi] := by kernel_rfl
@[simp] theorem T103 : tyE Tryz.prog 28 = some (1, false) := by kernel_rfl
@[simp] theorem T104 : zeroE Tryz.prog 28 = some [V.sl 0 true []] := by kernel_rfl
@[simp] theorem T105 : slE Tryz.prog 28 = some (38, 1, 4) := by kernel_rfl
@[simp] theorem T106 : tyE Tryz.prog 29 = some (1, false) := by kernel_rfl
@[simp] theorem T107 : zeroE Tryz.prog 29 = some [V.poi] := by kernel_rfl
@[simp] theorem T108 : tyE Tryz.prog 30 = some (1, false) := by kernel_rfl
@[simp] theorem T109 : zeroE Tryz.prog 30 = some [V.poi] := by kernel_rfl
@[simp] theorem T110 : tyE Tryz.prog 31 = some (1, false) := by kernel_rfl
@[simp] theorem T111 : zeroE Tryz.prog 31 = some [V.int .i64 0] := by kernel_rfl
@[simp] theorem T112 : isInt Tryz.prog 31 = some .i64 := by kernel_rfl
@[simp] theorem T113 : tyE Tryz.prog 32 = some (2, true) := by kernel_rfl
@[simp] theorem T114 : zeroE Tryz.prog 32 = some [V.int .i64 0, V.int .i64 0] := by kernel_rfl
@[simp] theorem T115 : fldE Tryz.prog 32 0 = some (0, 1, false) := by kernel_rfl
@[simp] theorem T116 : plE Tryz.prog 32 0 = some (0, 1) := by kernel_rfl
@[simp] theorem T117 : fldE Tryz.prog 32 1 = some (1, 1, false) := by kernel_rfl
@[simp] theorem T118 : plE Tryz.prog 32 1 = some (1, 1) := by kernel_rfl
@[simp] theorem T119 : allE Tryz.prog 32 = true := by kernel_rfl
@[simp] theorem T120 : tyE Tryz.prog 33 = some (2, true) := by kernel_rfl
@[simp] theorem T121 : zeroE Tryz.prog 33 = some [V.int .i64 0, V.int .i64 0] := by kernel_rfl
@[simp] theorem T122 : fldE Tryz.prog 33 0 = some (0, 1, false) := by kernel_rfl
@[simp] theorem T123 : plE Tryz.prog 33 0 = some (0, 1) := by kernel_rfl
@[simp] theorem T124 : fldE Tryz.prog 33 1 = some (1, 1, false) := by kernel_rfl
@[simp] theorem T125 : plE Tryz.prog 33 1 = some (1, 1) := by kernel_rfl
@[simp] theorem T126 : allE Tryz.prog 33 = true := by kernel_rfl
@[simp] theorem T127 : eqE Tryz.prog 33 = some [.i, .i] := by kernel_rfl
@[simp] theorem T128 : tyE Tryz.prog 35 = some (1, false) := by kernel_rfl
@[simp] theorem T129 : zeroE Tryz.prog 35 = some [V.poi] := by kernel_rfl
@[simp] theorem T130 : tyE Tryz.prog 36 = some (1, false) := by kernel_rfl
@[simp] theorem T131 : zeroE Tryz.prog 36 = some [V.poi] := by kernel_rfl
@[simp] theorem T132 : tyE Tryz.prog 37 = some (1, false) := by kernel_rfl
@[simp] theorem T133 : zeroE Tryz.prog 37 = some [V.poi] := by kernel_rfl
@[simp] theorem T134 : tyE Tryz.prog 38 = some (1, false) := by kernel_rfl
@[simp] theorem T135 : zeroE Tryz.prog 38 = some [V.int .u32 0] := by kernel_rfl
@[simp] theorem T136 : isInt Tryz.prog 38 = some .u32 := by kernel_rfl
@[simp] theorem T137 : tyE Tryz.prog 39 = some (1, false) := by kernel_rfl
@[simp] theorem T138 : zeroE Tryz.prog 39 = some [V.sl 0 true []] := by kernel_rfl
@[simp] theorem T139 : slE Tryz.prog 39 = some (9, 1, 16) := by kernel_rfl
@[simp] theorem T140 : tyE Tryz.prog 40 = some (1, false) := by kernel_rfl
@[simp] theorem T141 : zeroE Tryz.prog 40 = some [V.poi] := by kernel_rfl
@[simp] theorem T142 : tyE Tryz.prog 41 = some (1, false) := by kernel_rfl
@[simp] theorem T143 : zeroE Tryz.prog 41 = some [V.sl 0 true []] := by kernel_rfl
@[simp] theorem T144 : slE Tryz.prog 41 = some (85, 2, 24) := by kernel_rfl
@[simp] theorem T145 : tyE Tryz.prog 43 = some (1, false) := by kernel_rfl
@[simp] theorem T146 : zeroE Tryz.prog 43 = some [V.poi] := by kernel_rfl
@[simp] theorem T147 : tyE Tryz.prog 44 = some (1, false) := by kernel_rfl
@[simp] theorem T148 : zeroE Tryz.prog 44 = some [V.poi] := by kernel_rfl
@[simp] theorem T149 : tyE Tryz.prog 46 = some (1, false) := by kernel_rfl
@[simp] theorem T150 : zeroE Tryz.prog 46 = some [V.poi] := by kernel_rfl
@[simp] theorem T151 : tyE Tryz.prog 47 = some (5, true) := by kernel_rfl
@[simp] theorem T152 : zeroE Tryz.prog 47 = some [V.int .i64 0, V.int .i64 0, V.int .i64 0, V.int .i64 0, V.int .i32 0] := by kernel_rfl
@[simp] theorem T153 : fldE Tryz.prog 47 0 = some (0, 1, false) := by kernel_rfl
@[simp] theorem T154 : plE Tryz.prog 47 0 = some (0, 1) := by kernel_rfl
@[simp] theorem T155 : fldE Tryz.prog 47 1 = some (1, 1, false) := by kernel_rfl
@[simp] theorem T156 : plE Tryz.prog 47 1 = some (1, 1) := by kernel_rfl
@[simp] theorem T157 : fldE Tryz.prog 47 2 = some (2, 1, false) := by kernel_rfl
@[simp] theorem T158 : plE Tryz.prog 47 2 = some (2, 1) := by kernel_rfl
@[simp] theorem T159 : fldE Tryz.prog 47 3 = some (3, 1, false) := by kernel_rfl
@[simp] theorem T160 : plE Tryz.prog 47 3 = some (3, 1) := by kernel_rfl
@[simp] theorem T161 : fldE Tryz.prog 47 4 = some (4, 1, false) := by kernel_rfl
@[simp] theorem T162 : plE Tryz.prog 47 4 = some (4, 1) := by kernel_rfl
@[simp] theorem T163 : allE Tryz.prog 47 = true := by kernel_rfl
@[simp] theorem T164 : tyE Tryz.prog 48 = some (5, true) := by kernel_rfl
@[simp] theorem T165 : zeroE Tryz.prog 48 = some [V.int .i64 0, V.int .i64 0, V.int .i64 0, V.int .i64 0, V.int .i32 0] := by kernel_rfl
@[simp] theorem T166 : fldE Tryz.prog 48 0 = some (0, 1, false) := by kernel_rfl
@[simp] theorem T167 : plE Tryz.prog 48 0 = some (0, 1) := by kernel_rfl
@[simp] theorem T168 : fldE Tryz.prog 48 1 = some (1, 1, false) := by kernel_rfl
@[simp] theorem T169 : plE Tryz.prog 48 1 = some (1, 1) := by kernel_rfl
@[simp] theorem T170 : fldE Tryz.prog 48 2 = some (2, 1, false) := by kernel_rfl
@[simp] theorem T171 : plE Tryz.prog 48 2 = some (2, 1) := by kernel_rfl
@[simp] theorem T172 : fldE Tryz.prog 48 3 = some (3, 1, false) := by kernel_rfl
@[simp] theorem T173 : plE Tryz.prog 48 3 = some (3, 1) := by kernel_rfl
@[simp] theorem T174 : fldE Tryz.prog 48 4 = some (4, 1, false) := by kernel_rfl
@[simp] theorem T175 : plE Tryz.prog 48 4 = some (4, 1) := by kernel_rfl
@[simp] theorem T176 : allE Tryz.prog 48 = true := by kernel_rfl
@[simp] theorem T177 : eqE Tryz.prog 48 = some [.i, .i, .i, .i, .i] := by kernel_rfl
@[simp] theorem T178 : tyE Tryz.prog 49 = some (1, false) := by kernel_rfl
@[simp] theorem T179 : zeroE Tryz.prog 49 = some [V.poi] := by kernel_rfl
@[simp] theorem T180 : tyE Tryz.prog 50 = some (1, false) := by kernel_rfl
@[simp] theorem T181 : zeroE Tryz.prog 50 = some [V.nilp] := by kernel_rfl
@[simp] theorem T182 : tyE Tryz.prog 51 = some (1, false) := by kernel_rfl
@[simp] theorem T183 : zeroE Tryz.prog 51 = some [V.sl 0 true []] := by kernel_rfl
@[simp] theorem T184 : slE Tryz.prog 51 = some (5, 1, 1) := by kernel_rfl
@[simp] theorem T185 : bsE Tryz.prog 51 = true := by kernel_rfl
@[simp] theorem T186 : tyE Tryz.prog 52 = some (2, true) := by kernel_rfl
@[simp] theorem T187 : zeroE Tryz.prog 52 = some [V.nilp, V.sl 0 true []] := by kernel_rfl
@[simp] theorem T188 : fldE Tryz.prog 52 0 = some (0, 1, false) := by kernel_rfl
@[simp] theorem T189 : plE Tryz.prog 52 0 = some (0, 1) := by kernel_rfl
@[simp] theorem T190 : fldE Tryz.prog 52 1 = some (1, 1, false) := by kernel_rfl
@[simp] theorem T191 : plE Tryz.prog 52 1 = some (1, 1) := by kernel_rfl
@[simp] theorem T192 : allE Tryz.prog 52 = true := by kernel_rfl
@[simp] theorem T193 : tyE Tryz.prog 53 = some (2, true) := by kernel_rfl
@[simp] theorem T194 : zeroE Tryz.prog 53 = some [V.nilp, V.sl 0 true []] := by kernel_rfl
@[simp] theorem T195 : fldE Tryz.prog 53 0 = some (0, 1, false) := by kernel_rfl
@[simp] theorem T196 : plE Tryz.prog 53 0 = some (0, 1) := by kernel_rfl
@[simp] theorem T197 : fldE Tryz.prog 53 1 = some (1, 1, false) := by kernel_rfl
@[simp] theorem T198 : plE Tryz.prog 53 1 = some (1, 1) := by kernel_rfl
@[simp] theorem T199 : allE Tryz.prog 53 = true := by kernel_rfl
@[simp] theorem T200 : tyE Tryz.prog 55 = some (1, false) := by kernel_rfl
@[simp] theorem T201 : zeroE Tryz.prog 55 = some [V.poi] := by kernel_rfl
@[simp] theorem T202 : tyE Tryz.prog 56 = some (1, false) := by kernel_rfl
@[simp] theorem T203 : zeroE Tryz.prog 56 = some [V.poi] := by kernel_rfl
@[simp] theorem T204 : tyE Tryz.prog 57 = some (1, false) := by kernel_rfl
@[simp] theorem T205 : zeroE Tryz.prog 57 = some [V.poi] := by kernel_rfl
@[simp] theorem T206 : tyE Tryz.prog 59 = some (1, false) := by kernel_rfl
@[simp] theorem T207 : zeroE Tryz.prog 59 = some [V.poi] := by kernel_rfl
@[simp] theorem T208 : tyE Tryz.prog 60 = some (1, false) := by kernel_rfl
@[simp] theorem T209 : zeroE Tryz.prog 60 = some [V.poi] := by kernel_rfl
@[simp] theorem T210 : tyE Tryz.prog 61 = some (1, false) := by kernel_rfl
@[simp] theorem T211 : zeroE Tryz.prog 61 = some [V.poi] := by kernel_rfl
@[simp] theorem T212 : tyE Tryz.prog 62 = some (1, false) := by kernel_rfl
@[simp] theorem T213 : zeroE Tryz.prog 62 = some [V.int .u64 0] := by kernel_rfl
@[simp] theorem T214 : isInt Tryz.prog 62 = some .u64 := by kernel_rfl
@[simp] theorem T215 : tyE Tryz.prog 63 = some (1, false) := by kernel_rfl
@[simp] theorem T216 : zeroE Tryz.prog 63 = some [V.poi] := by kernel_rfl
@[simp] theorem T217 : tyE Tryz.prog 64 = some (1, false) := by kernel_rfl
@[simp] theorem T218 : zeroE Tryz.prog 64 = some [V.poi] := by kernel_rfl
@[simp] theorem T219 : tyE Tryz.prog 65 = some (1, false) := by kernel_rfl
@[simp] theorem T220 : zeroE Tryz.prog 65 = some [V.poi] := by kernel_rfl
@[simp] theorem T221 : tyE Tryz.prog 66 = some (1, false) := by kernel_rfl
@[simp] theorem T222 : zeroE Tryz.prog 66 = some [V.sl 0 true []] := by kernel_rfl
@[simp] theorem T223 : slE Tryz.prog 66 = some (113, 13, 120) := by kernel_rfl
@[simp] theorem T224 : tyE Tryz.prog 67 = some (1, false) := by kernel_rfl
@[simp] theorem T225 : zeroE Tryz.prog 67 = some [V.poi] := by kernel_rfl
@[simp] theorem T226 : mpE Tryz.prog 67 = some (2, false, [V.int .u32 0]) := by kernel_rfl
@[simp] theorem T227 : tyE Tryz.prog 68 = some (4, true) := by kernel_rfl
@[simp] theorem T228 : zeroE Tryz.prog 68 = some [V.sl 0 true [], V.sl 0 true [], V.poi, V.int .i64 0] := by kernel_rfl
@[simp] theorem T229 : fldE Tryz.prog 68 0 = some (0, 1, false) := by kernel_rfl
@[simp] theorem T230 : plE Tryz.prog 68 0 = some (0, 1) := by kernel_rfl
@[simp] theorem T231 : fldE Tryz.prog 68 1 = some (1, 1, false) := by kernel_rfl
@[simp] theorem T232 : plE Tryz.prog 68 1 = some (1, 1) := by kernel_rfl
@[simp] theorem T233 : fldE Tryz.prog 68 2 = some (2, 1, false) := by kernel_rfl
@[simp] theorem T234 : plE Tryz.prog 68 2 = some (2, 1) := by kernel_rfl
@[simp] theorem T235 : fldE Tryz.prog 68 3 = some (3, 1, false) := by kernel_rfl
@[simp] theorem T236 : plE Tryz.prog 68 3 = some (3, 1) := by kernel_rfl
@[simp] theorem T237 : allE Tryz.prog 68 = true := by kernel_rfl
@[simp] theorem T238 : tyE Tryz.prog 69 = some (4, true) := by kernel_rfl
@[simp] theorem T239 : zeroE Tryz.prog 69 = some [V.sl 0 true [], V.sl 0 true [], V.poi, V.int .i64 0] := by kernel_rfl
@[simp] theorem T240 : fldE Tryz.prog 69 0 = some (0, 1, false) := by kernel_rfl
@[simp] theorem T241 : plE Tryz.prog 69 0 = some (0, 1) := by kernel_rfl
@[simp] theorem T242 : fldE Tryz.prog 69 1 = some (1, 1, false) := by kernel_rfl
@[simp] theorem T243 : plE Tryz.prog 69 1 = some (1, 1) := by kernel_rfl
@[simp] theorem T244 : fldE Tryz.prog 69 2 = some (2, 1, false) := by kernel_rfl
@[simp] theorem T245 : plE Tryz.prog 69 2 = some (2, 1) := by kernel_rfl
@[simp] theorem T246 : fldE Tryz.prog 69 3 = some (3, 1, false) := by kernel_rfl
@[simp] theorem T247 : plE Tryz.prog 69 3 = some (3, 1) := by kernel_rfl
@[simp] theorem T248 : allE Tryz.prog 69 = true := by kernel_rfl
@[simp] theorem T249 : tyE Tryz.prog 71 = some (1, false) := by kernel_rfl
@[simp] theorem T250 : zeroE Tryz.prog 71 = some [V.poi] := by kernel_rfl
@[simp] theorem T251 : tyE Tryz.prog 72 = some (1, false) := by kernel_rfl
@[simp] theorem T252 : zeroE Tryz.prog 72 = some [V.poi] := by kernel_rfl
@[simp] theorem T253 : tyE Tryz.prog 73 = some (1, false) := by kernel_rfl
@[simp] theorem T254 : zeroE Tryz.prog 73 = some [V.int .u64 0] := by kernel_rfl
@[simp] theorem T255 : isInt Tryz.prog 73 = some .u64 := by kernel_rfl
@[simp] theorem T256 : tyE Tryz.prog 74 = some (1, false) := by kernel_rfl
@[simp] theorem T257 : zeroE Tryz.prog 74 = some [V.sl 0 true []] := by kernel_rfl
@[simp] theorem T258 : slE Tryz.prog 74 = some (79, 6, 72) := by kernel_rfl
@[simp] theorem T259 : tyE Tryz.prog 76 = some (1, false) := by kernel_rfl
@[simp] theorem T260 : zeroE Tryz.prog 76 = some [V.poi] := by kernel_rfl
@[simp] theorem T261 : tyE Tryz.prog 77 = some (1, false) := by kernel_rfl
@[simp] theorem T262 : zeroE Tryz.prog 77 = some [V.sl 0 true []] := by kernel_rfl
@[simp] theorem T263 : slE Tryz.prog 77 = some (81, 3, 32) := by kernel_rfl
@[simp] theorem T264 : tyE Tryz.prog 78 = some (6, true) := by kernel_rfl
@[simp] theorem T265 : zeroE Tryz.prog 78 = some [V.str [], V.int .i64 0, V.sl 0 true [], V.int .i64 0, V.int .i64 0, V.int .i64 0] := by kernel_rfl
@[simp] theorem T266 : fldE Tryz.prog 78 0 = some (0, 1, false) := by kernel_rfl
@[simp] theorem T267 : plE Tryz.prog 78 0 = some (0, 1) := by kernel_rfl
@[simp] theorem T268 : fldE Tryz.prog 78 1 = some (1, 1, false) := by kernel_rfl
@[simp] theorem T269 : plE Tryz.prog 78 1 = some (1, 1) := by kernel_rfl
@[simp] theorem T270 : fldE Tryz.prog 78 2 = some (2, 1, false) := by kernel_rfl
@[simp] theorem T271 : plE Tryz.prog 78 2 = some (2, 1) := by kernel_rfl
@[simp] theorem T272 : fldE Tryz.prog 78 3 = some (3, 1, false) := by kernel_rfl
@[simp] theorem T273 : plE Tryz.prog 78 3 = some (3, 1) := by kernel_rfl
@[simp] theorem T274 : fldE Tryz.prog 78 4 = some (4, 1, false) := by kernel_rfl
@[simp] theorem T275 : plE Tryz.prog 78 4 = some (4, 1) := by kernel_rfl
@[simp] theorem T276 : fldE Tryz.prog 78 5 = some (5, 1, false) := by kernel_rfl
@[simp] theorem T277 : plE Tryz.prog 78 5 = some (5, 1) := by kernel_rfl
@[simp] theorem T278 : allE Tryz.prog 78 = true := by kernel_rfl
@[simp] theorem T279 : tyE Tryz.prog 79 = some (6, true) := by kernel_rfl
@[simp] theorem T280 : zeroE Tryz.prog 79 = some [V.str [], V.int .i64 0, V.sl 0 true [], V.int .i64 0, V.int .i64 0, V.int .i64 0] := by kernel_rfl
@[simp] theorem T281 : fldE Tryz.prog 79 0 = some (0, 1, false) := by kernel_rfl
@[simp] theorem T282 : plE Tryz.prog 79 0 = some (0, 1) := by kernel_rfl
@[simp] theorem T283 : fldE Tryz.prog 79 1 = some (1, 1, false) := by kernel_rfl
@[simp] theorem T284 : plE Tryz.prog 79 1 = some (1, 1) := by kernel_rfl
@[simp] theorem T285 : fldE Tryz.prog 79 2 = some (2, 1, false) := by kernel_rfl
@[simp] theorem T286 : plE Tryz.prog 79 2 = some (2, 1) := by kernel_rfl
@[simp] theorem T287 : fldE Tryz.prog 79 3 = some (3, 1, false) := by kernel_rfl
@[simp] theorem T288 : plE Tryz.prog 79 3 = some (3, 1) := by kernel_rfl
@[simp] theorem T289 : fldE Tryz.prog 79 4 = some (4, 1, false) := by kernel_rfl
@[simp] theorem T290 : plE Tryz.prog 79 4 = some (4, 1) := by kernel_rfl
@[simp] theorem T291 : fldE Tryz.prog 79 5 = some (5, 1, false) := by kernel_rfl
@[simp] theorem T292 : plE Tryz.prog 79 5 = some (5, 1) := by kernel_rfl
@[simp] theorem T293 : allE Tryz.prog 79 = true := by kernel_rfl
@[simp] theorem T294 : tyE Tryz.prog 80 = some (3, true) := by kernel_rfl
@[simp] theorem T295 : zeroE Tryz.prog 80 = some [V.int .i64 0, V.int .i64 0, V.str []] := by kernel_rfl
@[simp] theorem T296 : fldE Tryz.prog 80 0 = some (0, 1, false) := by kernel_rfl
@[simp] theorem T297 : plE Tryz.prog 80 0 = some (0, 1) := by kernel_rfl
@[simp] theorem T298 : fldE Tryz.prog 80 1 = some (1, 1, false) := by kernel_rfl
@[simp] theorem T299 : plE Tryz.prog 80 1 = some (1, 1) := by kernel_rfl
@[simp] theorem T300 : fldE Tryz.prog 80 2 = some (2, 1, false) := by kernel_rfl
@[simp] theorem T301 : plE Tryz.prog 80 2 = some (2, 1) := by kernel_rfl
@[simp] theorem T302 : allE Tryz.prog 80 = true := by kernel_rfl
@[simp] theorem T303 : tyE Tryz.prog 81 = some (3, true) := by kernel_rfl
@[simp] theorem T304 : zeroE Tryz.prog 81 = some [V.int .i64 0, V.int .i64 0, V.str []] := by kernel_rfl
@[simp] theorem T305 : fldE Tryz.prog 81 0 = some (0, 1, false) := by kernel_rfl
@[simp] theorem T306 : plE Tryz.prog 81 0 = some (0, 1) := by kernel_rfl
@[simp] theorem T307 : fldE Tryz.prog 81 1 = some (1, 1, false) := by kernel_rfl
@[simp] theorem T308 : plE Tryz.prog 81 1 = some (1, 1) := by kernel_rfl
@[simp] theorem T309 : fldE Tryz.prog 81 2 = some (2, 1, false) := by kernel_rfl
@[simp] theorem T310 : plE Tryz.prog 81 2 = some (2, 1) := by kernel_rfl
@[simp] theorem T311 : allE Tryz.prog 81 = true := by kernel_rfl
@[simp] theorem T312 : tyE Tryz.prog 82 = some (1, false) := by kernel_rfl
@[simp] theorem T313 : zeroE Tryz.prog 82 = some [V.poi] := by kernel_rfl
@[simp] theorem T314 : tyE Tryz.prog 83 = some (1, false) := by kernel_rfl
@[simp] theorem T315 : zeroE Tryz.prog 83 = some [V.poi] := by kernel_rfl
@[simp] theorem T316 : tyE Tryz.prog 84 = some (2, true) := by kernel_rfl
@[simp] theorem T317 : zeroE Tryz.prog 84 = some [V.str [], V.int .u32 0] := by kernel_rfl
@[simp] theorem T318 : fldE Tryz.prog 84 0 = some (0, 1, false) := by kernel_rfl
@[simp] theorem T319 : plE Tryz.prog 84 0 = some (0, 1) := by kernel_rfl
@[simp] theorem T320 : fldE Tryz.prog 84 1 = some (1, 1, false) := by kernel_rfl
@[simp] theorem T321 : plE Tryz.prog 84 1 = some (1, 1) := by kernel_rfl
@[simp] theorem T322 : allE Tryz.prog 84 = true := by kernel_rfl
@[simp] theorem T323 : tyE Tryz.prog 85 = some (2, true) := by kernel_rfl
@[simp] theorem T324 : zeroE Tryz.prog 85 = some [V.str [], V.int .u32 0] := by kernel_rfl
@[simp] theorem T325 : fldE Tryz.prog 85 0 = some (0, 1, false) := by kernel_rfl
@[simp] theorem T326 : plE Tryz.prog 85 0 = some (0, 1) := by kernel_rfl
@[simp] theorem T327 : fldE Tryz.prog 85 1 = some (1, 1, false) := by kernel_rfl
@[simp] theorem T328 : plE Tryz.prog 85 1 = some (1, 1) := by kernel_rfl
@[simp] theorem T329 : allE Tryz.prog 85 = true := by kernel_rfl
@[simp] theorem T330 : eqE Tryz.prog 85 = some [.s, .i] := by kernel_rfl
@[simp] theorem T331 : tyE Tryz.prog 86 = some (1, false) := by kernel_rfl
@[simp] theorem T332 : zeroE Tryz.prog 86 = some [V.poi] := by kernel_rfl
@[simp] theorem T333 : tyE Tryz.prog 87 = some (1, false) := by kernel_rfl
@[simp] theorem T334 : zeroE Tryz.prog 87 = some [V.poi] := by kernel_rfl
@[simp] theorem T335 : tyE Tryz.prog 88 = some (1, false) := by kernel_rfl
@[simp] theorem T336 : zeroE Tryz.prog 88 = some [V.poi] := by kernel_rfl
@[simp] theorem T337 : tyE Tryz.prog 89 = some (5, true) := by kernel_rfl
@[simp] theorem T338 : zeroE Tryz.prog 89 = some [V.bool false, V.bool false, V.bool false, V.int .i32 0, V.int .i32 0] := by kernel_rfl
@[simp] theorem T339 : fldE Tryz.prog 89 0 = some (0, 1, false) := by kernel_rfl
@[simp] theorem T340 : plE Tryz.prog 89 0 = some (0, 1) := by kernel_rfl
@[simp] theorem T341 : fldE Tryz.prog 89 1 = some (1, 1, false) := by kernel_rfl
@[simp] theorem T342 : plE Tryz.prog 89 1 = some (1, 1) := by kernel_rfl
@[simp] theorem T343 : fldE Tryz.prog 89 2 = some (2, 1, false) := by kernel_rfl
@[simp] theorem T344 : plE Tryz.prog 89 2 = some (2, 1) := by kernel_rfl
@[simp] theorem T345 : fldE Tryz.prog 89 3 = some (3, 1, false) := by kernel_rfl
@[simp] theorem T346 : plE Tryz.prog 89 3 = some (3, 1) := by kernel_rfl
@[simp] theorem T347 : fldE Tryz.prog 89 4 = some (4, 1, false) := by kernel_rfl
@[simp] theorem T348 : plE Tryz.prog 89 4 = some (4, 1) := by kernel_rfl
@[simp] theorem T349 : allE Tryz.prog 89 = true := by kernel_rfl
@[simp] theorem T350 : tyE Tryz.prog 90 = some (5, true) := by kernel_rfl
@[simp] theorem T351 : zeroE Tryz.prog 90 = some [V.bool false, V.bool false, V.bool false, V.int .i32 0, V.int .i32 0] := by kernel_rfl
@[simp] theorem T352 : fldE Tryz.prog 90 0 = some (0, 1, false) := by kernel_rfl
@[simp] theorem T353 : plE Tryz.prog 90 0 = some (0, 1) := by kernel_rfl
@[simp] theorem T354 : fldE Tryz.prog 90 1 = some (1, 1, false) := by kernel_rfl
@[simp] theorem T355 : plE Tryz.prog 90 1 = some (1, 1) := by kernel_rfl
@[simp] theorem T356 : fldE Tryz.prog 90 2 = some (2, 1, false) := by kernel_rfl
@[simp] theorem T357 : plE Tryz.prog 90 2 = some (2, 1) := by kernel_rfl
@[simp] theorem T358 : fldE Tryz.prog 90 3 = some (3, 1, false) := by kernel_rfl
@[simp] theorem T359 : plE Tryz.prog 90 3 = some (3, 1) := by kernel_rfl
@[simp] theorem T360 : fldE Tryz.prog 90 4 = some (4, 1, false) := by kernel_rfl
@[simp] theorem T361 : plE Tryz.prog 90 4 = some (4, 1) := by kernel_rfl
@[simp] theorem T362 : allE Tryz.prog 90 = true := by kernel_rfl
@[simp] theorem T363 : tyE Tryz.prog 92 = some (1, false) := by kernel_rfl
@[simp] theorem T364 : zeroE Tryz.prog 92 = some [V.poi] := by kernel_rfl
@[simp] theorem T365 : tyE Tryz.prog 93 = some (1, false) := by kernel_rfl
@[simp] theorem T366 : zeroE Tryz.prog 93 = some [V.poi] := by kernel_rfl
@[simp] theorem T367 : tyE Tryz.prog 94 = some (65, true) := by kernel_rfl
@[simp] theorem T368 : zeroE Tryz.prog 94 = some [V.str [], V.str [], V.str [], V.str [], V.str [], V.str [], V.str [], V.str [], V.str [], V.str [], V.str [], V.str [], V.str [], V.str [], V.str [], V.str [], V.str [], V.str [], V.str [], V.str [], V.str [], V.str [], V.str [], V.str [], V.str [], V.str [], V.str [], V.str [], V.str [], V.str [], V.str [], V.str [], V.str [], V.str [], V.str [], V.str [], V.str [], V.str [], V.str [], V.str [], V.str [], V.str [], V.str [], V.str [], V.str [], V.str [], V.str [], V.str [], V.str [], V.str [], V.str [], V.str [], V.str [], V.str [], V.str [], V.str [], V.str [], V.str [], V.str [], V.str [], V.str [], V.str [], V.str [], V.str [], V.str []] := by kernel_rfl
@[simp] theorem T369 : arE Tryz.prog 94 = some (65, 1, false) := by kernel_rfl
@[simp] theorem T370 (i : Nat) : plE Tryz.prog 94 i = some (i * 1, 1) := plE_arr T369 i
@[simp] theorem T371 : allE Tryz.prog 94 = true := by kernel_rfl
@[simp] theorem T372 : tyE Tryz.prog 95 = some (1, false) := by kernel_rfl
@[simp] theorem T373 : zeroE Tryz.prog 95 = some [V.poi] := by kernel_rfl
@[simp] theorem T374 : tyE Tryz.prog 97 = some (1, false) := by kernel_rfl
@[simp] theorem T375 : zeroE Tryz.prog 97 = some [V.poi] := by kernel_rfl
@[simp] theorem T376 : tyE Tryz.prog 98 = some (1, false) := by kernel_rfl
@[simp] theorem T377 : zeroE Tryz.prog 98 = some [V.poi] := by kernel_rfl
@[simp] theorem T378 : tyE Tryz.prog 99 = some (1, false) := by kernel_rfl
@[simp] theorem T379 : zeroE Tryz.prog 99 = some [V.poi] := by kernel_rfl
@[simp] theorem T380 : tyE Tryz.prog 100 = some (1, false) := by kernel_rfl
@[simp] theorem T381 : zeroE Tryz.prog 100 = some [V.poi] := by kernel_rfl
@[simp] theorem T382 : tyE Tryz.prog 101 = some (1, false) := by kernel_rfl
@[simp] theorem T383 : zeroE Tryz.prog 101 = some [V.nilp] := by kernel_rfl
@[simp] theorem T384 : tyE Tryz.prog 102 = some (1, false) := by kernel_rfl
@[simp] theorem T385 : zeroE Tryz.prog 102 = some [V.poi] := by kernel_rfl
@[simp] theorem T386 : mpE Tryz.prog 102 = some (6, true, [V.int .i64 0, V.str [], V.int .i64 0, V.bool false, V.poi]) := by kernel_rfl
@[simp] theorem T387 : tyE Tryz.prog 103 = some (1, false) := by kernel_rfl
@[simp] theorem T388 : zeroE Tryz.prog 103 = some [V.poi] := by kernel_rfl
@[simp] theorem T389 : tyE Tryz.prog 104 = some (1, false) := by kernel_rfl
@[simp] theorem T390 : zeroE Tryz.prog 104 = some [V.poi] := by kernel_rfl
@[simp] theorem T391 : tyE Tryz.prog 105 = some (1, false) := by kernel_rfl
@[simp] theorem T392 : zeroE Tryz.prog 105 = some [V.poi] := by kernel_rfl
@[simp] theorem T393 : tyE Tryz.prog 106 = some (1, false) := by kernel_rfl
@[simp] theorem T394 : zeroE Tryz.prog 106 = some [V.poi] := by kernel_rfl
@[simp] theorem T395 : tyE Tryz.prog 107 = some (5, true) := by kernel_rfl
@[simp] theorem T396 : zeroE Tryz.prog 107 = some [V.int .i64 0, V.str [], V.int .i64 0, V.bool false, V.poi] := by kernel_rfl
@[simp] theorem T397 : fldE Tryz.prog 107 0 = some (0, 1, false) := by kernel_rfl
@[simp] theorem T398 : plE Tryz.prog 107 0 = some (0, 1) := by kernel_rfl
@[simp] theorem T399 : fldE Tryz.prog 107 1 = some (1, 1, false) := by kernel_rfl
@[simp] theorem T400 : plE Tryz.prog 107 1 = some (1, 1) := by kernel_rfl
@[simp] theorem T401 : fldE Tryz.prog 107 2 = some (2, 1, false) := by kernel_rfl
@[simp] theorem T402 : plE Tryz.prog 107 2 = some (2, 1) := by kernel_rfl
@[simp] theorem T403 : fldE Tryz.prog 107 3 = some (3, 1, false) := by kernel_rfl
@[simp] theorem T404 : plE Tryz.prog 107 3 = some (3, 1) := by kernel_rfl
@[simp] theorem T405 : fldE Tryz.prog 107 4 = some (4, 1, false) := by kernel_rfl
@[simp] theorem T406 : plE Tryz.prog 107 4 = some (4, 1) := by kernel_rfl
@[simp] theorem T407 : allE Tryz.prog 107 = true := by kernel_rfl
@[simp] theorem T408 : tyE Tryz.prog 108 = some (5, true) := by kernel_rfl
@[simp] theorem T409 : zeroE Tryz.prog 108 = some [V.int .i64 0, V.str [], V.int .i64 0, V.bool false, V.poi] := by kernel_rfl
@[simp] theorem T410 : fldE Tryz.prog 108 0 = some (0, 1, false) := by kernel_rfl
@[simp] theorem T411 : plE Tryz.prog 108 0 = some (0, 1) := by kernel_rfl
@[simp] theorem T412 : fldE Tryz.prog 108 1 = some (1, 1, false) := by kernel_rfl
@[simp] theorem T413 : plE Tryz.prog 108 1 = some (1, 1) := by kernel_rfl
@[simp] theorem T414 : fldE Tryz.prog 108 2 = some (2, 1, false) := by kernel_rfl
@[simp] theorem T415 : plE Tryz.prog 108 2 = some (2, 1) := by kernel_rfl
@[simp] theorem T416 : fldE Tryz.prog 108 3 = some (3, 1, false) := by kernel_rfl
@[simp] theorem T417 : plE Tryz.prog 108 3 = some (3, 1) := by kernel_rfl
@[simp] theorem T418 : fldE Tryz.prog 108 4 = some (4, 1, false) := by kernel_rfl
@[simp] theorem T419 : plE Tryz.prog 108 4 = some (4, 1) := by kernel_rfl
@[simp] theorem T420 : allE Tryz.prog 108 = true := by kernel_rfl
@[simp] theorem T421 : tyE Tryz.prog 109 = some (3, true) := by kernel_rfl
@[simp] theorem T422 : zeroE Tryz.prog 109 = some [V.int .i64 0, V.int .i64 0, V.int .i64 0] := by kernel_rfl
@[simp] theorem T423 : arE Tryz.prog 109 = some (3, 1, false) := by kernel_rfl
@[simp] theorem T424 (i : Nat) : plE Tryz.prog 109 i = some (i * 1, 1) := plE_arr T423 i
@[simp] theorem T425 : allE Tryz.prog 109 = true := by kernel_rfl
@[simp] theorem T426 : tyE Tryz.prog 110 = some (2, true) := by kernel_rfl
@[simp] theorem T427 : zeroE Tryz.prog 110 = some [V.int .i64 0, V.str []] := by kernel_rfl
@[simp] theorem T428 : fldE Tryz.prog 110 0 = some (0, 1, false) := by kernel_rfl
@[simp] theorem T429 : plE Tryz.prog 110 0 = some (0, 1) := by kernel_rfl
@[simp] theorem T430 : fldE Tryz.prog 110 1 = some (1, 1, false) := by kernel_rfl
@[simp] theorem T431 : plE Tryz.prog 110 1 = some (1, 1) := by kernel_rfl
@[simp] theorem T432 : allE Tryz.prog 110 = true := by kernel_rfl
@[simp] theorem T433 : tyE Tryz.prog 111 = some (2, true) := by kernel_rfl
@[simp] theorem T434 : zeroE Tryz.prog 111 = some [V.int .i64 0, V.str []] := by kernel_rfl
@[simp] theorem T435 : fldE Tryz.prog 111 0 = some (0, 1, false) := by kernel_rfl
@[simp] theorem T436 : plE Tryz.prog 111 0 = some (0, 1) := by kernel_rfl
@[simp] theorem T437 : fldE Tryz.prog 111 1 = some (1, 1, false) := by kernel_rfl
@[simp] theorem T438 : plE Tryz.prog 111 1 = some (1, 1) := by kernel_rfl
@[simp] theorem T439 : allE Tryz.prog 111 = true := by kernel_rfl
@[simp] theorem T440 : tyE Tryz.prog 112 = some (13, true) := by kernel_rfl
@[simp] theorem T441 : zeroE Tryz.prog 112 = some [V.int .i64 0, V.int .u32 0, V.int .i64 0, V.int .i64 0, V.str [], V.int .i64 0, V.bool false, V.poi, V.int .i64 0, V.int .i64 0, V.int .i64 0, V.int .i64 0, V.str []] := by kernel_rfl
@[simp] theorem T442 : fldE Tryz.prog 112 0 = some (0, 1, false) := by kernel_rfl
@[simp] theorem T443 : plE Tryz.prog 112 0 = some (0, 1) := by kernel_rfl
@[simp] theorem T444 : fldE Tryz.prog 112 1 = some (1, 1, false) := by kernel_rfl
@[simp] theorem T445 : plE Tryz.prog 112 1 = some (1, 1) := by kernel_rfl
@[simp] theorem T446 : fldE Tryz.prog 112 2 = some (2, 1, false) := by kernel_rfl
@[simp] theorem T447 : plE Tryz.prog 112 2 = some (2, 1) := by kernel_rfl
@[simp] theorem T448 : fldE Tryz.prog 112 3 = some (3, 5, true) := by kernel_rfl
@[simp] theorem T449 : plE Tryz.prog 112 3 = some (3, 5) := by kernel_rfl
@[simp] theorem T450 : fldE Tryz.prog 112 4 = some (8, 3, true) := by kernel_rfl
@[simp] theorem T451 : plE Tryz.prog 112 4 = some (8, 3) := by kernel_rfl
@[simp] theorem T452 : fldE Tryz.prog 112 5 = some (11, 2, true) := by kernel_rfl
@[simp] theorem T453 : plE Tryz.prog 112 5 = some (11, 2) := by kernel_rfl
@[simp] theorem T454 : allE Tryz.prog 112 = true := by kernel_rfl
@[simp] theorem T455 : tyE Tryz.prog 113 = some (13, true) := by kernel_rfl
@[simp] theorem T456 : zeroE Tryz.prog 113 = some [V.int .i64 0, V.int .u32 0, V.int .i64 0, V.int .i64 0, V.str [], V.int .i64 0, V.bool false, V.poi, V.int .i64 0, V.int .i64 0, V.int .i64 0, V.int .i64 0, V.str []] := by kernel_rfl
@[simp] theorem T457 : fldE Tryz.prog 113 0 = some (0, 1, false) := by kernel_rfl
@[simp] theorem T458 : plE Tryz.prog 113 0 = some (0, 1) := by kernel_rfl
@[simp] theorem T459 : fldE Tryz.prog 113 1 = some (1, 1, false) := by kernel_rfl
@[simp] theorem T460 : plE Tryz.prog 113 1 = some (1, 1) := by kernel_rfl
@[simp] theorem T461 : fldE Tryz.prog 113 2 = some (2, 1, false) := by kernel_rfl
@[simp] theorem T462 : plE Tryz.prog 113 2 = some (2, 1) := by kernel_rfl
@[simp] theorem T463 : fldE Tryz.prog 113 3 = some (3, 5, true) := by kernel_rfl
@[simp] theorem T464 : plE Tryz.prog 113 3 = some (3, 5) := by kernel_rfl
@[simp] theorem T465 : fldE Tryz.prog 113 4 = some (8, 3, true) := by kernel_rfl
@[simp] theorem T466 : plE Tryz.prog 113 4 = some (8, 3) := by kernel_rfl
@[simp] theorem T467 : fldE Tryz.prog 113 5 = some (11, 2, true) := by kernel_rfl
@[simp] theorem T468 : plE Tryz.prog 113 5 = some (11, 2) := by kernel_rfl
@[simp] theorem T469 : allE Tryz.prog 113 = true := by kernel_rfl
@[simp] theorem T470 : tyE Tryz.prog 115 = some (1, false) := by kernel_rfl
@[simp] theorem T471 : zeroE Tryz.prog 115 = some [V.poi] := by kernel_rfl
@[simp] theorem T472 : tyE Tryz.prog 116 = some (1, false) := by kernel_rfl
@[simp] theorem T473 : zeroE Tryz.prog 116 = some [V.int .i16 0] := by kernel_rfl
@[simp] theorem T474 : isInt Tryz.prog 116 = some .i16 := by kernel_rfl
@[simp] theorem T475 : tyE Tryz.prog 117 = some (1, false) := by kernel_rfl
@[simp] theorem T476 : zeroE Tryz.prog 117 = some [V.poi] := by kernel_rfl
@[simp] theorem T477 : tyE Tryz.prog 119 = some (1, false) := by kernel_rfl
@[simp] theorem T478 : zeroE Tryz.prog 119 = some [V.poi] := by kernel_rfl
@[simp] theorem T479 : tyE Tryz.prog 121 = some (1, false) := by kernel_rfl
@[simp] theorem T480 : zeroE Tryz.prog 121 = some [V.poi] := by kernel_rfl
@[simp] theorem T481 : tyE Tryz.prog 122 = some (1, false) := by kernel_rfl
@[simp] theorem T482 : zeroE Tryz.prog 122 = some [V.poi] := by kernel_rfl
@[simp] theorem T483 : tyE Tryz.prog 124 = some (1, false) := by kernel_rfl
@[simp] theorem T484 : zeroE Tryz.prog 124 = some [V.poi] := by kernel_rfl
@[simp] theorem T485 : tyE Tryz.prog 125 = some (1, false) := by kernel_rfl
@[simp] theorem T486 : zeroE Tryz.prog 125 = some [V.poi] := by kernel_rfl
@[simp] theorem T487 : tyE Tryz.prog 126 = some (1, false) := by kernel_rfl
@[simp] theorem T488 : zeroE Tryz.prog 126 = some [V.poi] := by kernel_rfl
@[simp] theorem T489 : tyE Tryz.prog 128 = some (1, false) := by kernel_rfl
@[simp] theorem T490 : zeroE Tryz.prog 128 = some [V.poi] := by kernel_rfl
@[simp] theorem T491 : tyE Tryz.prog 129 = some (24, true) := by kernel_rfl
@[simp] theorem T492 : zeroE Tryz.prog 129 = some [V.int .u8 0, V.int .u8 0, V.int .u8 0, V.int .u8 0, V.int .u8 0, V.int .u8 0, V.int .u8 0, V.int .u8 0, V.int .u8 0, V.int .u8 0, V.int .u8 0, V.int .u8 0, V.int .u8 0, V.int .u8 0, V.int .u8 0, V.int .u8 0, V.int .u8 0, V.int .u8 0, V.int .u8 0, V.int .u8 0, V.int .u8 0, V.int .u8 0, V.int .u8 0, V.int .u8 0] := by kernel_rfl
@[simp] theorem T493 : arE Tryz.prog 129 = some (24, 1, false) := by kernel_rfl
@[simp] theorem T494 (i : Nat) : plE Tryz.prog 129 i = some (i * 1, 1) := plE_arr T493 i
@[simp] theorem T495 : allE Tryz.prog 129 = true := by kernel_rfl
@[simp] theorem T496 : tyE Tryz.prog 130 = some (1, false) := by kernel_rfl
@[simp] theorem T497 : zeroE Tryz.prog 130 = some [V.poi] := by kernel_rfl
@[simp] theorem T498 : tyE Tryz.prog 131 = some (1, false) := by kernel_rfl
@[simp] theorem T499 : zeroE Tryz.prog 131 = some [V.poi] := by kernel_rfl
@[simp] theorem T500 : tyE Tryz.prog 133 = some (1, false) := by kernel_rfl
@[simp] theorem T501 : zeroE Tryz.prog 133 = some [V.poi] := by kernel_rfl
@[simp] theorem T502 : tyE Tryz.prog 135 = some (1, false) := by kernel_rfl
@[simp] theorem T503 : zeroE Tryz.prog 135 = some [V.poi] := by kernel_rfl
@[simp] theorem T504 : tyE Tryz.prog 136 = some (1, false) := by kernel_rfl
@[simp] theorem T505 : zeroE Tryz.prog 136 = some [V.poi] := by kernel_rfl
@[simp] theorem T506 : tyE Tryz.prog 138 = some (1, false) := by kernel_rfl
@[simp] theorem T507 : zeroE Tryz.prog 138 = some [V.poi] := by kernel_rfl
@[simp] theorem T508 : tyE Tryz.prog 140 = some (1, false) := by kernel_rfl
@[simp] theorem T509 : zeroE Tryz.prog 140 = some [V.poi] := by kernel_rfl
@[simp] theorem T510 : tyE Tryz.prog 141 = some (1, false) := by kernel_rfl
@[simp] theorem T511 : zeroE Tryz.prog 141 = some [V.nilp] := by kernel_rfl
@[simp] theorem T512 : tyE Tryz.prog 142 = some (1, false) := by kernel_rfl
@[simp] theorem T513 : zeroE Tryz.prog 142 = some [V.poi] := by kernel_rfl
@[simp] theorem T514 : tyE Tryz.prog 144 = some (1, false) := by kernel_rfl
@[simp] theorem T515 : zeroE Tryz.prog 144 = some [V.poi] := by kernel_rfl
@[simp] theorem T516 : tyE Tryz.prog 145 = some (1, false) := by kernel_rfl
@[simp] theorem T517 : zeroE Tryz.prog 145 = some [V.poi] := by kernel_rfl
@[simp] theorem T518 : tyE Tryz.prog 146 = some (1, false) := by kernel_rfl
@[simp] theorem T519 : zeroE Tryz.prog 146 = some [V.sl 0 true []] := by kernel_rfl
@[simp] theorem T520 : slE Tryz.prog 146 = some (150, 3, 32) := by kernel_rfl
@[simp] theorem T521 : tyE Tryz.prog 148 = some (1, false) := by kernel_rfl
@[simp] theorem T522 : zeroE Tryz.prog 148 = some [V.poi] := by kernel_rfl
@[simp] theorem T523 : tyE Tryz.prog 149 = some (3, true) := by kernel_rfl
@[simp] theorem T524 : zeroE Tryz.prog 149 = some [V.int .i64 0, V.str [], V.bool false] := by kernel_rfl
@[simp] theorem T525 : fldE Tryz.prog 149 0 = some (0, 1, false) := by kernel_rfl
@[simp] theorem T526 : plE Tryz.prog 149 0 = some (0, 1) := by kernel_rfl
@[simp] theorem T527 : fldE Tryz.prog 149 1 = some (1, 1, false) := by kernel_rfl
@[simp] theorem T528 : plE Tryz.prog 149 1 = some (1, 1) := by kernel_rfl
@[simp] theorem T529 : fldE Tryz.prog 149 2 = some (2, 1, false) := by kernel_rfl
@[simp] theorem T530 : plE Tryz.prog 149 2 = some (2, 1) := by kernel_rfl
@[simp] theorem T531 : allE Tryz.prog 149 = true := by kernel_rfl
@[simp] theorem T532 : tyE Tryz.prog 150 = some (3, true) := by kernel_rfl
@[simp] theorem T533 : zeroE Tryz.prog 150 = some [V.int .i64 0, V.str [], V.bool false] := by kernel_rfl
@[simp] theorem T534 : fldE Tryz.prog 150 0 = some (0, 1, false) := by kernel_rfl
@[simp] theorem T535 : plE Tryz.prog 150 0 = some (0, 1) := by kernel_rfl
@[simp] theorem T536 : fldE Tryz.prog 150 1 = some (1, 1, false) := by kernel_rfl
@[simp] theorem T537 : plE Tryz.prog 150 1 = some (1, 1) := by kernel_rfl
@[simp] theorem T538 : fldE Tryz.prog 150 2 = some (2, 1, false) := by kernel_rfl
@[simp] theorem T539 : plE Tryz.prog 150 2 = some (2, 1) := by kernel_rfl
@[simp] theorem T540 : allE Tryz.prog 150 = true := by kernel_rfl
@[simp] theorem T541 : tyE Tryz.prog 151 = some (1, false) := by kernel_rfl
@[simp] theorem T542 : zeroE Tryz.prog 151 = some [V.poi] := by kernel_rfl
@[simp] theorem T543 : tyE Tryz.prog 153 = some (1, false) := by kernel_rfl
@[simp] theorem T544 : zeroE Tryz.prog 153 = some [V.poi] := by kernel_rfl
@[simp] theorem T545 : tyE Tryz.prog 154 = some (1, false) := by kernel_rfl
@[simp] theorem T546 : zeroE Tryz.prog 154 = some [V.poi] := by kernel_rfl
@[simp] theorem T547 : tyE Tryz.prog 155 = some (1, false) := by kernel_rfl
@[simp] theorem T548 : zeroE Tryz.prog 155 = some [V.poi] := by kernel_rfl
@[simp] theorem T549 : tyE Tryz.prog 156 = some (1, false) := by kernel_rfl
@[simp] theorem T550 : zeroE Tryz.prog 156 = some [V.poi] := by kernel_rfl
@[simp] theorem T551 : tyE Tryz.prog 157 = some (20, true) := by kernel_rfl
@[simp] theorem T552 : zeroE Tryz.prog 157 = some [V.int .u64 0, V.int .u64 0, V.int .u64 0, V.int .u64 0, V.int .u64 0, V.int .u64 0, V.int .u64 0, V.int .u64 0, V.int .u64 0, V.int .u64 0, V.int .u64 0, V.int .u64 0, V.int .u64 0, V.int .u64 0, V.int .u64 0, V.int .u64 0, V.int .u64 0, V.int .u64 0, V.int .u64 0, V.int .u64 0] := by kernel_rfl
@[simp] theorem T553 : arE Tryz.prog 157 = some (20, 1, false) := by kernel_rfl
@[simp] theorem T554 (i : Nat) : plE Tryz.prog 157 i = some (i * 1, 1) := plE_arr T553 i
@[simp] theorem T555 : allE Tryz.prog 157 = true := by kernel_rfl
@[simp] theorem T556 : tyE Tryz.prog 158 = some (65, true) := by kernel_rfl
@[simp] theorem T557 : zeroE Tryz.prog 158 = some [V.int .u8 0, V.int .u8 0, V.int .u8 0, V.int .u8 0, V.int .u8 0, V.int .u8 0, V.int .u8 0, V.int .u8 0, V.int .u8 0, V.int .u8 0, V.int .u8 0, V.int .u8 0, V.int .u8 0, V.int .u8 0, V.int .u8 0, V.int .u8 0, V.int .u8 0, V.int .u8 0, V.int .u8 0, V.int .u8 0, V.int .u8 0, V.int .u8 0, V.int .u8 0, V.int .u8 0, V.int .u8 0, V.int .u8 0, V.int .u8 0, V.int .u8 0, V.int .u8 0, V.int .u8 0, V.int .u8 0, V.int .u8 0, V.int .u8 0, V.int .u8 0, V.int .u8 0, V.int .u8 0, V.int .u8 0, V.int .u8 0, V.int .u8 0, V.int .u8 0, V.int .u8 0, V.int .u8 0, V.int .u8 0, V.int .u8 0, V.int .u8 0, V.int .u8 0, V.int .u8 0, V.int .u8 0, V.int .u8 0, V.int .u8 0, V.int .u8 0, V.int .u8 0, V.int .u8 0, V.int .u8 0, V.int .u8 0, V.int .u8 0, V.int .u8 0, V.int .u8 0, V.int .u8 0, V.int .u8 0, V.int .u8 0, V.int .u8 0, V.int .u8 0, V.int .u8 0, V.int .u8 0] := by kernel_rfl
@[simp] theorem T558 : arE Tryz.prog 158 = some (65, 1, false) := by kernel_rfl
@[simp] theorem T559 (i : Nat) : plE Tryz.prog 158 i = some (i * 1, 1) := plE_arr T558 i
@[simp] theorem T560 : allE Tryz.prog 158 = true := by kernel_rfl
@[simp] theorem T561 : tyE Tryz.prog 159 = some (1, false) := by kernel_rfl
@[simp] theorem T562 : zeroE Tryz.prog 159 = some [V.poi] := by kernel_rfl
@[simp] theorem T563 : tyE Tryz.prog 160 = some (1, false) := by kernel_rfl
@[simp] theorem T564 : zeroE Tryz.prog 160 = some [V.poi] := by kernel_rfl
@[simp] theorem T565 : tyE Tryz.prog 162 = some (1, false) := by kernel_rfl
@[simp] theorem T566 : zeroE Tryz.prog 162 = some [V.poi] := by kernel_rfl
@[simp] theorem T567 : tyE Tryz.prog 163 = some (1, false) := by kernel_rfl
@[simp] theorem T568 : zeroE Tryz.prog 163 = some [V.poi] := by kernel_rfl
@[simp] theorem T569 : tyE Tryz.prog 165 = some (1, false) := by kernel_rfl
@[simp] theorem T570 : zeroE Tryz.prog 165 = some [V.poi] := by kernel_rfl
@[simp] theorem T571 : tyE Tryz.prog 166 = some (1, false) := by kernel_rfl
@[simp] theorem T572 : zeroE Tryz.prog 166 = some [V.poi] := by kernel_rfl
@[simp] theorem T573 : tyE Tryz.prog 168 = some (1, false) := by kernel_rfl
@[simp] theorem T574 : zeroE Tryz.prog 168 = some [V.poi] := by kernel_rfl
@[simp] theorem T575 : tyE Tryz.prog 170 = some (1, false) := by kernel_rfl
@[simp] theorem T576 : zeroE Tryz.prog 170 = some [V.poi] := by kernel_rfl
@[simp] theorem T577 : tyE Tryz.prog 172 = some (1, false) := by kernel_rfl
@[simp] theorem T578 : zeroE Tryz.prog 172 = some [V.poi] := by kernel_rfl
@[simp] theorem T579 : tyE Tryz.prog 173 = some (1, false) := by kernel_rfl
@[simp] theorem T580 : zeroE Tryz.prog 173 = some [V.poi] := by kernel_rfl
@[simp] theorem T581 : tyE Tryz.prog 175 = some (1, false) := by kernel_rfl
@[simp] theorem T582 : zeroE Tryz.prog 175 = some [V.poi] := by kernel_rfl
@[simp] theorem T583 : tyE Tryz.prog 176 = some (1, false) := by kernel_rfl
@[simp] theorem T584 : zeroE Tryz.prog 176 = some [V.poi] := by kernel_rfl
@[simp] theorem T585 : tyE Tryz.prog 177 = some (1, false) := by kernel_rfl
@[simp] theorem T586 : zeroE Tryz.prog 177 = some [V.poi] := by kernel_rfl
@[simp] theorem T587 : tyE Tryz.prog 178 = some (1, false) := by kernel_rfl
@[simp] theorem T588 : zeroE Tryz.prog 178 = some [V.poi] := by kernel_rfl
@[simp] theorem T589 : tyE Tryz.prog 179 = some (1, false) := by kernel_rfl
@[simp] theorem T590 : zeroE Tryz.prog 179 = some [V.poi] := by kernel_rfl
@[simp] theorem T591 : tyE Tryz.prog 180 = some (1, false) := by kernel_rfl
@[simp] theorem T592 : zeroE Tryz.prog 180 = some [V.poi] := by kernel_rfl
@[simp] theorem T593 : tyE Tryz.prog 181 = some (32, true) := by kernel_rfl
@[simp] theorem T594 : zeroE Tryz.prog 181 = some [V.int .u8 0, V.int .u8 0, V.int .u8 0, V.int .u8 0, V.int .u8 0, V.int .u8 0, V.int .u8 0, V.int .u8 0, V.int .u8 0, V.int .u8 0, V.int .u8 0, V.int .u8 0, V.int .u8 0, V.int .u8 0, V.int .u8 0, V.int .u8 0, V.int .u8 0, V.int .u8 0, V.int .u8 0, V.int .u8 0, V.int .u8 0, V.int .u8 0, V.int .u8 0, V.int .u8 0, V.int .u8 0, V.int .u8 0, V.int .u8 0, V.int .u8 0, V.int .u8 0, V.int .u8 0, V.int .u8 0, V.int .u8 0] := by kernel_rfl
@[simp] theorem T595 : arE Tryz.prog 181 = some (32, 1, false) := by kernel_rfl
@[simp] theorem T596 (i : Nat) : plE Tryz.prog 181 i = some (i * 1, 1) := plE_arr T595 i
@[simp] theorem T597 : allE Tryz.prog 181 = true := by kernel_rfl
@[simp] theorem T598 : tyE Tryz.prog 182 = some (64, true) := by kernel_rfl
@[simp] theorem T599 : zeroE Tryz.prog 182 = some [V.int .u8 0, V.int .u8 0, V.int .u8 0, V.int .u8 0, V.int .u8 0, V.int .u8 0, V.int .u8 0, V.int .u8 0, V.int .u8 0, V.int .u8 0, V.int .u8 0, V.int .u8 0, V.int .u8 0, V.int .u8 0, V.int .u8 0, V.int .u8 0, V.int .u8 0, V.int .u8 0, V.int .u8 0, V.int .u8 0, V.int .u8 0, V.int .u8 0, V.int .u8 0, V.int .u8 0, V.int .u8 0, V.int .u8 0, V.int .u8 0, V.int .u8 0, V.int .u8 0, V.int .u8 0, V.int .u8 0, V.int .u8 0, V.int .u8 0, V.int .u8 0, V.int .u8 0, V.int .u8 0, V.int .u8 0, V.int .u8 0, V.int .u8 0, V.int .u8 0, V.int .u8 0, V.int .u8 0, V.int .u8 0, V.int .u8 0, V.int .u8 0, V.int .u8 0, V.int .u8 0, V.int .u8 0, V.int .u8 0, V.int .u8 0, V.int .u8 0, V.int .u8 0, V.int .u8 0, V.int .u8 0, V.int .u8 0, V.int .u8 0, V.int .u8 0, V.int .u8 0, V.int .u8 0, V.int .u8 0, V.int .u8 0, V.int .u8 0, V.int .u8 0, V.int .u8 0] := by kernel_rfl
@[simp] theorem T600 : arE Tryz.prog 182 = some (64, 1, false) := by kernel_rfl
@[simp] theorem T601 (i : Nat) : plE Tryz.prog 182 i = some (i * 1, 1) := plE_arr T600 i
@[simp] theorem T602 : allE Tryz.prog 182 = true := by kernel_rfl
@[simp] theorem T603 : tyE Tryz.prog 183 = some (1, false) := by kernel_rfl
@[simp] theorem T604 : zeroE Tryz.prog 183 = some [V.poi] := by kernel_rfl
@[simp] theorem T605 : tyE Tryz.prog 184 = some (1, false) := by kernel_rfl
@[simp] theorem T606 : zeroE Tryz.prog 184 = some [V.poi] := by kernel_rfl
@[simp] theorem T607 : tyE Tryz.prog 185 = some (256, true) := by kernel_rfl
@[simp] theorem T608 : zeroE Tryz.prog 185 = some [V.bool false, V.bool false, V.bool false, V.bool false, V.bool false, V.bool false, V.bool false, V.bool false, V.bool false, V.bool false, V.bool false, V.bool false, V.bool false, V.bool false, V.bool false, V.bool false, V.bool false, V.bool false, V.bool false, V.bool false, V.bool false, V.bool false, V.bool false, V.bool false, V.bool false, V.bool false, V.bool false, V.bool false, V.bool false, V.bool false, V.bool false, V.bool false, V.bool false, V.bool false, V.bool false, V.bool false, V.bool false, V.bool false, V.bool false, V.bool false, V.bool false, V.bool false, V.bool false, V.bool false, V.bool false, V.bool false, V.bool false, V.bool false, V.bool false, V.bool false, V.bool false, V.bool false, V.bool false, V.bool false, V.bool false, V.bool false, V.bool false, V.bool false, V.bool false, V.bool false, V.bool false, V.bool false, V.bool false, V.bool false, V.bool false, V.bool false, V.bool false, V.bool false, V.bool false, V.bool false, V.bool false, V.bool false, V.bool false, V.bool false, V.bool false, V.bool false, V.bool false, V.bool false, V.bool false, V.bool false, V.bool false, V.bool false, V.bool false, V.bool false, V.bool false, V.bool false, V.bool false, V.bool false, V.bool false, V.bool false, V.bool false, V.bool false, V.bool false, V.bool false, V.bool false, V.bool false, V.bool false, V.bool false, V.bool false, V.bool false, V.bool false, V.bool false, V.bool false, V.bool false, V.bool false, V.bool false, V.bool false, V.bool false, V.bool false, V.bool false, V.bool false, V.bool false, V.bool false, V.bool false, V.bool false, V.bool false, V.bool false, V.bool false, V.bool false, V.bool false, V.bool false, V.bool false, V.bool false, V.bool false, V.bool false, V.bool false, V.bool false, V.bool false, V.bool false, V.bool false, V.bool false, V.bool false, V.bool false, V.bool false, V.bool false, V.bool false, V.bool false, V.bool false, V.bool false, V.bool false, V.bool false, V.bool false, V.bool false, V.bool false, V.bool false, V.bool false, V.bool false, V.bool false, V.bool false, V.bool false, V.bool false, V.bool false, V.bool false, V.bool false, V.bool false, V.bool false, V.bool false, V.bool false, V.bool false, V.bool false, V.bool false, V.bool false, V.bool false, V.bool false, V.bool false, V.bool false, V.bool false, V.bool false, V.bool false, V.bool false, V.bool false, V.bool false, V.bool false, V.bool false, V.bool false, V.bool false, V.bool false, V.bool false, V.bool false, V.bool false, V.bool false, V.bool false, V.bool false, V.bool false, V.bool false, V.bool false, V.bool false, V.bool false, V.bool false, V.bool false, V.bool false, V.bool false, V.bool false, V.bool false, V.bool false, V.bool false, V.bool false, V.bool false, V.bool false, V.bool false, V.bool false, V.bool false, V.bool false, V.bool false, V.bool false, V.bool false, V.bool false, V.bool false, V.bool false, V.bool false, V.bool false, V.bool false, V.bool false, V.bool false, V.bool false, V.bool false, V.bool false, V.bool false, V.bool false, V.bool false, V.bool false, V.bool false, V.bool false, V.bool false, V.bool false, V.bool false, V.bool false, V.bool false, V.bool false, V.bool false, V.bool false, V.bool false, V.bool false, V.bool false, V.bool false, V.bool false, V.bool false, V.bool false, V.bool false, V.bool false, V.bool false, V.bool false, V.bool false, V.bool false, V.bool false, V.bool false, V.bool false, V.bool false, V.bool false, V.bool false, V.bool false, V.bool false, V.bool false, V.bool false, V.bool false, V.bool false] := by kernel_rfl
@[simp] theorem T609 : arE Tryz.prog 185 = some (256, 1, false) := by kernel_rfl
@[simp] theorem T610 (i : Nat) : plE Tryz.prog 185 i = some (i * 1, 1) := plE_arr T609 i
@[simp] theorem T611 : allE Tryz.prog 185 = true := by kernel_rfl
@[simp] theorem T612 : tyE Tryz.prog 186 = some (256, true) := by kernel_rfl
@[simp] theorem T613 : zeroE Tryz.prog 186 = some [V.bool false, V.bool false, V.bool false, V.bool false, V.bool false, V.bool false, V.bool false, V.bool false, V.bool false, V.bool false, V.bool false, V.bool false, V.bool false, V.bool false, V.bool false, V.bool false, V.bool false, V.bool false, V.bool false, V.bool false, V.bool false, V.bool false, V.bool false, V.bool false, V.bool false, V.bool false, V.bool false, V.bool false, V.bool false, V.bool false, V.bool false, V.bool false, V.bool false, V.bool false, V.bool false, V.bool false, V.bool false, V.bool false, V.bool false, V.bool false, V.bool false, V.bool false, V.bool false, V.bool false, V.bool false, V.bool false, V.bool false, V.bool false, V.bool false, V.bool false, V.bool false, V.bool false, V.bool false, V.bool false, V.bool false, V.bool false, V.bool false, V.bool false, V.bool false, V.bool false, V.bool false, V.bool false, V.bool false, V.bool false, V.bool false, V.bool false, V.bool false, V.bool false, V.bool false, V.bool false, V.bool false, V.bool false, V.bool false, V.bool false, V.bool false, V.bool false, V.bool false, V.bool false, V.bool false, V.bool false, V.bool false, V.bool false, V.bool false, V.bool false, V.bool false, V.bool false, V.bool false, V.bool false, V.bool false, V.bool false, V.bool false, V.bool false, V.bool false, V.bool false, V.bool false, V.bool false, V.bool false, V.bool false, V.bool false, V.bool false, V.bool false, V.bool false, V.bool false, V.bool false, V.bool false, V.bool false, V.bool false, V.bool false, V.bool false, V.bool false, V.bool false, V.bool false, V.bool false, V.bool false, V.bool false, V.bool false, V.bool false, V.bool false, V.bool false, V.bool false, V.bool false, V.bool false, V.bool false, V.bool false, V.bool false, V.bool false, V.bool false, V.bool false, V.bool false, V.bool false, V.bool false, V.bool false, V.bool false, V.bool false, V.bool false, V.bool false, V.bool false, V.bool false, V.bool false, V.bool false, V.bool false, V.bool false, V.bool false, V.bool false, V.bool false, V.bool false, V.bool false, V.bool false, V.bool false, V.bool false, V.bool false, V.bool false, V.bool false, V.bool false, V.bool false, V.bool false, V.bool false, V.bool false, V.bool false, V.bool false, V.bool false, V.bool false, V.bool false, V.bool false, V.bool false, V.bool false, V.bool false, V.bool false, V.bool false, V.bool false, V.bool false, V.bool false, V.bool false, V.bool false, V.bool false, V.bool false, V.bool false, V.bool false, V.bool false, V.bool false, V.bool false, V.bool false, V.bool false, V.bool false, V.bool false, V.bool false, V.bool false, V.bool false, V.bool false, V.bool false, V.bool false, V.bool false, V.bool false, V.bool false, V.bool false, V.bool false, V.bool false, V.bool false, V.bool false, V.bool false, V.bool false, V.bool false, V.bool false, V.bool false, V.bool false, V.bool false, V.bool false, V.bool false, V.bool false, V.bool false, V.bool false, V.bool false, V.bool false, V.bool false, V.bool false, V.bool false, V.bool false, V.bool false, V.bool false, V.bool false, V.bool false, V.bool false, V.bool false, V.bool false, V.bool false, V.bool false, V.bool false, V.bool false, V.bool false, V.bool false, V.bool false, V.bool false, V.bool false, V.bool false, V.bool false, V.bool false, V.bool false, V.bool false, V.bool false, V.bool false, V.bool false, V.bool false, V.bool false, V.bool false, V.bool false, V.bool false, V.bool false, V.bool false, V.bool false, V.bool false, V.bool false, V.bool false, V.bool false, V.bool false, V.bool false, V.bool false] := by kernel_rfl
@[simp] theorem T614 : arE Tryz.prog 186 = some (256, 1, false) := by kernel_rfl
@[simp] theorem T615 (i : Nat) : plE Tryz.prog 186 i = some (i * 1, 1) := plE_arr T614 i
@[simp] theorem T616 : allE Tryz.prog 186 = true := by kernel_rfl
@[simp] theorem T617 : tyE Tryz.prog 188 = some (1, false) := by kernel_rfl
@[simp] theorem T618 : zeroE Tryz.prog 188 = some [V.poi] := by kernel_rfl
@[simp] theorem T619 : tyE Tryz.prog 189 = some (1, false) := by kernel_rfl
@[simp] theorem T620 : zeroE Tryz.prog 189 = some [V.poi] := by kernel_rfl
@[simp] theorem T621 : tyE Tryz.prog 190 = some (1, false) := by kernel_rfl
@[simp] theorem T622 : zeroE Tryz.prog 190 = some [V.nilp] := by kernel_rfl
@[simp] theorem T623 : tyE Tryz.prog 191 = some (1, false) := by kernel_rfl
@[simp] theorem T624 : zeroE Tryz.prog 191 = some [V.poi] := by kernel_rfl
@[simp] theorem T625 : tyE Tryz.prog 192 = some (1, false) := by kernel_rfl
@[simp] theorem T626 : zeroE Tryz.prog 192 = some [V.poi] := by kernel_rfl
@[simp] theorem T627 : tyE Tryz.prog 193 = some (1, false) := by kernel_rfl
@[simp] theorem T628 : zeroE Tryz.prog 193 = some [V.poi] := by kernel_rfl
@[simp] theorem T629 : tyE Tryz.prog 195 = some (1, false) := by kernel_rfl
@[simp] theorem T630 : zeroE Tryz.prog 195 = some [V.poi] := by kernel_rfl
@[simp] theorem T631 : tyE Tryz.prog 196 = some (256, true) := by kernel_rfl
@[simp] theorem T632 : zeroE Tryz.prog 196 = some [V.int .u8 0, V.int .u8 0, V.int .u8 0, V.int .u8 0, V.int .u8 0, V.int .u8 0, V.int .u8 0, V.int .u8 0, V.int .u8 0, V.int .u8 0, V.int .u8 0, V.int .u8 0, V.int .u8 0, V.int .u8 0, V.int .u8 0, V.int .u8 0, V.int .u8 0, V.int .u8 0, V.int .u8 0, V.int .u8 0, V.int .u8 0, V.int .u8 0, V.int .u8 0, V.int .u8 0, V.int .u8 0, V.int .u8 0, V.int .u8 0, V.int .u8 0, V.int .u8 0, V.int .u8 0, V.int .u8 0, V.int .u8 0, V.int .u8 0, V.int .u8 0, V.int .u8 0, V.int .u8 0, V.int .u8 0, V.int .u8 0, V.int .u8 0, V.int .u8 0, V.int .u8 0, V.int .u8 0, V.int .u8 0, V.int .u8 0, V.int .u8 0, V.int .u8 0, V.int .u8 0, V.int .u8 0, V.int .u8 0, V.int .u8 0, V.int .u8 0, V.int .u8 0, V.int .u8 0, V.int .u8 0, V.int .u8 0, V.int .u8 0, V.int .u8 0, V.int .u8 0, V.int .u8 0, V.int .u8 0, V.int .u8 0, V.int .u8 0, V.int .u8 0, V.int .u8 0, V.int .u8 0, V.int .u8 0, V.int .u8 0, V.int .u8 0, V.int .u8 0, V.int .u8 0, V.int .u8 0, V.int .u8 0, V.int .u8 0, V.int .u8 0, V.int .u8 0, V.int .u8 0, V.int .u8 0, V.int .u8 0, V.int .u8 0, V.int .u8 0, V.int .u8 0, V.int .u8 0, V.int .u8 0, V.int .u8 0, V.int .u8 0, V.int .u8 0, V.int .u8 0, V.int .u8 0, V.int .u8 0, V.int .u8 0, V.int .u8 0, V.int .u8 0, V.int .u8 0, V.int .u8 0, V.int .u8 0, V.int .u8 0, V.int .u8 0, V.int .u8 0, V.int .u8 0, V.int .u8 0, V.int .u8 0, V.int .u8 0, V.int .u8 0, V.int .u8 0, V.int .u8 0, V.int .u8 0, V.int .u8 0, V.int .u8 0, V.int .u8 0, V.int .u8 0, V.int .u8 0, V.int .u8 0, V.int .u8 0, V.int .u8 0, V.int .u8 0, V.int .u8 0, V.int .u8 0, V.int .u8 0, V.int .u8 0, V.int .u8 0, V.int .u8 0, V.int .u8 0, V.int .u8 0, V.int .u8 0, V.int .u8 0, V.int .u8 0, V.int .u8 0, V.int .u8 0, V.int .u8 0, V.int .u8 0, V.int .u8 0, V.int .u8 0, V.int .u8 0, V.int .u8 0, V.int .u8 0, V.int .u8 0, V.int .u8 0, V.int .u8 0, V.int .u8 0, V.int .u8 0, V.int .u8 0, V.int .u8 0, V.int .u8 0, V.int .u8 0, V.int .u8 0, V.int .u8 0, V.int .u8 0, V.int .u8 0, V.int .u8 0, V.int .u8 0, V.int .u8 0, V.int .u8 0, V.int .u8 0, V.int .u8 0, V.int .u8 0, V.int .u8 0, V.int .u8 0, V.int .u8 0, V.int .u8 0, V.int .u8 0, V.int .u8 0, V.int .u8 0, V.int .u8 0, V.int .u8 0, V.int .u8 0, V.int .u8 0, V.int .u8 0, V.int .u8 0, V.int .u8 0, V.int .u8 0, V.int .u8 0, V.int .u8 0, V.int .u8 0, V.int .u8 0, V.int .u8 0, V.int .u8 0, V.int .u8 0, V.int .u8 0, V.int .u8 0, V.int .u8 0, V.int .u8 0, V.int .u8 0, V.int .u8 0, V.int .u8 0, V.int .u8 0, V.int .u8 0, V.int .u8 0, V.int .u8 0, V.int .u8 0, V.int .u8 0, V.int .u8 0, V.int .u8 0, V.int .u8 0, V.int .u8 0, V.int .u8 0, V.int .u8 0, V.int .u8 0, V.int .u8 0, V.int .u8 0, V.int .u8 0, V.int .u8 0, V.int .u8 0, V.int .u8 0, V.int .u8 0, V.int .u8 0, V.int .u8 0, V.int .u8 0, V.int .u8 0, V.int .u8 0, V.int .u8 0, V.int .u8 0, V.int .u8 0, V.int .u8 0, V.int .u8 0, V.int .u8 0, V.int .u8 0, V.int .u8 0, V.int .u8 0, V.int .u8 0, V.int .u8 0, V.int .u8 0, V.int .u8 0, V.int .u8 0, V.int .u8 0, V.int .u8 0, V.int .u8 0, V.int .u8 0, V.int .u8 0, V.int .u8 0, V.int .u8 0, V.int .u8 0, V.int .u8 0, V.int .u8 0, V.int .u8 0, V.int .u8 0, V.int .u8 0, V.int .u8 0, V.int .u8 0, V.int .u8 0, V.int .u8 0, V.int .u8 0, V.int .u8 0, V.int .u8 0, V.int .u8 0, V.int .u8 0, V.int .u8 0, V.int .u8 0, V.int .u8 0, V.int .u8 0, V.int .u8 0, V.int .u8 0, V.int .u8 0, V.int .u8 0, V.int .u8 0, V.int .u8 0, V.int .u8 0] := by kernel_rfl
@[simp] theorem T633 : arE Tryz.prog 196 = some (256, 1, false) := by kernel_rfl
@[simp] theorem T634 (i : Nat) : plE Tryz.prog 196 i = some (i * 1, 1) := plE_arr T633 i
@[simp] theorem T635 : allE Tryz.prog 196 = true := by kernel_rfl
@[simp] theorem T636 : tyE Tryz.prog 197 = some (2, true) := by kernel_rfl
@[simp] theorem T637 : zeroE Tryz.prog 197 = some [V.int .u8 0, V.int .u8 0] := by kernel_rfl
@[simp] theorem T638 : fldE Tryz.prog 197 0 = some (0, 1, false) := by kernel_rfl
@[simp] theorem T639 : plE Tryz.prog 197 0 = some (0, 1) := by kernel_rfl
@[simp] theorem T640 : fldE Tryz.prog 197 1 = some (1, 1, false) := by kernel_rfl
@[simp] theorem T641 : plE Tryz.prog 197 1 = some (1, 1) := by kernel_rfl
@[simp] theorem T642 : allE Tryz.prog 197 = true := by kernel_rfl
@[simp] theorem T643 : tyE Tryz.prog 198 = some (2, true) := by kernel_rfl
@[simp] theorem T644 : zeroE Tryz.prog 198 = some [V.int .u8 0, V.int .u8 0] := by kernel_rfl
@[simp] theorem T645 : fldE Tryz.prog 198 0 = some (0, 1, false) := by kernel_rfl
@[simp] theorem T646 : plE Tryz.prog 198 0 = some (0, 1) := by kernel_rfl
@[simp] theorem T647 : fldE Tryz.prog 198 1 = some (1, 1, false) := by kernel_rfl
@[simp] theorem T648 : plE Tryz.prog 198 1 = some (1, 1) := by kernel_rfl
@[simp] theorem T649 : allE Tryz.prog 198 = true := by kernel_rfl
@[simp] theorem T650 : tyE Tryz.prog 199 = some (32, true) := by kernel_rfl
@[simp] theorem T651 : zeroE Tryz.prog 199 = some [V.int .u8 0, V.int .u8 0, V.int .u8 0, V.int .u8 0, V.int .u8 0, V.int .u8 0, V.int .u8 0, V.int .u8 0, V.int .u8 0, V.int .u8 0, V.int .u8 0, V.int .u8 0, V.int .u8 0, V.int .u8 0, V.int .u8 0, V.int .u8 0, V.int .u8 0, V.int .u8 0, V.int .u8 0, V.int .u8 0, V.int .u8 0, V.int .u8 0, V.int .u8 0, V.int .u8 0, V.int .u8 0, V.int .u8 0, V.int .u8 0, V.int .u8 0, V.int .u8 0, V.int .u8 0, V.int .u8 0, V.int .u8 0] := by kernel_rfl
@[simp] theorem T652 : arE Tryz.prog 199 = some (16, 2, true) := by kernel_rfl
@[simp] theorem T653 (i : Nat) : plE Tryz.prog 199 i = some (i * 2, 2) := plE_arr T652 i
@[simp] theorem T654 : allE Tryz.prog 199 = true := by kernel_rfl
@[simp] theorem T655 : tyE Tryz.prog 200 = some (4, true) := by kernel_rfl
@[simp] theorem T656 : zeroE Tryz.prog 200 = some [V.nilp, V.nilp, V.nilp, V.str []] := by kernel_rfl
@[simp] theorem T657 : fldE Tryz.prog 200 0 = some (0, 1, false) := by kernel_rfl
@[simp] theorem T658 : plE Tryz.prog 200 0 = some (0, 1) := by kernel_rfl
@[simp] theorem T659 : fldE Tryz.prog 200 1 = some (1, 1, false) := by kernel_rfl
@[simp] theorem T660 : plE Tryz.prog 200 1 = some (1, 1) := by kernel_rfl
@[simp] theorem T661 : fldE Tryz.prog 200 2 = some (2, 1, false) := by kernel_rfl
@[simp] theorem T662 : plE Tryz.prog 200 2 = some (2, 1) := by kernel_rfl
@[simp] theorem T663 : fldE Tryz.prog 200 3 = some (3, 1, false) := by kernel_rfl
@[simp] theorem T664 : plE Tryz.prog 200 3 = some (3, 1) := by kernel_rfl
@[simp] theorem T665 : allE Tryz.prog 200 = true := by kernel_rfl
@[simp] theorem T666 : tyE Tryz.prog 201 = some (4, true) := by kernel_rfl
@[simp] theorem T667 : zeroE Tryz.prog 201 = some [V.nilp, V.nilp, V.nilp, V.str []] := by kernel_rfl
@[simp] theorem T668 : fldE Tryz.prog 201 0 = some (0, 1, false) := by kernel_rfl
@[simp] theorem T669 : plE Tryz.prog 201 0 = some (0, 1) := by kernel_rfl
@[simp] theorem T670 : fldE Tryz.prog 201 1 = some (1, 1, false) := by kernel_rfl
@[simp] theorem T671 : plE Tryz.prog 201 1 = some (1, 1) := by kernel_rfl
@[simp] theorem T672 : fldE Tryz.prog 201 2 = some (2, 1, false) := by kernel_rfl
@[simp] theorem T673 : plE Tryz.prog 201 2 = some (2, 1) := by kernel_rfl
@[simp] theorem T674 : fldE Tryz.prog 201 3 = some (3, 1, false) := by kernel_rfl
@[simp] theorem T675 : plE Tryz.prog 201 3 = some (3, 1) := by kernel_rfl
@[simp] theorem T676 : allE Tryz.prog 201 = true := by kernel_rfl
@[simp] theorem T677 : tyE Tryz.prog 202 = some (0, true) := by kernel_rfl
@[simp] theorem T678 : zeroE Tryz.prog 202 = some [] := by kernel_rfl
@[simp] theorem T679 : arE Tryz.prog 202 = some (0, 1, false) := by kernel_rfl
@[simp] theorem T680 (i : Nat) : plE Tryz.prog 202 i = some (i * 1, 1) := plE_arr T679 i
@[simp] theorem T681 : allE Tryz.prog 202 = true := by kernel_rfl
@[simp] theorem T682 : tyE Tryz.prog 203 = some (0, true) := by kernel_rfl
@[simp] theorem T683 : zeroE Tryz.prog 203 = some [] := by kernel_rfl
@[simp] theorem T684 : plE Tryz.prog 203 0 = some (0, 0) := by kernel_rfl
@[simp] theorem T685 : allE Tryz.prog 203 = true := by kernel_rfl
@[simp] theorem T686 : tyE Tryz.prog 204 = some (0, true) := by kernel_rfl
@[simp] theorem T687 : zeroE Tryz.prog 204 = some [] := by kernel_rfl
@[simp] theorem T688 : plE Tryz.prog 204 0 = some (0, 0) := by kernel_rfl
@[simp] theorem T689 : allE Tryz.prog 204 = true := by kernel_rfl
@[simp] theorem T690 : byE Tryz.prog 205 = true := by kernel_rfl
@[simp] theorem T691 : tyE Tryz.prog 205 = some (1, false) := by kernel_rfl
@[simp] theorem T692 : zeroE Tryz.prog 205 = some [V.int .u8 0] := by kernel_rfl
@[simp] theorem T693 : isInt Tryz.prog 205 = some .u8 := by kernel_rfl
@[simp] theorem T694 : byE Tryz.prog 206 = true := by kernel_rfl
@[simp] theorem T695 : tyE Tryz.prog 206 = some (1, false) := by kernel_rfl
@[simp] theorem T696 : zeroE Tryz.prog 206 = some [V.int .u8 0] := by kernel_rfl
@[simp] theorem T697 : isInt Tryz.prog 206 = some .u8 := by kernel_rfl
@[simp] theorem T698 : tyE Tryz.prog 207 = some (1, false) := by kernel_rfl
@[simp] theorem T699 : zeroE Tryz.prog 207 = some [V.poi] := by kernel_rfl
@[simp] theorem T700 : tyE Tryz.prog 208 = some (1, false) := by kernel_rfl
@[simp] theorem T701 : zeroE Tryz.prog 208 = some [V.int .i32 0] := by kernel_rfl
@[simp] theorem T702 : isInt Tryz.prog 208 = some .i32 := by kernel_rfl
@[simp] theorem T703 : tyE Tryz.prog 209 = some (1, false) := by kernel_rfl
@[simp] theorem T704 : zeroE Tryz.prog 209 = some [V.int .i32 0] := by kernel_rfl
@[simp] theorem T705 : isInt Tryz.prog 209 = some .i32 := by kernel_rfl
@[simp] theorem T706 : tyE Tryz.prog 210 = some (11, true) := by kernel_rfl
@[simp] theorem T707 : zeroE Tryz.prog 210 = some [V.int .u64 0, V.int .u64 0, V.int .u32 0, V.int .u8 0, V.int .u8 0, V.int .u8 0, V.int .u8 0, V.poi, V.nilp, V.int .i32 0, V.int .i32 0] := by kernel_rfl
@[simp] theorem T708 : fldE Tryz.prog 210 0 = some (0, 1, false) := by kernel_rfl
@[simp] theorem T709 : plE Tryz.prog 210 0 = some (0, 1) := by kernel_rfl
@[simp] theorem T710 : fldE Tryz.prog 210 1 = some (1, 1, false) := by kernel_rfl
@[simp] theorem T711 : plE Tryz.prog 210 1 = some (1, 1) := by kernel_rfl
@[simp] theorem T712 : fldE Tryz.prog 210 2 = some (2, 1, false) := by kernel_rfl
@[simp] theorem T713 : plE Tryz.prog 210 2 = some (2, 1) := by kernel_rfl
@[simp] theorem T714 : fldE Tryz.prog 210 3 = some (3, 1, false) := by kernel_rfl
@[simp] theorem T715 : plE Tryz.prog 210 3 = some (3, 1) := by kernel_rfl
@[simp] theorem T716 : fldE Tryz.prog 210 4 = some (4, 1, false) := by kernel_rfl
@[simp] theorem T717 : plE Tryz.prog 210 4 = some (4, 1) := by kernel_rfl
@[simp] theorem T718 : fldE Tryz.prog 210 5 = some (5, 1, false) := by kernel_rfl
@[simp] theorem T719 : plE Tryz.prog 210 5 = some (5, 1) := by kernel_rfl
@[simp] theorem T720 : fldE Tryz.prog 210 6 = some (6, 1, false) := by kernel_rfl
@[simp] theorem T721 : plE Tryz.prog 210 6 = some (6, 1) := by kernel_rfl
@[simp] theorem T722 : fldE Tryz.prog 210 7 = some (7, 1, false) := by kernel_rfl
@[simp] theorem T723 : plE Tryz.prog 210 7 = some (7, 1) := by kernel_rfl
@[simp] theorem T724 : fldE Tryz.prog 210 8 = some (8, 1, false) := by kernel_rfl
@[simp] theorem T725 : plE Tryz.prog 210 8 = some (8, 1) := by kernel_rfl
@[simp] theorem T726 : fldE Tryz.prog 210 9 = some (9, 1, false) := by kernel_rfl
@[simp] theorem T727 : plE Tryz.prog 210 9 = some (9, 1) := by kernel_rfl
@[simp] theorem T728 : fldE Tryz.prog 210 10 = some (10, 1, false) := by kernel_rfl
@[simp] theorem T729 : plE Tryz.prog 210 10 = some (10, 1) := by kernel_rfl
@[simp] theorem T730 : allE Tryz.prog 210 = true := by kernel_rfl
@[simp] theorem T731 : tyE Tryz.prog 211 = some (11, true) := by kernel_rfl
@[simp] theorem T732 : zeroE Tryz.prog 211 = some [V.int .u64 0, V.int .u64 0, V.int .u32 0, V.int .u8 0, V.int .u8 0, V.int .u8 0, V.int .u8 0, V.poi, V.nilp, V.int .i32 0, V.int .i32 0] := by kernel_rfl
@[simp] theorem T733 : fldE Tryz.prog 211 0 = some (0, 1, false) := by kernel_rfl
@[simp] theorem T734 : plE Tryz.prog 211 0 = some (0, 1) := by kernel_rfl
@[simp] theorem T735 : fldE Tryz.prog 211 1 = some (1, 1, false) := by kernel_rfl
@[simp] theorem T736 : plE Tryz.prog 211 1 = some (1, 1) := by kernel_rfl
@[simp] theorem T737 : fldE Tryz.prog 211 2 = some (2, 1, false) := by kernel_rfl
@[simp] theorem T738 : plE Tryz.prog 211 2 = some (2, 1) := by kernel_rfl
@[simp] theorem T739 : fldE Tryz.prog 211 3 = some (3, 1, false) := by kernel_rfl
@[simp] theorem T740 : plE Tryz.prog 211 3 = some (3, 1) := by kernel_rfl
@[simp] theorem T741 : fldE Tryz.prog 211 4 = some (4, 1, false) := by kernel_rfl
@[simp] theorem T742 : plE Tryz.prog 211 4 = some (4, 1) := by kernel_rfl
@[simp] theorem T743 : fldE Tryz.prog 211 5 = some (5, 1, false) := by kernel_rfl
@[simp] theorem T744 : plE Tryz.prog 211 5 = some (5, 1) := by kernel_rfl
@[simp] theorem T745 : fldE Tryz.prog 211 6 = some (6, 1, false) := by kernel_rfl
@[simp] theorem T746 : plE Tryz.prog 211 6 = some (6, 1) := by kernel_rfl
@[simp] theorem T747 : fldE Tryz.prog 211 7 = some (7, 1, false) := by kernel_rfl
@[simp] theorem T748 : plE Tryz.prog 211 7 = some (7, 1) := by kernel_rfl
@[simp] theorem T749 : fldE Tryz.prog 211 8 = some (8, 1, false) := by kernel_rfl
@[simp] theorem T750 : plE Tryz.prog 211 8 = some (8, 1) := by kernel_rfl
@[simp] theorem T751 : fldE Tryz.prog 211 9 = some (9, 1, false) := by kernel_rfl
@[simp] theorem T752 : plE Tryz.prog 211 9 = some (9, 1) := by kernel_rfl
@[simp] theorem T753 : fldE Tryz.prog 211 10 = some (10, 1, false) := by kernel_rfl
@[simp] theorem T754 : plE Tryz.prog 211 10 = some (10, 1) := by kernel_rfl
@[simp] theorem T755 : allE Tryz.prog 211 = true := by kernel_rfl
end Go.Proofs.YtjlbpkokdlggiaaGreatDoor
