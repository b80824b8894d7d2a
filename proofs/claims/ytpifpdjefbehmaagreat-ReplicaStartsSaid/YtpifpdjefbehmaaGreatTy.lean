/- Closed facts on the types of the translation, by program (gentypes.py). -/
import Derived.Test.YtpifpdjefbehmaaGreatGlo
import Derived.Test.YtpifpdjefbehmaaGreatProg
import Derived.KernelRfl
namespace Go.Proofs.YtpifpdjefbehmaaGreat
open Go.Ab
@[simp] theorem T0 : tyE Tryz.prog 1 = some (1, false) := by kernel_rfl
@[simp] theorem T1 : zeroE Tryz.prog 1 = some [V.poi] := by kernel_rfl
@[simp] theorem T2 : tyE Tryz.prog 2 = some (1, false) := by kernel_rfl
@[simp] theorem T3 : zeroE Tryz.prog 2 = some [V.int .i64 0] := by kernel_rfl
@[simp] theorem T4 : isInt Tryz.prog 2 = some .i64 := by kernel_rfl
@[simp] theorem T5 : tyE Tryz.prog 3 = some (1, false) := by kernel_rfl
@[simp] theorem T6 : zeroE Tryz.prog 3 = some [V.int .i64 0] := by kernel_rfl
@[simp] theorem T7 : isInt Tryz.prog 3 = some .i64 := by kernel_rfl
@[simp] theorem T8 : tyE Tryz.prog 4 = some (1, false) := by kernel_rfl
@[simp] theorem T9 : zeroE Tryz.prog 4 = some [V.bool false] := by kernel_rfl
@[simp] theorem T10 : byE Tryz.prog 5 = true := by kernel_rfl
@[simp] theorem T11 : tyE Tryz.prog 5 = some (1, false) := by kernel_rfl
@[simp] theorem T12 : zeroE Tryz.prog 5 = some [V.int .u8 0] := by kernel_rfl
@[simp] theorem T13 : isInt Tryz.prog 5 = some .u8 := by kernel_rfl
@[simp] theorem T14 : byE Tryz.prog 6 = true := by kernel_rfl
@[simp] theorem T15 : tyE Tryz.prog 6 = some (1, false) := by kernel_rfl
@[simp] theorem T16 : zeroE Tryz.prog 6 = some [V.int .u8 0] := by kernel_rfl
@[simp] theorem T17 : isInt Tryz.prog 6 = some .u8 := by kernel_rfl
@[simp] theorem T18 : tyE Tryz.prog 7 = some (4, true) := by kernel_rfl
@[simp] theorem T19 : zeroE Tryz.prog 7 = some [V.int .i64 0, V.int .i64 0, V.bool false, V.int .u8 0] := by kernel_rfl
@[simp] theorem T20 : fldE Tryz.prog 7 0 = some (0, 1, false) := by kernel_rfl
@[simp] theorem T21 : plE Tryz.prog 7 0 = some (0, 1) := by kernel_rfl
@[simp] theorem T22 : fldE Tryz.prog 7 1 = some (1, 1, false) := by kernel_rfl
@[simp] theorem T23 : plE Tryz.prog 7 1 = some (1, 1) := by kernel_rfl
@[simp] theorem T24 : fldE Tryz.prog 7 2 = some (2, 1, false) := by kernel_rfl
@[simp] theorem T25 : plE Tryz.prog 7 2 = some (2, 1) := by kernel_rfl
@[simp] theorem T26 : fldE Tryz.prog 7 3 = some (3, 1, false) := by kernel_rfl
@[simp] theorem T27 : plE Tryz.prog 7 3 = some (3, 1) := by kernel_rfl
@[simp] theorem T28 : allE Tryz.prog 7 = true := by kernel_rfl
@[simp] theorem T29 : tyE Tryz.prog 8 = some (4, true) := by kernel_rfl
@[simp] theorem T30 : zeroE Tryz.prog 8 = some [V.int .i64 0, V.int .i64 0, V.bool false, V.int .u8 0] := by kernel_rfl
@[simp] theorem T31 : fldE Tryz.prog 8 0 = some (0, 1, false) := by kernel_rfl
@[simp] theorem T32 : plE Tryz.prog 8 0 = some (0, 1) := by kernel_rfl
@[simp] theorem T33 : fldE Tryz.prog 8 1 = some (1, 1, false) := by kernel_rfl
@[simp] theorem T34 : plE Tryz.prog 8 1 = some (1, 1) := by kernel_rfl
@[simp] theorem T35 : fldE Tryz.prog 8 2 = some (2, 1, false) := by kernel_rfl
@[simp] theorem T36 : plE Tryz.prog 8 2 = some (2, 1) := by kernel_rfl
@[simp] theorem T37 : fldE Tryz.prog 8 3 = some (3, 1, false) := by kernel_rfl
@[simp] theorem T38 : plE Tryz.prog 8 3 = some (3, 1) := by kernel_rfl
@[simp] theorem T39 : allE Tryz.prog 8 = true := by kernel_rfl
@[simp] theorem T40 : tyE Tryz.prog 9 = some (1, false) := by kernel_rfl
@[simp] theorem T41 : zeroE Tryz.prog 9 = some [V.str []] := by kernel_rfl
@[simp] theorem T42 : slE Tryz.prog 9 = none := by kernel_rfl
@[simp] theorem T43 : isStr Tryz.prog 9 = true := by kernel_rfl
@[simp] theorem T44 : tyE Tryz.prog 10 = some (1, false) := by kernel_rfl
@[simp] theorem T45 : zeroE Tryz.prog 10 = some [V.str []] := by kernel_rfl
@[simp] theorem T46 : slE Tryz.prog 10 = none := by kernel_rfl
@[simp] theorem T47 : isStr Tryz.prog 10 = true := by kernel_rfl
@[simp] theorem T48 : tyE Tryz.prog 11 = some (1, false) := by kernel_rfl
@[simp] theorem T49 : zeroE Tryz.prog 11 = some [V.str []] := by kernel_rfl
@[simp] theorem T50 : slE Tryz.prog 11 = none := by kernel_rfl
@[simp] theorem T51 : isStr Tryz.prog 11 = true := by kernel_rfl
@[simp] theorem T52 : tyE Tryz.prog 12 = some (1, false) := by kernel_rfl
@[simp] theorem T53 : zeroE Tryz.prog 12 = some [V.int .u64 0] := by kernel_rfl
@[simp] theorem T54 : isInt Tryz.prog 12 = some .u64 := by kernel_rfl
@[simp] theorem T55 : tyE Tryz.prog 13 = some (2, true) := by kernel_rfl
@[simp] theorem T56 : zeroE Tryz.prog 13 = some [V.str [], V.int .u64 0] := by kernel_rfl
@[simp] theorem T57 : fldE Tryz.prog 13 0 = some (0, 1, false) := by kernel_rfl
@[simp] theorem T58 : plE Tryz.prog 13 0 = some (0, 1) := by kernel_rfl
@[simp] theorem T59 : fldE Tryz.prog 13 1 = some (1, 1, false) := by kernel_rfl
@[simp] theorem T60 : plE Tryz.prog 13 1 = some (1, 1) := by kernel_rfl
@[simp] theorem T61 : allE Tryz.prog 13 = true := by kernel_rfl
@[simp] theorem T62 : tyE Tryz.prog 14 = some (2, true) := by kernel_rfl
@[simp] theorem T63 : zeroE Tryz.prog 14 = some [V.str [], V.int .u64 0] := by kernel_rfl
@[simp] theorem T64 : fldE Tryz.prog 14 0 = some (0, 1, false) := by kernel_rfl
@[simp] theorem T65 : plE Tryz.prog 14 0 = some (0, 1) := by kernel_rfl
@[simp] theorem T66 : fldE Tryz.prog 14 1 = some (1, 1, false) := by kernel_rfl
@[simp] theorem T67 : plE Tryz.prog 14 1 = some (1, 1) := by kernel_rfl
@[simp] theorem T68 : allE Tryz.prog 14 = true := by kernel_rfl
@[simp] theorem T69 : tyE Tryz.prog 15 = some (1, false) := by kernel_rfl
@[simp] theorem T70 : zeroE Tryz.prog 15 = some [V.nilp] := by kernel_rfl
@[simp] theorem T71 : tyE Tryz.prog 16 = some (1, false) := by kernel_rfl
@[simp] theorem T72 : zeroE Tryz.prog 16 = some [V.nilp] := by kernel_rfl
@[simp] theorem T73 : tyE Tryz.prog 17 = some (1, false) := by kernel_rfl
@[simp] theorem T74 : zeroE Tryz.prog 17 = some [V.nilp] := by kernel_rfl
@[simp] theorem T75 : tyE Tryz.prog 18 = some (1, true) := by kernel_rfl
@[simp] theorem T76 : zeroE Tryz.prog 18 = some [V.nilp] := by kernel_rfl
@[simp] theorem T77 : fldE Tryz.prog 18 0 = some (0, 1, false) := by kernel_rfl
@[simp] theorem T78 : plE Tryz.prog 18 0 = some (0, 1) := by kernel_rfl
@[simp] theorem T79 : allE Tryz.prog 18 = true := by kernel_rfl
@[simp] theorem T80 : tyE Tryz.prog 19 = some (1, true) := by kernel_rfl
@[simp] theorem T81 : zeroE Tryz.prog 19 = some [V.nilp] := by kernel_rfl
@[simp] theorem T82 : fldE Tryz.prog 19 0 = some (0, 1, false) := by kernel_rfl
@[simp] theorem T83 : plE Tryz.prog 19 0 = some (0, 1) := by kernel_rfl
@[simp] theorem T84 : allE Tryz.prog 19 = true := by kernel_rfl
@[simp] theorem T85 : tyE Tryz.prog 20 = some (1, false) := by kernel_rfl
@[simp] theorem T86 : zeroE Tryz.prog 20 = some [V.poi] := by kernel_rfl
@[simp] theorem T87 : tyE Tryz.prog 21 = some (1, false) := by kernel_rfl
@[simp] theorem T88 : zeroE Tryz.prog 21 = some [V.int .i32 0] := by kernel_rfl
@[simp] theorem T89 : isInt Tryz.prog 21 = some .i32 := by kernel_rfl
@[simp] theorem T90 : tyE Tryz.prog 22 = some (1, false) := by kernel_rfl
@[simp] theorem T91 : zeroE Tryz.prog 22 = some [V.int .u32 0] := by kernel_rfl
@[simp] theorem T92 : isInt Tryz.prog 22 = some .u32 := by kernel_rfl
@[simp] theorem T93 : tyE Tryz.prog 23 = some (16, true) := by kernel_rfl
@[simp] theorem T94 : zeroE Tryz.prog 23 = some [V.int .u32 0, V.int .u32 0, V.int .u32 0, V.int .u32 0, V.int .u32 0, V.int .u32 0, V.int .u32 0, V.int .u32 0, V.int .u32 0, V.int .u32 0, V.int .u32 0, V.int .u32 0, V.int .u32 0, V.int .u32 0, V.int .u32 0, V.int .u32 0] := by kernel_rfl
@[simp] theorem T95 : arE Tryz.prog 23 = some (16, 1, false) := by kernel_rfl
@[simp] theorem T96 (i : Nat) : plE Tryz.prog 23 i = some (i * 1, 1) := plE_arr T95 i
@[simp] theorem T97 : allE Tryz.prog 23 = true := by kernel_rfl
@[simp] theorem T98 : tyE Tryz.prog 24 = some (8, true) := by kernel_rfl
@[simp] theorem T99 : zeroE Tryz.prog 24 = some [V.int .u32 0, V.int .u32 0, V.int .u32 0, V.int .u32 0, V.int .u32 0, V.int .u32 0, V.int .u32 0, V.int .u32 0] := by kernel_rfl
@[simp] theorem T100 : arE Tryz.prog 24 = some (8, 1, false) := by kernel_rfl
@[simp] theorem T101 (i : Nat) : plE Tryz.prog 24 i = some (i * 1, 1) := plE_arr T100 i
@[simp] theorem T102 : allE Tryz.prog 24 = true := by kernel_rfl
@[simp] theorem T103 : tyE Tryz.prog 25 = some (25, true) := by kernel_rfl
@[simp] theorem T104 : zeroE Tryz.prog 25 = some [V.int .u32 0, V.int .u32 0, V.int .u32 0, V.int .u32 0, V.int .u32 0, V.int .u32 0, V.int .u32 0, V.int .u32 0, V.int .u32 0, V.int .u32 0, V.int .u32 0, V.int .u32 0, V.int .u32 0, V.int .u32 0, V.int .u32 0, V.int .u32 0, V.int .u32 0, V.int .u32 0, V.int .u32 0, V.int .u32 0, V.int .u32 0, V.int .u32 0, V.int .u32 0, V.int .u32 0, V.int .u32 0] := by kernel_rfl
@[simp] theorem T105 : fldE Tryz.prog 25 0 = some (0, 16, true) := by kernel_rfl
@[simp] theorem T106 : plE Tryz.prog 25 0 = some (0, 16) := by kernel_rfl
@[simp] theorem T107 : fldE Tryz.prog 25 1 = some (16, 1, false) := by kernel_rfl
@[simp] theorem T108 : plE Tryz.prog 25 1 = some (16, 1) := by kernel_rfl
@[simp] theorem T109 : fldE Tryz.prog 25 2 = some (17, 8, true) := by kernel_rfl
@[simp] theorem T110 : plE Tryz.prog 25 2 = some (17, 8) := by kernel_rfl
@[simp] theorem T111 : allE Tryz.prog 25 = true := by kernel_rfl
@[simp] theorem T112 : tyE Tryz.prog 26 = some (25, true) := by kernel_rfl
@[simp] theorem T113 : zeroE Tryz.prog 26 = some [V.int .u32 0, V.int .u32 0, V.int .u32 0, V.int .u32 0, V.int .u32 0, V.int .u32 0, V.int .u32 0, V.int .u32 0, V.int .u32 0, V.int .u32 0, V.int .u32 0, V.int .u32 0, V.int .u32 0, V.int .u32 0, V.int .u32 0, V.int .u32 0, V.int .u32 0, V.int .u32 0, V.int .u32 0, V.int .u32 0, V.int .u32 0, V.int .u32 0, V.int .u32 0, V.int .u32 0, V.int .u32 0] := by kernel_rfl
@[simp] theorem T114 : fldE Tryz.prog 26 0 = some (0, 16, true) := by kernel_rfl
@[simp] theorem T115 : plE Tryz.prog 26 0 = some (0, 16) := by kernel_rfl
@[simp] theorem T116 : fldE Tryz.prog 26 1 = some (16, 1, false) := by kernel_rfl
@[simp] theorem T117 : plE Tryz.prog 26 1 = some (16, 1) := by kernel_rfl
@[simp] theorem T118 : fldE Tryz.prog 26 2 = some (17, 8, true) := by kernel_rfl
@[simp] theorem T119 : plE Tryz.prog 26 2 = some (17, 8) := by kernel_rfl
@[simp] theorem T120 : allE Tryz.prog 26 = true := by kernel_rfl
@[simp] theorem T121 : eqE Tryz.prog 26 = some [.i, .i, .i, .i, .i, .i, .i, .i, .i, .i, .i, .i, .i, .i, .i, .i, .i, .i, .i, .i, .i, .i, .i, .i, .i] := by kernel_rfl
@[simp] theorem T122 : tyE Tryz.prog 27 = some (1, false) := by kernel_rfl
@[simp] theorem T123 : zeroE Tryz.prog 27 = some [V.sl 0 true []] := by kernel_rfl
@[simp] theorem T124 : slE Tryz.prog 27 = some (22, 1, 4) := by kernel_rfl
@[simp] theorem T125 : tyE Tryz.prog 28 = some (1, true) := by kernel_rfl
@[simp] theorem T126 : zeroE Tryz.prog 28 = some [V.str []] := by kernel_rfl
@[simp] theorem T127 : fldE Tryz.prog 28 0 = some (0, 1, false) := by kernel_rfl
@[simp] theorem T128 : plE Tryz.prog 28 0 = some (0, 1) := by kernel_rfl
@[simp] theorem T129 : allE Tryz.prog 28 = true := by kernel_rfl
@[simp] theorem T130 : tyE Tryz.prog 29 = some (1, true) := by kernel_rfl
@[simp] theorem T131 : zeroE Tryz.prog 29 = some [V.str []] := by kernel_rfl
@[simp] theorem T132 : fldE Tryz.prog 29 0 = some (0, 1, false) := by kernel_rfl
@[simp] theorem T133 : plE Tryz.prog 29 0 = some (0, 1) := by kernel_rfl
@[simp] theorem T134 : allE Tryz.prog 29 = true := by kernel_rfl
@[simp] theorem T135 : eqE Tryz.prog 29 = some [.s] := by kernel_rfl
@[simp] theorem T136 : tyE Tryz.prog 30 = some (3, true) := by kernel_rfl
@[simp] theorem T137 : zeroE Tryz.prog 30 = some [V.bool false, V.int .u32 0, V.bool false] := by kernel_rfl
@[simp] theorem T138 : fldE Tryz.prog 30 0 = some (0, 1, false) := by kernel_rfl
@[simp] theorem T139 : plE Tryz.prog 30 0 = some (0, 1) := by kernel_rfl
@[simp] theorem T140 : fldE Tryz.prog 30 1 = some (1, 1, false) := by kernel_rfl
@[simp] theorem T141 : plE Tryz.prog 30 1 = some (1, 1) := by kernel_rfl
@[simp] theorem T142 : fldE Tryz.prog 30 2 = some (2, 1, false) := by kernel_rfl
@[simp] theorem T143 : plE Tryz.prog 30 2 = some (2, 1) := by kernel_rfl
@[simp] theorem T144 : allE Tryz.prog 30 = true := by kernel_rfl
@[simp] theorem T145 : tyE Tryz.prog 31 = some (3, true) := by kernel_rfl
@[simp] theorem T146 : zeroE Tryz.prog 31 = some [V.bool false, V.int .u32 0, V.bool false] := by kernel_rfl
@[simp] theorem T147 : fldE Tryz.prog 31 0 = some (0, 1, false) := by kernel_rfl
@[simp] theorem T148 : plE Tryz.prog 31 0 = some (0, 1) := by kernel_rfl
@[simp] theorem T149 : fldE Tryz.prog 31 1 = some (1, 1, false) := by kernel_rfl
@[simp] theorem T150 : plE Tryz.prog 31 1 = some (1, 1) := by kernel_rfl
@[simp] theorem T151 : fldE Tryz.prog 31 2 = some (2, 1, false) := by kernel_rfl
@[simp] theorem T152 : plE Tryz.prog 31 2 = some (2, 1) := by kernel_rfl
@[simp] theorem T153 : allE Tryz.prog 31 = true := by kernel_rfl
@[simp] theorem T154 : eqE Tryz.prog 31 = some [.b, .i, .b] := by kernel_rfl
@[simp] theorem T155 : tyE Tryz.prog 32 = some (8, true) := by kernel_rfl
@[simp] theorem T156 : zeroE Tryz.prog 32 = some [V.int .u32 0, V.int .u32 0, V.int .u32 0, V.int .i64 0, V.int .i64 0, V.int .u32 0, V.int .u32 0, V.str []] := by kernel_rfl
@[simp] theorem T157 : fldE Tryz.prog 32 0 = some (0, 1, false) := by kernel_rfl
@[simp] theorem T158 : plE Tryz.prog 32 0 = some (0, 1) := by kernel_rfl
@[simp] theorem T159 : fldE Tryz.prog 32 1 = some (1, 1, false) := by kernel_rfl
@[simp] theorem T160 : plE Tryz.prog 32 1 = some (1, 1) := by kernel_rfl
@[simp] theorem T161 : fldE Tryz.prog 32 2 = some (2, 1, false) := by kernel_rfl
@[simp] theorem T162 : plE Tryz.prog 32 2 = some (2, 1) := by kernel_rfl
@[simp] theorem T163 : fldE Tryz.prog 32 3 = some (3, 1, false) := by kernel_rfl
@[simp] theorem T164 : plE Tryz.prog 32 3 = some (3, 1) := by kernel_rfl
@[simp] theorem T165 : fldE Tryz.prog 32 4 = some (4, 1, false) := by kernel_rfl
@[simp] theorem T166 : plE Tryz.prog 32 4 = some (4, 1) := by kernel_rfl
@[simp] theorem T167 : fldE Tryz.prog 32 5 = some (5, 1, false) := by kernel_rfl
@[simp] theorem T168 : plE Tryz.prog 32 5 = some (5, 1) := by kernel_rfl
@[simp] theorem T169 : fldE Tryz.prog 32 6 = some (6, 1, false) := by kernel_rfl
@[simp] theorem T170 : plE Tryz.prog 32 6 = some (6, 1) := by kernel_rfl
@[simp] theorem T171 : fldE Tryz.prog 32 7 = some (7, 1, false) := by kernel_rfl
@[simp] theorem T172 : plE Tryz.prog 32 7 = some (7, 1) := by kernel_rfl
@[simp] theorem T173 : allE Tryz.prog 32 = true := by kernel_rfl
@[simp] theorem T174 : tyE Tryz.prog 33 = some (8, true) := by kernel_rfl
@[simp] theorem T175 : zeroE Tryz.prog 33 = some [V.int .u32 0, V.int .u32 0, V.int .u32 0, V.int .i64 0, V.int .i64 0, V.int .u32 0, V.int .u32 0, V.str []] := by kernel_rfl
@[simp] theorem T176 : fldE Tryz.prog 33 0 = some (0, 1, false) := by kernel_rfl
@[simp] theorem T177 : plE Tryz.prog 33 0 = some (0, 1) := by kernel_rfl
@[simp] theorem T178 : fldE Tryz.prog 33 1 = some (1, 1, false) := by kernel_rfl
@[simp] theorem T179 : plE Tryz.prog 33 1 = some (1, 1) := by kernel_rfl
@[simp] theorem T180 : fldE Tryz.prog 33 2 = some (2, 1, false) := by kernel_rfl
@[simp] theorem T181 : plE Tryz.prog 33 2 = some (2, 1) := by kernel_rfl
@[simp] theorem T182 : fldE Tryz.prog 33 3 = some (3, 1, false) := by kernel_rfl
@[simp] theorem T183 : plE Tryz.prog 33 3 = some (3, 1) := by kernel_rfl
@[simp] theorem T184 : fldE Tryz.prog 33 4 = some (4, 1, false) := by kernel_rfl
@[simp] theorem T185 : plE Tryz.prog 33 4 = some (4, 1) := by kernel_rfl
@[simp] theorem T186 : fldE Tryz.prog 33 5 = some (5, 1, false) := by kernel_rfl
@[simp] theorem T187 : plE Tryz.prog 33 5 = some (5, 1) := by kernel_rfl
@[simp] theorem T188 : fldE Tryz.prog 33 6 = some (6, 1, false) := by kernel_rfl
@[simp] theorem T189 : plE Tryz.prog 33 6 = some (6, 1) := by kernel_rfl
@[simp] theorem T190 : fldE Tryz.prog 33 7 = some (7, 1, false) := by kernel_rfl
@[simp] theorem T191 : plE Tryz.prog 33 7 = some (7, 1) := by kernel_rfl
@[simp] theorem T192 : allE Tryz.prog 33 = true := by kernel_rfl
@[simp] theorem T193 : eqE Tryz.prog 33 = some [.i, .i, .i, .i, .i, .i, .i, .s] := by kernel_rfl
@[simp] theorem T194 : tyE Tryz.prog 34 = some (6, true) := by kernel_rfl
@[simp] theorem T195 : zeroE Tryz.prog 34 = some [V.int .u32 0, V.int .u32 0, V.bool false, V.int .u32 0, V.bool false, V.int .u32 0] := by kernel_rfl
@[simp] theorem T196 : fldE Tryz.prog 34 0 = some (0, 1, false) := by kernel_rfl
@[simp] theorem T197 : plE Tryz.prog 34 0 = some (0, 1) := by kernel_rfl
@[simp] theorem T198 : fldE Tryz.prog 34 1 = some (1, 1, false) := by kernel_rfl
@[simp] theorem T199 : plE Tryz.prog 34 1 = some (1, 1) := by kernel_rfl
@[simp] theorem T200 : fldE Tryz.prog 34 2 = some (2, 1, false) := by kernel_rfl
@[simp] theorem T201 : plE Tryz.prog 34 2 = some (2, 1) := by kernel_rfl
@[simp] theorem T202 : fldE Tryz.prog 34 3 = some (3, 1, false) := by kernel_rfl
@[simp] theorem T203 : plE Tryz.prog 34 3 = some (3, 1) := by kernel_rfl
@[simp] theorem T204 : fldE Tryz.prog 34 4 = some (4, 1, false) := by kernel_rfl
@[simp] theorem T205 : plE Tryz.prog 34 4 = some (4, 1) := by kernel_rfl
@[simp] theorem T206 : fldE Tryz.prog 34 5 = some (5, 1, false) := by kernel_rfl
@[simp] theorem T207 : plE Tryz.prog 34 5 = some (5, 1) := by kernel_rfl
@[simp] theorem T208 : allE Tryz.prog 34 = true := by kernel_rfl
@[simp] theorem T209 : tyE Tryz.prog 35 = some (6, true) := by kernel_rfl
@[simp] theorem T210 : zeroE Tryz.prog 35 = some [V.int .u32 0, V.int .u32 0, V.bool false, V.int .u32 0, V.bool false, V.int .u32 0] := by kernel_rfl
@[simp] theorem T211 : fldE Tryz.prog 35 0 = some (0, 1, false) := by kernel_rfl
@[simp] theorem T212 : plE Tryz.prog 35 0 = some (0, 1) := by kernel_rfl
@[simp] theorem T213 : fldE Tryz.prog 35 1 = some (1, 1, false) := by kernel_rfl
@[simp] theorem T214 : plE Tryz.prog 35 1 = some (1, 1) := by kernel_rfl
@[simp] theorem T215 : fldE Tryz.prog 35 2 = some (2, 1, false) := by kernel_rfl
@[simp] theorem T216 : plE Tryz.prog 35 2 = some (2, 1) := by kernel_rfl
@[simp] theorem T217 : fldE Tryz.prog 35 3 = some (3, 1, false) := by kernel_rfl
@[simp] theorem T218 : plE Tryz.prog 35 3 = some (3, 1) := by kernel_rfl
@[simp] theorem T219 : fldE Tryz.prog 35 4 = some (4, 1, false) := by kernel_rfl
@[simp] theorem T220 : plE Tryz.prog 35 4 = some (4, 1) := by kernel_rfl
@[simp] theorem T221 : fldE Tryz.prog 35 5 = some (5, 1, false) := by kernel_rfl
@[simp] theorem T222 : plE Tryz.prog 35 5 = some (5, 1) := by kernel_rfl
@[simp] theorem T223 : allE Tryz.prog 35 = true := by kernel_rfl
@[simp] theorem T224 : eqE Tryz.prog 35 = some [.i, .i, .b, .i, .b, .i] := by kernel_rfl
@[simp] theorem T225 : tyE Tryz.prog 36 = some (2, true) := by kernel_rfl
@[simp] theorem T226 : zeroE Tryz.prog 36 = some [V.int .u32 0, V.int .u32 0] := by kernel_rfl
@[simp] theorem T227 : fldE Tryz.prog 36 0 = some (0, 1, false) := by kernel_rfl
@[simp] theorem T228 : plE Tryz.prog 36 0 = some (0, 1) := by kernel_rfl
@[simp] theorem T229 : fldE Tryz.prog 36 1 = some (1, 1, false) := by kernel_rfl
@[simp] theorem T230 : plE Tryz.prog 36 1 = some (1, 1) := by kernel_rfl
@[simp] theorem T231 : allE Tryz.prog 36 = true := by kernel_rfl
@[simp] theorem T232 : tyE Tryz.prog 37 = some (2, true) := by kernel_rfl
@[simp] theorem T233 : zeroE Tryz.prog 37 = some [V.int .u32 0, V.int .u32 0] := by kernel_rfl
@[simp] theorem T234 : fldE Tryz.prog 37 0 = some (0, 1, false) := by kernel_rfl
@[simp] theorem T235 : plE Tryz.prog 37 0 = some (0, 1) := by kernel_rfl
@[simp] theorem T236 : fldE Tryz.prog 37 1 = some (1, 1, false) := by kernel_rfl
@[simp] theorem T237 : plE Tryz.prog 37 1 = some (1, 1) := by kernel_rfl
@[simp] theorem T238 : allE Tryz.prog 37 = true := by kernel_rfl
@[simp] theorem T239 : eqE Tryz.prog 37 = some [.i, .i] := by kernel_rfl
@[simp] theorem T240 : tyE Tryz.prog 38 = some (1, false) := by kernel_rfl
@[simp] theorem T241 : zeroE Tryz.prog 38 = some [V.int .u64 0] := by kernel_rfl
@[simp] theorem T242 : isInt Tryz.prog 38 = some .u64 := by kernel_rfl
@[simp] theorem T243 : tyE Tryz.prog 39 = some (49, true) := by kernel_rfl
@[simp] theorem T244 : zeroE Tryz.prog 39 = some [V.int .u32 0, V.int .u32 0, V.int .u32 0, V.int .u32 0, V.int .u32 0, V.int .u32 0, V.int .u32 0, V.int .u32 0, V.int .u32 0, V.int .u32 0, V.int .u32 0, V.int .u32 0, V.int .u32 0, V.int .u32 0, V.int .u32 0, V.int .u32 0, V.int .u32 0, V.int .u32 0, V.int .u32 0, V.int .u32 0, V.int .u32 0, V.int .u32 0, V.int .u32 0, V.int .u32 0, V.int .u32 0, V.sl 0 true [], V.str [], V.bool false, V.int .u32 0, V.bool false, V.int .u32 0, V.int .u32 0, V.int .u32 0, V.int .i64 0, V.int .i64 0, V.int .u32 0, V.int .u32 0, V.str [], V.int .u32 0, V.int .u32 0, V.bool false, V.int .u32 0, V.bool false, V.int .u32 0, V.int .u32 0, V.int .u32 0, V.int .u64 0, V.bool false, V.bool false] := by kernel_rfl
@[simp] theorem T245 : fldE Tryz.prog 39 0 = some (0, 25, true) := by kernel_rfl
@[simp] theorem T246 : plE Tryz.prog 39 0 = some (0, 25) := by kernel_rfl
@[simp] theorem T247 : fldE Tryz.prog 39 1 = some (25, 1, false) := by kernel_rfl
@[simp] theorem T248 : plE Tryz.prog 39 1 = some (25, 1) := by kernel_rfl
@[simp] theorem T249 : fldE Tryz.prog 39 2 = some (26, 1, true) := by kernel_rfl
@[simp] theorem T250 : plE Tryz.prog 39 2 = some (26, 1) := by kernel_rfl
@[simp] theorem T251 : fldE Tryz.prog 39 3 = some (27, 3, true) := by kernel_rfl
@[simp] theorem T252 : plE Tryz.prog 39 3 = some (27, 3) := by kernel_rfl
@[simp] theorem T253 : fldE Tryz.prog 39 4 = some (30, 8, true) := by kernel_rfl
@[simp] theorem T254 : plE Tryz.prog 39 4 = some (30, 8) := by kernel_rfl
@[simp] theorem T255 : fldE Tryz.prog 39 5 = some (38, 6, true) := by kernel_rfl
@[simp] theorem T256 : plE Tryz.prog 39 5 = some (38, 6) := by kernel_rfl
@[simp] theorem T257 : fldE Tryz.prog 39 6 = some (44, 2, true) := by kernel_rfl
@[simp] theorem T258 : plE Tryz.prog 39 6 = some (44, 2) := by kernel_rfl
@[simp] theorem T259 : fldE Tryz.prog 39 7 = some (46, 1, false) := by kernel_rfl
@[simp] theorem T260 : plE Tryz.prog 39 7 = some (46, 1) := by kernel_rfl
@[simp] theorem T261 : fldE Tryz.prog 39 8 = some (47, 1, false) := by kernel_rfl
@[simp] theorem T262 : plE Tryz.prog 39 8 = some (47, 1) := by kernel_rfl
@[simp] theorem T263 : fldE Tryz.prog 39 9 = some (48, 1, false) := by kernel_rfl
@[simp] theorem T264 : plE Tryz.prog 39 9 = some (48, 1) := by kernel_rfl
@[simp] theorem T265 : allE Tryz.prog 39 = true := by kernel_rfl
@[simp] theorem T266 : tyE Tryz.prog 40 = some (49, true) := by kernel_rfl
@[simp] theorem T267 : zeroE Tryz.prog 40 = some [V.int .u32 0, V.int .u32 0, V.int .u32 0, V.int .u32 0, V.int .u32 0, V.int .u32 0, V.int .u32 0, V.int .u32 0, V.int .u32 0, V.int .u32 0, V.int .u32 0, V.int .u32 0, V.int .u32 0, V.int .u32 0, V.int .u32 0, V.int .u32 0, V.int .u32 0, V.int .u32 0, V.int .u32 0, V.int .u32 0, V.int .u32 0, V.int .u32 0, V.int .u32 0, V.int .u32 0, V.int .u32 0, V.sl 0 true [], V.str [], V.bool false, V.int .u32 0, V.bool false, V.int .u32 0, V.int .u32 0, V.int .u32 0, V.int .i64 0, V.int .i64 0, V.int .u32 0, V.int .u32 0, V.str [], V.int .u32 0, V.int .u32 0, V.bool false, V.int .u32 0, V.bool false, V.int .u32 0, V.int .u32 0, V.int .u32 0, V.int .u64 0, V.bool false, V.bool false] := by kernel_rfl
@[simp] theorem T268 : fldE Tryz.prog 40 0 = some (0, 25, true) := by kernel_rfl
@[simp] theorem T269 : plE Tryz.prog 40 0 = some (0, 25) := by kernel_rfl
@[simp] theorem T270 : fldE Tryz.prog 40 1 = some (25, 1, false) := by kernel_rfl
@[simp] theorem T271 : plE Tryz.prog 40 1 = some (25, 1) := by kernel_rfl
@[simp] theorem T272 : fldE Tryz.prog 40 2 = some (26, 1, true) := by kernel_rfl
@[simp] theorem T273 : plE Tryz.prog 40 2 = some (26, 1) := by kernel_rfl
@[simp] theorem T274 : fldE Tryz.prog 40 3 = some (27, 3, true) := by kernel_rfl
@[simp] theorem T275 : plE Tryz.prog 40 3 = some (27, 3) := by kernel_rfl
@[simp] theorem T276 : fldE Tryz.prog 40 4 = some (30, 8, true) := by kernel_rfl
@[simp] theorem T277 : plE Tryz.prog 40 4 = some (30, 8) := by kernel_rfl
@[simp] theorem T278 : fldE Tryz.prog 40 5 = some (38, 6, true) := by kernel_rfl
@[simp] theorem T279 : plE Tryz.prog 40 5 = some (38, 6) := by kernel_rfl
@[simp] theorem T280 : fldE Tryz.prog 40 6 = some (44, 2, true) := by kernel_rfl
@[simp] theorem T281 : plE Tryz.prog 40 6 = some (44, 2) := by kernel_rfl
@[simp] theorem T282 : fldE Tryz.prog 40 7 = some (46, 1, false) := by kernel_rfl
@[simp] theorem T283 : plE Tryz.prog 40 7 = some (46, 1) := by kernel_rfl
@[simp] theorem T284 : fldE Tryz.prog 40 8 = some (47, 1, false) := by kernel_rfl
@[simp] theorem T285 : plE Tryz.prog 40 8 = some (47, 1) := by kernel_rfl
@[simp] theorem T286 : fldE Tryz.prog 40 9 = some (48, 1, false) := by kernel_rfl
@[simp] theorem T287 : plE Tryz.prog 40 9 = some (48, 1) := by kernel_rfl
@[simp] theorem T288 : allE Tryz.prog 40 = true := by kernel_rfl
@[simp] theorem T289 : tyE Tryz.prog 41 = some (1, false) := by kernel_rfl
@[simp] theorem T290 : zeroE Tryz.prog 41 = some [V.poi] := by kernel_rfl
@[simp] theorem T291 : tyE Tryz.prog 42 = some (1, false) := by kernel_rfl
@[simp] theorem T292 : zeroE Tryz.prog 42 = some [V.sl 0 true []] := by kernel_rfl
@[simp] theorem T293 : slE Tryz.prog 42 = some (116, 4, 40) := by kernel_rfl
@[simp] theorem T294 : tyE Tryz.prog 43 = some (1, false) := by kernel_rfl
@[simp] theorem T295 : zeroE Tryz.prog 43 = some [V.sl 0 true []] := by kernel_rfl
@[simp] theorem T296 : slE Tryz.prog 43 = some (108, 3, 32) := by kernel_rfl
@[simp] theorem T297 : tyE Tryz.prog 44 = some (52, true) := by kernel_rfl
@[simp] theorem T298 : zeroE Tryz.prog 44 = some [V.int .u32 0, V.int .u32 0, V.int .u32 0, V.int .u32 0, V.int .u32 0, V.int .u32 0, V.int .u32 0, V.int .u32 0, V.int .u32 0, V.int .u32 0, V.int .u32 0, V.int .u32 0, V.int .u32 0, V.int .u32 0, V.int .u32 0, V.int .u32 0, V.int .u32 0, V.int .u32 0, V.int .u32 0, V.int .u32 0, V.int .u32 0, V.int .u32 0, V.int .u32 0, V.int .u32 0, V.int .u32 0, V.sl 0 true [], V.str [], V.bool false, V.int .u32 0, V.bool false, V.int .u32 0, V.int .u32 0, V.int .u32 0, V.int .i64 0, V.int .i64 0, V.int .u32 0, V.int .u32 0, V.str [], V.int .u32 0, V.int .u32 0, V.bool false, V.int .u32 0, V.bool false, V.int .u32 0, V.int .u32 0, V.int .u32 0, V.int .u64 0, V.bool false, V.bool false, V.int .u32 0, V.sl 0 true [], V.sl 0 true []] := by kernel_rfl
@[simp] theorem T299 : fldE Tryz.prog 44 0 = some (0, 49, true) := by kernel_rfl
@[simp] theorem T300 : plE Tryz.prog 44 0 = some (0, 49) := by kernel_rfl
@[simp] theorem T301 : fldE Tryz.prog 44 1 = some (49, 1, false) := by kernel_rfl
@[simp] theorem T302 : plE Tryz.prog 44 1 = some (49, 1) := by kernel_rfl
@[simp] theorem T303 : fldE Tryz.prog 44 2 = some (50, 1, false) := by kernel_rfl
@[simp] theorem T304 : plE Tryz.prog 44 2 = some (50, 1) := by kernel_rfl
@[simp] theorem T305 : fldE Tryz.prog 44 3 = some (51, 1, false) := by kernel_rfl
@[simp] theorem T306 : plE Tryz.prog 44 3 = some (51, 1) := by kernel_rfl
@[simp] theorem T307 : allE Tryz.prog 44 = true := by kernel_rfl
@[simp] theorem T308 : tyE Tryz.prog 45 = some (52, true) := by kernel_rfl
@[simp] theorem T309 : zeroE Tryz.prog 45 = some [V.int .u32 0, V.int .u32 0, V.int .u32 0, V.int .u32 0, V.int .u32 0, V.int .u32 0, V.int .u32 0, V.int .u32 0, V.int .u32 0, V.int .u32 0, V.int .u32 0, V.int .u32 0, V.int .u32 0, V.int .u32 0, V.int .u32 0, V.int .u32 0, V.int .u32 0, V.int .u32 0, V.int .u32 0, V.int .u32 0, V.int .u32 0, V.int .u32 0, V.int .u32 0, V.int .u32 0, V.int .u32 0, V.sl 0 true [], V.str [], V.bool false, V.int .u32 0, V.bool false, V.int .u32 0, V.int .u32 0, V.int .u32 0, V.int .i64 0, V.int .i64 0, V.int .u32 0, V.int .u32 0, V.str [], V.int .u32 0, V.int .u32 0, V.bool false, V.int .u32 0, V.bool false, V.int .u32 0, V.int .u32 0, V.int .u32 0, V.int .u64 0, V.bool false, V.bool false, V.int .u32 0, V.sl 0 true [], V.sl 0 true []] := by kernel_rfl
@[simp] theorem T310 : fldE Tryz.prog 45 0 = some (0, 49, true) := by kernel_rfl
@[simp] theorem T311 : plE Tryz.prog 45 0 = some (0, 49) := by kernel_rfl
@[simp] theorem T312 : fldE Tryz.prog 45 1 = some (49, 1, false) := by kernel_rfl
@[simp] theorem T313 : plE Tryz.prog 45 1 = some (49, 1) := by kernel_rfl
@[simp] theorem T314 : fldE Tryz.prog 45 2 = some (50, 1, false) := by kernel_rfl
@[simp] theorem T315 : plE Tryz.prog 45 2 = some (50, 1) := by kernel_rfl
@[simp] theorem T316 : fldE Tryz.prog 45 3 = some (51, 1, false) := by kernel_rfl
@[simp] theorem T317 : plE Tryz.prog 45 3 = some (51, 1) := by kernel_rfl
@[simp] theorem T318 : allE Tryz.prog 45 = true := by kernel_rfl
@[simp] theorem T319 : tyE Tryz.prog 46 = some (52, true) := by kernel_rfl
@[simp] theorem T320 : zeroE Tryz.prog 46 = some [V.int .u32 0, V.int .u32 0, V.int .u32 0, V.int .u32 0, V.int .u32 0, V.int .u32 0, V.int .u32 0, V.int .u32 0, V.int .u32 0, V.int .u32 0, V.int .u32 0, V.int .u32 0, V.int .u32 0, V.int .u32 0, V.int .u32 0, V.int .u32 0, V.int .u32 0, V.int .u32 0, V.int .u32 0, V.int .u32 0, V.int .u32 0, V.int .u32 0, V.int .u32 0, V.int .u32 0, V.int .u32 0, V.sl 0 true [], V.str [], V.bool false, V.int .u32 0, V.bool false, V.int .u32 0, V.int .u32 0, V.int .u32 0, V.int .i64 0, V.int .i64 0, V.int .u32 0, V.int .u32 0, V.str [], V.int .u32 0, V.int .u32 0, V.bool false, V.int .u32 0, V.bool false, V.int .u32 0, V.int .u32 0, V.int .u32 0, V.int .u64 0, V.bool false, V.bool false, V.sl 0 true [], V.int .u64 0, V.int .u32 0] := by kernel_rfl
@[simp] theorem T321 : fldE Tryz.prog 46 0 = some (0, 49, true) := by kernel_rfl
@[simp] theorem T322 : plE Tryz.prog 46 0 = some (0, 49) := by kernel_rfl
@[simp] theorem T323 : fldE Tryz.prog 46 1 = some (49, 1, false) := by kernel_rfl
@[simp] theorem T324 : plE Tryz.prog 46 1 = some (49, 1) := by kernel_rfl
@[simp] theorem T325 : fldE Tryz.prog 46 2 = some (50, 1, false) := by kernel_rfl
@[simp] theorem T326 : plE Tryz.prog 46 2 = some (50, 1) := by kernel_rfl
@[simp] theorem T327 : fldE Tryz.prog 46 3 = some (51, 1, false) := by kernel_rfl
@[simp] theorem T328 : plE Tryz.prog 46 3 = some (51, 1) := by kernel_rfl
@[simp] theorem T329 : allE Tryz.prog 46 = true := by kernel_rfl
@[simp] theorem T330 : tyE Tryz.prog 47 = some (52, true) := by kernel_rfl
@[simp] theorem T331 : zeroE Tryz.prog 47 = some [V.int .u32 0, V.int .u32 0, V.int .u32 0, V.int .u32 0, V.int .u32 0, V.int .u32 0, V.int .u32 0, V.int .u32 0, V.int .u32 0, V.int .u32 0, V.int .u32 0, V.int .u32 0, V.int .u32 0, V.int .u32 0, V.int .u32 0, V.int .u32 0, V.int .u32 0, V.int .u32 0, V.int .u32 0, V.int .u32 0, V.int .u32 0, V.int .u32 0, V.int .u32 0, V.int .u32 0, V.int .u32 0, V.sl 0 true [], V.str [], V.bool false, V.int .u32 0, V.bool false, V.int .u32 0, V.int .u32 0, V.int .u32 0, V.int .i64 0, V.int .i64 0, V.int .u32 0, V.int .u32 0, V.str [], V.int .u32 0, V.int .u32 0, V.bool false, V.int .u32 0, V.bool false, V.int .u32 0, V.int .u32 0, V.int .u32 0, V.int .u64 0, V.bool false, V.bool false, V.sl 0 true [], V.int .u64 0, V.int .u32 0] := by kernel_rfl
@[simp] theorem T332 : fldE Tryz.prog 47 0 = some (0, 49, true) := by kernel_rfl
@[simp] theorem T333 : plE Tryz.prog 47 0 = some (0, 49) := by kernel_rfl
@[simp] theorem T334 : fldE Tryz.prog 47 1 = some (49, 1, false) := by kernel_rfl
@[simp] theorem T335 : plE Tryz.prog 47 1 = some (49, 1) := by kernel_rfl
@[simp] theorem T336 : fldE Tryz.prog 47 2 = some (50, 1, false) := by kernel_rfl
@[simp] theorem T337 : plE Tryz.prog 47 2 = some (50, 1) := by kernel_rfl
@[simp] theorem T338 : fldE Tryz.prog 47 3 = some (51, 1, false) := by kernel_rfl
@[simp] theorem T339 : plE Tryz.prog 47 3 = some (51, 1) := by kernel_rfl
@[simp] theorem T340 : allE Tryz.prog 47 = true := by kernel_rfl
@[simp] theorem T341 : tyE Tryz.prog 48 = some (1, false) := by kernel_rfl
@[simp] theorem T342 : zeroE Tryz.prog 48 = some [V.sl 0 true []] := by kernel_rfl
@[simp] theorem T343 : slE Tryz.prog 48 = some (134, 4, 40) := by kernel_rfl
@[simp] theorem T344 : tyE Tryz.prog 49 = some (3, true) := by kernel_rfl
@[simp] theorem T345 : zeroE Tryz.prog 49 = some [V.sl 0 true [], V.int .u64 0, V.int .u64 0] := by kernel_rfl
@[simp] theorem T346 : fldE Tryz.prog 49 0 = some (0, 1, false) := by kernel_rfl
@[simp] theorem T347 : plE Tryz.prog 49 0 = some (0, 1) := by kernel_rfl
@[simp] theorem T348 : fldE Tryz.prog 49 1 = some (1, 1, false) := by kernel_rfl
@[simp] theorem T349 : plE Tryz.prog 49 1 = some (1, 1) := by kernel_rfl
@[simp] theorem T350 : fldE Tryz.prog 49 2 = some (2, 1, false) := by kernel_rfl
@[simp] theorem T351 : plE Tryz.prog 49 2 = some (2, 1) := by kernel_rfl
@[simp] theorem T352 : allE Tryz.prog 49 = true := by kernel_rfl
@[simp] theorem T353 : tyE Tryz.prog 50 = some (3, true) := by kernel_rfl
@[simp] theorem T354 : zeroE Tryz.prog 50 = some [V.sl 0 true [], V.int .u64 0, V.int .u64 0] := by kernel_rfl
@[simp] theorem T355 : fldE Tryz.prog 50 0 = some (0, 1, false) := by kernel_rfl
@[simp] theorem T356 : plE Tryz.prog 50 0 = some (0, 1) := by kernel_rfl
@[simp] theorem T357 : fldE Tryz.prog 50 1 = some (1, 1, false) := by kernel_rfl
@[simp] theorem T358 : plE Tryz.prog 50 1 = some (1, 1) := by kernel_rfl
@[simp] theorem T359 : fldE Tryz.prog 50 2 = some (2, 1, false) := by kernel_rfl
@[simp] theorem T360 : plE Tryz.prog 50 2 = some (2, 1) := by kernel_rfl
@[simp] theorem T361 : allE Tryz.prog 50 = true := by kernel_rfl
@[simp] theorem T362 : tyE Tryz.prog 51 = some (1, false) := by kernel_rfl
@[simp] theorem T363 : zeroE Tryz.prog 51 = some [V.sl 0 true []] := by kernel_rfl
@[simp] theorem T364 : slE Tryz.prog 51 = some (112, 3, 40) := by kernel_rfl
@[simp] theorem T365 : tyE Tryz.prog 52 = some (4, true) := by kernel_rfl
@[simp] theorem T366 : zeroE Tryz.prog 52 = some [V.int .u64 0, V.int .u64 0, V.int .u64 0, V.sl 0 true []] := by kernel_rfl
@[simp] theorem T367 : fldE Tryz.prog 52 0 = some (0, 1, false) := by kernel_rfl
@[simp] theorem T368 : plE Tryz.prog 52 0 = some (0, 1) := by kernel_rfl
@[simp] theorem T369 : fldE Tryz.prog 52 1 = some (1, 1, false) := by kernel_rfl
@[simp] theorem T370 : plE Tryz.prog 52 1 = some (1, 1) := by kernel_rfl
@[simp] theorem T371 : fldE Tryz.prog 52 2 = some (2, 1, false) := by kernel_rfl
@[simp] theorem T372 : plE Tryz.prog 52 2 = some (2, 1) := by kernel_rfl
@[simp] theorem T373 : fldE Tryz.prog 52 3 = some (3, 1, false) := by kernel_rfl
@[simp] theorem T374 : plE Tryz.prog 52 3 = some (3, 1) := by kernel_rfl
@[simp] theorem T375 : allE Tryz.prog 52 = true := by kernel_rfl
@[simp] theorem T376 : tyE Tryz.prog 53 = some (4, true) := by kernel_rfl
@[simp] theorem T377 : zeroE Tryz.prog 53 = some [V.int .u64 0, V.int .u64 0, V.int .u64 0, V.sl 0 true []] := by kernel_rfl
@[simp] theorem T378 : fldE Tryz.prog 53 0 = some (0, 1, false) := by kernel_rfl
@[simp] theorem T379 : plE Tryz.prog 53 0 = some (0, 1) := by kernel_rfl
@[simp] theorem T380 : fldE Tryz.prog 53 1 = some (1, 1, false) := by kernel_rfl
@[simp] theorem T381 : plE Tryz.prog 53 1 = some (1, 1) := by kernel_rfl
@[simp] theorem T382 : fldE Tryz.prog 53 2 = some (2, 1, false) := by kernel_rfl
@[simp] theorem T383 : plE Tryz.prog 53 2 = some (2, 1) := by kernel_rfl
@[simp] theorem T384 : fldE Tryz.prog 53 3 = some (3, 1, false) := by kernel_rfl
@[simp] theorem T385 : plE Tryz.prog 53 3 = some (3, 1) := by kernel_rfl
@[simp] theorem T386 : allE Tryz.prog 53 = true := by kernel_rfl
@[simp] theorem T387 : tyE Tryz.prog 54 = some (1, false) := by kernel_rfl
@[simp] theorem T388 : zeroE Tryz.prog 54 = some [V.sl 0 true []] := by kernel_rfl
@[simp] theorem T389 : slE Tryz.prog 54 = some (114, 4, 48) := by kernel_rfl
@[simp] theorem T390 : tyE Tryz.prog 55 = some (3, true) := by kernel_rfl
@[simp] theorem T391 : zeroE Tryz.prog 55 = some [V.int .u64 0, V.int .u64 0, V.sl 0 true []] := by kernel_rfl
@[simp] theorem T392 : fldE Tryz.prog 55 0 = some (0, 1, false) := by kernel_rfl
@[simp] theorem T393 : plE Tryz.prog 55 0 = some (0, 1) := by kernel_rfl
@[simp] theorem T394 : fldE Tryz.prog 55 1 = some (1, 1, false) := by kernel_rfl
@[simp] theorem T395 : plE Tryz.prog 55 1 = some (1, 1) := by kernel_rfl
@[simp] theorem T396 : fldE Tryz.prog 55 2 = some (2, 1, false) := by kernel_rfl
@[simp] theorem T397 : plE Tryz.prog 55 2 = some (2, 1) := by kernel_rfl
@[simp] theorem T398 : allE Tryz.prog 55 = true := by kernel_rfl
@[simp] theorem T399 : tyE Tryz.prog 56 = some (3, true) := by kernel_rfl
@[simp] theorem T400 : zeroE Tryz.prog 56 = some [V.int .u64 0, V.int .u64 0, V.sl 0 true []] := by kernel_rfl
@[simp] theorem T401 : fldE Tryz.prog 56 0 = some (0, 1, false) := by kernel_rfl
@[simp] theorem T402 : plE Tryz.prog 56 0 = some (0, 1) := by kernel_rfl
@[simp] theorem T403 : fldE Tryz.prog 56 1 = some (1, 1, false) := by kernel_rfl
@[simp] theorem T404 : plE Tryz.prog 56 1 = some (1, 1) := by kernel_rfl
@[simp] theorem T405 : fldE Tryz.prog 56 2 = some (2, 1, false) := by kernel_rfl
@[simp] theorem T406 : plE Tryz.prog 56 2 = some (2, 1) := by kernel_rfl
@[simp] theorem T407 : allE Tryz.prog 56 = true := by kernel_rfl
@[simp] theorem T408 : tyE Tryz.prog 57 = some (3, true) := by kernel_rfl
@[simp] theorem T409 : zeroE Tryz.prog 57 = some [V.int .i64 0, V.int .i64 0, V.int .u64 0] := by kernel_rfl
@[simp] theorem T410 : fldE Tryz.prog 57 0 = some (0, 1, false) := by kernel_rfl
@[simp] theorem T411 : plE Tryz.prog 57 0 = some (0, 1) := by kernel_rfl
@[simp] theorem T412 : fldE Tryz.prog 57 1 = some (1, 1, false) := by kernel_rfl
@[simp] theorem T413 : plE Tryz.prog 57 1 = some (1, 1) := by kernel_rfl
@[simp] theorem T414 : fldE Tryz.prog 57 2 = some (2, 1, false) := by kernel_rfl
@[simp] theorem T415 : plE Tryz.prog 57 2 = some (2, 1) := by kernel_rfl
@[simp] theorem T416 : allE Tryz.prog 57 = true := by kernel_rfl
@[simp] theorem T417 : tyE Tryz.prog 58 = some (3, true) := by kernel_rfl
@[simp] theorem T418 : zeroE Tryz.prog 58 = some [V.int .i64 0, V.int .i64 0, V.int .u64 0] := by kernel_rfl
@[simp] theorem T419 : fldE Tryz.prog 58 0 = some (0, 1, false) := by kernel_rfl
@[simp] theorem T420 : plE Tryz.prog 58 0 = some (0, 1) := by kernel_rfl
@[simp] theorem T421 : fldE Tryz.prog 58 1 = some (1, 1, false) := by kernel_rfl
@[simp] theorem T422 : plE Tryz.prog 58 1 = some (1, 1) := by kernel_rfl
@[simp] theorem T423 : fldE Tryz.prog 58 2 = some (2, 1, false) := by kernel_rfl
@[simp] theorem T424 : plE Tryz.prog 58 2 = some (2, 1) := by kernel_rfl
@[simp] theorem T425 : allE Tryz.prog 58 = true := by kernel_rfl
@[simp] theorem T426 : eqE Tryz.prog 58 = some [.i, .i, .i] := by kernel_rfl
@[simp] theorem T427 : tyE Tryz.prog 59 = some (125, true) := by kernel_rfl
@[simp] theorem T428 : zeroE Tryz.prog 59 = some [V.int .i64 0, V.int .i64 0, V.int .u64 0, V.int .u32 0, V.int .u32 0, V.int .u32 0, V.int .u32 0, V.int .u32 0, V.int .u32 0, V.int .u32 0, V.int .u32 0, V.int .u32 0, V.int .u32 0, V.int .u32 0, V.int .u32 0, V.int .u32 0, V.int .u32 0, V.int .u32 0, V.int .u32 0, V.int .u32 0, V.int .u32 0, V.int .u32 0, V.int .u32 0, V.int .u32 0, V.int .u32 0, V.int .u32 0, V.int .u32 0, V.int .u32 0, V.sl 0 true [], V.str [], V.bool false, V.int .u32 0, V.bool false, V.int .u32 0, V.int .u32 0, V.int .u32 0, V.int .i64 0, V.int .i64 0, V.int .u32 0, V.int .u32 0, V.str [], V.int .u32 0, V.int .u32 0, V.bool false, V.int .u32 0, V.bool false, V.int .u32 0, V.int .u32 0, V.int .u32 0, V.int .u64 0, V.bool false, V.bool false, V.int .u32 0, V.sl 0 true [], V.sl 0 true [], V.int .u32 0, V.int .u32 0, V.int .u32 0, V.int .u32 0, V.int .u32 0, V.int .u32 0, V.int .u32 0, V.int .u32 0, V.int .u32 0, V.int .u32 0, V.int .u32 0, V.int .u32 0, V.int .u32 0, V.int .u32 0, V.int .u32 0, V.int .u32 0, V.int .u32 0, V.int .u32 0, V.int .u32 0, V.int .u32 0, V.int .u32 0, V.int .u32 0, V.int .u32 0, V.int .u32 0, V.int .u32 0, V.sl 0 true [], V.str [], V.bool false, V.int .u32 0, V.bool false, V.int .u32 0, V.int .u32 0, V.int .u32 0, V.int .i64 0, V.int .i64 0, V.int .u32 0, V.int .u32 0, V.str [], V.int .u32 0, V.int .u32 0, V.bool false, V.int .u32 0, V.bool false, V.int .u32 0, V.int .u32 0, V.int .u32 0, V.int .u64 0, V.bool false, V.bool false, V.sl 0 true [], V.int .u64 0, V.int .u32 0, V.sl 0 true [], V.int .u64 0, V.int .u64 0, V.int .u64 0, V.int .u64 0, V.int .u64 0, V.int .u64 0, V.sl 0 true [], V.int .u64 0, V.int .u64 0, V.sl 0 true [], V.int .i64 0, V.int .i64 0, V.int .u64 0, V.int .u64 0, V.int .i64 0, V.int .u64 0, V.sl 0 true []] := by kernel_rfl
@[simp] theorem T429 : fldE Tryz.prog 59 0 = some (0, 1, false) := by kernel_rfl
@[simp] theorem T430 : plE Tryz.prog 59 0 = some (0, 1) := by kernel_rfl
@[simp] theorem T431 : fldE Tryz.prog 59 1 = some (1, 1, false) := by kernel_rfl
@[simp] theorem T432 : plE Tryz.prog 59 1 = some (1, 1) := by kernel_rfl
@[simp] theorem T433 : fldE Tryz.prog 59 2 = some (2, 1, false) := by kernel_rfl
@[simp] theorem T434 : plE Tryz.prog 59 2 = some (2, 1) := by kernel_rfl
@[simp] theorem T435 : fldE Tryz.prog 59 3 = some (3, 52, true) := by kernel_rfl
@[simp] theorem T436 : plE Tryz.prog 59 3 = some (3, 52) := by kernel_rfl
@[simp] theorem T437 : fldE Tryz.prog 59 4 = some (55, 52, true) := by kernel_rfl
@[simp] theorem T438 : plE Tryz.prog 59 4 = some (55, 52) := by kernel_rfl
@[simp] theorem T439 : fldE Tryz.prog 59 5 = some (107, 3, true) := by kernel_rfl
@[simp] theorem T440 : plE Tryz.prog 59 5 = some (107, 3) := by kernel_rfl
@[simp] theorem T441 : fldE Tryz.prog 59 6 = some (110, 1, false) := by kernel_rfl
@[simp] theorem T442 : plE Tryz.prog 59 6 = some (110, 1) := by kernel_rfl
@[simp] theorem T443 : fldE Tryz.prog 59 7 = some (111, 4, true) := by kernel_rfl
@[simp] theorem T444 : plE Tryz.prog 59 7 = some (111, 4) := by kernel_rfl
@[simp] theorem T445 : fldE Tryz.prog 59 8 = some (115, 3, true) := by kernel_rfl
@[simp] theorem T446 : plE Tryz.prog 59 8 = some (115, 3) := by kernel_rfl
@[simp] theorem T447 : fldE Tryz.prog 59 9 = some (118, 3, true) := by kernel_rfl
@[simp] theorem T448 : plE Tryz.prog 59 9 = some (118, 3) := by kernel_rfl
@[simp] theorem T449 : fldE Tryz.prog 59 10 = some (121, 1, false) := by kernel_rfl
@[simp] theorem T450 : plE Tryz.prog 59 10 = some (121, 1) := by kernel_rfl
@[simp] theorem T451 : fldE Tryz.prog 59 11 = some (122, 1, false) := by kernel_rfl
@[simp] theorem T452 : plE Tryz.prog 59 11 = some (122, 1) := by kernel_rfl
@[simp] theorem T453 : fldE Tryz.prog 59 12 = some (123, 1, false) := by kernel_rfl
@[simp] theorem T454 : plE Tryz.prog 59 12 = some (123, 1) := by kernel_rfl
@[simp] theorem T455 : fldE Tryz.prog 59 13 = some (124, 1, false) := by kernel_rfl
@[simp] theorem T456 : plE Tryz.prog 59 13 = some (124, 1) := by kernel_rfl
@[simp] theorem T457 : allE Tryz.prog 59 = true := by kernel_rfl
@[simp] theorem T458 : tyE Tryz.prog 60 = some (125, true) := by kernel_rfl
@[simp] theorem T459 : zeroE Tryz.prog 60 = some [V.int .i64 0, V.int .i64 0, V.int .u64 0, V.int .u32 0, V.int .u32 0, V.int .u32 0, V.int .u32 0, V.int .u32 0, V.int .u32 0, V.int .u32 0, V.int .u32 0, V.int .u32 0, V.int .u32 0, V.int .u32 0, V.int .u32 0, V.int .u32 0, V.int .u32 0, V.int .u32 0, V.int .u32 0, V.int .u32 0, V.int .u32 0, V.int .u32 0, V.int .u32 0, V.int .u32 0, V.int .u32 0, V.int .u32 0, V.int .u32 0, V.int .u32 0, V.sl 0 true [], V.str [], V.bool false, V.int .u32 0, V.bool false, V.int .u32 0, V.int .u32 0, V.int .u32 0, V.int .i64 0, V.int .i64 0, V.int .u32 0, V.int .u32 0, V.str [], V.int .u32 0, V.int .u32 0, V.bool false, V.int .u32 0, V.bool false, V.int .u32 0, V.int .u32 0, V.int .u32 0, V.int .u64 0, V.bool false, V.bool false, V.int .u32 0, V.sl 0 true [], V.sl 0 true [], V.int .u32 0, V.int .u32 0, V.int .u32 0, V.int .u32 0, V.int .u32 0, V.int .u32 0, V.int .u32 0, V.int .u32 0, V.int .u32 0, V.int .u32 0, V.int .u32 0, V.int .u32 0, V.int .u32 0, V.int .u32 0, V.int .u32 0, V.int .u32 0, V.int .u32 0, V.int .u32 0, V.int .u32 0, V.int .u32 0, V.int .u32 0, V.int .u32 0, V.int .u32 0, V.int .u32 0, V.int .u32 0, V.sl 0 true [], V.str [], V.bool false, V.int .u32 0, V.bool false, V.int .u32 0, V.int .u32 0, V.int .u32 0, V.int .i64 0, V.int .i64 0, V.int .u32 0, V.int .u32 0, V.str [], V.int .u32 0, V.int .u32 0, V.bool false, V.int .u32 0, V.bool false, V.int .u32 0, V.int .u32 0, V.int .u32 0, V.int .u64 0, V.bool false, V.bool false, V.sl 0 true [], V.int .u64 0, V.int .u32 0, V.sl 0 true [], V.int .u64 0, V.int .u64 0, V.int .u64 0, V.int .u64 0, V.int .u64 0, V.int .u64 0, V.sl 0 true [], V.int .u64 0, V.int .u64 0, V.sl 0 true [], V.int .i64 0, V.int .i64 0, V.int .u64 0, V.int .u64 0, V.int .i64 0, V.int .u64 0, V.sl 0 true []] := by kernel_rfl
@[simp] theorem T460 : fldE Tryz.prog 60 0 = some (0, 1, false) := by kernel_rfl
@[simp] theorem T461 : plE Tryz.prog 60 0 = some (0, 1) := by kernel_rfl
@[simp] theorem T462 : fldE Tryz.prog 60 1 = some (1, 1, false) := by kernel_rfl
@[simp] theorem T463 : plE Tryz.prog 60 1 = some (1, 1) := by kernel_rfl
@[simp] theorem T464 : fldE Tryz.prog 60 2 = some (2, 1, false) := by kernel_rfl
@[simp] theorem T465 : plE Tryz.prog 60 2 = some (2, 1) := by kernel_rfl
@[simp] theorem T466 : fldE Tryz.prog 60 3 = some (3, 52, true) := by kernel_rfl
@[simp] theorem T467 : plE Tryz.prog 60 3 = some (3, 52) := by kernel_rfl
@[simp] theorem T468 : fldE Tryz.prog 60 4 = some (55, 52, true) := by kernel_rfl
@[simp] theorem T469 : plE Tryz.prog 60 4 = some (55, 52) := by kernel_rfl
@[simp] theorem T470 : fldE Tryz.prog 60 5 = some (107, 3, true) := by kernel_rfl
@[simp] theorem T471 : plE Tryz.prog 60 5 = some (107, 3) := by kernel_rfl
@[simp] theorem T472 : fldE Tryz.prog 60 6 = some (110, 1, false) := by kernel_rfl
@[simp] theorem T473 : plE Tryz.prog 60 6 = some (110, 1) := by kernel_rfl
@[simp] theorem T474 : fldE Tryz.prog 60 7 = some (111, 4, true) := by kernel_rfl
@[simp] theorem T475 : plE Tryz.prog 60 7 = some (111, 4) := by kernel_rfl
@[simp] theorem T476 : fldE Tryz.prog 60 8 = some (115, 3, true) := by kernel_rfl
@[simp] theorem T477 : plE Tryz.prog 60 8 = some (115, 3) := by kernel_rfl
@[simp] theorem T478 : fldE Tryz.prog 60 9 = some (118, 3, true) := by kernel_rfl
@[simp] theorem T479 : plE Tryz.prog 60 9 = some (118, 3) := by kernel_rfl
@[simp] theorem T480 : fldE Tryz.prog 60 10 = some (121, 1, false) := by kernel_rfl
@[simp] theorem T481 : plE Tryz.prog 60 10 = some (121, 1) := by kernel_rfl
@[simp] theorem T482 : fldE Tryz.prog 60 11 = some (122, 1, false) := by kernel_rfl
@[simp] theorem T483 : plE Tryz.prog 60 11 = some (122, 1) := by kernel_rfl
@[simp] theorem T484 : fldE Tryz.prog 60 12 = some (123, 1, false) := by kernel_rfl
@[simp] theorem T485 : plE Tryz.prog 60 12 = some (123, 1) := by kernel_rfl
@[simp] theorem T486 : fldE Tryz.prog 60 13 = some (124, 1, false) := by kernel_rfl
@[simp] theorem T487 : plE Tryz.prog 60 13 = some (124, 1) := by kernel_rfl
@[simp] theorem T488 : allE Tryz.prog 60 = true := by kernel_rfl
@[simp] theorem T489 : tyE Tryz.prog 62 = some (1, false) := by kernel_rfl
@[simp] theorem T490 : zeroE Tryz.prog 62 = some [V.poi] := by kernel_rfl
@[simp] theorem T491 : tyE Tryz.prog 63 = some (1, false) := by kernel_rfl
@[simp] theorem T492 : zeroE Tryz.prog 63 = some [V.poi] := by kernel_rfl
@[simp] theorem T493 : tyE Tryz.prog 64 = some (1, false) := by kernel_rfl
@[simp] theorem T494 : zeroE Tryz.prog 64 = some [V.poi] := by kernel_rfl
@[simp] theorem T495 : tyE Tryz.prog 65 = some (1, false) := by kernel_rfl
@[simp] theorem T496 : zeroE Tryz.prog 65 = some [V.sl 0 true []] := by kernel_rfl
@[simp] theorem T497 : slE Tryz.prog 65 = some (9, 1, 16) := by kernel_rfl
@[simp] theorem T498 : tyE Tryz.prog 66 = some (3, true) := by kernel_rfl
@[simp] theorem T499 : zeroE Tryz.prog 66 = some [V.sl 0 true [], V.int .u64 0, V.int .i64 0] := by kernel_rfl
@[simp] theorem T500 : fldE Tryz.prog 66 0 = some (0, 1, false) := by kernel_rfl
@[simp] theorem T501 : plE Tryz.prog 66 0 = some (0, 1) := by kernel_rfl
@[simp] theorem T502 : fldE Tryz.prog 66 1 = some (1, 1, false) := by kernel_rfl
@[simp] theorem T503 : plE Tryz.prog 66 1 = some (1, 1) := by kernel_rfl
@[simp] theorem T504 : fldE Tryz.prog 66 2 = some (2, 1, false) := by kernel_rfl
@[simp] theorem T505 : plE Tryz.prog 66 2 = some (2, 1) := by kernel_rfl
@[simp] theorem T506 : allE Tryz.prog 66 = true := by kernel_rfl
@[simp] theorem T507 : tyE Tryz.prog 67 = some (3, true) := by kernel_rfl
@[simp] theorem T508 : zeroE Tryz.prog 67 = some [V.sl 0 true [], V.int .u64 0, V.int .i64 0] := by kernel_rfl
@[simp] theorem T509 : fldE Tryz.prog 67 0 = some (0, 1, false) := by kernel_rfl
@[simp] theorem T510 : plE Tryz.prog 67 0 = some (0, 1) := by kernel_rfl
@[simp] theorem T511 : fldE Tryz.prog 67 1 = some (1, 1, false) := by kernel_rfl
@[simp] theorem T512 : plE Tryz.prog 67 1 = some (1, 1) := by kernel_rfl
@[simp] theorem T513 : fldE Tryz.prog 67 2 = some (2, 1, false) := by kernel_rfl
@[simp] theorem T514 : plE Tryz.prog 67 2 = some (2, 1) := by kernel_rfl
@[simp] theorem T515 : allE Tryz.prog 67 = true := by kernel_rfl
@[simp] theorem T516 : tyE Tryz.prog 68 = some (255, true) := by kernel_rfl
@[simp] theorem T517 : zeroE Tryz.prog 68 = some [V.int .i64 0, V.int .i64 0, V.int .u64 0, V.int .u32 0, V.int .u32 0, V.int .u32 0, V.int .u32 0, V.int .u32 0, V.int .u32 0, V.int .u32 0, V.int .u32 0, V.int .u32 0, V.int .u32 0, V.int .u32 0, V.int .u32 0, V.int .u32 0, V.int .u32 0, V.int .u32 0, V.int .u32 0, V.int .u32 0, V.int .u32 0, V.int .u32 0, V.int .u32 0, V.int .u32 0, V.int .u32 0, V.int .u32 0, V.int .u32 0, V.int .u32 0, V.sl 0 true [], V.str [], V.bool false, V.int .u32 0, V.bool false, V.int .u32 0, V.int .u32 0, V.int .u32 0, V.int .i64 0, V.int .i64 0, V.int .u32 0, V.int .u32 0, V.str [], V.int .u32 0, V.int .u32 0, V.bool false, V.int .u32 0, V.bool false, V.int .u32 0, V.int .u32 0, V.int .u32 0, V.int .u64 0, V.bool false, V.bool false, V.int .u32 0, V.sl 0 true [], V.sl 0 true [], V.int .u32 0, V.int .u32 0, V.int .u32 0, V.int .u32 0, V.int .u32 0, V.int .u32 0, V.int .u32 0, V.int .u32 0, V.int .u32 0, V.int .u32 0, V.int .u32 0, V.int .u32 0, V.int .u32 0, V.int .u32 0, V.int .u32 0, V.int .u32 0, V.int .u32 0, V.int .u32 0, V.int .u32 0, V.int .u32 0, V.int .u32 0, V.int .u32 0, V.int .u32 0, V.int .u32 0, V.int .u32 0, V.sl 0 true [], V.str [], V.bool false, V.int .u32 0, V.bool false, V.int .u32 0, V.int .u32 0, V.int .u32 0, V.int .i64 0, V.int .i64 0, V.int .u32 0, V.int .u32 0, V.str [], V.int .u32 0, V.int .u32 0, V.bool false, V.int .u32 0, V.bool false, V.int .u32 0, V.int .u32 0, V.int .u32 0, V.int .u64 0, V.bool false, V.bool false, V.sl 0 true [], V.int .u64 0, V.int .u32 0, V.sl 0 true [], V.int .u64 0, V.int .u64 0, V.int .u64 0, V.int .u64 0, V.int .u64 0, V.int .u64 0, V.sl 0 true [], V.int .u64 0, V.int .u64 0, V.sl 0 true [], V.int .i64 0, V.int .i64 0, V.int .u64 0, V.int .u64 0, V.int .i64 0, V.int .u64 0, V.sl 0 true [], V.int .i64 0, V.int .i64 0, V.int .u64 0, V.int .u32 0, V.int .u32 0, V.int .u32 0, V.int .u32 0, V.int .u32 0, V.int .u32 0, V.int .u32 0, V.int .u32 0, V.int .u32 0, V.int .u32 0, V.int .u32 0, V.int .u32 0, V.int .u32 0, V.int .u32 0, V.int .u32 0, V.int .u32 0, V.int .u32 0, V.int .u32 0, V.int .u32 0, V.int .u32 0, V.int .u32 0, V.int .u32 0, V.int .u32 0, V.int .u32 0, V.int .u32 0, V.sl 0 true [], V.str [], V.bool false, V.int .u32 0, V.bool false, V.int .u32 0, V.int .u32 0, V.int .u32 0, V.int .i64 0, V.int .i64 0, V.int .u32 0, V.int .u32 0, V.str [], V.int .u32 0, V.int .u32 0, V.bool false, V.int .u32 0, V.bool false, V.int .u32 0, V.int .u32 0, V.int .u32 0, V.int .u64 0, V.bool false, V.bool false, V.int .u32 0, V.sl 0 true [], V.sl 0 true [], V.int .u32 0, V.int .u32 0, V.int .u32 0, V.int .u32 0, V.int .u32 0, V.int .u32 0, V.int .u32 0, V.int .u32 0, V.int .u32 0, V.int .u32 0, V.int .u32 0, V.int .u32 0, V.int .u32 0, V.int .u32 0, V.int .u32 0, V.int .u32 0, V.int .u32 0, V.int .u32 0, V.int .u32 0, V.int .u32 0, V.int .u32 0, V.int .u32 0, V.int .u32 0, V.int .u32 0, V.int .u32 0, V.sl 0 true [], V.str [], V.bool false, V.int .u32 0, V.bool false, V.int .u32 0, V.int .u32 0, V.int .u32 0, V.int .i64 0, V.int .i64 0, V.int .u32 0, V.int .u32 0, V.str [], V.int .u32 0, V.int .u32 0, V.bool false, V.int .u32 0, V.bool false, V.int .u32 0, V.int .u32 0, V.int .u32 0, V.int .u64 0, V.bool false, V.bool false, V.sl 0 true [], V.int .u64 0, V.int .u32 0, V.sl 0 true [], V.int .u64 0, V.int .u64 0, V.int .u64 0, V.int .u64 0, V.int .u64 0, V.int .u64 0, V.sl 0 true [], V.int .u64 0, V.int .u64 0, V.sl 0 true [], V.int .i64 0, V.int .i64 0, V.int .u64 0, V.int .u64 0, V.int .i64 0, V.int .u64 0, V.sl 0 true [], V.sl 0 true [], V.sl 0 true [], V.sl 0 true [], V.int .u64 0, V.int .i64 0] := by kernel_rfl
@[simp] theorem T518 : fldE Tryz.prog 68 0 = some (0, 125, true) := by kernel_rfl
@[simp] theorem T519 : plE Tryz.prog 68 0 = some (0, 125) := by kernel_rfl
@[simp] theorem T520 : fldE Tryz.prog 68 1 = some (125, 125, true) := by kernel_rfl
@[simp] theorem T521 : plE Tryz.prog 68 1 = some (125, 125) := by kernel_rfl
@[simp] theorem T522 : fldE Tryz.prog 68 2 = some (250, 1, false) := by kernel_rfl
@[simp] theorem T523 : plE Tryz.prog 68 2 = some (250, 1) := by kernel_rfl
@[simp] theorem T524 : fldE Tryz.prog 68 3 = some (251, 1, false) := by kernel_rfl
@[simp] theorem T525 : plE Tryz.prog 68 3 = some (251, 1) := by kernel_rfl
@[simp] theorem T526 : fldE Tryz.prog 68 4 = some (252, 3, true) := by kernel_rfl
@[simp] theorem T527 : plE Tryz.prog 68 4 = some (252, 3) := by kernel_rfl
@[simp] theorem T528 : allE Tryz.prog 68 = true := by kernel_rfl
@[simp] theorem T529 : tyE Tryz.prog 69 = some (255, true) := by kernel_rfl
@[simp] theorem T530 : zeroE Tryz.prog 69 = some [V.int .i64 0, V.int .i64 0, V.int .u64 0, V.int .u32 0, V.int .u32 0, V.int .u32 0, V.int .u32 0, V.int .u32 0, V.int .u32 0, V.int .u32 0, V.int .u32 0, V.int .u32 0, V.int .u32 0, V.int .u32 0, V.int .u32 0, V.int .u32 0, V.int .u32 0, V.int .u32 0, V.int .u32 0, V.int .u32 0, V.int .u32 0, V.int .u32 0, V.int .u32 0, V.int .u32 0, V.int .u32 0, V.int .u32 0, V.int .u32 0, V.int .u32 0, V.sl 0 true [], V.str [], V.bool false, V.int .u32 0, V.bool false, V.int .u32 0, V.int .u32 0, V.int .u32 0, V.int .i64 0, V.int .i64 0, V.int .u32 0, V.int .u32 0, V.str [], V.int .u32 0, V.int .u32 0, V.bool false, V.int .u32 0, V.bool false, V.int .u32 0, V.int .u32 0, V.int .u32 0, V.int .u64 0, V.bool false, V.bool false, V.int .u32 0, V.sl 0 true [], V.sl 0 true [], V.int .u32 0, V.int .u32 0, V.int .u32 0, V.int .u32 0, V.int .u32 0, V.int .u32 0, V.int .u32 0, V.int .u32 0, V.int .u32 0, V.int .u32 0, V.int .u32 0, V.int .u32 0, V.int .u32 0, V.int .u32 0, V.int .u32 0, V.int .u32 0, V.int .u32 0, V.int .u32 0, V.int .u32 0, V.int .u32 0, V.int .u32 0, V.int .u32 0, V.int .u32 0, V.int .u32 0, V.int .u32 0, V.sl 0 true [], V.str [], V.bool false, V.int .u32 0, V.bool false, V.int .u32 0, V.int .u32 0, V.int .u32 0, V.int .i64 0, V.int .i64 0, V.int .u32 0, V.int .u32 0, V.str [], V.int .u32 0, V.int .u32 0, V.bool false, V.int .u32 0, V.bool false, V.int .u32 0, V.int .u32 0, V.int .u32 0, V.int .u64 0, V.bool false, V.bool false, V.sl 0 true [], V.int .u64 0, V.int .u32 0, V.sl 0 true [], V.int .u64 0, V.int .u64 0, V.int .u64 0, V.int .u64 0, V.int .u64 0, V.int .u64 0, V.sl 0 true [], V.int .u64 0, V.int .u64 0, V.sl 0 true [], V.int .i64 0, V.int .i64 0, V.int .u64 0, V.int .u64 0, V.int .i64 0, V.int .u64 0, V.sl 0 true [], V.int .i64 0, V.int .i64 0, V.int .u64 0, V.int .u32 0, V.int .u32 0, V.int .u32 0, V.int .u32 0, V.int .u32 0, V.int .u32 0, V.int .u32 0, V.int .u32 0, V.int .u32 0, V.int .u32 0, V.int .u32 0, V.int .u32 0, V.int .u32 0, V.int .u32 0, V.int .u32 0, V.int .u32 0, V.int .u32 0, V.int .u32 0, V.int .u32 0, V.int .u32 0, V.int .u32 0, V.int .u32 0, V.int .u32 0, V.int .u32 0, V.int .u32 0, V.sl 0 true [], V.str [], V.bool false, V.int .u32 0, V.bool false, V.int .u32 0, V.int .u32 0, V.int .u32 0, V.int .i64 0, V.int .i64 0, V.int .u32 0, V.int .u32 0, V.str [], V.int .u32 0, V.int .u32 0, V.bool false, V.int .u32 0, V.bool false, V.int .u32 0, V.int .u32 0, V.int .u32 0, V.int .u64 0, V.bool false, V.bool false, V.int .u32 0, V.sl 0 true [], V.sl 0 true [], V.int .u32 0, V.int .u32 0, V.int .u32 0, V.int .u32 0, V.int .u32 0, V.int .u32 0, V.int .u32 0, V.int .u32 0, V.int .u32 0, V.int .u32 0, V.int .u32 0, V.int .u32 0, V.int .u32 0, V.int .u32 0, V.int .u32 0, V.int .u32 0, V.int .u32 0, V.int .u32 0, V.int .u32 0, V.int .u32 0, V.int .u32 0, V.int .u32 0, V.int .u32 0, V.int .u32 0, V.int .u32 0, V.sl 0 true [], V.str [], V.bool false, V.int .u32 0, V.bool false, V.int .u32 0, V.int .u32 0, V.int .u32 0, V.int .i64 0, V.int .i64 0, V.int .u32 0, V.int .u32 0, V.str [], V.int .u32 0, V.int .u32 0, V.bool false, V.int .u32 0, V.bool false, V.int .u32 0, V.int .u32 0, V.int .u32 0, V.int .u64 0, V.bool false, V.bool false, V.sl 0 true [], V.int .u64 0, V.int .u32 0, V.sl 0 true [], V.int .u64 0, V.int .u64 0, V.int .u64 0, V.int .u64 0, V.int .u64 0, V.int .u64 0, V.sl 0 true [], V.int .u64 0, V.int .u64 0, V.sl 0 true [], V.int .i64 0, V.int .i64 0, V.int .u64 0, V.int .u64 0, V.int .i64 0, V.int .u64 0, V.sl 0 true [], V.sl 0 true [], V.sl 0 true [], V.sl 0 true [], V.int .u64 0, V.int .i64 0] := by kernel_rfl
@[simp] theorem T531 : fldE Tryz.prog 69 0 = some (0, 125, true) := by kernel_rfl
@[simp] theorem T532 : plE Tryz.prog 69 0 = some (0, 125) := by kernel_rfl
@[simp] theorem T533 : fldE Tryz.prog 69 1 = some (125, 125, true) := by kernel_rfl
@[simp] theorem T534 : plE Tryz.prog 69 1 = some (125, 125) := by kernel_rfl
@[simp] theorem T535 : fldE Tryz.prog 69 2 = some (250, 1, false) := by kernel_rfl
@[simp] theorem T536 : plE Tryz.prog 69 2 = some (250, 1) := by kernel_rfl
@[simp] theorem T537 : fldE Tryz.prog 69 3 = some (251, 1, false) := by kernel_rfl
@[simp] theorem T538 : plE Tryz.prog 69 3 = some (251, 1) := by kernel_rfl
@[simp] theorem T539 : fldE Tryz.prog 69 4 = some (252, 3, true) := by kernel_rfl
@[simp] theorem T540 : plE Tryz.prog 69 4 = some (252, 3) := by kernel_rfl
@[simp] theorem T541 : allE Tryz.prog 69 = true := by kernel_rfl
@[simp] theorem T542 : tyE Tryz.prog 71 = some (1, false) := by kernel_rfl
@[simp] theorem T543 : zeroE Tryz.prog 71 = some [V.poi] := by kernel_rfl
@[simp] theorem T544 : tyE Tryz.prog 72 = some (1, false) := by kernel_rfl
@[simp] theorem T545 : zeroE Tryz.prog 72 = some [V.sl 0 true []] := by kernel_rfl
@[simp] theorem T546 : slE Tryz.prog 72 = some (3, 1, 8) := by kernel_rfl
@[simp] theorem T547 : tyE Tryz.prog 73 = some (1, false) := by kernel_rfl
@[simp] theorem T548 : zeroE Tryz.prog 73 = some [V.poi] := by kernel_rfl
@[simp] theorem T549 : tyE Tryz.prog 74 = some (1, false) := by kernel_rfl
@[simp] theorem T550 : zeroE Tryz.prog 74 = some [V.poi] := by kernel_rfl
@[simp] theorem T551 : tyE Tryz.prog 76 = some (1, false) := by kernel_rfl
@[simp] theorem T552 : zeroE Tryz.prog 76 = some [V.poi] := by kernel_rfl
@[simp] theorem T553 : tyE Tryz.prog 77 = some (1, false) := by kernel_rfl
@[simp] theorem T554 : zeroE Tryz.prog 77 = some [V.poi] := by kernel_rfl
@[simp] theorem T555 : tyE Tryz.prog 78 = some (1, false) := by kernel_rfl
@[simp] theorem T556 : zeroE Tryz.prog 78 = some [V.poi] := by kernel_rfl
@[simp] theorem T557 : tyE Tryz.prog 79 = some (1, false) := by kernel_rfl
@[simp] theorem T558 : zeroE Tryz.prog 79 = some [V.poi] := by kernel_rfl
@[simp] theorem T559 : tyE Tryz.prog 80 = some (1, false) := by kernel_rfl
@[simp] theorem T560 : zeroE Tryz.prog 80 = some [V.poi] := by kernel_rfl
@[simp] theorem T561 : tyE Tryz.prog 82 = some (1, false) := by kernel_rfl
@[simp] theorem T562 : zeroE Tryz.prog 82 = some [V.poi] := by kernel_rfl
@[simp] theorem T563 : tyE Tryz.prog 83 = some (1, false) := by kernel_rfl
@[simp] theorem T564 : zeroE Tryz.prog 83 = some [V.poi] := by kernel_rfl
@[simp] theorem T565 : tyE Tryz.prog 84 = some (1, false) := by kernel_rfl
@[simp] theorem T566 : zeroE Tryz.prog 84 = some [V.poi] := by kernel_rfl
@[simp] theorem T567 : tyE Tryz.prog 85 = some (1, false) := by kernel_rfl
@[simp] theorem T568 : zeroE Tryz.prog 85 = some [V.poi] := by kernel_rfl
@[simp] theorem T569 : tyE Tryz.prog 86 = some (1, false) := by kernel_rfl
@[simp] theorem T570 : zeroE Tryz.prog 86 = some [V.poi] := by kernel_rfl
@[simp] theorem T571 : tyE Tryz.prog 87 = some (1, false) := by kernel_rfl
@[simp] theorem T572 : zeroE Tryz.prog 87 = some [V.poi] := by kernel_rfl
@[simp] theorem T573 : tyE Tryz.prog 97 = some (1, false) := by kernel_rfl
@[simp] theorem T574 : zeroE Tryz.prog 97 = some [V.poi] := by kernel_rfl
@[simp] theorem T575 : tyE Tryz.prog 98 = some (1, false) := by kernel_rfl
@[simp] theorem T576 : zeroE Tryz.prog 98 = some [V.poi] := by kernel_rfl
@[simp] theorem T577 : tyE Tryz.prog 103 = some (1, false) := by kernel_rfl
@[simp] theorem T578 : zeroE Tryz.prog 103 = some [V.poi] := by kernel_rfl
@[simp] theorem T579 : tyE Tryz.prog 104 = some (1, false) := by kernel_rfl
@[simp] theorem T580 : zeroE Tryz.prog 104 = some [V.poi] := by kernel_rfl
@[simp] theorem T581 : tyE Tryz.prog 105 = some (1, false) := by kernel_rfl
@[simp] theorem T582 : zeroE Tryz.prog 105 = some [V.poi] := by kernel_rfl
@[simp] theorem T583 : tyE Tryz.prog 106 = some (1, false) := by kernel_rfl
@[simp] theorem T584 : zeroE Tryz.prog 106 = some [V.poi] := by kernel_rfl
@[simp] theorem T585 : tyE Tryz.prog 107 = some (3, true) := by kernel_rfl
@[simp] theorem T586 : zeroE Tryz.prog 107 = some [V.int .i64 0, V.int .u32 0, V.str []] := by kernel_rfl
@[simp] theorem T587 : fldE Tryz.prog 107 0 = some (0, 1, false) := by kernel_rfl
@[simp] theorem T588 : plE Tryz.prog 107 0 = some (0, 1) := by kernel_rfl
@[simp] theorem T589 : fldE Tryz.prog 107 1 = some (1, 1, false) := by kernel_rfl
@[simp] theorem T590 : plE Tryz.prog 107 1 = some (1, 1) := by kernel_rfl
@[simp] theorem T591 : fldE Tryz.prog 107 2 = some (2, 1, false) := by kernel_rfl
@[simp] theorem T592 : plE Tryz.prog 107 2 = some (2, 1) := by kernel_rfl
@[simp] theorem T593 : allE Tryz.prog 107 = true := by kernel_rfl
@[simp] theorem T594 : tyE Tryz.prog 108 = some (3, true) := by kernel_rfl
@[simp] theorem T595 : zeroE Tryz.prog 108 = some [V.int .i64 0, V.int .u32 0, V.str []] := by kernel_rfl
@[simp] theorem T596 : fldE Tryz.prog 108 0 = some (0, 1, false) := by kernel_rfl
@[simp] theorem T597 : plE Tryz.prog 108 0 = some (0, 1) := by kernel_rfl
@[simp] theorem T598 : fldE Tryz.prog 108 1 = some (1, 1, false) := by kernel_rfl
@[simp] theorem T599 : plE Tryz.prog 108 1 = some (1, 1) := by kernel_rfl
@[simp] theorem T600 : fldE Tryz.prog 108 2 = some (2, 1, false) := by kernel_rfl
@[simp] theorem T601 : plE Tryz.prog 108 2 = some (2, 1) := by kernel_rfl
@[simp] theorem T602 : allE Tryz.prog 108 = true := by kernel_rfl
@[simp] theorem T603 : eqE Tryz.prog 108 = some [.i, .i, .s] := by kernel_rfl
@[simp] theorem T604 : tyE Tryz.prog 109 = some (1, false) := by kernel_rfl
@[simp] theorem T605 : zeroE Tryz.prog 109 = some [V.poi] := by kernel_rfl
@[simp] theorem T606 : tyE Tryz.prog 110 = some (1, false) := by kernel_rfl
@[simp] theorem T607 : zeroE Tryz.prog 110 = some [V.poi] := by kernel_rfl
@[simp] theorem T608 : tyE Tryz.prog 111 = some (3, true) := by kernel_rfl
@[simp] theorem T609 : zeroE Tryz.prog 111 = some [V.int .u64 0, V.int .u64 0, V.sl 0 true []] := by kernel_rfl
@[simp] theorem T610 : fldE Tryz.prog 111 0 = some (0, 1, false) := by kernel_rfl
@[simp] theorem T611 : plE Tryz.prog 111 0 = some (0, 1) := by kernel_rfl
@[simp] theorem T612 : fldE Tryz.prog 111 1 = some (1, 1, false) := by kernel_rfl
@[simp] theorem T613 : plE Tryz.prog 111 1 = some (1, 1) := by kernel_rfl
@[simp] theorem T614 : fldE Tryz.prog 111 2 = some (2, 1, false) := by kernel_rfl
@[simp] theorem T615 : plE Tryz.prog 111 2 = some (2, 1) := by kernel_rfl
@[simp] theorem T616 : allE Tryz.prog 111 = true := by kernel_rfl
@[simp] theorem T617 : tyE Tryz.prog 112 = some (3, true) := by kernel_rfl
@[simp] theorem T618 : zeroE Tryz.prog 112 = some [V.int .u64 0, V.int .u64 0, V.sl 0 true []] := by kernel_rfl
@[simp] theorem T619 : fldE Tryz.prog 112 0 = some (0, 1, false) := by kernel_rfl
@[simp] theorem T620 : plE Tryz.prog 112 0 = some (0, 1) := by kernel_rfl
@[simp] theorem T621 : fldE Tryz.prog 112 1 = some (1, 1, false) := by kernel_rfl
@[simp] theorem T622 : plE Tryz.prog 112 1 = some (1, 1) := by kernel_rfl
@[simp] theorem T623 : fldE Tryz.prog 112 2 = some (2, 1, false) := by kernel_rfl
@[simp] theorem T624 : plE Tryz.prog 112 2 = some (2, 1) := by kernel_rfl
@[simp] theorem T625 : allE Tryz.prog 112 = true := by kernel_rfl
@[simp] theorem T626 : tyE Tryz.prog 113 = some (4, true) := by kernel_rfl
@[simp] theorem T627 : zeroE Tryz.prog 113 = some [V.int .u64 0, V.int .u64 0, V.int .u64 0, V.sl 0 true []] := by kernel_rfl
@[simp] theorem T628 : fldE Tryz.prog 113 0 = some (0, 1, false) := by kernel_rfl
@[simp] theorem T629 : plE Tryz.prog 113 0 = some (0, 1) := by kernel_rfl
@[simp] theorem T630 : fldE Tryz.prog 113 1 = some (1, 3, true) := by kernel_rfl
@[simp] theorem T631 : plE Tryz.prog 113 1 = some (1, 3) := by kernel_rfl
@[simp] theorem T632 : allE Tryz.prog 113 = true := by kernel_rfl
@[simp] theorem T633 : tyE Tryz.prog 114 = some (4, true) := by kernel_rfl
@[simp] theorem T634 : zeroE Tryz.prog 114 = some [V.int .u64 0, V.int .u64 0, V.int .u64 0, V.sl 0 true []] := by kernel_rfl
@[simp] theorem T635 : fldE Tryz.prog 114 0 = some (0, 1, false) := by kernel_rfl
@[simp] theorem T636 : plE Tryz.prog 114 0 = some (0, 1) := by kernel_rfl
@[simp] theorem T637 : fldE Tryz.prog 114 1 = some (1, 3, true) := by kernel_rfl
@[simp] theorem T638 : plE Tryz.prog 114 1 = some (1, 3) := by kernel_rfl
@[simp] theorem T639 : allE Tryz.prog 114 = true := by kernel_rfl
@[simp] theorem T640 : tyE Tryz.prog 115 = some (4, true) := by kernel_rfl
@[simp] theorem T641 : zeroE Tryz.prog 115 = some [V.int .u64 0, V.int .i64 0, V.int .u32 0, V.str []] := by kernel_rfl
@[simp] theorem T642 : fldE Tryz.prog 115 0 = some (0, 1, false) := by kernel_rfl
@[simp] theorem T643 : plE Tryz.prog 115 0 = some (0, 1) := by kernel_rfl
@[simp] theorem T644 : fldE Tryz.prog 115 1 = some (1, 3, true) := by kernel_rfl
@[simp] theorem T645 : plE Tryz.prog 115 1 = some (1, 3) := by kernel_rfl
@[simp] theorem T646 : allE Tryz.prog 115 = true := by kernel_rfl
@[simp] theorem T647 : tyE Tryz.prog 116 = some (4, true) := by kernel_rfl
@[simp] theorem T648 : zeroE Tryz.prog 116 = some [V.int .u64 0, V.int .i64 0, V.int .u32 0, V.str []] := by kernel_rfl
@[simp] theorem T649 : fldE Tryz.prog 116 0 = some (0, 1, false) := by kernel_rfl
@[simp] theorem T650 : plE Tryz.prog 116 0 = some (0, 1) := by kernel_rfl
@[simp] theorem T651 : fldE Tryz.prog 116 1 = some (1, 3, true) := by kernel_rfl
@[simp] theorem T652 : plE Tryz.prog 116 1 = some (1, 3) := by kernel_rfl
@[simp] theorem T653 : allE Tryz.prog 116 = true := by kernel_rfl
@[simp] theorem T654 : eqE Tryz.prog 116 = some [.i, .i, .i, .s] := by kernel_rfl
@[simp] theorem T655 : tyE Tryz.prog 117 = some (1, false) := by kernel_rfl
@[simp] theorem T656 : zeroE Tryz.prog 117 = some [V.poi] := by kernel_rfl
@[simp] theorem T657 : tyE Tryz.prog 118 = some (1, false) := by kernel_rfl
@[simp] theorem T658 : zeroE Tryz.prog 118 = some [V.int .i64 0] := by kernel_rfl
@[simp] theorem T659 : isInt Tryz.prog 118 = some .i64 := by kernel_rfl
@[simp] theorem T660 : tyE Tryz.prog 119 = some (2, true) := by kernel_rfl
@[simp] theorem T661 : zeroE Tryz.prog 119 = some [V.int .i64 0, V.int .i64 0] := by kernel_rfl
@[simp] theorem T662 : fldE Tryz.prog 119 0 = some (0, 1, false) := by kernel_rfl
@[simp] theorem T663 : plE Tryz.prog 119 0 = some (0, 1) := by kernel_rfl
@[simp] theorem T664 : fldE Tryz.prog 119 1 = some (1, 1, false) := by kernel_rfl
@[simp] theorem T665 : plE Tryz.prog 119 1 = some (1, 1) := by kernel_rfl
@[simp] theorem T666 : allE Tryz.prog 119 = true := by kernel_rfl
@[simp] theorem T667 : tyE Tryz.prog 120 = some (2, true) := by kernel_rfl
@[simp] theorem T668 : zeroE Tryz.prog 120 = some [V.int .i64 0, V.int .i64 0] := by kernel_rfl
@[simp] theorem T669 : fldE Tryz.prog 120 0 = some (0, 1, false) := by kernel_rfl
@[simp] theorem T670 : plE Tryz.prog 120 0 = some (0, 1) := by kernel_rfl
@[simp] theorem T671 : fldE Tryz.prog 120 1 = some (1, 1, false) := by kernel_rfl
@[simp] theorem T672 : plE Tryz.prog 120 1 = some (1, 1) := by kernel_rfl
@[simp] theorem T673 : allE Tryz.prog 120 = true := by kernel_rfl
@[simp] theorem T674 : tyE Tryz.prog 133 = some (4, true) := by kernel_rfl
@[simp] theorem T675 : zeroE Tryz.prog 133 = some [V.int .i64 0, V.int .u64 0, V.int .u32 0, V.str []] := by kernel_rfl
@[simp] theorem T676 : fldE Tryz.prog 133 0 = some (0, 1, false) := by kernel_rfl
@[simp] theorem T677 : plE Tryz.prog 133 0 = some (0, 1) := by kernel_rfl
@[simp] theorem T678 : fldE Tryz.prog 133 1 = some (1, 1, false) := by kernel_rfl
@[simp] theorem T679 : plE Tryz.prog 133 1 = some (1, 1) := by kernel_rfl
@[simp] theorem T680 : fldE Tryz.prog 133 2 = some (2, 1, false) := by kernel_rfl
@[simp] theorem T681 : plE Tryz.prog 133 2 = some (2, 1) := by kernel_rfl
@[simp] theorem T682 : fldE Tryz.prog 133 3 = some (3, 1, false) := by kernel_rfl
@[simp] theorem T683 : plE Tryz.prog 133 3 = some (3, 1) := by kernel_rfl
@[simp] theorem T684 : allE Tryz.prog 133 = true := by kernel_rfl
@[simp] theorem T685 : tyE Tryz.prog 134 = some (4, true) := by kernel_rfl
@[simp] theorem T686 : zeroE Tryz.prog 134 = some [V.int .i64 0, V.int .u64 0, V.int .u32 0, V.str []] := by kernel_rfl
@[simp] theorem T687 : fldE Tryz.prog 134 0 = some (0, 1, false) := by kernel_rfl
@[simp] theorem T688 : plE Tryz.prog 134 0 = some (0, 1) := by kernel_rfl
@[simp] theorem T689 : fldE Tryz.prog 134 1 = some (1, 1, false) := by kernel_rfl
@[simp] theorem T690 : plE Tryz.prog 134 1 = some (1, 1) := by kernel_rfl
@[simp] theorem T691 : fldE Tryz.prog 134 2 = some (2, 1, false) := by kernel_rfl
@[simp] theorem T692 : plE Tryz.prog 134 2 = some (2, 1) := by kernel_rfl
@[simp] theorem T693 : fldE Tryz.prog 134 3 = some (3, 1, false) := by kernel_rfl
@[simp] theorem T694 : plE Tryz.prog 134 3 = some (3, 1) := by kernel_rfl
@[simp] theorem T695 : allE Tryz.prog 134 = true := by kernel_rfl
@[simp] theorem T696 : eqE Tryz.prog 134 = some [.i, .i, .i, .s] := by kernel_rfl
@[simp] theorem T697 : tyE Tryz.prog 141 = some (1, false) := by kernel_rfl
@[simp] theorem T698 : zeroE Tryz.prog 141 = some [V.poi] := by kernel_rfl
@[simp] theorem T699 : tyE Tryz.prog 143 = some (1, false) := by kernel_rfl
@[simp] theorem T700 : zeroE Tryz.prog 143 = some [V.poi] := by kernel_rfl
@[simp] theorem T701 : tyE Tryz.prog 144 = some (1, false) := by kernel_rfl
@[simp] theorem T702 : zeroE Tryz.prog 144 = some [V.poi] := by kernel_rfl
@[simp] theorem T703 : tyE Tryz.prog 149 = some (1, false) := by kernel_rfl
@[simp] theorem T704 : zeroE Tryz.prog 149 = some [V.sl 0 true []] := by kernel_rfl
@[simp] theorem T705 : slE Tryz.prog 149 = some (217, 5, 48) := by kernel_rfl
@[simp] theorem T706 : tyE Tryz.prog 175 = some (1, false) := by kernel_rfl
@[simp] theorem T707 : zeroE Tryz.prog 175 = some [V.sl 0 true []] := by kernel_rfl
@[simp] theorem T708 : slE Tryz.prog 175 = some (242, 2, 24) := by kernel_rfl
@[simp] theorem T709 : tyE Tryz.prog 176 = some (1, false) := by kernel_rfl
@[simp] theorem T710 : zeroE Tryz.prog 176 = some [V.sl 0 true []] := by kernel_rfl
@[simp] theorem T711 : slE Tryz.prog 176 = some (181, 6, 72) := by kernel_rfl
@[simp] theorem T712 : tyE Tryz.prog 179 = some (1, false) := by kernel_rfl
@[simp] theorem T713 : zeroE Tryz.prog 179 = some [V.sl 0 true []] := by kernel_rfl
@[simp] theorem T714 : slE Tryz.prog 179 = some (183, 3, 32) := by kernel_rfl
@[simp] theorem T715 : tyE Tryz.prog 180 = some (6, true) := by kernel_rfl
@[simp] theorem T716 : zeroE Tryz.prog 180 = some [V.str [], V.int .i64 0, V.sl 0 true [], V.int .i64 0, V.int .i64 0, V.int .i64 0] := by kernel_rfl
@[simp] theorem T717 : fldE Tryz.prog 180 0 = some (0, 1, false) := by kernel_rfl
@[simp] theorem T718 : plE Tryz.prog 180 0 = some (0, 1) := by kernel_rfl
@[simp] theorem T719 : fldE Tryz.prog 180 1 = some (1, 1, false) := by kernel_rfl
@[simp] theorem T720 : plE Tryz.prog 180 1 = some (1, 1) := by kernel_rfl
@[simp] theorem T721 : fldE Tryz.prog 180 2 = some (2, 1, false) := by kernel_rfl
@[simp] theorem T722 : plE Tryz.prog 180 2 = some (2, 1) := by kernel_rfl
@[simp] theorem T723 : fldE Tryz.prog 180 3 = some (3, 1, false) := by kernel_rfl
@[simp] theorem T724 : plE Tryz.prog 180 3 = some (3, 1) := by kernel_rfl
@[simp] theorem T725 : fldE Tryz.prog 180 4 = some (4, 1, false) := by kernel_rfl
@[simp] theorem T726 : plE Tryz.prog 180 4 = some (4, 1) := by kernel_rfl
@[simp] theorem T727 : fldE Tryz.prog 180 5 = some (5, 1, false) := by kernel_rfl
@[simp] theorem T728 : plE Tryz.prog 180 5 = some (5, 1) := by kernel_rfl
@[simp] theorem T729 : allE Tryz.prog 180 = true := by kernel_rfl
@[simp] theorem T730 : tyE Tryz.prog 181 = some (6, true) := by kernel_rfl
@[simp] theorem T731 : zeroE Tryz.prog 181 = some [V.str [], V.int .i64 0, V.sl 0 true [], V.int .i64 0, V.int .i64 0, V.int .i64 0] := by kernel_rfl
@[simp] theorem T732 : fldE Tryz.prog 181 0 = some (0, 1, false) := by kernel_rfl
@[simp] theorem T733 : plE Tryz.prog 181 0 = some (0, 1) := by kernel_rfl
@[simp] theorem T734 : fldE Tryz.prog 181 1 = some (1, 1, false) := by kernel_rfl
@[simp] theorem T735 : plE Tryz.prog 181 1 = some (1, 1) := by kernel_rfl
@[simp] theorem T736 : fldE Tryz.prog 181 2 = some (2, 1, false) := by kernel_rfl
@[simp] theorem T737 : plE Tryz.prog 181 2 = some (2, 1) := by kernel_rfl
@[simp] theorem T738 : fldE Tryz.prog 181 3 = some (3, 1, false) := by kernel_rfl
@[simp] theorem T739 : plE Tryz.prog 181 3 = some (3, 1) := by kernel_rfl
@[simp] theorem T740 : fldE Tryz.prog 181 4 = some (4, 1, false) := by kernel_rfl
@[simp] theorem T741 : plE Tryz.prog 181 4 = some (4, 1) := by kernel_rfl
@[simp] theorem T742 : fldE Tryz.prog 181 5 = some (5, 1, false) := by kernel_rfl
@[simp] theorem T743 : plE Tryz.prog 181 5 = some (5, 1) := by kernel_rfl
@[simp] theorem T744 : allE Tryz.prog 181 = true := by kernel_rfl
@[simp] theorem T745 : tyE Tryz.prog 182 = some (3, true) := by kernel_rfl
@[simp] theorem T746 : zeroE Tryz.prog 182 = some [V.int .i64 0, V.int .i64 0, V.str []] := by kernel_rfl
@[simp] theorem T747 : fldE Tryz.prog 182 0 = some (0, 1, false) := by kernel_rfl
@[simp] theorem T748 : plE Tryz.prog 182 0 = some (0, 1) := by kernel_rfl
@[simp] theorem T749 : fldE Tryz.prog 182 1 = some (1, 1, false) := by kernel_rfl
@[simp] theorem T750 : plE Tryz.prog 182 1 = some (1, 1) := by kernel_rfl
@[simp] theorem T751 : fldE Tryz.prog 182 2 = some (2, 1, false) := by kernel_rfl
@[simp] theorem T752 : plE Tryz.prog 182 2 = some (2, 1) := by kernel_rfl
@[simp] theorem T753 : allE Tryz.prog 182 = true := by kernel_rfl
@[simp] theorem T754 : tyE Tryz.prog 183 = some (3, true) := by kernel_rfl
@[simp] theorem T755 : zeroE Tryz.prog 183 = some [V.int .i64 0, V.int .i64 0, V.str []] := by kernel_rfl
@[simp] theorem T756 : fldE Tryz.prog 183 0 = some (0, 1, false) := by kernel_rfl
@[simp] theorem T757 : plE Tryz.prog 183 0 = some (0, 1) := by kernel_rfl
@[simp] theorem T758 : fldE Tryz.prog 183 1 = some (1, 1, false) := by kernel_rfl
@[simp] theorem T759 : plE Tryz.prog 183 1 = some (1, 1) := by kernel_rfl
@[simp] theorem T760 : fldE Tryz.prog 183 2 = some (2, 1, false) := by kernel_rfl
@[simp] theorem T761 : plE Tryz.prog 183 2 = some (2, 1) := by kernel_rfl
@[simp] theorem T762 : allE Tryz.prog 183 = true := by kernel_rfl
@[simp] theorem T763 : tyE Tryz.prog 187 = some (1, false) := by kernel_rfl
@[simp] theorem T764 : zeroE Tryz.prog 187 = some [V.int .u64 0] := by kernel_rfl
@[simp] theorem T765 : isInt Tryz.prog 187 = some .u64 := by kernel_rfl
@[simp] theorem T766 : tyE Tryz.prog 188 = some (5, true) := by kernel_rfl
@[simp] theorem T767 : zeroE Tryz.prog 188 = some [V.int .i64 0, V.int .i64 0, V.int .i64 0, V.int .i64 0, V.int .i32 0] := by kernel_rfl
@[simp] theorem T768 : fldE Tryz.prog 188 0 = some (0, 1, false) := by kernel_rfl
@[simp] theorem T769 : plE Tryz.prog 188 0 = some (0, 1) := by kernel_rfl
@[simp] theorem T770 : fldE Tryz.prog 188 1 = some (1, 1, false) := by kernel_rfl
@[simp] theorem T771 : plE Tryz.prog 188 1 = some (1, 1) := by kernel_rfl
@[simp] theorem T772 : fldE Tryz.prog 188 2 = some (2, 1, false) := by kernel_rfl
@[simp] theorem T773 : plE Tryz.prog 188 2 = some (2, 1) := by kernel_rfl
@[simp] theorem T774 : fldE Tryz.prog 188 3 = some (3, 1, false) := by kernel_rfl
@[simp] theorem T775 : plE Tryz.prog 188 3 = some (3, 1) := by kernel_rfl
@[simp] theorem T776 : fldE Tryz.prog 188 4 = some (4, 1, false) := by kernel_rfl
@[simp] theorem T777 : plE Tryz.prog 188 4 = some (4, 1) := by kernel_rfl
@[simp] theorem T778 : allE Tryz.prog 188 = true := by kernel_rfl
@[simp] theorem T779 : tyE Tryz.prog 189 = some (5, true) := by kernel_rfl
@[simp] theorem T780 : zeroE Tryz.prog 189 = some [V.int .i64 0, V.int .i64 0, V.int .i64 0, V.int .i64 0, V.int .i32 0] := by kernel_rfl
@[simp] theorem T781 : fldE Tryz.prog 189 0 = some (0, 1, false) := by kernel_rfl
@[simp] theorem T782 : plE Tryz.prog 189 0 = some (0, 1) := by kernel_rfl
@[simp] theorem T783 : fldE Tryz.prog 189 1 = some (1, 1, false) := by kernel_rfl
@[simp] theorem T784 : plE Tryz.prog 189 1 = some (1, 1) := by kernel_rfl
@[simp] theorem T785 : fldE Tryz.prog 189 2 = some (2, 1, false) := by kernel_rfl
@[simp] theorem T786 : plE Tryz.prog 189 2 = some (2, 1) := by kernel_rfl
@[simp] theorem T787 : fldE Tryz.prog 189 3 = some (3, 1, false) := by kernel_rfl
@[simp] theorem T788 : plE Tryz.prog 189 3 = some (3, 1) := by kernel_rfl
@[simp] theorem T789 : fldE Tryz.prog 189 4 = some (4, 1, false) := by kernel_rfl
@[simp] theorem T790 : plE Tryz.prog 189 4 = some (4, 1) := by kernel_rfl
@[simp] theorem T791 : allE Tryz.prog 189 = true := by kernel_rfl
@[simp] theorem T792 : eqE Tryz.prog 189 = some [.i, .i, .i, .i, .i] := by kernel_rfl
@[simp] theorem T793 : tyE Tryz.prog 196 = some (1, false) := by kernel_rfl
@[simp] theorem T794 : zeroE Tryz.prog 196 = some [V.nilp] := by kernel_rfl
@[simp] theorem T795 : tyE Tryz.prog 198 = some (1, false) := by kernel_rfl
@[simp] theorem T796 : zeroE Tryz.prog 198 = some [V.sl 0 true []] := by kernel_rfl
@[simp] theorem T797 : slE Tryz.prog 198 = some (5, 1, 1) := by kernel_rfl
@[simp] theorem T798 : bsE Tryz.prog 198 = true := by kernel_rfl
@[simp] theorem T799 : tyE Tryz.prog 199 = some (1, false) := by kernel_rfl
@[simp] theorem T800 : zeroE Tryz.prog 199 = some [V.poi] := by kernel_rfl
@[simp] theorem T801 : tyE Tryz.prog 205 = some (1, false) := by kernel_rfl
@[simp] theorem T802 : zeroE Tryz.prog 205 = some [V.sl 0 true []] := by kernel_rfl
@[simp] theorem T803 : slE Tryz.prog 205 = some (42, 1, 24) := by kernel_rfl
@[simp] theorem T804 : tyE Tryz.prog 208 = some (1, false) := by kernel_rfl
@[simp] theorem T805 : zeroE Tryz.prog 208 = some [V.poi] := by kernel_rfl
@[simp] theorem T806 : tyE Tryz.prog 209 = some (1, false) := by kernel_rfl
@[simp] theorem T807 : zeroE Tryz.prog 209 = some [V.poi] := by kernel_rfl
@[simp] theorem T808 : tyE Tryz.prog 211 = some (1, false) := by kernel_rfl
@[simp] theorem T809 : zeroE Tryz.prog 211 = some [V.nilp] := by kernel_rfl
@[simp] theorem T810 : tyE Tryz.prog 215 = some (1, false) := by kernel_rfl
@[simp] theorem T811 : zeroE Tryz.prog 215 = some [V.poi] := by kernel_rfl
@[simp] theorem T812 : tyE Tryz.prog 216 = some (5, true) := by kernel_rfl
@[simp] theorem T813 : zeroE Tryz.prog 216 = some [V.int .i64 0, V.int .u64 0, V.int .u32 0, V.str [], V.int .u64 0] := by kernel_rfl
@[simp] theorem T814 : fldE Tryz.prog 216 0 = some (0, 4, true) := by kernel_rfl
@[simp] theorem T815 : plE Tryz.prog 216 0 = some (0, 4) := by kernel_rfl
@[simp] theorem T816 : fldE Tryz.prog 216 1 = some (4, 1, false) := by kernel_rfl
@[simp] theorem T817 : plE Tryz.prog 216 1 = some (4, 1) := by kernel_rfl
@[simp] theorem T818 : allE Tryz.prog 216 = true := by kernel_rfl
@[simp] theorem T819 : tyE Tryz.prog 217 = some (5, true) := by kernel_rfl
@[simp] theorem T820 : zeroE Tryz.prog 217 = some [V.int .i64 0, V.int .u64 0, V.int .u32 0, V.str [], V.int .u64 0] := by kernel_rfl
@[simp] theorem T821 : fldE Tryz.prog 217 0 = some (0, 4, true) := by kernel_rfl
@[simp] theorem T822 : plE Tryz.prog 217 0 = some (0, 4) := by kernel_rfl
@[simp] theorem T823 : fldE Tryz.prog 217 1 = some (4, 1, false) := by kernel_rfl
@[simp] theorem T824 : plE Tryz.prog 217 1 = some (4, 1) := by kernel_rfl
@[simp] theorem T825 : allE Tryz.prog 217 = true := by kernel_rfl
@[simp] theorem T826 : eqE Tryz.prog 217 = some [.i, .i, .i, .s, .i] := by kernel_rfl
@[simp] theorem T827 : tyE Tryz.prog 233 = some (1, false) := by kernel_rfl
@[simp] theorem T828 : zeroE Tryz.prog 233 = some [V.poi] := by kernel_rfl
@[simp] theorem T829 : tyE Tryz.prog 241 = some (2, true) := by kernel_rfl
@[simp] theorem T830 : zeroE Tryz.prog 241 = some [V.str [], V.int .u32 0] := by kernel_rfl
@[simp] theorem T831 : fldE Tryz.prog 241 0 = some (0, 1, false) := by kernel_rfl
@[simp] theorem T832 : plE Tryz.prog 241 0 = some (0, 1) := by kernel_rfl
@[simp] theorem T833 : fldE Tryz.prog 241 1 = some (1, 1, false) := by kernel_rfl
@[simp] theorem T834 : plE Tryz.prog 241 1 = some (1, 1) := by kernel_rfl
@[simp] theorem T835 : allE Tryz.prog 241 = true := by kernel_rfl
@[simp] theorem T836 : tyE Tryz.prog 242 = some (2, true) := by kernel_rfl
@[simp] theorem T837 : zeroE Tryz.prog 242 = some [V.str [], V.int .u32 0] := by kernel_rfl
@[simp] theorem T838 : fldE Tryz.prog 242 0 = some (0, 1, false) := by kernel_rfl
@[simp] theorem T839 : plE Tryz.prog 242 0 = some (0, 1) := by kernel_rfl
@[simp] theorem T840 : fldE Tryz.prog 242 1 = some (1, 1, false) := by kernel_rfl
@[simp] theorem T841 : plE Tryz.prog 242 1 = some (1, 1) := by kernel_rfl
@[simp] theorem T842 : allE Tryz.prog 242 = true := by kernel_rfl
@[simp] theorem T843 : tyE Tryz.prog 261 = some (4, true) := by kernel_rfl
@[simp] theorem T844 : zeroE Tryz.prog 261 = some [V.int .i64 0, V.int .i64 0, V.int .i64 0, V.int .u32 0] := by kernel_rfl
@[simp] theorem T845 : fldE Tryz.prog 261 0 = some (0, 1, false) := by kernel_rfl
@[simp] theorem T846 : plE Tryz.prog 261 0 = some (0, 1) := by kernel_rfl
@[simp] theorem T847 : fldE Tryz.prog 261 1 = some (1, 1, false) := by kernel_rfl
@[simp] theorem T848 : plE Tryz.prog 261 1 = some (1, 1) := by kernel_rfl
@[simp] theorem T849 : fldE Tryz.prog 261 2 = some (2, 1, false) := by kernel_rfl
@[simp] theorem T850 : plE Tryz.prog 261 2 = some (2, 1) := by kernel_rfl
@[simp] theorem T851 : fldE Tryz.prog 261 3 = some (3, 1, false) := by kernel_rfl
@[simp] theorem T852 : plE Tryz.prog 261 3 = some (3, 1) := by kernel_rfl
@[simp] theorem T853 : allE Tryz.prog 261 = true := by kernel_rfl
@[simp] theorem T854 : tyE Tryz.prog 262 = some (4, true) := by kernel_rfl
@[simp] theorem T855 : zeroE Tryz.prog 262 = some [V.int .i64 0, V.int .i64 0, V.int .i64 0, V.int .u32 0] := by kernel_rfl
@[simp] theorem T856 : fldE Tryz.prog 262 0 = some (0, 1, false) := by kernel_rfl
@[simp] theorem T857 : plE Tryz.prog 262 0 = some (0, 1) := by kernel_rfl
@[simp] theorem T858 : fldE Tryz.prog 262 1 = some (1, 1, false) := by kernel_rfl
@[simp] theorem T859 : plE Tryz.prog 262 1 = some (1, 1) := by kernel_rfl
@[simp] theorem T860 : fldE Tryz.prog 262 2 = some (2, 1, false) := by kernel_rfl
@[simp] theorem T861 : plE Tryz.prog 262 2 = some (2, 1) := by kernel_rfl
@[simp] theorem T862 : fldE Tryz.prog 262 3 = some (3, 1, false) := by kernel_rfl
@[simp] theorem T863 : plE Tryz.prog 262 3 = some (3, 1) := by kernel_rfl
@[simp] theorem T864 : allE Tryz.prog 262 = true := by kernel_rfl
@[simp] theorem T865 : tyE Tryz.prog 281 = some (1, false) := by kernel_rfl
@[simp] theorem T866 : zeroE Tryz.prog 281 = some [V.poi] := by kernel_rfl
@[simp] theorem T867 : tyE Tryz.prog 282 = some (1, false) := by kernel_rfl
@[simp] theorem T868 : zeroE Tryz.prog 282 = some [V.nilp] := by kernel_rfl
@[simp] theorem T869 : tyE Tryz.prog 283 = some (1, false) := by kernel_rfl
@[simp] theorem T870 : zeroE Tryz.prog 283 = some [V.poi] := by kernel_rfl
@[simp] theorem T871 : mpE Tryz.prog 283 = some (2, false, [V.sl 0 true []]) := by kernel_rfl
@[simp] theorem T872 : tyE Tryz.prog 284 = some (3, true) := by kernel_rfl
@[simp] theorem T873 : zeroE Tryz.prog 284 = some [V.str [], V.poi, V.int .i64 0] := by kernel_rfl
@[simp] theorem T874 : fldE Tryz.prog 284 0 = some (0, 1, false) := by kernel_rfl
@[simp] theorem T875 : plE Tryz.prog 284 0 = some (0, 1) := by kernel_rfl
@[simp] theorem T876 : fldE Tryz.prog 284 1 = some (1, 1, false) := by kernel_rfl
@[simp] theorem T877 : plE Tryz.prog 284 1 = some (1, 1) := by kernel_rfl
@[simp] theorem T878 : fldE Tryz.prog 284 2 = some (2, 1, false) := by kernel_rfl
@[simp] theorem T879 : plE Tryz.prog 284 2 = some (2, 1) := by kernel_rfl
@[simp] theorem T880 : allE Tryz.prog 284 = true := by kernel_rfl
@[simp] theorem T881 : tyE Tryz.prog 285 = some (3, true) := by kernel_rfl
@[simp] theorem T882 : zeroE Tryz.prog 285 = some [V.str [], V.poi, V.int .i64 0] := by kernel_rfl
@[simp] theorem T883 : fldE Tryz.prog 285 0 = some (0, 1, false) := by kernel_rfl
@[simp] theorem T884 : plE Tryz.prog 285 0 = some (0, 1) := by kernel_rfl
@[simp] theorem T885 : fldE Tryz.prog 285 1 = some (1, 1, false) := by kernel_rfl
@[simp] theorem T886 : plE Tryz.prog 285 1 = some (1, 1) := by kernel_rfl
@[simp] theorem T887 : fldE Tryz.prog 285 2 = some (2, 1, false) := by kernel_rfl
@[simp] theorem T888 : plE Tryz.prog 285 2 = some (2, 1) := by kernel_rfl
@[simp] theorem T889 : allE Tryz.prog 285 = true := by kernel_rfl
@[simp] theorem T890 : tyE Tryz.prog 291 = some (8, true) := by kernel_rfl
@[simp] theorem T891 : zeroE Tryz.prog 291 = some [V.int .u8 0, V.int .u8 0, V.int .u8 0, V.int .u8 0, V.int .u8 0, V.int .u8 0, V.int .u8 0, V.int .u8 0] := by kernel_rfl
@[simp] theorem T892 : arE Tryz.prog 291 = some (8, 1, false) := by kernel_rfl
@[simp] theorem T893 (i : Nat) : plE Tryz.prog 291 i = some (i * 1, 1) := plE_arr T892 i
@[simp] theorem T894 : allE Tryz.prog 291 = true := by kernel_rfl
@[simp] theorem T895 : tyE Tryz.prog 292 = some (1, false) := by kernel_rfl
@[simp] theorem T896 : zeroE Tryz.prog 292 = some [V.nilp] := by kernel_rfl
@[simp] theorem T897 : tyE Tryz.prog 293 = some (2, true) := by kernel_rfl
@[simp] theorem T898 : zeroE Tryz.prog 293 = some [V.str [], V.bool false] := by kernel_rfl
@[simp] theorem T899 : fldE Tryz.prog 293 0 = some (0, 1, false) := by kernel_rfl
@[simp] theorem T900 : plE Tryz.prog 293 0 = some (0, 1) := by kernel_rfl
@[simp] theorem T901 : fldE Tryz.prog 293 1 = some (1, 1, false) := by kernel_rfl
@[simp] theorem T902 : plE Tryz.prog 293 1 = some (1, 1) := by kernel_rfl
@[simp] theorem T903 : allE Tryz.prog 293 = true := by kernel_rfl
@[simp] theorem T904 : tyE Tryz.prog 294 = some (2, true) := by kernel_rfl
@[simp] theorem T905 : zeroE Tryz.prog 294 = some [V.str [], V.bool false] := by kernel_rfl
@[simp] theorem T906 : fldE Tryz.prog 294 0 = some (0, 1, false) := by kernel_rfl
@[simp] theorem T907 : plE Tryz.prog 294 0 = some (0, 1) := by kernel_rfl
@[simp] theorem T908 : fldE Tryz.prog 294 1 = some (1, 1, false) := by kernel_rfl
@[simp] theorem T909 : plE Tryz.prog 294 1 = some (1, 1) := by kernel_rfl
@[simp] theorem T910 : allE Tryz.prog 294 = true := by kernel_rfl
@[simp] theorem T911 : tyE Tryz.prog 305 = some (1, false) := by kernel_rfl
@[simp] theorem T912 : zeroE Tryz.prog 305 = some [V.sl 0 true []] := by kernel_rfl
@[simp] theorem T913 : slE Tryz.prog 305 = some (309, 3, 32) := by kernel_rfl
@[simp] theorem T914 : tyE Tryz.prog 308 = some (3, true) := by kernel_rfl
@[simp] theorem T915 : zeroE Tryz.prog 308 = some [V.int .i64 0, V.str [], V.bool false] := by kernel_rfl
@[simp] theorem T916 : fldE Tryz.prog 308 0 = some (0, 1, false) := by kernel_rfl
@[simp] theorem T917 : plE Tryz.prog 308 0 = some (0, 1) := by kernel_rfl
@[simp] theorem T918 : fldE Tryz.prog 308 1 = some (1, 1, false) := by kernel_rfl
@[simp] theorem T919 : plE Tryz.prog 308 1 = some (1, 1) := by kernel_rfl
@[simp] theorem T920 : fldE Tryz.prog 308 2 = some (2, 1, false) := by kernel_rfl
@[simp] theorem T921 : plE Tryz.prog 308 2 = some (2, 1) := by kernel_rfl
@[simp] theorem T922 : allE Tryz.prog 308 = true := by kernel_rfl
@[simp] theorem T923 : tyE Tryz.prog 309 = some (3, true) := by kernel_rfl
@[simp] theorem T924 : zeroE Tryz.prog 309 = some [V.int .i64 0, V.str [], V.bool false] := by kernel_rfl
@[simp] theorem T925 : fldE Tryz.prog 309 0 = some (0, 1, false) := by kernel_rfl
@[simp] theorem T926 : plE Tryz.prog 309 0 = some (0, 1) := by kernel_rfl
@[simp] theorem T927 : fldE Tryz.prog 309 1 = some (1, 1, false) := by kernel_rfl
@[simp] theorem T928 : plE Tryz.prog 309 1 = some (1, 1) := by kernel_rfl
@[simp] theorem T929 : fldE Tryz.prog 309 2 = some (2, 1, false) := by kernel_rfl
@[simp] theorem T930 : plE Tryz.prog 309 2 = some (2, 1) := by kernel_rfl
@[simp] theorem T931 : allE Tryz.prog 309 = true := by kernel_rfl
@[simp] theorem T932 : tyE Tryz.prog 320 = some (1, false) := by kernel_rfl
@[simp] theorem T933 : zeroE Tryz.prog 320 = some [V.int .i16 0] := by kernel_rfl
@[simp] theorem T934 : isInt Tryz.prog 320 = some .i16 := by kernel_rfl
@[simp] theorem T935 : tyE Tryz.prog 351 = some (1, false) := by kernel_rfl
@[simp] theorem T936 : zeroE Tryz.prog 351 = some [V.poi] := by kernel_rfl
@[simp] theorem T937 : tyE Tryz.prog 352 = some (1, false) := by kernel_rfl
@[simp] theorem T938 : zeroE Tryz.prog 352 = some [V.nilp] := by kernel_rfl
@[simp] theorem T939 : tyE Tryz.prog 353 = some (2, true) := by kernel_rfl
@[simp] theorem T940 : zeroE Tryz.prog 353 = some [V.nilp, V.sl 0 true []] := by kernel_rfl
@[simp] theorem T941 : fldE Tryz.prog 353 0 = some (0, 1, false) := by kernel_rfl
@[simp] theorem T942 : plE Tryz.prog 353 0 = some (0, 1) := by kernel_rfl
@[simp] theorem T943 : fldE Tryz.prog 353 1 = some (1, 1, false) := by kernel_rfl
@[simp] theorem T944 : plE Tryz.prog 353 1 = some (1, 1) := by kernel_rfl
@[simp] theorem T945 : allE Tryz.prog 353 = true := by kernel_rfl
@[simp] theorem T946 : tyE Tryz.prog 354 = some (2, true) := by kernel_rfl
@[simp] theorem T947 : zeroE Tryz.prog 354 = some [V.nilp, V.sl 0 true []] := by kernel_rfl
@[simp] theorem T948 : fldE Tryz.prog 354 0 = some (0, 1, false) := by kernel_rfl
@[simp] theorem T949 : plE Tryz.prog 354 0 = some (0, 1) := by kernel_rfl
@[simp] theorem T950 : fldE Tryz.prog 354 1 = some (1, 1, false) := by kernel_rfl
@[simp] theorem T951 : plE Tryz.prog 354 1 = some (1, 1) := by kernel_rfl
@[simp] theorem T952 : allE Tryz.prog 354 = true := by kernel_rfl
@[simp] theorem T953 : tyE Tryz.prog 355 = some (1, false) := by kernel_rfl
@[simp] theorem T954 : zeroE Tryz.prog 355 = some [V.poi] := by kernel_rfl
@[simp] theorem T955 : tyE Tryz.prog 356 = some (1, false) := by kernel_rfl
@[simp] theorem T956 : zeroE Tryz.prog 356 = some [V.poi] := by kernel_rfl
@[simp] theorem T957 : tyE Tryz.prog 373 = some (3, true) := by kernel_rfl
@[simp] theorem T958 : zeroE Tryz.prog 373 = some [V.int .u32 0, V.int .u32 0, V.int .i64 0] := by kernel_rfl
@[simp] theorem T959 : fldE Tryz.prog 373 0 = some (0, 1, false) := by kernel_rfl
@[simp] theorem T960 : plE Tryz.prog 373 0 = some (0, 1) := by kernel_rfl
@[simp] theorem T961 : fldE Tryz.prog 373 1 = some (1, 1, false) := by kernel_rfl
@[simp] theorem T962 : plE Tryz.prog 373 1 = some (1, 1) := by kernel_rfl
@[simp] theorem T963 : fldE Tryz.prog 373 2 = some (2, 1, false) := by kernel_rfl
@[simp] theorem T964 : plE Tryz.prog 373 2 = some (2, 1) := by kernel_rfl
@[simp] theorem T965 : allE Tryz.prog 373 = true := by kernel_rfl
@[simp] theorem T966 : tyE Tryz.prog 374 = some (3, true) := by kernel_rfl
@[simp] theorem T967 : zeroE Tryz.prog 374 = some [V.int .u32 0, V.int .u32 0, V.int .i64 0] := by kernel_rfl
@[simp] theorem T968 : fldE Tryz.prog 374 0 = some (0, 1, false) := by kernel_rfl
@[simp] theorem T969 : plE Tryz.prog 374 0 = some (0, 1) := by kernel_rfl
@[simp] theorem T970 : fldE Tryz.prog 374 1 = some (1, 1, false) := by kernel_rfl
@[simp] theorem T971 : plE Tryz.prog 374 1 = some (1, 1) := by kernel_rfl
@[simp] theorem T972 : fldE Tryz.prog 374 2 = some (2, 1, false) := by kernel_rfl
@[simp] theorem T973 : plE Tryz.prog 374 2 = some (2, 1) := by kernel_rfl
@[simp] theorem T974 : allE Tryz.prog 374 = true := by kernel_rfl
@[simp] theorem T975 : tyE Tryz.prog 387 = some (5, true) := by kernel_rfl
@[simp] theorem T976 : zeroE Tryz.prog 387 = some [V.bool false, V.bool false, V.bool false, V.bool false, V.bool false] := by kernel_rfl
@[simp] theorem T977 : arE Tryz.prog 387 = some (5, 1, false) := by kernel_rfl
@[simp] theorem T978 (i : Nat) : plE Tryz.prog 387 i = some (i * 1, 1) := plE_arr T977 i
@[simp] theorem T979 : allE Tryz.prog 387 = true := by kernel_rfl
@[simp] theorem T980 : tyE Tryz.prog 391 = some (5, true) := by kernel_rfl
@[simp] theorem T981 : zeroE Tryz.prog 391 = some [V.bool false, V.bool false, V.bool false, V.int .i32 0, V.int .i32 0] := by kernel_rfl
@[simp] theorem T982 : fldE Tryz.prog 391 0 = some (0, 1, false) := by kernel_rfl
@[simp] theorem T983 : plE Tryz.prog 391 0 = some (0, 1) := by kernel_rfl
@[simp] theorem T984 : fldE Tryz.prog 391 1 = some (1, 1, false) := by kernel_rfl
@[simp] theorem T985 : plE Tryz.prog 391 1 = some (1, 1) := by kernel_rfl
@[simp] theorem T986 : fldE Tryz.prog 391 2 = some (2, 1, false) := by kernel_rfl
@[simp] theorem T987 : plE Tryz.prog 391 2 = some (2, 1) := by kernel_rfl
@[simp] theorem T988 : fldE Tryz.prog 391 3 = some (3, 1, false) := by kernel_rfl
@[simp] theorem T989 : plE Tryz.prog 391 3 = some (3, 1) := by kernel_rfl
@[simp] theorem T990 : fldE Tryz.prog 391 4 = some (4, 1, false) := by kernel_rfl
@[simp] theorem T991 : plE Tryz.prog 391 4 = some (4, 1) := by kernel_rfl
@[simp] theorem T992 : allE Tryz.prog 391 = true := by kernel_rfl
@[simp] theorem T993 : tyE Tryz.prog 392 = some (5, true) := by kernel_rfl
@[simp] theorem T994 : zeroE Tryz.prog 392 = some [V.bool false, V.bool false, V.bool false, V.int .i32 0, V.int .i32 0] := by kernel_rfl
@[simp] theorem T995 : fldE Tryz.prog 392 0 = some (0, 1, false) := by kernel_rfl
@[simp] theorem T996 : plE Tryz.prog 392 0 = some (0, 1) := by kernel_rfl
@[simp] theorem T997 : fldE Tryz.prog 392 1 = some (1, 1, false) := by kernel_rfl
@[simp] theorem T998 : plE Tryz.prog 392 1 = some (1, 1) := by kernel_rfl
@[simp] theorem T999 : fldE Tryz.prog 392 2 = some (2, 1, false) := by kernel_rfl
@[simp] theorem T1000 : plE Tryz.prog 392 2 = some (2, 1) := by kernel_rfl
@[simp] theorem T1001 : fldE Tryz.prog 392 3 = some (3, 1, false) := by kernel_rfl
@[simp] theorem T1002 : plE Tryz.prog 392 3 = some (3, 1) := by kernel_rfl
@[simp] theorem T1003 : fldE Tryz.prog 392 4 = some (4, 1, false) := by kernel_rfl
@[simp] theorem T1004 : plE Tryz.prog 392 4 = some (4, 1) := by kernel_rfl
@[simp] theorem T1005 : allE Tryz.prog 392 = true := by kernel_rfl
@[simp] theorem T1006 : tyE Tryz.prog 400 = some (1, false) := by kernel_rfl
@[simp] theorem T1007 : zeroE Tryz.prog 400 = some [V.nilp] := by kernel_rfl
@[simp] theorem T1008 : tyE Tryz.prog 419 = some (4, true) := by kernel_rfl
@[simp] theorem T1009 : zeroE Tryz.prog 419 = some [V.nilp, V.nilp, V.nilp, V.str []] := by kernel_rfl
@[simp] theorem T1010 : fldE Tryz.prog 419 0 = some (0, 1, false) := by kernel_rfl
@[simp] theorem T1011 : plE Tryz.prog 419 0 = some (0, 1) := by kernel_rfl
@[simp] theorem T1012 : fldE Tryz.prog 419 1 = some (1, 1, false) := by kernel_rfl
@[simp] theorem T1013 : plE Tryz.prog 419 1 = some (1, 1) := by kernel_rfl
@[simp] theorem T1014 : fldE Tryz.prog 419 2 = some (2, 1, false) := by kernel_rfl
@[simp] theorem T1015 : plE Tryz.prog 419 2 = some (2, 1) := by kernel_rfl
@[simp] theorem T1016 : fldE Tryz.prog 419 3 = some (3, 1, false) := by kernel_rfl
@[simp] theorem T1017 : plE Tryz.prog 419 3 = some (3, 1) := by kernel_rfl
@[simp] theorem T1018 : allE Tryz.prog 419 = true := by kernel_rfl
@[simp] theorem T1019 : tyE Tryz.prog 420 = some (4, true) := by kernel_rfl
@[simp] theorem T1020 : zeroE Tryz.prog 420 = some [V.nilp, V.nilp, V.nilp, V.str []] := by kernel_rfl
@[simp] theorem T1021 : fldE Tryz.prog 420 0 = some (0, 1, false) := by kernel_rfl
@[simp] theorem T1022 : plE Tryz.prog 420 0 = some (0, 1) := by kernel_rfl
@[simp] theorem T1023 : fldE Tryz.prog 420 1 = some (1, 1, false) := by kernel_rfl
@[simp] theorem T1024 : plE Tryz.prog 420 1 = some (1, 1) := by kernel_rfl
@[simp] theorem T1025 : fldE Tryz.prog 420 2 = some (2, 1, false) := by kernel_rfl
@[simp] theorem T1026 : plE Tryz.prog 420 2 = some (2, 1) := by kernel_rfl
@[simp] theorem T1027 : fldE Tryz.prog 420 3 = some (3, 1, false) := by kernel_rfl
@[simp] theorem T1028 : plE Tryz.prog 420 3 = some (3, 1) := by kernel_rfl
@[simp] theorem T1029 : allE Tryz.prog 420 = true := by kernel_rfl
@[simp] theorem T1030 : tyE Tryz.prog 421 = some (0, true) := by kernel_rfl
@[simp] theorem T1031 : zeroE Tryz.prog 421 = some [] := by kernel_rfl
@[simp] theorem T1032 : arE Tryz.prog 421 = some (0, 1, false) := by kernel_rfl
@[simp] theorem T1033 (i : Nat) : plE Tryz.prog 421 i = some (i * 1, 1) := plE_arr T1032 i
@[simp] theorem T1034 : allE Tryz.prog 421 = true := by kernel_rfl
@[simp] theorem T1035 : tyE Tryz.prog 422 = some (0, true) := by kernel_rfl
@[simp] theorem T1036 : zeroE Tryz.prog 422 = some [] := by kernel_rfl
@[simp] theorem T1037 : plE Tryz.prog 422 0 = some (0, 0) := by kernel_rfl
@[simp] theorem T1038 : allE Tryz.prog 422 = true := by kernel_rfl
@[simp] theorem T1039 : tyE Tryz.prog 423 = some (0, true) := by kernel_rfl
@[simp] theorem T1040 : zeroE Tryz.prog 423 = some [] := by kernel_rfl
@[simp] theorem T1041 : plE Tryz.prog 423 0 = some (0, 0) := by kernel_rfl
@[simp] theorem T1042 : allE Tryz.prog 423 = true := by kernel_rfl
@[simp] theorem T1043 : byE Tryz.prog 424 = true := by kernel_rfl
@[simp] theorem T1044 : tyE Tryz.prog 424 = some (1, false) := by kernel_rfl
@[simp] theorem T1045 : zeroE Tryz.prog 424 = some [V.int .u8 0] := by kernel_rfl
@[simp] theorem T1046 : isInt Tryz.prog 424 = some .u8 := by kernel_rfl
@[simp] theorem T1047 : byE Tryz.prog 425 = true := by kernel_rfl
@[simp] theorem T1048 : tyE Tryz.prog 425 = some (1, false) := by kernel_rfl
@[simp] theorem T1049 : zeroE Tryz.prog 425 = some [V.int .u8 0] := by kernel_rfl
@[simp] theorem T1050 : isInt Tryz.prog 425 = some .u8 := by kernel_rfl
@[simp] theorem T1051 : tyE Tryz.prog 426 = some (1, false) := by kernel_rfl
@[simp] theorem T1052 : zeroE Tryz.prog 426 = some [V.poi] := by kernel_rfl
@[simp] theorem T1053 : tyE Tryz.prog 427 = some (1, false) := by kernel_rfl
@[simp] theorem T1054 : zeroE Tryz.prog 427 = some [V.int .i32 0] := by kernel_rfl
@[simp] theorem T1055 : isInt Tryz.prog 427 = some .i32 := by kernel_rfl
@[simp] theorem T1056 : tyE Tryz.prog 428 = some (1, false) := by kernel_rfl
@[simp] theorem T1057 : zeroE Tryz.prog 428 = some [V.int .i32 0] := by kernel_rfl
@[simp] theorem T1058 : isInt Tryz.prog 428 = some .i32 := by kernel_rfl
@[simp] theorem T1059 : tyE Tryz.prog 429 = some (11, true) := by kernel_rfl
@[simp] theorem T1060 : zeroE Tryz.prog 429 = some [V.int .u64 0, V.int .u64 0, V.int .u32 0, V.int .u8 0, V.int .u8 0, V.int .u8 0, V.int .u8 0, V.poi, V.nilp, V.int .i32 0, V.int .i32 0] := by kernel_rfl
@[simp] theorem T1061 : fldE Tryz.prog 429 0 = some (0, 1, false) := by kernel_rfl
@[simp] theorem T1062 : plE Tryz.prog 429 0 = some (0, 1) := by kernel_rfl
@[simp] theorem T1063 : fldE Tryz.prog 429 1 = some (1, 1, false) := by kernel_rfl
@[simp] theorem T1064 : plE Tryz.prog 429 1 = some (1, 1) := by kernel_rfl
@[simp] theorem T1065 : fldE Tryz.prog 429 2 = some (2, 1, false) := by kernel_rfl
@[simp] theorem T1066 : plE Tryz.prog 429 2 = some (2, 1) := by kernel_rfl
@[simp] theorem T1067 : fldE Tryz.prog 429 3 = some (3, 1, false) := by kernel_rfl
@[simp] theorem T1068 : plE Tryz.prog 429 3 = some (3, 1) := by kernel_rfl
@[simp] theorem T1069 : fldE Tryz.prog 429 4 = some (4, 1, false) := by kernel_rfl
@[simp] theorem T1070 : plE Tryz.prog 429 4 = some (4, 1) := by kernel_rfl
@[simp] theorem T1071 : fldE Tryz.prog 429 5 = some (5, 1, false) := by kernel_rfl
@[simp] theorem T1072 : plE Tryz.prog 429 5 = some (5, 1) := by kernel_rfl
@[simp] theorem T1073 : fldE Tryz.prog 429 6 = some (6, 1, false) := by kernel_rfl
@[simp] theorem T1074 : plE Tryz.prog 429 6 = some (6, 1) := by kernel_rfl
@[simp] theorem T1075 : fldE Tryz.prog 429 7 = some (7, 1, false) := by kernel_rfl
@[simp] theorem T1076 : plE Tryz.prog 429 7 = some (7, 1) := by kernel_rfl
@[simp] theorem T1077 : fldE Tryz.prog 429 8 = some (8, 1, false) := by kernel_rfl
@[simp] theorem T1078 : plE Tryz.prog 429 8 = some (8, 1) := by kernel_rfl
@[simp] theorem T1079 : fldE Tryz.prog 429 9 = some (9, 1, false) := by kernel_rfl
@[simp] theorem T1080 : plE Tryz.prog 429 9 = some (9, 1) := by kernel_rfl
@[simp] theorem T1081 : fldE Tryz.prog 429 10 = some (10, 1, false) := by kernel_rfl
@[simp] theorem T1082 : plE Tryz.prog 429 10 = some (10, 1) := by kernel_rfl
@[simp] theorem T1083 : allE Tryz.prog 429 = true := by kernel_rfl
@[simp] theorem T1084 : tyE Tryz.prog 430 = some (11, true) := by kernel_rfl
@[simp] theorem T1085 : zeroE Tryz.prog 430 = some [V.int .u64 0, V.int .u64 0, V.int .u32 0, V.int .u8 0, V.int .u8 0, V.int .u8 0, V.int .u8 0, V.poi, V.nilp, V.int .i32 0, V.int .i32 0] := by kernel_rfl
@[simp] theorem T1086 : fldE Tryz.prog 430 0 = some (0, 1, false) := by kernel_rfl
@[simp] theorem T1087 : plE Tryz.prog 430 0 = some (0, 1) := by kernel_rfl
@[simp] theorem T1088 : fldE Tryz.prog 430 1 = some (1, 1, false) := by kernel_rfl
@[simp] theorem T1089 : plE Tryz.prog 430 1 = some (1, 1) := by kernel_rfl
@[simp] theorem T1090 : fldE Tryz.prog 430 2 = some (2, 1, false) := by kernel_rfl
@[simp] theorem T1091 : plE Tryz.prog 430 2 = some (2, 1) := by kernel_rfl
@[simp] theorem T1092 : fldE Tryz.prog 430 3 = some (3, 1, false) := by kernel_rfl
@[simp] theorem T1093 : plE Tryz.prog 430 3 = some (3, 1) := by kernel_rfl
@[simp] theorem T1094 : fldE Tryz.prog 430 4 = some (4, 1, false) := by kernel_rfl
@[simp] theorem T1095 : plE Tryz.prog 430 4 = some (4, 1) := by kernel_rfl
@[simp] theorem T1096 : fldE Tryz.prog 430 5 = some (5, 1, false) := by kernel_rfl
@[simp] theorem T1097 : plE Tryz.prog 430 5 = some (5, 1) := by kernel_rfl
@[simp] theorem T1098 : fldE Tryz.prog 430 6 = some (6, 1, false) := by kernel_rfl
@[simp] theorem T1099 : plE Tryz.prog 430 6 = some (6, 1) := by kernel_rfl
@[simp] theorem T1100 : fldE Tryz.prog 430 7 = some (7, 1, false) := by kernel_rfl
@[simp] theorem T1101 : plE Tryz.prog 430 7 = some (7, 1) := by kernel_rfl
@[simp] theorem T1102 : fldE Tryz.prog 430 8 = some (8, 1, false) := by kernel_rfl
@[simp] theorem T1103 : plE Tryz.prog 430 8 = some (8, 1) := by kernel_rfl
@[simp] theorem T1104 : fldE Tryz.prog 430 9 = some (9, 1, false) := by kernel_rfl
@[simp] theorem T1105 : plE Tryz.prog 430 9 = some (9, 1) := by kernel_rfl
@[simp] theorem T1106 : fldE Tryz.prog 430 10 = some (10, 1, false) := by kernel_rfl
@[simp] theorem T1107 : plE Tryz.prog 430 10 = some (10, 1) := by kernel_rfl
@[simp] theorem T1108 : allE Tryz.prog 430 = true := by kernel_rfl
end Go.Proofs.YtpifpdjefbehmaaGreat
