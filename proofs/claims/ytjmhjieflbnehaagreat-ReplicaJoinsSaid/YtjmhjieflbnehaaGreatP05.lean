/- A part of the proof of ReplicaJoins. -/
import Derived.Test.YtjmhjieflbnehaaGreatP04
import Derived.KernelRfl
import Derived.Test.YtjmhjieflbnehaaGreatProg
set_option linter.unusedSimpArgs false
set_option linter.unusedVariables false
set_option maxHeartbeats 16000000
set_option maxRecDepth 100000
section
namespace Go.Proofs.YtjmhjieflbnehaaGreat
open Go.Ab
@[simp] theorem T0 : tyE Tryz.prog 1 = some (1, false) := by kernel_rfl
@[simp] theorem T2 : tyE Tryz.prog 2 = some (1, false) := by kernel_rfl
@[simp] theorem T3 : zeroE Tryz.prog 2 = some [V.int .i64 0] := by kernel_rfl
@[simp] theorem T4 : isInt Tryz.prog 2 = some .i64 := by kernel_rfl
@[simp] theorem T5 : tyE Tryz.prog 3 = some (1, false) := by kernel_rfl
@[simp] theorem T6 : zeroE Tryz.prog 3 = some [V.int .i64 0] := by kernel_rfl
@[simp] theorem T7 : isInt Tryz.prog 3 = some .i64 := by kernel_rfl
@[simp] theorem T8 : tyE Tryz.prog 4 = some (1, false) := by kernel_rfl
@[simp] theorem T9 : zeroE Tryz.prog 4 = some [V.bool false] := by kernel_rfl
@[simp] theorem T10 : byE Tryz.prog 5 = true := by kernel_rfl
@[simp] theorem T11 : tyE Tryz.prog 5 = some (1, false) := by kernel_rfl
@[simp] theorem T12 : zeroE Tryz.prog 5 = some [V.int .u8 0] := by kernel_rfl
@[simp] theorem T13 : isInt Tryz.prog 5 = some .u8 := by kernel_rfl
@[simp] theorem T14 : byE Tryz.prog 6 = true := by kernel_rfl
@[simp] theorem T15 : tyE Tryz.prog 6 = some (1, false) := by kernel_rfl
@[simp] theorem T17 : isInt Tryz.prog 6 = some .u8 := by kernel_rfl
@[simp] theorem T18 : tyE Tryz.prog 7 = some (4, true) := by kernel_rfl
@[simp] theorem T28 : allE Tryz.prog 7 = true := by kernel_rfl
@[simp] theorem T29 : tyE Tryz.prog 8 = some (4, true) := by kernel_rfl
@[simp] theorem T39 : allE Tryz.prog 8 = true := by kernel_rfl
@[simp] theorem T40 : tyE Tryz.prog 9 = some (1, false) := by kernel_rfl
@[simp] theorem T41 : zeroE Tryz.prog 9 = some [V.str []] := by kernel_rfl
@[simp] theorem T42 : slE Tryz.prog 9 = none := by kernel_rfl
@[simp] theorem T43 : zCQ Tryz.prog 9 = true := by kernel_rfl
@[simp] theorem T44 : tyE Tryz.prog 10 = some (1, false) := by kernel_rfl
@[simp] theorem T46 : slE Tryz.prog 10 = none := by kernel_rfl
@[simp] theorem T47 : zCQ Tryz.prog 10 = true := by kernel_rfl
@[simp] theorem T48 : tyE Tryz.prog 11 = some (1, false) := by kernel_rfl
@[simp] theorem T50 : slE Tryz.prog 11 = none := by kernel_rfl
@[simp] theorem T51 : zCQ Tryz.prog 11 = true := by kernel_rfl
@[simp] theorem T52 : tyE Tryz.prog 12 = some (1, false) := by kernel_rfl
@[simp] theorem T54 : isInt Tryz.prog 12 = some .u64 := by kernel_rfl
@[simp] theorem T55 : tyE Tryz.prog 13 = some (2, true) := by kernel_rfl
@[simp] theorem T61 : allE Tryz.prog 13 = true := by kernel_rfl
@[simp] theorem T62 : tyE Tryz.prog 14 = some (2, true) := by kernel_rfl
@[simp] theorem T68 : allE Tryz.prog 14 = true := by kernel_rfl
@[simp] theorem T69 : tyE Tryz.prog 15 = some (1, false) := by kernel_rfl
@[simp] theorem T71 : tyE Tryz.prog 16 = some (1, false) := by kernel_rfl
@[simp] theorem T73 : tyE Tryz.prog 17 = some (1, false) := by kernel_rfl
@[simp] theorem T75 : tyE Tryz.prog 18 = some (1, true) := by kernel_rfl
@[simp] theorem T79 : allE Tryz.prog 18 = true := by kernel_rfl
@[simp] theorem T80 : tyE Tryz.prog 19 = some (1, true) := by kernel_rfl
@[simp] theorem T84 : allE Tryz.prog 19 = true := by kernel_rfl
@[simp] theorem T85 : tyE Tryz.prog 20 = some (1, false) := by kernel_rfl
@[simp] theorem T87 : tyE Tryz.prog 21 = some (1, false) := by kernel_rfl
@[simp] theorem T88 : zeroE Tryz.prog 21 = some [V.int .i32 0] := by kernel_rfl
@[simp] theorem T89 : isInt Tryz.prog 21 = some .i32 := by kernel_rfl
@[simp] theorem T90 : tyE Tryz.prog 22 = some (1, false) := by kernel_rfl
@[simp] theorem T91 : zeroE Tryz.prog 22 = some [V.sl 0 true []] := by kernel_rfl
@[simp] theorem T92 : slE Tryz.prog 22 = some (3, 1, 8) := by kernel_rfl
@[simp] theorem T93 : tyE Tryz.prog 23 = some (1, false) := by kernel_rfl
@[simp] theorem T95 : tyE Tryz.prog 24 = some (1, false) := by kernel_rfl
@[simp] theorem T96 : zeroE Tryz.prog 24 = some [V.int .u64 0] := by kernel_rfl
@[simp] theorem T97 : isInt Tryz.prog 24 = some .u64 := by kernel_rfl
@[simp] theorem T98 : tyE Tryz.prog 25 = some (1, false) := by kernel_rfl
@[simp] theorem T99 : zeroE Tryz.prog 25 = some [V.int .u32 0] := by kernel_rfl
@[simp] theorem T100 : isInt Tryz.prog 25 = some .u32 := by kernel_rfl
@[simp] theorem T101 : tyE Tryz.prog 26 = some (16, true) := by kernel_rfl
@[simp] theorem T103 : arE Tryz.prog 26 = some (16, 1, false) := by kernel_rfl
@[simp] theorem T104 (i : Nat) : plE Tryz.prog 26 i = some (i * 1, 1) := zFt T103 i
@[simp] theorem T105 : allE Tryz.prog 26 = true := by kernel_rfl
@[simp] theorem T106 : tyE Tryz.prog 27 = some (8, true) := by kernel_rfl
@[simp] theorem T107 : zeroE Tryz.prog 27 = some [V.int .u32 0, V.int .u32 0, V.int .u32 0, V.int .u32 0, V.int .u32 0, V.int .u32 0, V.int .u32 0, V.int .u32 0] := by kernel_rfl
@[simp] theorem T108 : arE Tryz.prog 27 = some (8, 1, false) := by kernel_rfl
@[simp] theorem T109 (i : Nat) : plE Tryz.prog 27 i = some (i * 1, 1) := zFt T108 i
@[simp] theorem T110 : allE Tryz.prog 27 = true := by kernel_rfl
@[simp] theorem T111 : tyE Tryz.prog 28 = some (25, true) := by kernel_rfl
@[simp] theorem T119 : allE Tryz.prog 28 = true := by kernel_rfl
@[simp] theorem T120 : tyE Tryz.prog 29 = some (25, true) := by kernel_rfl
@[simp] theorem T121 : zeroE Tryz.prog 29 = some [V.int .u32 0, V.int .u32 0, V.int .u32 0, V.int .u32 0, V.int .u32 0, V.int .u32 0, V.int .u32 0, V.int .u32 0, V.int .u32 0, V.int .u32 0, V.int .u32 0, V.int .u32 0, V.int .u32 0, V.int .u32 0, V.int .u32 0, V.int .u32 0, V.int .u32 0, V.int .u32 0, V.int .u32 0, V.int .u32 0, V.int .u32 0, V.int .u32 0, V.int .u32 0, V.int .u32 0, V.int .u32 0] := by kernel_rfl
@[simp] theorem T122 : fldE Tryz.prog 29 0 = some (0, 16, true) := by kernel_rfl
@[simp] theorem T124 : fldE Tryz.prog 29 1 = some (16, 1, false) := by kernel_rfl
@[simp] theorem T125 : plE Tryz.prog 29 1 = some (16, 1) := by kernel_rfl
@[simp] theorem T126 : fldE Tryz.prog 29 2 = some (17, 8, true) := by kernel_rfl
@[simp] theorem T128 : allE Tryz.prog 29 = true := by kernel_rfl
@[simp] theorem T129 : eqE Tryz.prog 29 = some [.i, .i, .i, .i, .i, .i, .i, .i, .i, .i, .i, .i, .i, .i, .i, .i, .i, .i, .i, .i, .i, .i, .i, .i, .i] := by kernel_rfl
@[simp] theorem T130 : tyE Tryz.prog 30 = some (1, false) := by kernel_rfl
@[simp] theorem T131 : zeroE Tryz.prog 30 = some [V.sl 0 true []] := by kernel_rfl
@[simp] theorem T132 : slE Tryz.prog 30 = some (25, 1, 4) := by kernel_rfl
@[simp] theorem T133 : tyE Tryz.prog 31 = some (1, true) := by kernel_rfl
@[simp] theorem T137 : allE Tryz.prog 31 = true := by kernel_rfl
@[simp] theorem T138 : tyE Tryz.prog 32 = some (1, true) := by kernel_rfl
@[simp] theorem T139 : zeroE Tryz.prog 32 = some [V.str []] := by kernel_rfl
@[simp] theorem T140 : fldE Tryz.prog 32 0 = some (0, 1, false) := by kernel_rfl
@[simp] theorem T142 : allE Tryz.prog 32 = true := by kernel_rfl
@[simp] theorem T143 : eqE Tryz.prog 32 = some [.s] := by kernel_rfl
@[simp] theorem T144 : tyE Tryz.prog 33 = some (3, true) := by kernel_rfl
@[simp] theorem T152 : allE Tryz.prog 33 = true := by kernel_rfl
@[simp] theorem T153 : tyE Tryz.prog 34 = some (3, true) := by kernel_rfl
@[simp] theorem T154 : zeroE Tryz.prog 34 = some [V.bool false, V.int .u32 0, V.bool false] := by kernel_rfl
@[simp] theorem T155 : fldE Tryz.prog 34 0 = some (0, 1, false) := by kernel_rfl
@[simp] theorem T156 : plE Tryz.prog 34 0 = some (0, 1) := by kernel_rfl
@[simp] theorem T157 : fldE Tryz.prog 34 1 = some (1, 1, false) := by kernel_rfl
@[simp] theorem T158 : plE Tryz.prog 34 1 = some (1, 1) := by kernel_rfl
@[simp] theorem T159 : fldE Tryz.prog 34 2 = some (2, 1, false) := by kernel_rfl
@[simp] theorem T160 : plE Tryz.prog 34 2 = some (2, 1) := by kernel_rfl
@[simp] theorem T161 : allE Tryz.prog 34 = true := by kernel_rfl
@[simp] theorem T162 : eqE Tryz.prog 34 = some [.b, .i, .b] := by kernel_rfl
@[simp] theorem T163 : tyE Tryz.prog 35 = some (8, true) := by kernel_rfl
@[simp] theorem T181 : allE Tryz.prog 35 = true := by kernel_rfl
@[simp] theorem T182 : tyE Tryz.prog 36 = some (8, true) := by kernel_rfl
@[simp] theorem T183 : zeroE Tryz.prog 36 = some [V.int .u32 0, V.int .u32 0, V.int .u32 0, V.int .i64 0, V.int .i64 0, V.int .u32 0, V.int .u32 0, V.str []] := by kernel_rfl
@[simp] theorem T184 : fldE Tryz.prog 36 0 = some (0, 1, false) := by kernel_rfl
@[simp] theorem T186 : fldE Tryz.prog 36 1 = some (1, 1, false) := by kernel_rfl
@[simp] theorem T188 : fldE Tryz.prog 36 2 = some (2, 1, false) := by kernel_rfl
@[simp] theorem T190 : fldE Tryz.prog 36 3 = some (3, 1, false) := by kernel_rfl
@[simp] theorem T192 : fldE Tryz.prog 36 4 = some (4, 1, false) := by kernel_rfl
@[simp] theorem T194 : fldE Tryz.prog 36 5 = some (5, 1, false) := by kernel_rfl
@[simp] theorem T196 : fldE Tryz.prog 36 6 = some (6, 1, false) := by kernel_rfl
@[simp] theorem T198 : fldE Tryz.prog 36 7 = some (7, 1, false) := by kernel_rfl
@[simp] theorem T200 : allE Tryz.prog 36 = true := by kernel_rfl
@[simp] theorem T201 : eqE Tryz.prog 36 = some [.i, .i, .i, .i, .i, .i, .i, .s] := by kernel_rfl
@[simp] theorem T202 : tyE Tryz.prog 37 = some (6, true) := by kernel_rfl
@[simp] theorem T216 : allE Tryz.prog 37 = true := by kernel_rfl
@[simp] theorem T217 : tyE Tryz.prog 38 = some (6, true) := by kernel_rfl
@[simp] theorem T218 : zeroE Tryz.prog 38 = some [V.int .u32 0, V.int .u32 0, V.bool false, V.int .u32 0, V.bool false, V.int .u32 0] := by kernel_rfl
@[simp] theorem T219 : fldE Tryz.prog 38 0 = some (0, 1, false) := by kernel_rfl
@[simp] theorem T221 : fldE Tryz.prog 38 1 = some (1, 1, false) := by kernel_rfl
@[simp] theorem T223 : fldE Tryz.prog 38 2 = some (2, 1, false) := by kernel_rfl
@[simp] theorem T225 : fldE Tryz.prog 38 3 = some (3, 1, false) := by kernel_rfl
@[simp] theorem T227 : fldE Tryz.prog 38 4 = some (4, 1, false) := by kernel_rfl
@[simp] theorem T229 : fldE Tryz.prog 38 5 = some (5, 1, false) := by kernel_rfl
@[simp] theorem T231 : allE Tryz.prog 38 = true := by kernel_rfl
@[simp] theorem T232 : eqE Tryz.prog 38 = some [.i, .i, .b, .i, .b, .i] := by kernel_rfl
@[simp] theorem T233 : tyE Tryz.prog 39 = some (2, true) := by kernel_rfl
@[simp] theorem T239 : allE Tryz.prog 39 = true := by kernel_rfl
@[simp] theorem T240 : tyE Tryz.prog 40 = some (2, true) := by kernel_rfl
@[simp] theorem T241 : zeroE Tryz.prog 40 = some [V.int .u32 0, V.int .u32 0] := by kernel_rfl
@[simp] theorem T242 : fldE Tryz.prog 40 0 = some (0, 1, false) := by kernel_rfl
@[simp] theorem T244 : fldE Tryz.prog 40 1 = some (1, 1, false) := by kernel_rfl
@[simp] theorem T246 : allE Tryz.prog 40 = true := by kernel_rfl
@[simp] theorem T247 : eqE Tryz.prog 40 = some [.i, .i] := by kernel_rfl
@[simp] theorem T248 : tyE Tryz.prog 41 = some (49, true) := by kernel_rfl
@[simp] theorem T270 : allE Tryz.prog 41 = true := by kernel_rfl
@[simp] theorem T271 : tyE Tryz.prog 42 = some (49, true) := by kernel_rfl
@[simp] theorem T272 : zeroE Tryz.prog 42 = some [V.int .u32 0, V.int .u32 0, V.int .u32 0, V.int .u32 0, V.int .u32 0, V.int .u32 0, V.int .u32 0, V.int .u32 0, V.int .u32 0, V.int .u32 0, V.int .u32 0, V.int .u32 0, V.int .u32 0, V.int .u32 0, V.int .u32 0, V.int .u32 0, V.int .u32 0, V.int .u32 0, V.int .u32 0, V.int .u32 0, V.int .u32 0, V.int .u32 0, V.int .u32 0, V.int .u32 0, V.int .u32 0, V.sl 0 true [], V.str [], V.bool false, V.int .u32 0, V.bool false, V.int .u32 0, V.int .u32 0, V.int .u32 0, V.int .i64 0, V.int .i64 0, V.int .u32 0, V.int .u32 0, V.str [], V.int .u32 0, V.int .u32 0, V.bool false, V.int .u32 0, V.bool false, V.int .u32 0, V.int .u32 0, V.int .u32 0, V.int .u64 0, V.bool false, V.bool false] := by kernel_rfl
@[simp] theorem T273 : fldE Tryz.prog 42 0 = some (0, 25, true) := by kernel_rfl
@[simp] theorem T274 : plE Tryz.prog 42 0 = some (0, 25) := by kernel_rfl
@[simp] theorem T275 : fldE Tryz.prog 42 1 = some (25, 1, false) := by kernel_rfl
@[simp] theorem T276 : plE Tryz.prog 42 1 = some (25, 1) := by kernel_rfl
@[simp] theorem T277 : fldE Tryz.prog 42 2 = some (26, 1, true) := by kernel_rfl
@[simp] theorem T279 : fldE Tryz.prog 42 3 = some (27, 3, true) := by kernel_rfl
@[simp] theorem T281 : fldE Tryz.prog 42 4 = some (30, 8, true) := by kernel_rfl
@[simp] theorem T283 : fldE Tryz.prog 42 5 = some (38, 6, true) := by kernel_rfl
@[simp] theorem T285 : fldE Tryz.prog 42 6 = some (44, 2, true) := by kernel_rfl
@[simp] theorem T287 : fldE Tryz.prog 42 7 = some (46, 1, false) := by kernel_rfl
@[simp] theorem T289 : fldE Tryz.prog 42 8 = some (47, 1, false) := by kernel_rfl
@[simp] theorem T291 : fldE Tryz.prog 42 9 = some (48, 1, false) := by kernel_rfl
@[simp] theorem T293 : allE Tryz.prog 42 = true := by kernel_rfl
@[simp] theorem T294 : tyE Tryz.prog 43 = some (1, false) := by kernel_rfl
@[simp] theorem T295 : zeroE Tryz.prog 43 = some [V.sl 0 true []] := by kernel_rfl
@[simp] theorem T296 : slE Tryz.prog 43 = some (107, 4, 40) := by kernel_rfl
@[simp] theorem T297 : tyE Tryz.prog 44 = some (1, false) := by kernel_rfl
@[simp] theorem T298 : zeroE Tryz.prog 44 = some [V.sl 0 true []] := by kernel_rfl
@[simp] theorem T299 : slE Tryz.prog 44 = some (72, 3, 32) := by kernel_rfl
@[simp] theorem T300 : tyE Tryz.prog 45 = some (52, true) := by kernel_rfl
@[simp] theorem T310 : allE Tryz.prog 45 = true := by kernel_rfl
@[simp] theorem T311 : tyE Tryz.prog 46 = some (52, true) := by kernel_rfl
@[simp] theorem T312 : zeroE Tryz.prog 46 = some [V.int .u32 0, V.int .u32 0, V.int .u32 0, V.int .u32 0, V.int .u32 0, V.int .u32 0, V.int .u32 0, V.int .u32 0, V.int .u32 0, V.int .u32 0, V.int .u32 0, V.int .u32 0, V.int .u32 0, V.int .u32 0, V.int .u32 0, V.int .u32 0, V.int .u32 0, V.int .u32 0, V.int .u32 0, V.int .u32 0, V.int .u32 0, V.int .u32 0, V.int .u32 0, V.int .u32 0, V.int .u32 0, V.sl 0 true [], V.str [], V.bool false, V.int .u32 0, V.bool false, V.int .u32 0, V.int .u32 0, V.int .u32 0, V.int .i64 0, V.int .i64 0, V.int .u32 0, V.int .u32 0, V.str [], V.int .u32 0, V.int .u32 0, V.bool false, V.int .u32 0, V.bool false, V.int .u32 0, V.int .u32 0, V.int .u32 0, V.int .u64 0, V.bool false, V.bool false, V.int .u32 0, V.sl 0 true [], V.sl 0 true []] := by kernel_rfl
@[simp] theorem T313 : fldE Tryz.prog 46 0 = some (0, 49, true) := by kernel_rfl
@[simp] theorem T314 : plE Tryz.prog 46 0 = some (0, 49) := by kernel_rfl
@[simp] theorem T315 : fldE Tryz.prog 46 1 = some (49, 1, false) := by kernel_rfl
@[simp] theorem T317 : fldE Tryz.prog 46 2 = some (50, 1, false) := by kernel_rfl
@[simp] theorem T319 : fldE Tryz.prog 46 3 = some (51, 1, false) := by kernel_rfl
@[simp] theorem T321 : allE Tryz.prog 46 = true := by kernel_rfl
@[simp] theorem T322 : tyE Tryz.prog 47 = some (52, true) := by kernel_rfl
@[simp] theorem T332 : allE Tryz.prog 47 = true := by kernel_rfl
@[simp] theorem T333 : tyE Tryz.prog 48 = some (52, true) := by kernel_rfl
@[simp] theorem T334 : zeroE Tryz.prog 48 = some [V.int .u32 0, V.int .u32 0, V.int .u32 0, V.int .u32 0, V.int .u32 0, V.int .u32 0, V.int .u32 0, V.int .u32 0, V.int .u32 0, V.int .u32 0, V.int .u32 0, V.int .u32 0, V.int .u32 0, V.int .u32 0, V.int .u32 0, V.int .u32 0, V.int .u32 0, V.int .u32 0, V.int .u32 0, V.int .u32 0, V.int .u32 0, V.int .u32 0, V.int .u32 0, V.int .u32 0, V.int .u32 0, V.sl 0 true [], V.str [], V.bool false, V.int .u32 0, V.bool false, V.int .u32 0, V.int .u32 0, V.int .u32 0, V.int .i64 0, V.int .i64 0, V.int .u32 0, V.int .u32 0, V.str [], V.int .u32 0, V.int .u32 0, V.bool false, V.int .u32 0, V.bool false, V.int .u32 0, V.int .u32 0, V.int .u32 0, V.int .u64 0, V.bool false, V.bool false, V.sl 0 true [], V.int .u64 0, V.int .u32 0] := by kernel_rfl
@[simp] theorem T335 : fldE Tryz.prog 48 0 = some (0, 49, true) := by kernel_rfl
@[simp] theorem T336 : plE Tryz.prog 48 0 = some (0, 49) := by kernel_rfl
@[simp] theorem T337 : fldE Tryz.prog 48 1 = some (49, 1, false) := by kernel_rfl
@[simp] theorem T339 : fldE Tryz.prog 48 2 = some (50, 1, false) := by kernel_rfl
@[simp] theorem T340 : plE Tryz.prog 48 2 = some (50, 1) := by kernel_rfl
@[simp] theorem T341 : fldE Tryz.prog 48 3 = some (51, 1, false) := by kernel_rfl
@[simp] theorem T343 : allE Tryz.prog 48 = true := by kernel_rfl
@[simp] theorem T344 : tyE Tryz.prog 49 = some (1, false) := by kernel_rfl
@[simp] theorem T345 : zeroE Tryz.prog 49 = some [V.sl 0 true []] := by kernel_rfl
@[simp] theorem T346 : slE Tryz.prog 49 = some (81, 4, 40) := by kernel_rfl
@[simp] theorem T347 : tyE Tryz.prog 50 = some (3, true) := by kernel_rfl
@[simp] theorem T355 : allE Tryz.prog 50 = true := by kernel_rfl
@[simp] theorem T356 : tyE Tryz.prog 51 = some (3, true) := by kernel_rfl
@[simp] theorem T357 : zeroE Tryz.prog 51 = some [V.sl 0 true [], V.int .u64 0, V.int .u64 0] := by kernel_rfl
@[simp] theorem T358 : fldE Tryz.prog 51 0 = some (0, 1, false) := by kernel_rfl
@[simp] theorem T360 : fldE Tryz.prog 51 1 = some (1, 1, false) := by kernel_rfl
@[simp] theorem T361 : plE Tryz.prog 51 1 = some (1, 1) := by kernel_rfl
@[simp] theorem T362 : fldE Tryz.prog 51 2 = some (2, 1, false) := by kernel_rfl
@[simp] theorem T364 : allE Tryz.prog 51 = true := by kernel_rfl
@[simp] theorem T365 : tyE Tryz.prog 52 = some (1, false) := by kernel_rfl
@[simp] theorem T366 : zeroE Tryz.prog 52 = some [V.sl 0 true []] := by kernel_rfl
@[simp] theorem T367 : slE Tryz.prog 52 = some (140, 3, 40) := by kernel_rfl
@[simp] theorem T368 : tyE Tryz.prog 53 = some (4, true) := by kernel_rfl
@[simp] theorem T378 : allE Tryz.prog 53 = true := by kernel_rfl
@[simp] theorem T379 : tyE Tryz.prog 54 = some (4, true) := by kernel_rfl
@[simp] theorem T380 : zeroE Tryz.prog 54 = some [V.int .u64 0, V.int .u64 0, V.int .u64 0, V.sl 0 true []] := by kernel_rfl
@[simp] theorem T381 : fldE Tryz.prog 54 0 = some (0, 1, false) := by kernel_rfl
@[simp] theorem T382 : plE Tryz.prog 54 0 = some (0, 1) := by kernel_rfl
@[simp] theorem T383 : fldE Tryz.prog 54 1 = some (1, 1, false) := by kernel_rfl
@[simp] theorem T384 : plE Tryz.prog 54 1 = some (1, 1) := by kernel_rfl
@[simp] theorem T385 : fldE Tryz.prog 54 2 = some (2, 1, false) := by kernel_rfl
@[simp] theorem T386 : plE Tryz.prog 54 2 = some (2, 1) := by kernel_rfl
@[simp] theorem T387 : fldE Tryz.prog 54 3 = some (3, 1, false) := by kernel_rfl
@[simp] theorem T389 : allE Tryz.prog 54 = true := by kernel_rfl
@[simp] theorem T390 : tyE Tryz.prog 55 = some (1, false) := by kernel_rfl
@[simp] theorem T391 : zeroE Tryz.prog 55 = some [V.sl 0 true []] := by kernel_rfl
@[simp] theorem T392 : slE Tryz.prog 55 = some (144, 4, 48) := by kernel_rfl
@[simp] theorem T393 : tyE Tryz.prog 56 = some (3, true) := by kernel_rfl
@[simp] theorem T401 : allE Tryz.prog 56 = true := by kernel_rfl
@[simp] theorem T402 : tyE Tryz.prog 57 = some (3, true) := by kernel_rfl
@[simp] theorem T403 : zeroE Tryz.prog 57 = some [V.int .u64 0, V.int .u64 0, V.sl 0 true []] := by kernel_rfl
@[simp] theorem T404 : fldE Tryz.prog 57 0 = some (0, 1, false) := by kernel_rfl
@[simp] theorem T405 : plE Tryz.prog 57 0 = some (0, 1) := by kernel_rfl
@[simp] theorem T406 : fldE Tryz.prog 57 1 = some (1, 1, false) := by kernel_rfl
@[simp] theorem T407 : plE Tryz.prog 57 1 = some (1, 1) := by kernel_rfl
@[simp] theorem T408 : fldE Tryz.prog 57 2 = some (2, 1, false) := by kernel_rfl
@[simp] theorem T410 : allE Tryz.prog 57 = true := by kernel_rfl
@[simp] theorem T411 : tyE Tryz.prog 58 = some (3, true) := by kernel_rfl
@[simp] theorem T419 : allE Tryz.prog 58 = true := by kernel_rfl
@[simp] theorem T420 : tyE Tryz.prog 59 = some (3, true) := by kernel_rfl
@[simp] theorem T421 : zeroE Tryz.prog 59 = some [V.int .i64 0, V.int .i64 0, V.int .u64 0] := by kernel_rfl
@[simp] theorem T422 : fldE Tryz.prog 59 0 = some (0, 1, false) := by kernel_rfl
@[simp] theorem T423 : plE Tryz.prog 59 0 = some (0, 1) := by kernel_rfl
@[simp] theorem T424 : fldE Tryz.prog 59 1 = some (1, 1, false) := by kernel_rfl
@[simp] theorem T428 : allE Tryz.prog 59 = true := by kernel_rfl
@[simp] theorem T429 : eqE Tryz.prog 59 = some [.i, .i, .i] := by kernel_rfl
@[simp] theorem T430 : tyE Tryz.prog 60 = some (125, true) := by kernel_rfl
@[simp] theorem T460 : allE Tryz.prog 60 = true := by kernel_rfl
@[simp] theorem T461 : tyE Tryz.prog 61 = some (125, true) := by kernel_rfl
@[simp] theorem T462 : zeroE Tryz.prog 61 = some [V.int .i64 0, V.int .i64 0, V.int .u64 0, V.int .u32 0, V.int .u32 0, V.int .u32 0, V.int .u32 0, V.int .u32 0, V.int .u32 0, V.int .u32 0, V.int .u32 0, V.int .u32 0, V.int .u32 0, V.int .u32 0, V.int .u32 0, V.int .u32 0, V.int .u32 0, V.int .u32 0, V.int .u32 0, V.int .u32 0, V.int .u32 0, V.int .u32 0, V.int .u32 0, V.int .u32 0, V.int .u32 0, V.int .u32 0, V.int .u32 0, V.int .u32 0, V.sl 0 true [], V.str [], V.bool false, V.int .u32 0, V.bool false, V.int .u32 0, V.int .u32 0, V.int .u32 0, V.int .i64 0, V.int .i64 0, V.int .u32 0, V.int .u32 0, V.str [], V.int .u32 0, V.int .u32 0, V.bool false, V.int .u32 0, V.bool false, V.int .u32 0, V.int .u32 0, V.int .u32 0, V.int .u64 0, V.bool false, V.bool false, V.int .u32 0, V.sl 0 true [], V.sl 0 true [], V.int .u32 0, V.int .u32 0, V.int .u32 0, V.int .u32 0, V.int .u32 0, V.int .u32 0, V.int .u32 0, V.int .u32 0, V.int .u32 0, V.int .u32 0, V.int .u32 0, V.int .u32 0, V.int .u32 0, V.int .u32 0, V.int .u32 0, V.int .u32 0, V.int .u32 0, V.int .u32 0, V.int .u32 0, V.int .u32 0, V.int .u32 0, V.int .u32 0, V.int .u32 0, V.int .u32 0, V.int .u32 0, V.sl 0 true [], V.str [], V.bool false, V.int .u32 0, V.bool false, V.int .u32 0, V.int .u32 0, V.int .u32 0, V.int .i64 0, V.int .i64 0, V.int .u32 0, V.int .u32 0, V.str [], V.int .u32 0, V.int .u32 0, V.bool false, V.int .u32 0, V.bool false, V.int .u32 0, V.int .u32 0, V.int .u32 0, V.int .u64 0, V.bool false, V.bool false, V.sl 0 true [], V.int .u64 0, V.int .u32 0, V.sl 0 true [], V.int .u64 0, V.int .u64 0, V.int .u64 0, V.int .u64 0, V.int .u64 0, V.int .u64 0, V.sl 0 true [], V.int .u64 0, V.int .u64 0, V.sl 0 true [], V.int .i64 0, V.int .i64 0, V.int .u64 0, V.int .u64 0, V.int .i64 0, V.int .u64 0, V.sl 0 true []] := by kernel_rfl
@[simp] theorem T463 : fldE Tryz.prog 61 0 = some (0, 1, false) := by kernel_rfl
@[simp] theorem T464 : plE Tryz.prog 61 0 = some (0, 1) := by kernel_rfl
@[simp] theorem T465 : fldE Tryz.prog 61 1 = some (1, 1, false) := by kernel_rfl
@[simp] theorem T466 : plE Tryz.prog 61 1 = some (1, 1) := by kernel_rfl
@[simp] theorem T467 : fldE Tryz.prog 61 2 = some (2, 1, false) := by kernel_rfl
@[simp] theorem T468 : plE Tryz.prog 61 2 = some (2, 1) := by kernel_rfl
@[simp] theorem T469 : fldE Tryz.prog 61 3 = some (3, 52, true) := by kernel_rfl
@[simp] theorem T471 : fldE Tryz.prog 61 4 = some (55, 52, true) := by kernel_rfl
@[simp] theorem T472 : plE Tryz.prog 61 4 = some (55, 52) := by kernel_rfl
@[simp] theorem T473 : fldE Tryz.prog 61 5 = some (107, 3, true) := by kernel_rfl
@[simp] theorem T474 : plE Tryz.prog 61 5 = some (107, 3) := by kernel_rfl
@[simp] theorem T475 : fldE Tryz.prog 61 6 = some (110, 1, false) := by kernel_rfl
@[simp] theorem T476 : plE Tryz.prog 61 6 = some (110, 1) := by kernel_rfl
@[simp] theorem T477 : fldE Tryz.prog 61 7 = some (111, 4, true) := by kernel_rfl
@[simp] theorem T479 : fldE Tryz.prog 61 8 = some (115, 3, true) := by kernel_rfl
@[simp] theorem T480 : plE Tryz.prog 61 8 = some (115, 3) := by kernel_rfl
@[simp] theorem T481 : fldE Tryz.prog 61 9 = some (118, 3, true) := by kernel_rfl
@[simp] theorem T482 : plE Tryz.prog 61 9 = some (118, 3) := by kernel_rfl
@[simp] theorem T483 : fldE Tryz.prog 61 10 = some (121, 1, false) := by kernel_rfl
@[simp] theorem T485 : fldE Tryz.prog 61 11 = some (122, 1, false) := by kernel_rfl
@[simp] theorem T487 : fldE Tryz.prog 61 12 = some (123, 1, false) := by kernel_rfl
@[simp] theorem T489 : fldE Tryz.prog 61 13 = some (124, 1, false) := by kernel_rfl
@[simp] theorem T490 : plE Tryz.prog 61 13 = some (124, 1) := by kernel_rfl
@[simp] theorem T491 : allE Tryz.prog 61 = true := by kernel_rfl
@[simp] theorem T492 : tyE Tryz.prog 62 = some (1, false) := by kernel_rfl
@[simp] theorem T493 : zeroE Tryz.prog 62 = some [V.sl 0 true []] := by kernel_rfl
@[simp] theorem T494 : slE Tryz.prog 62 = some (9, 1, 16) := by kernel_rfl
@[simp] theorem T495 : tyE Tryz.prog 63 = some (3, true) := by kernel_rfl
@[simp] theorem T503 : allE Tryz.prog 63 = true := by kernel_rfl
@[simp] theorem T504 : tyE Tryz.prog 64 = some (3, true) := by kernel_rfl
@[simp] theorem T505 : zeroE Tryz.prog 64 = some [V.sl 0 true [], V.int .u64 0, V.int .i64 0] := by kernel_rfl
@[simp] theorem T506 : fldE Tryz.prog 64 0 = some (0, 1, false) := by kernel_rfl
@[simp] theorem T507 : plE Tryz.prog 64 0 = some (0, 1) := by kernel_rfl
@[simp] theorem T508 : fldE Tryz.prog 64 1 = some (1, 1, false) := by kernel_rfl
@[simp] theorem T510 : fldE Tryz.prog 64 2 = some (2, 1, false) := by kernel_rfl
@[simp] theorem T511 : plE Tryz.prog 64 2 = some (2, 1) := by kernel_rfl
@[simp] theorem T512 : allE Tryz.prog 64 = true := by kernel_rfl
@[simp] theorem T513 : tyE Tryz.prog 65 = some (255, true) := by kernel_rfl
@[simp] theorem T525 : allE Tryz.prog 65 = true := by kernel_rfl
@[simp] theorem T526 : tyE Tryz.prog 66 = some (255, true) := by kernel_rfl
@[simp] theorem T527 : zeroE Tryz.prog 66 = some [V.int .i64 0, V.int .i64 0, V.int .u64 0, V.int .u32 0, V.int .u32 0, V.int .u32 0, V.int .u32 0, V.int .u32 0, V.int .u32 0, V.int .u32 0, V.int .u32 0, V.int .u32 0, V.int .u32 0, V.int .u32 0, V.int .u32 0, V.int .u32 0, V.int .u32 0, V.int .u32 0, V.int .u32 0, V.int .u32 0, V.int .u32 0, V.int .u32 0, V.int .u32 0, V.int .u32 0, V.int .u32 0, V.int .u32 0, V.int .u32 0, V.int .u32 0, V.sl 0 true [], V.str [], V.bool false, V.int .u32 0, V.bool false, V.int .u32 0, V.int .u32 0, V.int .u32 0, V.int .i64 0, V.int .i64 0, V.int .u32 0, V.int .u32 0, V.str [], V.int .u32 0, V.int .u32 0, V.bool false, V.int .u32 0, V.bool false, V.int .u32 0, V.int .u32 0, V.int .u32 0, V.int .u64 0, V.bool false, V.bool false, V.int .u32 0, V.sl 0 true [], V.sl 0 true [], V.int .u32 0, V.int .u32 0, V.int .u32 0, V.int .u32 0, V.int .u32 0, V.int .u32 0, V.int .u32 0, V.int .u32 0, V.int .u32 0, V.int .u32 0, V.int .u32 0, V.int .u32 0, V.int .u32 0, V.int .u32 0, V.int .u32 0, V.int .u32 0, V.int .u32 0, V.int .u32 0, V.int .u32 0, V.int .u32 0, V.int .u32 0, V.int .u32 0, V.int .u32 0, V.int .u32 0, V.int .u32 0, V.sl 0 true [], V.str [], V.bool false, V.int .u32 0, V.bool false, V.int .u32 0, V.int .u32 0, V.int .u32 0, V.int .i64 0, V.int .i64 0, V.int .u32 0, V.int .u32 0, V.str [], V.int .u32 0, V.int .u32 0, V.bool false, V.int .u32 0, V.bool false, V.int .u32 0, V.int .u32 0, V.int .u32 0, V.int .u64 0, V.bool false, V.bool false, V.sl 0 true [], V.int .u64 0, V.int .u32 0, V.sl 0 true [], V.int .u64 0, V.int .u64 0, V.int .u64 0, V.int .u64 0, V.int .u64 0, V.int .u64 0, V.sl 0 true [], V.int .u64 0, V.int .u64 0, V.sl 0 true [], V.int .i64 0, V.int .i64 0, V.int .u64 0, V.int .u64 0, V.int .i64 0, V.int .u64 0, V.sl 0 true [], V.int .i64 0, V.int .i64 0, V.int .u64 0, V.int .u32 0, V.int .u32 0, V.int .u32 0, V.int .u32 0, V.int .u32 0, V.int .u32 0, V.int .u32 0, V.int .u32 0, V.int .u32 0, V.int .u32 0, V.int .u32 0, V.int .u32 0, V.int .u32 0, V.int .u32 0, V.int .u32 0, V.int .u32 0, V.int .u32 0, V.int .u32 0, V.int .u32 0, V.int .u32 0, V.int .u32 0, V.int .u32 0, V.int .u32 0, V.int .u32 0, V.int .u32 0, V.sl 0 true [], V.str [], V.bool false, V.int .u32 0, V.bool false, V.int .u32 0, V.int .u32 0, V.int .u32 0, V.int .i64 0, V.int .i64 0, V.int .u32 0, V.int .u32 0, V.str [], V.int .u32 0, V.int .u32 0, V.bool false, V.int .u32 0, V.bool false, V.int .u32 0, V.int .u32 0, V.int .u32 0, V.int .u64 0, V.bool false, V.bool false, V.int .u32 0, V.sl 0 true [], V.sl 0 true [], V.int .u32 0, V.int .u32 0, V.int .u32 0, V.int .u32 0, V.int .u32 0, V.int .u32 0, V.int .u32 0, V.int .u32 0, V.int .u32 0, V.int .u32 0, V.int .u32 0, V.int .u32 0, V.int .u32 0, V.int .u32 0, V.int .u32 0, V.int .u32 0, V.int .u32 0, V.int .u32 0, V.int .u32 0, V.int .u32 0, V.int .u32 0, V.int .u32 0, V.int .u32 0, V.int .u32 0, V.int .u32 0, V.sl 0 true [], V.str [], V.bool false, V.int .u32 0, V.bool false, V.int .u32 0, V.int .u32 0, V.int .u32 0, V.int .i64 0, V.int .i64 0, V.int .u32 0, V.int .u32 0, V.str [], V.int .u32 0, V.int .u32 0, V.bool false, V.int .u32 0, V.bool false, V.int .u32 0, V.int .u32 0, V.int .u32 0, V.int .u64 0, V.bool false, V.bool false, V.sl 0 true [], V.int .u64 0, V.int .u32 0, V.sl 0 true [], V.int .u64 0, V.int .u64 0, V.int .u64 0, V.int .u64 0, V.int .u64 0, V.int .u64 0, V.sl 0 true [], V.int .u64 0, V.int .u64 0, V.sl 0 true [], V.int .i64 0, V.int .i64 0, V.int .u64 0, V.int .u64 0, V.int .i64 0, V.int .u64 0, V.sl 0 true [], V.sl 0 true [], V.sl 0 true [], V.sl 0 true [], V.int .u64 0, V.int .i64 0] := by kernel_rfl
@[simp] theorem T528 : fldE Tryz.prog 66 0 = some (0, 125, true) := by kernel_rfl
@[simp] theorem T530 : fldE Tryz.prog 66 1 = some (125, 125, true) := by kernel_rfl
@[simp] theorem T536 : fldE Tryz.prog 66 4 = some (252, 3, true) := by kernel_rfl
@[simp] theorem T538 : allE Tryz.prog 66 = true := by kernel_rfl
@[simp] theorem T539 : tyE Tryz.prog 68 = some (1, false) := by kernel_rfl
@[simp] theorem T541 : tyE Tryz.prog 70 = some (1, false) := by kernel_rfl
@[simp] theorem T543 : tyE Tryz.prog 71 = some (3, true) := by kernel_rfl
@[simp] theorem T551 : allE Tryz.prog 71 = true := by kernel_rfl
@[simp] theorem T552 : tyE Tryz.prog 72 = some (3, true) := by kernel_rfl
@[simp] theorem T553 : zeroE Tryz.prog 72 = some [V.int .i64 0, V.int .u32 0, V.str []] := by kernel_rfl
@[simp] theorem T554 : fldE Tryz.prog 72 0 = some (0, 1, false) := by kernel_rfl
@[simp] theorem T555 : plE Tryz.prog 72 0 = some (0, 1) := by kernel_rfl
@[simp] theorem T556 : fldE Tryz.prog 72 1 = some (1, 1, false) := by kernel_rfl
@[simp] theorem T557 : plE Tryz.prog 72 1 = some (1, 1) := by kernel_rfl
@[simp] theorem T558 : fldE Tryz.prog 72 2 = some (2, 1, false) := by kernel_rfl
@[simp] theorem T560 : allE Tryz.prog 72 = true := by kernel_rfl
@[simp] theorem T561 : eqE Tryz.prog 72 = some [.i, .i, .s] := by kernel_rfl
@[simp] theorem T562 : tyE Tryz.prog 73 = some (1, false) := by kernel_rfl
@[simp] theorem T564 : tyE Tryz.prog 74 = some (1, false) := by kernel_rfl
@[simp] theorem T566 : tyE Tryz.prog 75 = some (1, false) := by kernel_rfl
@[simp] theorem T568 : tyE Tryz.prog 76 = some (1, false) := by kernel_rfl
@[simp] theorem T570 : tyE Tryz.prog 78 = some (1, false) := by kernel_rfl
@[simp] theorem T572 : tyE Tryz.prog 79 = some (1, false) := by kernel_rfl
@[simp] theorem T574 : tyE Tryz.prog 80 = some (4, true) := by kernel_rfl
@[simp] theorem T584 : allE Tryz.prog 80 = true := by kernel_rfl
@[simp] theorem T585 : tyE Tryz.prog 81 = some (4, true) := by kernel_rfl
@[simp] theorem T586 : zeroE Tryz.prog 81 = some [V.int .i64 0, V.int .u64 0, V.int .u32 0, V.str []] := by kernel_rfl
@[simp] theorem T587 : fldE Tryz.prog 81 0 = some (0, 1, false) := by kernel_rfl
@[simp] theorem T588 : plE Tryz.prog 81 0 = some (0, 1) := by kernel_rfl
@[simp] theorem T589 : fldE Tryz.prog 81 1 = some (1, 1, false) := by kernel_rfl
@[simp] theorem T590 : plE Tryz.prog 81 1 = some (1, 1) := by kernel_rfl
@[simp] theorem T591 : fldE Tryz.prog 81 2 = some (2, 1, false) := by kernel_rfl
@[simp] theorem T592 : plE Tryz.prog 81 2 = some (2, 1) := by kernel_rfl
@[simp] theorem T593 : fldE Tryz.prog 81 3 = some (3, 1, false) := by kernel_rfl
@[simp] theorem T594 : plE Tryz.prog 81 3 = some (3, 1) := by kernel_rfl
@[simp] theorem T595 : allE Tryz.prog 81 = true := by kernel_rfl
@[simp] theorem T596 : eqE Tryz.prog 81 = some [.i, .i, .i, .s] := by kernel_rfl
@[simp] theorem T597 : tyE Tryz.prog 82 = some (1, false) := by kernel_rfl
@[simp] theorem T599 : tyE Tryz.prog 83 = some (1, false) := by kernel_rfl
@[simp] theorem T601 : tyE Tryz.prog 84 = some (1, false) := by kernel_rfl
@[simp] theorem T603 : tyE Tryz.prog 86 = some (1, false) := by kernel_rfl
@[simp] theorem T605 : tyE Tryz.prog 87 = some (1, false) := by kernel_rfl
@[simp] theorem T607 : tyE Tryz.prog 97 = some (1, false) := by kernel_rfl
@[simp] theorem T609 : tyE Tryz.prog 98 = some (1, false) := by kernel_rfl
@[simp] theorem T611 : tyE Tryz.prog 99 = some (1, false) := by kernel_rfl
@[simp] theorem T613 : tyE Tryz.prog 102 = some (1, false) := by kernel_rfl
@[simp] theorem T615 : isInt Tryz.prog 102 = some .u64 := by kernel_rfl
@[simp] theorem T616 : tyE Tryz.prog 103 = some (1, false) := by kernel_rfl
@[simp] theorem T618 : tyE Tryz.prog 104 = some (1, false) := by kernel_rfl
@[simp] theorem T620 : tyE Tryz.prog 105 = some (1, false) := by kernel_rfl
@[simp] theorem T622 : tyE Tryz.prog 106 = some (4, true) := by kernel_rfl
@[simp] theorem T628 : allE Tryz.prog 106 = true := by kernel_rfl
@[simp] theorem T629 : tyE Tryz.prog 107 = some (4, true) := by kernel_rfl
@[simp] theorem T630 : zeroE Tryz.prog 107 = some [V.int .u64 0, V.int .i64 0, V.int .u32 0, V.str []] := by kernel_rfl
@[simp] theorem T631 : fldE Tryz.prog 107 0 = some (0, 1, false) := by kernel_rfl
@[simp] theorem T632 : plE Tryz.prog 107 0 = some (0, 1) := by kernel_rfl
@[simp] theorem T633 : fldE Tryz.prog 107 1 = some (1, 3, true) := by kernel_rfl
@[simp] theorem T634 : plE Tryz.prog 107 1 = some (1, 3) := by kernel_rfl
@[simp] theorem T635 : allE Tryz.prog 107 = true := by kernel_rfl
@[simp] theorem T636 : eqE Tryz.prog 107 = some [.i, .i, .i, .s] := by kernel_rfl
@[simp] theorem T637 : tyE Tryz.prog 108 = some (1, false) := by kernel_rfl
@[simp] theorem T638 : zeroE Tryz.prog 108 = some [V.int .i64 0] := by kernel_rfl
@[simp] theorem T639 : isInt Tryz.prog 108 = some .i64 := by kernel_rfl
@[simp] theorem T640 : tyE Tryz.prog 110 = some (1, false) := by kernel_rfl
@[simp] theorem T642 : tyE Tryz.prog 112 = some (1, false) := by kernel_rfl
@[simp] theorem T644 : tyE Tryz.prog 113 = some (2, true) := by kernel_rfl
@[simp] theorem T650 : allE Tryz.prog 113 = true := by kernel_rfl
@[simp] theorem T651 : tyE Tryz.prog 114 = some (2, true) := by kernel_rfl
@[simp] theorem T652 : zeroE Tryz.prog 114 = some [V.int .i64 0, V.int .i64 0] := by kernel_rfl
@[simp] theorem T653 : fldE Tryz.prog 114 0 = some (0, 1, false) := by kernel_rfl
@[simp] theorem T654 : plE Tryz.prog 114 0 = some (0, 1) := by kernel_rfl
@[simp] theorem T656 : plE Tryz.prog 114 1 = some (1, 1) := by kernel_rfl
@[simp] theorem T657 : allE Tryz.prog 114 = true := by kernel_rfl
@[simp] theorem T658 : tyE Tryz.prog 116 = some (1, false) := by kernel_rfl
@[simp] theorem T660 : tyE Tryz.prog 117 = some (1, false) := by kernel_rfl
@[simp] theorem T662 : tyE Tryz.prog 118 = some (1, false) := by kernel_rfl
@[simp] theorem T664 : tyE Tryz.prog 119 = some (1, false) := by kernel_rfl
@[simp] theorem T666 : tyE Tryz.prog 121 = some (1, false) := by kernel_rfl
@[simp] theorem T668 : tyE Tryz.prog 123 = some (1, false) := by kernel_rfl
@[simp] theorem T670 : tyE Tryz.prog 124 = some (1, false) := by kernel_rfl
@[simp] theorem T672 : tyE Tryz.prog 125 = some (1, false) := by kernel_rfl
@[simp] theorem T674 : tyE Tryz.prog 126 = some (1, false) := by kernel_rfl
@[simp] theorem T676 : tyE Tryz.prog 127 = some (1, false) := by kernel_rfl
@[simp] theorem T678 : tyE Tryz.prog 128 = some (1, false) := by kernel_rfl
@[simp] theorem T680 : tyE Tryz.prog 129 = some (1, false) := by kernel_rfl
@[simp] theorem T682 : tyE Tryz.prog 132 = some (1, false) := by kernel_rfl
@[simp] theorem T684 : tyE Tryz.prog 139 = some (3, true) := by kernel_rfl
@[simp] theorem T692 : allE Tryz.prog 139 = true := by kernel_rfl
@[simp] theorem T693 : tyE Tryz.prog 140 = some (3, true) := by kernel_rfl
@[simp] theorem T694 : zeroE Tryz.prog 140 = some [V.int .u64 0, V.int .u64 0, V.sl 0 true []] := by kernel_rfl
@[simp] theorem T695 : fldE Tryz.prog 140 0 = some (0, 1, false) := by kernel_rfl
@[simp] theorem T696 : plE Tryz.prog 140 0 = some (0, 1) := by kernel_rfl
@[simp] theorem T697 : fldE Tryz.prog 140 1 = some (1, 1, false) := by kernel_rfl
@[simp] theorem T698 : plE Tryz.prog 140 1 = some (1, 1) := by kernel_rfl
@[simp] theorem T699 : fldE Tryz.prog 140 2 = some (2, 1, false) := by kernel_rfl
@[simp] theorem T700 : plE Tryz.prog 140 2 = some (2, 1) := by kernel_rfl
@[simp] theorem T701 : allE Tryz.prog 140 = true := by kernel_rfl
@[simp] theorem T702 : tyE Tryz.prog 141 = some (1, false) := by kernel_rfl
@[simp] theorem T704 : tyE Tryz.prog 142 = some (1, false) := by kernel_rfl
@[simp] theorem T706 : tyE Tryz.prog 143 = some (4, true) := by kernel_rfl
@[simp] theorem T712 : allE Tryz.prog 143 = true := by kernel_rfl
@[simp] theorem T713 : tyE Tryz.prog 144 = some (4, true) := by kernel_rfl
@[simp] theorem T714 : zeroE Tryz.prog 144 = some [V.int .u64 0, V.int .u64 0, V.int .u64 0, V.sl 0 true []] := by kernel_rfl
@[simp] theorem T715 : fldE Tryz.prog 144 0 = some (0, 1, false) := by kernel_rfl
@[simp] theorem T716 : plE Tryz.prog 144 0 = some (0, 1) := by kernel_rfl
@[simp] theorem T717 : fldE Tryz.prog 144 1 = some (1, 3, true) := by kernel_rfl
@[simp] theorem T718 : plE Tryz.prog 144 1 = some (1, 3) := by kernel_rfl
@[simp] theorem T719 : allE Tryz.prog 144 = true := by kernel_rfl
@[simp] theorem T720 : tyE Tryz.prog 146 = some (1, false) := by kernel_rfl
@[simp] theorem T722 : tyE Tryz.prog 149 = some (1, false) := by kernel_rfl
@[simp] theorem T723 : zeroE Tryz.prog 149 = some [V.sl 0 true []] := by kernel_rfl
@[simp] theorem T724 : slE Tryz.prog 149 = some (5, 1, 1) := by kernel_rfl
@[simp] theorem T725 : bsE Tryz.prog 149 = true := by kernel_rfl
@[simp] theorem T726 : tyE Tryz.prog 161 = some (1, false) := by kernel_rfl
@[simp] theorem T727 : zeroE Tryz.prog 161 = some [V.sl 0 true []] := by kernel_rfl
@[simp] theorem T728 : slE Tryz.prog 161 = some (222, 5, 48) := by kernel_rfl
@[simp] theorem T729 : tyE Tryz.prog 168 = some (1, false) := by kernel_rfl
@[simp] theorem T731 : tyE Tryz.prog 170 = some (1, false) := by kernel_rfl
@[simp] theorem T732 : zeroE Tryz.prog 170 = some [V.sl 0 true []] := by kernel_rfl
@[simp] theorem T733 : slE Tryz.prog 170 = some (253, 2, 24) := by kernel_rfl
@[simp] theorem T734 : tyE Tryz.prog 171 = some (1, false) := by kernel_rfl
@[simp] theorem T735 : zeroE Tryz.prog 171 = some [V.sl 0 true []] := by kernel_rfl
@[simp] theorem T736 : slE Tryz.prog 171 = some (176, 6, 72) := by kernel_rfl
@[simp] theorem T737 : tyE Tryz.prog 174 = some (1, false) := by kernel_rfl
@[simp] theorem T738 : zeroE Tryz.prog 174 = some [V.sl 0 true []] := by kernel_rfl
@[simp] theorem T739 : slE Tryz.prog 174 = some (178, 3, 32) := by kernel_rfl
@[simp] theorem T740 : tyE Tryz.prog 175 = some (6, true) := by kernel_rfl
@[simp] theorem T754 : allE Tryz.prog 175 = true := by kernel_rfl
@[simp] theorem T755 : tyE Tryz.prog 176 = some (6, true) := by kernel_rfl
@[simp] theorem T756 : zeroE Tryz.prog 176 = some [V.str [], V.int .i64 0, V.sl 0 true [], V.int .i64 0, V.int .i64 0, V.int .i64 0] := by kernel_rfl
@[simp] theorem T757 : fldE Tryz.prog 176 0 = some (0, 1, false) := by kernel_rfl
@[simp] theorem T758 : plE Tryz.prog 176 0 = some (0, 1) := by kernel_rfl
@[simp] theorem T759 : fldE Tryz.prog 176 1 = some (1, 1, false) := by kernel_rfl
@[simp] theorem T760 : plE Tryz.prog 176 1 = some (1, 1) := by kernel_rfl
@[simp] theorem T761 : fldE Tryz.prog 176 2 = some (2, 1, false) := by kernel_rfl
@[simp] theorem T762 : plE Tryz.prog 176 2 = some (2, 1) := by kernel_rfl
@[simp] theorem T763 : fldE Tryz.prog 176 3 = some (3, 1, false) := by kernel_rfl
@[simp] theorem T765 : fldE Tryz.prog 176 4 = some (4, 1, false) := by kernel_rfl
@[simp] theorem T767 : fldE Tryz.prog 176 5 = some (5, 1, false) := by kernel_rfl
@[simp] theorem T768 : plE Tryz.prog 176 5 = some (5, 1) := by kernel_rfl
@[simp] theorem T769 : allE Tryz.prog 176 = true := by kernel_rfl
@[simp] theorem T770 : tyE Tryz.prog 177 = some (3, true) := by kernel_rfl
@[simp] theorem T778 : allE Tryz.prog 177 = true := by kernel_rfl
@[simp] theorem T779 : tyE Tryz.prog 178 = some (3, true) := by kernel_rfl
@[simp] theorem T780 : zeroE Tryz.prog 178 = some [V.int .i64 0, V.int .i64 0, V.str []] := by kernel_rfl
@[simp] theorem T781 : fldE Tryz.prog 178 0 = some (0, 1, false) := by kernel_rfl
@[simp] theorem T782 : plE Tryz.prog 178 0 = some (0, 1) := by kernel_rfl
@[simp] theorem T783 : fldE Tryz.prog 178 1 = some (1, 1, false) := by kernel_rfl
@[simp] theorem T784 : plE Tryz.prog 178 1 = some (1, 1) := by kernel_rfl
@[simp] theorem T785 : fldE Tryz.prog 178 2 = some (2, 1, false) := by kernel_rfl
@[simp] theorem T786 : plE Tryz.prog 178 2 = some (2, 1) := by kernel_rfl
@[simp] theorem T787 : allE Tryz.prog 178 = true := by kernel_rfl
@[simp] theorem T788 : tyE Tryz.prog 182 = some (5, true) := by kernel_rfl
@[simp] theorem T800 : allE Tryz.prog 182 = true := by kernel_rfl
@[simp] theorem T801 : tyE Tryz.prog 183 = some (5, true) := by kernel_rfl
@[simp] theorem T802 : zeroE Tryz.prog 183 = some [V.int .i64 0, V.int .i64 0, V.int .i64 0, V.int .i64 0, V.int .i32 0] := by kernel_rfl
@[simp] theorem T803 : fldE Tryz.prog 183 0 = some (0, 1, false) := by kernel_rfl
@[simp] theorem T804 : plE Tryz.prog 183 0 = some (0, 1) := by kernel_rfl
@[simp] theorem T805 : fldE Tryz.prog 183 1 = some (1, 1, false) := by kernel_rfl
@[simp] theorem T806 : plE Tryz.prog 183 1 = some (1, 1) := by kernel_rfl
@[simp] theorem T807 : fldE Tryz.prog 183 2 = some (2, 1, false) := by kernel_rfl
@[simp] theorem T808 : plE Tryz.prog 183 2 = some (2, 1) := by kernel_rfl
@[simp] theorem T809 : fldE Tryz.prog 183 3 = some (3, 1, false) := by kernel_rfl
@[simp] theorem T810 : plE Tryz.prog 183 3 = some (3, 1) := by kernel_rfl
@[simp] theorem T811 : fldE Tryz.prog 183 4 = some (4, 1, false) := by kernel_rfl
@[simp] theorem T812 : plE Tryz.prog 183 4 = some (4, 1) := by kernel_rfl
@[simp] theorem T813 : allE Tryz.prog 183 = true := by kernel_rfl
@[simp] theorem T814 : eqE Tryz.prog 183 = some [.i, .i, .i, .i, .i] := by kernel_rfl
@[simp] theorem T815 : tyE Tryz.prog 205 = some (1, false) := by kernel_rfl
@[simp] theorem T816 : zeroE Tryz.prog 205 = some [V.poi] := by kernel_rfl
@[simp] theorem T817 : tyE Tryz.prog 210 = some (1, false) := by kernel_rfl
@[simp] theorem T818 : zeroE Tryz.prog 210 = some [V.sl 0 true []] := by kernel_rfl
@[simp] theorem T819 : slE Tryz.prog 210 = some (43, 1, 24) := by kernel_rfl
@[simp] theorem T820 : tyE Tryz.prog 213 = some (1, false) := by kernel_rfl
@[simp] theorem T822 : tyE Tryz.prog 214 = some (1, false) := by kernel_rfl
@[simp] theorem T824 : tyE Tryz.prog 216 = some (1, false) := by kernel_rfl
@[simp] theorem T825 : zeroE Tryz.prog 216 = some [V.nilp] := by kernel_rfl
@[simp] theorem T826 : tyE Tryz.prog 220 = some (1, false) := by kernel_rfl
@[simp] theorem T828 : tyE Tryz.prog 221 = some (5, true) := by kernel_rfl
@[simp] theorem T834 : allE Tryz.prog 221 = true := by kernel_rfl
@[simp] theorem T835 : tyE Tryz.prog 222 = some (5, true) := by kernel_rfl
@[simp] theorem T836 : zeroE Tryz.prog 222 = some [V.int .i64 0, V.int .u64 0, V.int .u32 0, V.str [], V.int .u64 0] := by kernel_rfl
@[simp] theorem T838 : plE Tryz.prog 222 0 = some (0, 4) := by kernel_rfl
@[simp] theorem T840 : plE Tryz.prog 222 1 = some (4, 1) := by kernel_rfl
@[simp] theorem T841 : allE Tryz.prog 222 = true := by kernel_rfl
@[simp] theorem T842 : eqE Tryz.prog 222 = some [.i, .i, .i, .s, .i] := by kernel_rfl
@[simp] theorem T843 : tyE Tryz.prog 242 = some (4, true) := by kernel_rfl
@[simp] theorem T853 : allE Tryz.prog 242 = true := by kernel_rfl
@[simp] theorem T854 : tyE Tryz.prog 243 = some (4, true) := by kernel_rfl
@[simp] theorem T855 : zeroE Tryz.prog 243 = some [V.int .i64 0, V.int .i64 0, V.int .i64 0, V.int .u32 0] := by kernel_rfl
@[simp] theorem T856 : fldE Tryz.prog 243 0 = some (0, 1, false) := by kernel_rfl
@[simp] theorem T857 : plE Tryz.prog 243 0 = some (0, 1) := by kernel_rfl
@[simp] theorem T858 : fldE Tryz.prog 243 1 = some (1, 1, false) := by kernel_rfl
@[simp] theorem T859 : plE Tryz.prog 243 1 = some (1, 1) := by kernel_rfl
@[simp] theorem T860 : fldE Tryz.prog 243 2 = some (2, 1, false) := by kernel_rfl
@[simp] theorem T861 : plE Tryz.prog 243 2 = some (2, 1) := by kernel_rfl
@[simp] theorem T862 : fldE Tryz.prog 243 3 = some (3, 1, false) := by kernel_rfl
@[simp] theorem T863 : plE Tryz.prog 243 3 = some (3, 1) := by kernel_rfl
@[simp] theorem T864 : allE Tryz.prog 243 = true := by kernel_rfl
@[simp] theorem T865 : tyE Tryz.prog 252 = some (2, true) := by kernel_rfl
@[simp] theorem T871 : allE Tryz.prog 252 = true := by kernel_rfl
@[simp] theorem T872 : tyE Tryz.prog 253 = some (2, true) := by kernel_rfl
@[simp] theorem T873 : zeroE Tryz.prog 253 = some [V.str [], V.int .u32 0] := by kernel_rfl
@[simp] theorem T874 : fldE Tryz.prog 253 0 = some (0, 1, false) := by kernel_rfl
@[simp] theorem T875 : plE Tryz.prog 253 0 = some (0, 1) := by kernel_rfl
@[simp] theorem T876 : fldE Tryz.prog 253 1 = some (1, 1, false) := by kernel_rfl
@[simp] theorem T877 : plE Tryz.prog 253 1 = some (1, 1) := by kernel_rfl
@[simp] theorem T878 : allE Tryz.prog 253 = true := by kernel_rfl
@[simp] theorem T879 : tyE Tryz.prog 274 = some (1, false) := by kernel_rfl
@[simp] theorem T881 : tyE Tryz.prog 294 = some (1, false) := by kernel_rfl
@[simp] theorem T883 : isInt Tryz.prog 294 = some .i16 := by kernel_rfl
@[simp] theorem T884 : tyE Tryz.prog 314 = some (1, false) := by kernel_rfl
@[simp] theorem T885 : zeroE Tryz.prog 314 = some [V.sl 0 true []] := by kernel_rfl
@[simp] theorem T886 : slE Tryz.prog 314 = some (318, 3, 32) := by kernel_rfl
@[simp] theorem T887 : tyE Tryz.prog 317 = some (3, true) := by kernel_rfl
@[simp] theorem T895 : allE Tryz.prog 317 = true := by kernel_rfl
@[simp] theorem T896 : tyE Tryz.prog 318 = some (3, true) := by kernel_rfl
@[simp] theorem T897 : zeroE Tryz.prog 318 = some [V.int .i64 0, V.str [], V.bool false] := by kernel_rfl
@[simp] theorem T898 : fldE Tryz.prog 318 0 = some (0, 1, false) := by kernel_rfl
@[simp] theorem T899 : plE Tryz.prog 318 0 = some (0, 1) := by kernel_rfl
@[simp] theorem T900 : fldE Tryz.prog 318 1 = some (1, 1, false) := by kernel_rfl
@[simp] theorem T901 : plE Tryz.prog 318 1 = some (1, 1) := by kernel_rfl
@[simp] theorem T902 : fldE Tryz.prog 318 2 = some (2, 1, false) := by kernel_rfl
@[simp] theorem T903 : plE Tryz.prog 318 2 = some (2, 1) := by kernel_rfl
@[simp] theorem T904 : allE Tryz.prog 318 = true := by kernel_rfl
@[simp] theorem T905 : tyE Tryz.prog 325 = some (1, false) := by kernel_rfl
@[simp] theorem T907 : tyE Tryz.prog 326 = some (1, false) := by kernel_rfl
@[simp] theorem T908 : zeroE Tryz.prog 326 = some [V.poi] := by kernel_rfl
@[simp] theorem T909 : mpE Tryz.prog 326 = some (2, false, [V.sl 0 true []]) := by kernel_rfl
@[simp] theorem T910 : tyE Tryz.prog 327 = some (3, true) := by kernel_rfl
@[simp] theorem T918 : allE Tryz.prog 327 = true := by kernel_rfl
@[simp] theorem T919 : tyE Tryz.prog 328 = some (3, true) := by kernel_rfl
@[simp] theorem T920 : zeroE Tryz.prog 328 = some [V.str [], V.poi, V.int .i64 0] := by kernel_rfl
@[simp] theorem T921 : fldE Tryz.prog 328 0 = some (0, 1, false) := by kernel_rfl
@[simp] theorem T922 : plE Tryz.prog 328 0 = some (0, 1) := by kernel_rfl
@[simp] theorem T923 : fldE Tryz.prog 328 1 = some (1, 1, false) := by kernel_rfl
@[simp] theorem T924 : plE Tryz.prog 328 1 = some (1, 1) := by kernel_rfl
@[simp] theorem T925 : fldE Tryz.prog 328 2 = some (2, 1, false) := by kernel_rfl
@[simp] theorem T927 : allE Tryz.prog 328 = true := by kernel_rfl
@[simp] theorem T928 : tyE Tryz.prog 334 = some (8, true) := by kernel_rfl
@[simp] theorem T929 : zeroE Tryz.prog 334 = some [V.int .u8 0, V.int .u8 0, V.int .u8 0, V.int .u8 0, V.int .u8 0, V.int .u8 0, V.int .u8 0, V.int .u8 0] := by kernel_rfl
@[simp] theorem T930 : arE Tryz.prog 334 = some (8, 1, false) := by kernel_rfl
@[simp] theorem T931 (i : Nat) : plE Tryz.prog 334 i = some (i * 1, 1) := zFt T930 i
@[simp] theorem T932 : allE Tryz.prog 334 = true := by kernel_rfl
@[simp] theorem T933 : tyE Tryz.prog 335 = some (1, false) := by kernel_rfl
@[simp] theorem T935 : tyE Tryz.prog 336 = some (2, true) := by kernel_rfl
@[simp] theorem T941 : allE Tryz.prog 336 = true := by kernel_rfl
@[simp] theorem T942 : tyE Tryz.prog 337 = some (2, true) := by kernel_rfl
@[simp] theorem T943 : zeroE Tryz.prog 337 = some [V.str [], V.bool false] := by kernel_rfl
@[simp] theorem T944 : fldE Tryz.prog 337 0 = some (0, 1, false) := by kernel_rfl
@[simp] theorem T945 : plE Tryz.prog 337 0 = some (0, 1) := by kernel_rfl
@[simp] theorem T946 : fldE Tryz.prog 337 1 = some (1, 1, false) := by kernel_rfl
@[simp] theorem T948 : allE Tryz.prog 337 = true := by kernel_rfl
@[simp] theorem T949 : tyE Tryz.prog 358 = some (1, false) := by kernel_rfl
@[simp] theorem T951 : tyE Tryz.prog 359 = some (1, false) := by kernel_rfl
@[simp] theorem T952 : zeroE Tryz.prog 359 = some [V.nilp] := by kernel_rfl
@[simp] theorem T953 : tyE Tryz.prog 360 = some (2, true) := by kernel_rfl
@[simp] theorem T959 : allE Tryz.prog 360 = true := by kernel_rfl
@[simp] theorem T960 : tyE Tryz.prog 361 = some (2, true) := by kernel_rfl
@[simp] theorem T961 : zeroE Tryz.prog 361 = some [V.nilp, V.sl 0 true []] := by kernel_rfl
@[simp] theorem T962 : fldE Tryz.prog 361 0 = some (0, 1, false) := by kernel_rfl
@[simp] theorem T964 : fldE Tryz.prog 361 1 = some (1, 1, false) := by kernel_rfl
@[simp] theorem T966 : allE Tryz.prog 361 = true := by kernel_rfl
@[simp] theorem T967 : tyE Tryz.prog 362 = some (1, false) := by kernel_rfl
@[simp] theorem T969 : tyE Tryz.prog 363 = some (1, false) := by kernel_rfl
@[simp] theorem T971 : tyE Tryz.prog 374 = some (3, true) := by kernel_rfl
@[simp] theorem T979 : allE Tryz.prog 374 = true := by kernel_rfl
@[simp] theorem T980 : tyE Tryz.prog 375 = some (3, true) := by kernel_rfl
@[simp] theorem T981 : zeroE Tryz.prog 375 = some [V.int .u32 0, V.int .u32 0, V.int .i64 0] := by kernel_rfl
@[simp] theorem T982 : fldE Tryz.prog 375 0 = some (0, 1, false) := by kernel_rfl
@[simp] theorem T983 : plE Tryz.prog 375 0 = some (0, 1) := by kernel_rfl
@[simp] theorem T984 : fldE Tryz.prog 375 1 = some (1, 1, false) := by kernel_rfl
@[simp] theorem T985 : plE Tryz.prog 375 1 = some (1, 1) := by kernel_rfl
@[simp] theorem T986 : fldE Tryz.prog 375 2 = some (2, 1, false) := by kernel_rfl
@[simp] theorem T987 : plE Tryz.prog 375 2 = some (2, 1) := by kernel_rfl
@[simp] theorem T988 : allE Tryz.prog 375 = true := by kernel_rfl
@[simp] theorem T989 : tyE Tryz.prog 396 = some (5, true) := by kernel_rfl
@[simp] theorem T990 : zeroE Tryz.prog 396 = some [V.bool false, V.bool false, V.bool false, V.bool false, V.bool false] := by kernel_rfl
@[simp] theorem T991 : arE Tryz.prog 396 = some (5, 1, false) := by kernel_rfl
@[simp] theorem T992 (i : Nat) : plE Tryz.prog 396 i = some (i * 1, 1) := zFt T991 i
@[simp] theorem T993 : allE Tryz.prog 396 = true := by kernel_rfl
@[simp] theorem T994 : tyE Tryz.prog 400 = some (5, true) := by kernel_rfl
@[simp] theorem T1006 : allE Tryz.prog 400 = true := by kernel_rfl
@[simp] theorem T1007 : tyE Tryz.prog 401 = some (5, true) := by kernel_rfl
@[simp] theorem T1008 : zeroE Tryz.prog 401 = some [V.bool false, V.bool false, V.bool false, V.int .i32 0, V.int .i32 0] := by kernel_rfl
@[simp] theorem T1009 : fldE Tryz.prog 401 0 = some (0, 1, false) := by kernel_rfl
@[simp] theorem T1010 : plE Tryz.prog 401 0 = some (0, 1) := by kernel_rfl
@[simp] theorem T1011 : fldE Tryz.prog 401 1 = some (1, 1, false) := by kernel_rfl
@[simp] theorem T1012 : plE Tryz.prog 401 1 = some (1, 1) := by kernel_rfl
@[simp] theorem T1013 : fldE Tryz.prog 401 2 = some (2, 1, false) := by kernel_rfl
@[simp] theorem T1014 : plE Tryz.prog 401 2 = some (2, 1) := by kernel_rfl
@[simp] theorem T1015 : fldE Tryz.prog 401 3 = some (3, 1, false) := by kernel_rfl
@[simp] theorem T1016 : plE Tryz.prog 401 3 = some (3, 1) := by kernel_rfl
@[simp] theorem T1017 : fldE Tryz.prog 401 4 = some (4, 1, false) := by kernel_rfl
@[simp] theorem T1018 : plE Tryz.prog 401 4 = some (4, 1) := by kernel_rfl
@[simp] theorem T1019 : allE Tryz.prog 401 = true := by kernel_rfl
@[simp] theorem T1020 : tyE Tryz.prog 409 = some (1, false) := by kernel_rfl
@[simp] theorem T1022 : tyE Tryz.prog 428 = some (4, true) := by kernel_rfl
@[simp] theorem T1032 : allE Tryz.prog 428 = true := by kernel_rfl
@[simp] theorem T1033 : tyE Tryz.prog 429 = some (4, true) := by kernel_rfl
@[simp] theorem T1043 : allE Tryz.prog 429 = true := by kernel_rfl
@[simp] theorem T1044 : tyE Tryz.prog 430 = some (0, true) := by kernel_rfl
@[simp] theorem T1046 : arE Tryz.prog 430 = some (0, 1, false) := by kernel_rfl
@[simp] theorem T1047 (i : Nat) : plE Tryz.prog 430 i = some (i * 1, 1) := zFt T1046 i
@[simp] theorem T1048 : allE Tryz.prog 430 = true := by kernel_rfl
@[simp] theorem T1049 : tyE Tryz.prog 431 = some (0, true) := by kernel_rfl
@[simp] theorem T1052 : allE Tryz.prog 431 = true := by kernel_rfl
@[simp] theorem T1053 : tyE Tryz.prog 432 = some (0, true) := by kernel_rfl
@[simp] theorem T1056 : allE Tryz.prog 432 = true := by kernel_rfl
@[simp] theorem T1057 : byE Tryz.prog 433 = true := by kernel_rfl
@[simp] theorem T1058 : tyE Tryz.prog 433 = some (1, false) := by kernel_rfl
@[simp] theorem T1060 : isInt Tryz.prog 433 = some .u8 := by kernel_rfl
@[simp] theorem T1061 : byE Tryz.prog 434 = true := by kernel_rfl
@[simp] theorem T1062 : tyE Tryz.prog 434 = some (1, false) := by kernel_rfl
@[simp] theorem T1064 : isInt Tryz.prog 434 = some .u8 := by kernel_rfl
@[simp] theorem T1065 : tyE Tryz.prog 435 = some (1, false) := by kernel_rfl
@[simp] theorem T1067 : tyE Tryz.prog 436 = some (1, false) := by kernel_rfl
@[simp] theorem T1069 : isInt Tryz.prog 436 = some .i32 := by kernel_rfl
@[simp] theorem T1070 : tyE Tryz.prog 437 = some (1, false) := by kernel_rfl
@[simp] theorem T1072 : isInt Tryz.prog 437 = some .i32 := by kernel_rfl
@[simp] theorem T1073 : tyE Tryz.prog 438 = some (11, true) := by kernel_rfl
@[simp] theorem T1097 : allE Tryz.prog 438 = true := by kernel_rfl
@[simp] theorem T1098 : tyE Tryz.prog 439 = some (11, true) := by kernel_rfl
@[simp] theorem T1122 : allE Tryz.prog 439 = true := by kernel_rfl
end Go.Proofs.YtjmhjieflbnehaaGreat
end
