/- Closed facts on the types of the translation, by program (gentypes.py). -/
import Derived.Test.YtnjpakhnaegdgabAbW
import Derived.Test.YtnjpakhnaegdgabProg
import Derived.KernelRfl
namespace Go.Proofs.Ytnjpakhnaegdgab
open Go.Ab
/- no package variable is read -/
instance glo0 : Glo := ⟨[], fun _ => True, fun _ _ => trivial⟩
theorem gin0 (w : World) (X : Nat → Prop) : GIn w X := ⟨trivial, fun g cs h => by simp [Glo.tab, lookG] at h⟩
@[simp] theorem T0 : tyE Try.prog 2 = some (1, false) := by kernel_rfl
@[simp] theorem T1 : zeroE Try.prog 2 = some [V.int .i64 0] := by kernel_rfl
@[simp] theorem T2 : isInt Try.prog 2 = some .i64 := by kernel_rfl
@[simp] theorem T3 : tyE Try.prog 3 = some (1, false) := by kernel_rfl
@[simp] theorem T4 : zeroE Try.prog 3 = some [V.int .i64 0] := by kernel_rfl
@[simp] theorem T5 : isInt Try.prog 3 = some .i64 := by kernel_rfl
@[simp] theorem T6 : tyE Try.prog 4 = some (1, false) := by kernel_rfl
@[simp] theorem T7 : zeroE Try.prog 4 = some [V.bool false] := by kernel_rfl
@[simp] theorem T8 : tyE Try.prog 5 = some (1, false) := by kernel_rfl
@[simp] theorem T9 : zeroE Try.prog 5 = some [V.int .u8 0] := by kernel_rfl
@[simp] theorem T10 : isInt Try.prog 5 = some .u8 := by kernel_rfl
@[simp] theorem T11 : tyE Try.prog 6 = some (1, false) := by kernel_rfl
@[simp] theorem T12 : zeroE Try.prog 6 = some [V.int .u8 0] := by kernel_rfl
@[simp] theorem T13 : isInt Try.prog 6 = some .u8 := by kernel_rfl
@[simp] theorem T14 : tyE Try.prog 7 = some (4, true) := by kernel_rfl
@[simp] theorem T15 : zeroE Try.prog 7 = some [V.int .i64 0, V.int .i64 0, V.bool false, V.int .u8 0] := by kernel_rfl
@[simp] theorem T16 : fldE Try.prog 7 0 = some (0, 1, false) := by kernel_rfl
@[simp] theorem T17 : plE Try.prog 7 0 = some (0, 1) := by kernel_rfl
@[simp] theorem T18 : fldE Try.prog 7 1 = some (1, 1, false) := by kernel_rfl
@[simp] theorem T19 : plE Try.prog 7 1 = some (1, 1) := by kernel_rfl
@[simp] theorem T20 : fldE Try.prog 7 2 = some (2, 1, false) := by kernel_rfl
@[simp] theorem T21 : plE Try.prog 7 2 = some (2, 1) := by kernel_rfl
@[simp] theorem T22 : fldE Try.prog 7 3 = some (3, 1, false) := by kernel_rfl
@[simp] theorem T23 : plE Try.prog 7 3 = some (3, 1) := by kernel_rfl
@[simp] theorem T24 : allE Try.prog 7 = true := by kernel_rfl
@[simp] theorem T25 : tyE Try.prog 8 = some (4, true) := by kernel_rfl
@[simp] theorem T26 : zeroE Try.prog 8 = some [V.int .i64 0, V.int .i64 0, V.bool false, V.int .u8 0] := by kernel_rfl
@[simp] theorem T27 : fldE Try.prog 8 0 = some (0, 1, false) := by kernel_rfl
@[simp] theorem T28 : plE Try.prog 8 0 = some (0, 1) := by kernel_rfl
@[simp] theorem T29 : fldE Try.prog 8 1 = some (1, 1, false) := by kernel_rfl
@[simp] theorem T30 : plE Try.prog 8 1 = some (1, 1) := by kernel_rfl
@[simp] theorem T31 : fldE Try.prog 8 2 = some (2, 1, false) := by kernel_rfl
@[simp] theorem T32 : plE Try.prog 8 2 = some (2, 1) := by kernel_rfl
@[simp] theorem T33 : fldE Try.prog 8 3 = some (3, 1, false) := by kernel_rfl
@[simp] theorem T34 : plE Try.prog 8 3 = some (3, 1) := by kernel_rfl
@[simp] theorem T35 : allE Try.prog 8 = true := by kernel_rfl
@[simp] theorem T36 : tyE Try.prog 9 = some (1, false) := by kernel_rfl
@[simp] theorem T37 : zeroE Try.prog 9 = some [V.str []] := by kernel_rfl
@[simp] theorem T38 : isStr Try.prog 9 = true := by kernel_rfl
@[simp] theorem T39 : tyE Try.prog 10 = some (1, false) := by kernel_rfl
@[simp] theorem T40 : zeroE Try.prog 10 = some [V.str []] := by kernel_rfl
@[simp] theorem T41 : isStr Try.prog 10 = true := by kernel_rfl
@[simp] theorem T42 : tyE Try.prog 11 = some (1, false) := by kernel_rfl
@[simp] theorem T43 : zeroE Try.prog 11 = some [V.str []] := by kernel_rfl
@[simp] theorem T44 : isStr Try.prog 11 = true := by kernel_rfl
@[simp] theorem T45 : tyE Try.prog 12 = some (1, false) := by kernel_rfl
@[simp] theorem T46 : zeroE Try.prog 12 = some [V.int .u64 0] := by kernel_rfl
@[simp] theorem T47 : isInt Try.prog 12 = some .u64 := by kernel_rfl
@[simp] theorem T48 : tyE Try.prog 13 = some (2, true) := by kernel_rfl
@[simp] theorem T49 : zeroE Try.prog 13 = some [V.str [], V.int .u64 0] := by kernel_rfl
@[simp] theorem T50 : fldE Try.prog 13 0 = some (0, 1, false) := by kernel_rfl
@[simp] theorem T51 : plE Try.prog 13 0 = some (0, 1) := by kernel_rfl
@[simp] theorem T52 : fldE Try.prog 13 1 = some (1, 1, false) := by kernel_rfl
@[simp] theorem T53 : plE Try.prog 13 1 = some (1, 1) := by kernel_rfl
@[simp] theorem T54 : allE Try.prog 13 = true := by kernel_rfl
@[simp] theorem T55 : tyE Try.prog 14 = some (2, true) := by kernel_rfl
@[simp] theorem T56 : zeroE Try.prog 14 = some [V.str [], V.int .u64 0] := by kernel_rfl
@[simp] theorem T57 : fldE Try.prog 14 0 = some (0, 1, false) := by kernel_rfl
@[simp] theorem T58 : plE Try.prog 14 0 = some (0, 1) := by kernel_rfl
@[simp] theorem T59 : fldE Try.prog 14 1 = some (1, 1, false) := by kernel_rfl
@[simp] theorem T60 : plE Try.prog 14 1 = some (1, 1) := by kernel_rfl
@[simp] theorem T61 : allE Try.prog 14 = true := by kernel_rfl
@[simp] theorem T62 : tyE Try.prog 15 = some (1, false) := by kernel_rfl
@[simp] theorem T63 : zeroE Try.prog 15 = some [V.poi] := by kernel_rfl
@[simp] theorem T64 : tyE Try.prog 16 = some (1, false) := by kernel_rfl
@[simp] theorem T65 : zeroE Try.prog 16 = some [V.poi] := by kernel_rfl
@[simp] theorem T66 : tyE Try.prog 17 = some (1, false) := by kernel_rfl
@[simp] theorem T67 : zeroE Try.prog 17 = some [V.poi] := by kernel_rfl
@[simp] theorem T68 : tyE Try.prog 18 = some (1, true) := by kernel_rfl
@[simp] theorem T69 : zeroE Try.prog 18 = some [V.poi] := by kernel_rfl
@[simp] theorem T70 : fldE Try.prog 18 0 = some (0, 1, false) := by kernel_rfl
@[simp] theorem T71 : plE Try.prog 18 0 = some (0, 1) := by kernel_rfl
@[simp] theorem T72 : allE Try.prog 18 = true := by kernel_rfl
@[simp] theorem T73 : tyE Try.prog 19 = some (1, true) := by kernel_rfl
@[simp] theorem T74 : zeroE Try.prog 19 = some [V.poi] := by kernel_rfl
@[simp] theorem T75 : fldE Try.prog 19 0 = some (0, 1, false) := by kernel_rfl
@[simp] theorem T76 : plE Try.prog 19 0 = some (0, 1) := by kernel_rfl
@[simp] theorem T77 : allE Try.prog 19 = true := by kernel_rfl
@[simp] theorem T78 : tyE Try.prog 21 = some (1, false) := by kernel_rfl
@[simp] theorem T79 : zeroE Try.prog 21 = some [V.int .i32 0] := by kernel_rfl
@[simp] theorem T80 : isInt Try.prog 21 = some .i32 := by kernel_rfl
@[simp] theorem T81 : tyE Try.prog 22 = some (1, false) := by kernel_rfl
@[simp] theorem T82 : zeroE Try.prog 22 = some [V.int .u64 0] := by kernel_rfl
@[simp] theorem T83 : isInt Try.prog 22 = some .u64 := by kernel_rfl
@[simp] theorem T84 : tyE Try.prog 24 = some (1, false) := by kernel_rfl
@[simp] theorem T85 : zeroE Try.prog 24 = some [V.sl 0 true []] := by kernel_rfl
@[simp] theorem T86 : slE Try.prog 24 = some (9, 1, 16) := by kernel_rfl
@[simp] theorem T87 : tyE Try.prog 25 = some (2, true) := by kernel_rfl
@[simp] theorem T88 : zeroE Try.prog 25 = some [V.str [], V.sl 0 true []] := by kernel_rfl
@[simp] theorem T89 : fldE Try.prog 25 0 = some (0, 1, false) := by kernel_rfl
@[simp] theorem T90 : plE Try.prog 25 0 = some (0, 1) := by kernel_rfl
@[simp] theorem T91 : fldE Try.prog 25 1 = some (1, 1, false) := by kernel_rfl
@[simp] theorem T92 : plE Try.prog 25 1 = some (1, 1) := by kernel_rfl
@[simp] theorem T93 : allE Try.prog 25 = true := by kernel_rfl
@[simp] theorem T94 : tyE Try.prog 26 = some (2, true) := by kernel_rfl
@[simp] theorem T95 : zeroE Try.prog 26 = some [V.str [], V.sl 0 true []] := by kernel_rfl
@[simp] theorem T96 : fldE Try.prog 26 0 = some (0, 1, false) := by kernel_rfl
@[simp] theorem T97 : plE Try.prog 26 0 = some (0, 1) := by kernel_rfl
@[simp] theorem T98 : fldE Try.prog 26 1 = some (1, 1, false) := by kernel_rfl
@[simp] theorem T99 : plE Try.prog 26 1 = some (1, 1) := by kernel_rfl
@[simp] theorem T100 : allE Try.prog 26 = true := by kernel_rfl
@[simp] theorem T101 : tyE Try.prog 29 = some (1, false) := by kernel_rfl
@[simp] theorem T102 : zeroE Try.prog 29 = some [V.int .u32 0] := by kernel_rfl
@[simp] theorem T103 : isInt Try.prog 29 = some .u32 := by kernel_rfl
@[simp] theorem T104 : tyE Try.prog 30 = some (4, true) := by kernel_rfl
@[simp] theorem T105 : zeroE Try.prog 30 = some [V.int .i64 0, V.int .u64 0, V.int .u32 0, V.str []] := by kernel_rfl
@[simp] theorem T106 : fldE Try.prog 30 0 = some (0, 1, false) := by kernel_rfl
@[simp] theorem T107 : plE Try.prog 30 0 = some (0, 1) := by kernel_rfl
@[simp] theorem T108 : fldE Try.prog 30 1 = some (1, 1, false) := by kernel_rfl
@[simp] theorem T109 : plE Try.prog 30 1 = some (1, 1) := by kernel_rfl
@[simp] theorem T110 : fldE Try.prog 30 2 = some (2, 1, false) := by kernel_rfl
@[simp] theorem T111 : plE Try.prog 30 2 = some (2, 1) := by kernel_rfl
@[simp] theorem T112 : fldE Try.prog 30 3 = some (3, 1, false) := by kernel_rfl
@[simp] theorem T113 : plE Try.prog 30 3 = some (3, 1) := by kernel_rfl
@[simp] theorem T114 : allE Try.prog 30 = true := by kernel_rfl
@[simp] theorem T115 : tyE Try.prog 31 = some (4, true) := by kernel_rfl
@[simp] theorem T116 : zeroE Try.prog 31 = some [V.int .i64 0, V.int .u64 0, V.int .u32 0, V.str []] := by kernel_rfl
@[simp] theorem T117 : fldE Try.prog 31 0 = some (0, 1, false) := by kernel_rfl
@[simp] theorem T118 : plE Try.prog 31 0 = some (0, 1) := by kernel_rfl
@[simp] theorem T119 : fldE Try.prog 31 1 = some (1, 1, false) := by kernel_rfl
@[simp] theorem T120 : plE Try.prog 31 1 = some (1, 1) := by kernel_rfl
@[simp] theorem T121 : fldE Try.prog 31 2 = some (2, 1, false) := by kernel_rfl
@[simp] theorem T122 : plE Try.prog 31 2 = some (2, 1) := by kernel_rfl
@[simp] theorem T123 : fldE Try.prog 31 3 = some (3, 1, false) := by kernel_rfl
@[simp] theorem T124 : plE Try.prog 31 3 = some (3, 1) := by kernel_rfl
@[simp] theorem T125 : allE Try.prog 31 = true := by kernel_rfl
@[simp] theorem T126 : tyE Try.prog 32 = some (5, true) := by kernel_rfl
@[simp] theorem T127 : zeroE Try.prog 32 = some [V.int .i64 0, V.int .u64 0, V.int .u32 0, V.str [], V.int .u64 0] := by kernel_rfl
@[simp] theorem T128 : fldE Try.prog 32 0 = some (0, 4, true) := by kernel_rfl
@[simp] theorem T129 : plE Try.prog 32 0 = some (0, 4) := by kernel_rfl
@[simp] theorem T130 : fldE Try.prog 32 1 = some (4, 1, false) := by kernel_rfl
@[simp] theorem T131 : plE Try.prog 32 1 = some (4, 1) := by kernel_rfl
@[simp] theorem T132 : allE Try.prog 32 = true := by kernel_rfl
@[simp] theorem T133 : tyE Try.prog 33 = some (5, true) := by kernel_rfl
@[simp] theorem T134 : zeroE Try.prog 33 = some [V.int .i64 0, V.int .u64 0, V.int .u32 0, V.str [], V.int .u64 0] := by kernel_rfl
@[simp] theorem T135 : fldE Try.prog 33 0 = some (0, 4, true) := by kernel_rfl
@[simp] theorem T136 : plE Try.prog 33 0 = some (0, 4) := by kernel_rfl
@[simp] theorem T137 : fldE Try.prog 33 1 = some (4, 1, false) := by kernel_rfl
@[simp] theorem T138 : plE Try.prog 33 1 = some (4, 1) := by kernel_rfl
@[simp] theorem T139 : allE Try.prog 33 = true := by kernel_rfl
@[simp] theorem T140 : tyE Try.prog 34 = some (1, false) := by kernel_rfl
@[simp] theorem T141 : zeroE Try.prog 34 = some [V.sl 0 true []] := by kernel_rfl
@[simp] theorem T142 : slE Try.prog 34 = some (5, 1, 1) := by kernel_rfl
@[simp] theorem T143 : bsE Try.prog 34 = true := by kernel_rfl
@[simp] theorem T144 : tyE Try.prog 36 = some (1, false) := by kernel_rfl
@[simp] theorem T145 : zeroE Try.prog 36 = some [V.sl 0 true []] := by kernel_rfl
@[simp] theorem T146 : slE Try.prog 36 = some (31, 4, 40) := by kernel_rfl
@[simp] theorem T147 : tyE Try.prog 37 = some (3, true) := by kernel_rfl
@[simp] theorem T148 : zeroE Try.prog 37 = some [V.sl 0 true [], V.int .u64 0, V.int .u64 0] := by kernel_rfl
@[simp] theorem T149 : fldE Try.prog 37 0 = some (0, 1, false) := by kernel_rfl
@[simp] theorem T150 : plE Try.prog 37 0 = some (0, 1) := by kernel_rfl
@[simp] theorem T151 : fldE Try.prog 37 1 = some (1, 1, false) := by kernel_rfl
@[simp] theorem T152 : plE Try.prog 37 1 = some (1, 1) := by kernel_rfl
@[simp] theorem T153 : fldE Try.prog 37 2 = some (2, 1, false) := by kernel_rfl
@[simp] theorem T154 : plE Try.prog 37 2 = some (2, 1) := by kernel_rfl
@[simp] theorem T155 : allE Try.prog 37 = true := by kernel_rfl
@[simp] theorem T156 : tyE Try.prog 38 = some (3, true) := by kernel_rfl
@[simp] theorem T157 : zeroE Try.prog 38 = some [V.sl 0 true [], V.int .u64 0, V.int .u64 0] := by kernel_rfl
@[simp] theorem T158 : fldE Try.prog 38 0 = some (0, 1, false) := by kernel_rfl
@[simp] theorem T159 : plE Try.prog 38 0 = some (0, 1) := by kernel_rfl
@[simp] theorem T160 : fldE Try.prog 38 1 = some (1, 1, false) := by kernel_rfl
@[simp] theorem T161 : plE Try.prog 38 1 = some (1, 1) := by kernel_rfl
@[simp] theorem T162 : fldE Try.prog 38 2 = some (2, 1, false) := by kernel_rfl
@[simp] theorem T163 : plE Try.prog 38 2 = some (2, 1) := by kernel_rfl
@[simp] theorem T164 : allE Try.prog 38 = true := by kernel_rfl
@[simp] theorem T165 : tyE Try.prog 41 = some (1, false) := by kernel_rfl
@[simp] theorem T166 : zeroE Try.prog 41 = some [V.sl 0 true []] := by kernel_rfl
@[simp] theorem T167 : slE Try.prog 41 = some (33, 5, 48) := by kernel_rfl
@[simp] theorem T168 : tyE Try.prog 50 = some (4, true) := by kernel_rfl
@[simp] theorem T169 : zeroE Try.prog 50 = some [V.poi, V.poi, V.poi, V.str []] := by kernel_rfl
@[simp] theorem T170 : fldE Try.prog 50 0 = some (0, 1, false) := by kernel_rfl
@[simp] theorem T171 : plE Try.prog 50 0 = some (0, 1) := by kernel_rfl
@[simp] theorem T172 : fldE Try.prog 50 1 = some (1, 1, false) := by kernel_rfl
@[simp] theorem T173 : plE Try.prog 50 1 = some (1, 1) := by kernel_rfl
@[simp] theorem T174 : fldE Try.prog 50 2 = some (2, 1, false) := by kernel_rfl
@[simp] theorem T175 : plE Try.prog 50 2 = some (2, 1) := by kernel_rfl
@[simp] theorem T176 : fldE Try.prog 50 3 = some (3, 1, false) := by kernel_rfl
@[simp] theorem T177 : plE Try.prog 50 3 = some (3, 1) := by kernel_rfl
@[simp] theorem T178 : allE Try.prog 50 = true := by kernel_rfl
@[simp] theorem T179 : tyE Try.prog 51 = some (4, true) := by kernel_rfl
@[simp] theorem T180 : zeroE Try.prog 51 = some [V.poi, V.poi, V.poi, V.str []] := by kernel_rfl
@[simp] theorem T181 : fldE Try.prog 51 0 = some (0, 1, false) := by kernel_rfl
@[simp] theorem T182 : plE Try.prog 51 0 = some (0, 1) := by kernel_rfl
@[simp] theorem T183 : fldE Try.prog 51 1 = some (1, 1, false) := by kernel_rfl
@[simp] theorem T184 : plE Try.prog 51 1 = some (1, 1) := by kernel_rfl
@[simp] theorem T185 : fldE Try.prog 51 2 = some (2, 1, false) := by kernel_rfl
@[simp] theorem T186 : plE Try.prog 51 2 = some (2, 1) := by kernel_rfl
@[simp] theorem T187 : fldE Try.prog 51 3 = some (3, 1, false) := by kernel_rfl
@[simp] theorem T188 : plE Try.prog 51 3 = some (3, 1) := by kernel_rfl
@[simp] theorem T189 : allE Try.prog 51 = true := by kernel_rfl
@[simp] theorem T190 : tyE Try.prog 52 = some (0, true) := by kernel_rfl
@[simp] theorem T191 : zeroE Try.prog 52 = some [] := by kernel_rfl
@[simp] theorem T192 : arE Try.prog 52 = some (0, 1, false) := by kernel_rfl
@[simp] theorem T193 (i : Nat) : plE Try.prog 52 i = some (i * 1, 1) := plE_arr T192 i
@[simp] theorem T194 : allE Try.prog 52 = true := by kernel_rfl
@[simp] theorem T195 : tyE Try.prog 53 = some (0, true) := by kernel_rfl
@[simp] theorem T196 : zeroE Try.prog 53 = some [] := by kernel_rfl
@[simp] theorem T197 : plE Try.prog 53 0 = some (0, 0) := by kernel_rfl
@[simp] theorem T198 : allE Try.prog 53 = true := by kernel_rfl
@[simp] theorem T199 : tyE Try.prog 54 = some (0, true) := by kernel_rfl
@[simp] theorem T200 : zeroE Try.prog 54 = some [] := by kernel_rfl
@[simp] theorem T201 : plE Try.prog 54 0 = some (0, 0) := by kernel_rfl
@[simp] theorem T202 : allE Try.prog 54 = true := by kernel_rfl
@[simp] theorem T203 : tyE Try.prog 56 = some (1, false) := by kernel_rfl
@[simp] theorem T204 : zeroE Try.prog 56 = some [V.int .u8 0] := by kernel_rfl
@[simp] theorem T205 : isInt Try.prog 56 = some .u8 := by kernel_rfl
@[simp] theorem T206 : tyE Try.prog 57 = some (1, false) := by kernel_rfl
@[simp] theorem T207 : zeroE Try.prog 57 = some [V.int .u8 0] := by kernel_rfl
@[simp] theorem T208 : isInt Try.prog 57 = some .u8 := by kernel_rfl
@[simp] theorem T209 : tyE Try.prog 59 = some (1, false) := by kernel_rfl
@[simp] theorem T210 : zeroE Try.prog 59 = some [V.poi] := by kernel_rfl
@[simp] theorem T211 : tyE Try.prog 60 = some (1, false) := by kernel_rfl
@[simp] theorem T212 : zeroE Try.prog 60 = some [V.int .i32 0] := by kernel_rfl
@[simp] theorem T213 : isInt Try.prog 60 = some .i32 := by kernel_rfl
@[simp] theorem T214 : tyE Try.prog 61 = some (1, false) := by kernel_rfl
@[simp] theorem T215 : zeroE Try.prog 61 = some [V.int .i32 0] := by kernel_rfl
@[simp] theorem T216 : isInt Try.prog 61 = some .i32 := by kernel_rfl
@[simp] theorem T217 : tyE Try.prog 62 = some (11, true) := by kernel_rfl
@[simp] theorem T218 : zeroE Try.prog 62 = some [V.int .u64 0, V.int .u64 0, V.int .u32 0, V.int .u8 0, V.int .u8 0, V.int .u8 0, V.int .u8 0, V.poi, V.poi, V.int .i32 0, V.int .i32 0] := by kernel_rfl
@[simp] theorem T219 : fldE Try.prog 62 0 = some (0, 1, false) := by kernel_rfl
@[simp] theorem T220 : plE Try.prog 62 0 = some (0, 1) := by kernel_rfl
@[simp] theorem T221 : fldE Try.prog 62 1 = some (1, 1, false) := by kernel_rfl
@[simp] theorem T222 : plE Try.prog 62 1 = some (1, 1) := by kernel_rfl
@[simp] theorem T223 : fldE Try.prog 62 2 = some (2, 1, false) := by kernel_rfl
@[simp] theorem T224 : plE Try.prog 62 2 = some (2, 1) := by kernel_rfl
@[simp] theorem T225 : fldE Try.prog 62 3 = some (3, 1, false) := by kernel_rfl
@[simp] theorem T226 : plE Try.prog 62 3 = some (3, 1) := by kernel_rfl
@[simp] theorem T227 : fldE Try.prog 62 4 = some (4, 1, false) := by kernel_rfl
@[simp] theorem T228 : plE Try.prog 62 4 = some (4, 1) := by kernel_rfl
@[simp] theorem T229 : fldE Try.prog 62 5 = some (5, 1, false) := by kernel_rfl
@[simp] theorem T230 : plE Try.prog 62 5 = some (5, 1) := by kernel_rfl
@[simp] theorem T231 : fldE Try.prog 62 6 = some (6, 1, false) := by kernel_rfl
@[simp] theorem T232 : plE Try.prog 62 6 = some (6, 1) := by kernel_rfl
@[simp] theorem T233 : fldE Try.prog 62 7 = some (7, 1, false) := by kernel_rfl
@[simp] theorem T234 : plE Try.prog 62 7 = some (7, 1) := by kernel_rfl
@[simp] theorem T235 : fldE Try.prog 62 8 = some (8, 1, false) := by kernel_rfl
@[simp] theorem T236 : plE Try.prog 62 8 = some (8, 1) := by kernel_rfl
@[simp] theorem T237 : fldE Try.prog 62 9 = some (9, 1, false) := by kernel_rfl
@[simp] theorem T238 : plE Try.prog 62 9 = some (9, 1) := by kernel_rfl
@[simp] theorem T239 : fldE Try.prog 62 10 = some (10, 1, false) := by kernel_rfl
@[simp] theorem T240 : plE Try.prog 62 10 = some (10, 1) := by kernel_rfl
@[simp] theorem T241 : allE Try.prog 62 = true := by kernel_rfl
@[simp] theorem T242 : tyE Try.prog 63 = some (11, true) := by kernel_rfl
@[simp] theorem T243 : zeroE Try.prog 63 = some [V.int .u64 0, V.int .u64 0, V.int .u32 0, V.int .u8 0, V.int .u8 0, V.int .u8 0, V.int .u8 0, V.poi, V.poi, V.int .i32 0, V.int .i32 0] := by kernel_rfl
@[simp] theorem T244 : fldE Try.prog 63 0 = some (0, 1, false) := by kernel_rfl
@[simp] theorem T245 : plE Try.prog 63 0 = some (0, 1) := by kernel_rfl
@[simp] theorem T246 : fldE Try.prog 63 1 = some (1, 1, false) := by kernel_rfl
@[simp] theorem T247 : plE Try.prog 63 1 = some (1, 1) := by kernel_rfl
@[simp] theorem T248 : fldE Try.prog 63 2 = some (2, 1, false) := by kernel_rfl
@[simp] theorem T249 : plE Try.prog 63 2 = some (2, 1) := by kernel_rfl
@[simp] theorem T250 : fldE Try.prog 63 3 = some (3, 1, false) := by kernel_rfl
@[simp] theorem T251 : plE Try.prog 63 3 = some (3, 1) := by kernel_rfl
@[simp] theorem T252 : fldE Try.prog 63 4 = some (4, 1, false) := by kernel_rfl
@[simp] theorem T253 : plE Try.prog 63 4 = some (4, 1) := by kernel_rfl
@[simp] theorem T254 : fldE Try.prog 63 5 = some (5, 1, false) := by kernel_rfl
@[simp] theorem T255 : plE Try.prog 63 5 = some (5, 1) := by kernel_rfl
@[simp] theorem T256 : fldE Try.prog 63 6 = some (6, 1, false) := by kernel_rfl
@[simp] theorem T257 : plE Try.prog 63 6 = some (6, 1) := by kernel_rfl
@[simp] theorem T258 : fldE Try.prog 63 7 = some (7, 1, false) := by kernel_rfl
@[simp] theorem T259 : plE Try.prog 63 7 = some (7, 1) := by kernel_rfl
@[simp] theorem T260 : fldE Try.prog 63 8 = some (8, 1, false) := by kernel_rfl
@[simp] theorem T261 : plE Try.prog 63 8 = some (8, 1) := by kernel_rfl
@[simp] theorem T262 : fldE Try.prog 63 9 = some (9, 1, false) := by kernel_rfl
@[simp] theorem T263 : plE Try.prog 63 9 = some (9, 1) := by kernel_rfl
@[simp] theorem T264 : fldE Try.prog 63 10 = some (10, 1, false) := by kernel_rfl
@[simp] theorem T265 : plE Try.prog 63 10 = some (10, 1) := by kernel_rfl
@[simp] theorem T266 : allE Try.prog 63 = true := by kernel_rfl
end Go.Proofs.Ytnjpakhnaegdgab
