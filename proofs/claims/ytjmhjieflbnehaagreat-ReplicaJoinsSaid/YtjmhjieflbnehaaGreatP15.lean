/- A part of the proof of ReplicaJoins. -/
import Derived.Test.YtjmhjieflbnehaaGreatP14
set_option linter.unusedSimpArgs false
set_option linter.unusedVariables false
set_option maxHeartbeats 16000000
set_option maxRecDepth 100000
section
namespace Go.Proofs.YtjmhjieflbnehaaGreat.As
open Go.Ab Go.RowKit
def zQ7 (a : List ArgD) : ArgD := a.getD (a.length - 1) arg0
def valR (S : List (Str × Int)) (st : StD) : Option Int :=
 if (zQ7 st.l).2.2 = [] then some (zQ7 st.l).2.1
 else (zDo (zQ7 st.l).2.2 S).map fun a => if 0 < st.op then a.tdiv 4 - st.at' else a
def encE (i : InstD) : Int := if validD i then encW i else 0
def codR (st : StD) (v : Int) : Option (List Int) :=
 if st.what = zQ6 then some [v % 4294967296]
 else if st.what = zKj then some (List.replicate st.size.toNat 0)
 else if st.what = liWd then some [encE ⟨24, (st.l.getD 0 arg0).1, 0, 0, v % 4294967296 / 65536⟩, encE ⟨18, (st.l.getD 0 arg0).1, (st.l.getD 0 arg0).1, 0, v % 65536⟩]
 else if st.what = mvW then some [encE ⟨16, (st.l.getD 0 arg0).1, (st.l.getD 1 arg0).1, 0, 0⟩]
 else if st.what = nopW then some [encE ⟨16, 0, 0, 0, 0⟩]
 else (zHU st.op st.l v).map fun w => [w]
def zGJ (S : List (Str × Int)) : List StD → List Int → Except (Int × Int) (List Int)
 | [], out => .ok out
 | st :: r, out => match valR S st with
  | none => .error (302, st.line)
  | some v => match codR st v with
   | none => .error (304, st.line)
   | some w => zGJ S r (out ++ w)
def asmR (s : Str) : Except (Int × Int) (List Int) := match zGO s with
 | .error e => .error e
 | .ok p => zGJ p.syms p.sts []
def zGW (s : Str) : V := match asmR s with
 | .error e => .tup [.sl 1 true [], errV e]
 | .ok out => .tup [.new 25 1 (ints .u32 out), errV (0, 0)]
theorem zSi (l : List StD) (i : Nat) (h : i < l.length) : (stsV l)[i]? = some l[i].row := by simp [stsV, h]
theorem zLG : ∀ {L : List Str} {n e m : Int} {p : PrR}, redF L n p = .error (e, m) → e ≠ 0
 | [], n, e, m, p, h => by simp [redF] at h
 | t :: ts, n, e, m, p, h => by
  simp only [redF] at h
  split at h
  ·simp only [Except.error.injEq, Prod.mk.injEq] at h; omega
  ·split at h
   ·simp only [Except.error.injEq, Prod.mk.injEq] at h; omega
   ·split at h
    ·simp only [Except.error.injEq, Prod.mk.injEq] at h; omega
    ·exact zLG h
theorem zO1 {s : Str} {e n : Int} (h : zGO s = .error (e, n)) : e ≠ 0 := by
 unfold zGO at h
 split at h
 ·simp only [Except.error.injEq, Prod.mk.injEq] at h; omega
 ·exact zLG h
theorem zDa (i : InstD) (hi : -2147483648 ≤ i.imm ∧ i.imm ≤ 2147483647) : zAD Tryz.prog 88 [.st i.row] (.tup [.int .u32 (encE i), .bool (validD i)]) := zDW i hi
theorem zDI (k : IntKind) (l : List Int) (x : Int) : ints k l ++ [[V.int k x]] = ints k (l ++ [x]) := by simp [ints]
theorem zQH (k : IntKind) (l : List Int) (x y : Int) : ints k l ++ [[V.int k x], [V.int k y]] = ints k (l ++ [x, y]) := by simp [ints]
set_option maxHeartbeats 32000000 in
theorem zI8 (s : Str) (hsl : s.length ≤ 999999) : zAD Tryz.prog 37 [.str s] (zGW s) := by
 refine sX Tryz.func37 Tryz.ntmps37 ?_;(repeat intro K hK);refine wr ?_
 have hrd := zSd s (by omega)
 unfold zEH at hrd
 cases hr : zGO s with
 | error e =>
  obtain ⟨e, n⟩ := e
  rw [hr] at hrd
  have hne : e ≠ 0 := zO1 hr
  have hv : zGW s = .tup [.sl 1 true [], errV (e, n)] := by unfold zGW asmR; rw [hr]
  refine cX (hrd) ?_;(repeat intro K hK);refine wr ?_
  refine gT10 @hne rfl ?_;(repeat intro K hK);refine wr ?_
  refine zAE ([0, 1, 2] : List Nat) ([[], [], [0, 1]] : List (List Nat)) ([(2, ([[], []], [])), (1, ([], []))] : List (Nat × List (List Nat) × List (Nat × Nat))) (by kernel_rfl) (by kernel_rfl) (by kernel_rfl) ?_
  refine af ?_;(repeat intro K hK);refine wr ?_
  refine af ?_;(repeat intro K hK);refine wr ?_
  refine zAI ?_
  refine zAB ?_
  simp [hv]
 | ok p =>
  obtain ⟨hg, hpl, hsyl⟩ := zMF hr
  rw [hr] at hrd
  have ha : asmR s = zGJ p.syms p.sts [] := by unfold asmR; rw [hr]
  obtain ⟨S, T, w⟩ := p
  simp only at hrd ha hpl hsyl
  refine cXf (hrd) ?_;(repeat intro K hK);refine wr ?_
  refine zC9 rfl ?_;(repeat intro K hK);refine wr ?_
  refine zAc 7 25 1 (by decide) rfl ?_
  simp
  obtain ⟨I, hI⟩ : ∃ I : Nat → St → Prop, I = (fun kk ss => ∃ (i : Nat) (out : List Int), i ≤ T.length ∧ kk = T.length - i ∧ (zGJ S T [] = zGJ S (T.drop i) out ∧ out.length ≤ 1024 * i) ∧ ss = ⟨194, [(8, .int .i64 i), (7, .own 1), (5, .sl 6 false (stsV T)), (4, .sl 2 false (zCa S)), (3, .ptr 0 2 0 0)], 2, [(0, some ⟨114, 2, true, false, [[.int .i64 0, .int .i64 0]]⟩), (1, some ⟨25, 1, false, false, ints .u32 out⟩)], 0⟩) := ⟨_, rfl⟩
  refine lX I (fun x => if x = 1 then 6 else x) (by rw [hI]; exact ⟨0, [], by simp, rfl, by simp, rfl⟩) ?_
  intro kk ss hIk _
  rw [hI] at hIk
  obtain ⟨i, out, hi, rfl, hx, rfl⟩ := hIk
  obtain ⟨hx, hol⟩ := hx
  have hTl := zKf T
  have hw : IntKind.i64.wrap ((i : Int) + 1) = (i : Int) + 1 := zAC (by omega) (by omega)
  refine af1 @hTl ?_;(repeat intro K hK);refine wr ?_
  by_cases hi' : i < T.length
  ·obtain ⟨st, hst⟩ : ∃ st, st = T[i] := ⟨_, rfl⟩
   have hstm : st ∈ T := by rw [hst]; exact List.getElem_mem hi'
   obtain ⟨gS, ga1, ga2⟩ := hg.1 st hstm
   have hget : (stsV T)[i]? = some st.row := by rw [hst]; exact zSi T i hi'
   have hdr : T.drop i = st :: T.drop (i + 1) := by rw [List.drop_eq_getElem_cons hi', hst]
   rw [hdr, zGJ] at hx
   have hal := zH6 st.l
   have hl6 := gS.1
   refine cT1 @hi' rfl ?_
   iterate 12 (first | (with_reducible first | refine zAj fun K hK => ?_ | refine zAa ?_) | ((with_reducible first | refine zAV (by kernel_rfl) ?_ | refine zAm ?_ | refine zAi ?_ | refine zAn ?_ | refine zAl ?_ | refine zBG ?_ | refine zBK ?_ | refine zBL ?_ | refine zBM ?_ | refine zAk ?_ | refine zAh ?_); simp [hget, hTl]) | ((repeat ((fail_if_success ((with_reducible first | refine hK _ ?_ | refine hK _ _ _ _ ?_))); clear hK)); (with_reducible first | refine hK _ ?_ | refine hK _ _ _ _ ?_); clear hK) | (with_reducible refine zBV fun K hK => ?_; simp [hget, hTl]) | (with_reducible refine zBX ?_; try simp only [thn, blk]) | (with_reducible refine zBT fun K hK => ?_; simp only [List.take_succ_cons, List.take_zero]) | (with_reducible refine zBI fun K hK => ?_; simp [hget, hTl]) | (with_reducible refine zBU ?_) | (with_reducible refine zBH ?_; simp only [List.drop_succ_cons, List.drop_zero]; simp only [stS, eT, eO, List.cons_append, List.nil_append, cond_true, cond_false, Bool.and_true, Bool.and_false, Bool.true_and, Bool.false_and]) | (with_reducible refine zA4 ?_ ?_; (· (simp [hget, hTl] <;> first | omega | grind))) | refine And.intro (by first | omega | assumption | grind) ?_)
   refine zBs (α := Int) (fun v => (⟨194, [(10, .int .i64 v), (9, .ptr 2 6 0 0), (8, .int .i64 i), (7, .own 1), (5, .sl 6 false (stsV T)), (4, .sl 2 false (zCa S)), (3, .ptr 0 2 0 0)], 3, [(0, some ⟨114, 2, true, false, [[.int .i64 0, .int .i64 0]]⟩), (1, some ⟨25, 1, false, false, ints .u32 out⟩), (2, some ⟨176, 6, true, false, [[.str st.what, .int .i64 st.op, .sl 3 false (zC4 st.l), .int .i64 st.line, .int .i64 st.at', .int .i64 st.size]]⟩)], 0⟩ : St)) (fun v => valR S st = some v ∧ -4294967296 ≤ v ∧ v ≤ 4294967296) hK (fun v hxhV => ?_) (fun hV => ?_)
   all_goals clear hK
   ·obtain ⟨hvr, hv1, hv2⟩ := hxhV
    rw [hvr] at hx
    simp only at hx
    have hu : IntKind.u32.wrap v = v % 4294967296 := IntKind.wrap_u32 v
    have hil := zKc .u32 out
    have hmx : (ints .u32 out).length + 1 ≤ maxLen := by rw [hil]; simp [maxLen]; omega
    have hm4 : (out.length + 1) * 4 ≤ 140737488355328 := by omega
    refine af ?_;(repeat intro K hK);refine wr ?_
    by_cases w1 : st.what = zQ6
    ·have hc : codR st v = some [v % 4294967296] := by unfold codR; rw [if_pos w1]
     refine cT1 @w1 rfl ?_
     rw [hc] at hx
     simp only at hx
     have hap := zDI .u32 out (v % 4294967296)
     refine af1 (kX5 @hu @hmx @hm4 @hap @hil) ?_;(repeat intro K hK);refine wr ?_
     exact aX (fun x => if x = 1 then 4 else x) (by rw [hI]; exact ⟨i + 1, (out ++ [v % 4294967296]), by omega, rfl, ⟨hx, by simp; omega⟩, rfl⟩) (kX3 (zAC (n := (i : Int) + 1) (by omega) (by omega)) @hw @hap)
    ·refine zBY @w1 rfl ?_;(repeat intro K hK);refine wr ?_
     by_cases w2 : st.what = zKj
     ·obtain ⟨⟨hs0, hs1⟩, _⟩ := gS.2
      obtain ⟨z, hz⟩ : ∃ z : Nat, z = st.size.toNat := ⟨_, rfl⟩
      have hzs : st.size = (z : Int) := by omega
      have hc : codR st v = some (List.replicate z 0) := by unfold codR; rw [if_neg w1, if_pos w2, hz]
      rw [hc] at hx
      simp only at hx
      refine zEG @w2 rfl ?_;(repeat intro K hK);refine wr ?_
      obtain ⟨Ij, hIj⟩ : ∃ I : Nat → St → Prop, I = (fun kk ss => ∃ (j : Nat) , j ≤ z ∧ kk = z - j ∧ (True) ∧ ss = ⟨194, [(14, .int .i64 j), (10, .int .i64 v), (9, .ptr 2 6 0 0), (8, .int .i64 i), (7, .own 1), (5, .sl 6 false (stsV T)), (4, .sl 2 false (zCa S)), (3, .ptr 0 2 0 0)], 3, [(0, some ⟨114, 2, true, false, [[.int .i64 0, .int .i64 0]]⟩), (1, some ⟨25, 1, false, false, ints .u32 (out ++ List.replicate j 0)⟩), (2, some ⟨176, 6, true, false, [[.str st.what, .int .i64 st.op, .sl 3 false (zC4 st.l), .int .i64 st.line, .int .i64 st.at', .int .i64 st.size]]⟩)], 0⟩) := ⟨_, rfl⟩
      refine lX Ij (id) (by rw [hIj]; exact ⟨0, by simp, rfl, trivial, rfl⟩) ?_
      intro kk ss hIk _
      rw [hIj] at hIk
      obtain ⟨j, hj, rfl, hxj, rfl⟩ := hIk
      have hwj : IntKind.i64.wrap ((j : Int) + 1) = (j : Int) + 1 := zAC (by omega) (by omega)
      have hil2 := zKc .u32 (out ++ List.replicate j 0)
      rw [List.length_append, List.length_replicate] at hil2
      have hmx2 : (ints .u32 (out ++ List.replicate j 0)).length + 1 ≤ maxLen := by rw [hil2]; simp [maxLen]; omega
      have hm42 : (out.length + j + 1) * 4 ≤ 140737488355328 := by omega
      have hap2 := zDI .u32 (out ++ List.replicate j 0) 0
      have hrp : out ++ List.replicate j (0 : Int) ++ [0] = out ++ List.replicate (j + 1) 0 := by rw [List.append_assoc, List.replicate_succ']
      rw [hrp] at hap2
      obtain ⟨o2, ho2⟩ : ∃ o2, o2 = out ++ List.replicate j (0 : Int) := ⟨_, rfl⟩
      rw [← ho2] at hil2 hmx2 hap2 ⊢
      refine af1 @hzs ?_;(repeat intro K hK);refine wr ?_
      by_cases hj' : j < z
      ·refine zCt @hj' rfl (kX4 @hil2 @hmx2 @hm42 @hap2) ?_;(repeat intro K hK);refine wr ?_
       exact aX (fun x => if x = 1 then 4 else x) (by rw [hIj]; exact ⟨j + 1, by omega, rfl, trivial, rfl⟩) (kX4 (zAC (n := (j : Int) + 1) (by omega) (by omega)) @hwj @hap2 @hzs)
      ·have hjz : j = z := by omega
       subst hjz
       rw [← ho2] at hx
       refine zBY @hj' rfl ?_;(repeat intro K hK);refine wr ?_
       exact aX (id) (by rw [hI]; exact ⟨i + 1, o2, by omega, rfl, ⟨hx, by rw [ho2]; simp; omega⟩, rfl⟩) (kX2 (zAC (n := (i : Int) + 1) (by omega) (by omega)) @hw)
     ·refine zBY @w2 rfl ?_;(repeat intro K hK);refine wr ?_
      by_cases w3 : st.what = liWd
      ·have g0 := zBO st.l 0 (by have := gS.2.2.2.1 w3; omega)
       have hd1 : IntKind.i32.wrap (v % 4294967296 / 65536) = v % 4294967296 / 65536 := by rw [IntKind.wrap_i32]; omega
       have hd2 : IntKind.i32.wrap (v % 4294967296 % 65536) = v % 4294967296 % 65536 := by rw [IntKind.wrap_i32]; omega
       have hfd : (v % 4294967296).fdiv 65536 = v % 4294967296 / 65536 := Int.fdiv_eq_ediv_of_nonneg _ (by decide)
       have hc : codR st v = some [encE ⟨24, (st.l.getD 0 arg0).1, 0, 0, v % 4294967296 / 65536⟩, encE ⟨18, (st.l.getD 0 arg0).1, (st.l.getD 0 arg0).1, 0, v % 65536⟩] := by unfold codR; rw [if_neg w1, if_neg w2, if_pos w3]
       generalize st.l.getD 0 arg0 = r at g0 hc
       rw [hc] at hx
       simp only at hx
       have hdf : IntKind.i32.wrap ((v % 4294967296).fdiv 65536) = v % 4294967296 / 65536 := by rw [hfd, hd1]
       have hd2' : IntKind.i32.wrap (v % 4294967296 % 65536) = v % 65536 := by rw [hd2]; omega
       have hdm : IntKind.i32.wrap (IntKind.u32.wrap ((BitVec.ofInt 32 (v % 4294967296) &&& 65535#32).toNat : Int)) = v % 65536 := by
        have := zBD (v % 4294967296) 16 65536 (by decide) (by decide)
        rw [show BitVec.ofNat 32 (65536 - 1) = 65535#32 from rfl] at this
        rw [this, show ((65536 : Nat) : Int) = 65536 from rfl]; exact hd2'
       have hem : zAD Tryz.prog 88 [.st [.int .i64 18, .int .i64 r.1, .int .i64 r.1, .int .i64 0, .int .i32 (IntKind.i32.wrap (IntKind.u32.wrap ((BitVec.ofInt 32 (v % 4294967296) &&& 65535#32).toNat : Int)))]] (.tup [.int .u32 (encE ⟨18, r.1, r.1, 0, v % 65536⟩), .bool (validD ⟨18, r.1, r.1, 0, v % 65536⟩)]) := by
        rw [hdm]; exact zDa ⟨18, r.1, r.1, 0, v % 65536⟩ ⟨by simp only; omega, by simp only; omega⟩
       have hm42 : (out.length + 2) * 4 ≤ 140737488355328 := by omega
       have hmx2 : (ints .u32 out).length + 2 ≤ maxLen := by rw [hil]; simp [maxLen]; omega
       refine zCt @w3 rfl (kX3 @g0 @hu @hal) ?_;(repeat intro K hK);refine wr ?_
       simp only [hdf]
       refine cXf (zDa ⟨24, r.1, 0, 0, v % 4294967296 / 65536⟩ ⟨by simp only; omega, by simp only; omega⟩) ?_;(repeat intro K hK);refine wr ?_
       refine zAE ([0, 1, 2, 3, 4, 5, 6, 7, 8, 9, 10, 11, 12, 13, 14, 15, 16, 17, 18, 19, 20] : List Nat) ([[], [0], [0, 1], [0, 1, 2], [0, 1, 2, 3], [], [5], [5, 6], [5, 6, 7], [5, 6, 7, 8], [], [10], [10, 11], [10, 11, 12], [0, 1, 2, 3, 4, 5, 6, 7, 8, 9, 10, 11, 12, 13], [0, 1, 2, 3, 4, 5, 6, 7, 8, 9, 10, 11, 12, 13, 14], [0, 1, 2, 3, 4, 5, 6, 7, 8, 9, 10, 11, 12, 13, 14, 15], [0, 1, 2, 3, 4, 5, 6, 7, 8, 9, 10, 11, 12, 13, 14, 15, 16], [0, 1, 2, 3, 4, 5, 6, 7, 8, 9, 10, 11, 12, 13, 14, 15, 16], [0, 1, 2, 3, 4, 5, 6, 7, 8, 9, 10, 11, 12, 13, 14, 15, 16, 17], [0, 1, 2, 3, 4, 5, 6, 7, 8, 9, 10, 11, 12, 13, 14, 15, 16, 17, 18, 19]] : List (List Nat)) ([(14, ([[], [0], [0, 1], [0, 1, 2], [0, 1, 2, 3], [], [5], [5, 6], [5, 6, 7], [5, 6, 7, 8], [], [10], [10, 11], [10, 11, 12]], [])), (1, ([], [])), (1, ([], [])), (1, ([], [])), (3, ([[], [], [0]], [])), (1, ([], []))] : List (Nat × List (List Nat) × List (Nat × Nat))) (by kernel_rfl) (by kernel_rfl) (by kernel_rfl) ?_
       refine af1 (kX3 @g0 @hu @hal) ?_;(repeat intro K hK);refine wr ?_
       refine cc (hem) ?_
       have hap := zQH .u32 out (encE ⟨24, r.1, 0, 0, v % 4294967296 / 65536⟩) (encE ⟨18, r.1, r.1, 0, v % 65536⟩)
       refine af1 (kX5 @hu @hmx2 @hm42 @hap @hil) ?_;(repeat intro K hK);refine wr ?_
       exact aX (fun x => if x = 1 then 8 else x) (by rw [hI]; exact ⟨i + 1, (out ++ [encE ⟨24, r.1, 0, 0, v % 4294967296 / 65536⟩, encE ⟨18, r.1, r.1, 0, v % 65536⟩]), by omega, rfl, ⟨hx, by simp; omega⟩, rfl⟩) (kX3 (zAC (n := (i : Int) + 1) (by omega) (by omega)) @hw @hap)
      ·refine zBY @w3 rfl ?_;(repeat intro K hK);refine wr ?_
       by_cases w4 : st.what = mvW
       ·have g0 := zBO st.l 0 (by have := gS.2.2.2.2.1 w4; omega)
        have g1 := zBO st.l 1 (by have := gS.2.2.2.2.1 w4; omega)
        have hc : codR st v = some [encE ⟨16, (st.l.getD 0 arg0).1, (st.l.getD 1 arg0).1, 0, 0⟩] := by unfold codR; rw [if_neg w1, if_neg w2, if_neg w3, if_pos w4]
        generalize st.l.getD 0 arg0 = r at g0 hc
        generalize st.l.getD 1 arg0 = q at g1 hc
        refine zEG @w4 rfl ?_;(repeat intro K hK);refine wr ?_
        refine zAE ([0, 1, 2, 3, 4, 5, 6, 7, 8, 9, 10, 11, 12, 13, 14, 15, 16] : List Nat) ([[], [0], [0, 1], [0, 1, 2], [0, 1, 2, 3], [], [5], [5, 6], [5, 6, 7], [5, 6, 7, 8], [0, 1, 2, 3, 4, 5, 6, 7, 8, 9], [0, 1, 2, 3, 4, 5, 6, 7, 8, 9, 10], [0, 1, 2, 3, 4, 5, 6, 7, 8, 9, 10, 11], [0, 1, 2, 3, 4, 5, 6, 7, 8, 9, 10, 11, 12], [0, 1, 2, 3, 4, 5, 6, 7, 8, 9, 10, 11, 12], [0, 1, 2, 3, 4, 5, 6, 7, 8, 9, 10, 11, 12, 13], [0, 1, 2, 3, 4, 5, 6, 7, 8, 9, 10, 11, 12, 13, 14, 15]] : List (List Nat)) ([(10, ([[], [0], [0, 1], [0, 1, 2], [0, 1, 2, 3], [], [5], [5, 6], [5, 6, 7], [5, 6, 7, 8]], [])), (1, ([], [])), (1, ([], [])), (1, ([], [])), (3, ([[], [], [0]], [])), (1, ([], []))] : List (Nat × List (List Nat) × List (Nat × Nat))) (by kernel_rfl) (by kernel_rfl) (by kernel_rfl) ?_
        refine af1 (kX2 @g0 @g1) ?_;(repeat intro K hK);refine wr ?_
        refine af1 (kX2 @g0 @g1) ?_;(repeat intro K hK);refine wr ?_
        refine cc (zDa ⟨16, r.1, q.1, 0, 0⟩ ⟨by simp only; omega, by simp only; omega⟩) ?_
        rw [hc] at hx
        simp only at hx
        have hap := zDI .u32 out (encE ⟨16, r.1, q.1, 0, 0⟩)
        refine af1 (kX5 @hu @hmx @hm4 @hap @hil) ?_;(repeat intro K hK);refine wr ?_
        exact aX (fun x => if x = 1 then 6 else x) (by rw [hI]; exact ⟨i + 1, (out ++ [encE ⟨16, r.1, q.1, 0, 0⟩]), by omega, rfl, ⟨hx, by simp; omega⟩, rfl⟩) (kX3 (zAC (n := (i : Int) + 1) (by omega) (by omega)) @hw @hap)
       ·refine zBY @w4 rfl ?_;(repeat intro K hK);refine wr ?_
        by_cases w5 : st.what = nopW
        ·refine zEG @w5 rfl ?_;(repeat intro K hK);refine wr ?_
         refine cc (zDa ⟨16, 0, 0, 0, 0⟩ ⟨by decide, by decide⟩) ?_
         have hc : codR st v = some [encE ⟨16, 0, 0, 0, 0⟩] := by unfold codR; rw [if_neg w1, if_neg w2, if_neg w3, if_neg w4, if_pos w5]
         rw [hc] at hx
         simp only at hx
         have hap := zDI .u32 out (encE ⟨16, 0, 0, 0, 0⟩)
         refine af1 (kX5 @hu @hmx @hm4 @hap @hil) ?_;(repeat intro K hK);refine wr ?_
         exact aX (fun x => if x = 1 then 6 else x) (by rw [hI]; exact ⟨i + 1, (out ++ [encE ⟨16, 0, 0, 0, 0⟩]), by omega, rfl, ⟨hx, by simp; omega⟩, rfl⟩) (kX3 (zAC (n := (i : Int) + 1) (by omega) (by omega)) @hw @hap)
        ·have hio := zJ7 st v (gS.2.2.2.2.2 w1 w2 w3 w4 w5)
         have hc : codR st v = (zHU st.op st.l v).map fun w => [w] := by unfold codR; rw [if_neg w1, if_neg w2, if_neg w3, if_neg w4, if_neg w5]
         unfold zGZ at hio
         refine zBY @w5 rfl ?_;(repeat intro K hK);refine wr ?_
         refine cXf (hio) ?_;(repeat intro K hK);refine wr ?_
         cases hir : zHU st.op st.l v with
         | none =>
          rw [hir] at hc
          rw [hc] at hx
          have hv : zGW s = .tup [.sl 1 true [], errV (304, st.line)] := by unfold zGW; rw [ha, hx]; rfl
          refine zEG @hir rfl ?_;(repeat intro K hK);refine wr ?_
          refine zAE ([0, 1, 2, 3, 4] : List Nat) ([[], [0], [0, 1], [], [0, 1, 2, 3]] : List (List Nat)) ([(4, ([[], [0], [0, 1], []], [])), (1, ([], []))] : List (Nat × List (List Nat) × List (Nat × Nat))) (by kernel_rfl) (by kernel_rfl) (by kernel_rfl) ?_
          refine af ?_;(repeat intro K hK);refine wr ?_
          refine af ?_;(repeat intro K hK);refine wr ?_
          refine zAI ?_
          refine zAB ?_
          simp [hv]
         | some wd =>
          rw [hir] at hc
          simp only [Option.map_some] at hc
          refine zEn @hir rfl @hir ?_;(repeat intro K hK);refine wr ?_
          rw [hc] at hx
          simp only at hx
          have hap := zDI .u32 out (wd)
          refine af1 (kX5 @hu @hmx @hm4 @hap @hil) ?_;(repeat intro K hK);refine wr ?_
          exact aX (fun x => if x = 1 then 6 else x) (by rw [hI]; exact ⟨i + 1, (out ++ [wd]), by omega, rfl, ⟨hx, by simp; omega⟩, rfl⟩) (kX3 (zAC (n := (i : Int) + 1) (by omega) (by omega)) @hw @hap)
   by_cases hl0 : st.l.length = 0
   ·have hvr : valR S st = some 0 := by
     have : st.l = [] := List.eq_nil_of_length_eq_zero hl0
     simp [valR, zQ7, this]
    have hl0' : ¬ (0 : Int) < (st.l.length : Int) := by omega
    refine af1 @hal ?_;(repeat intro K hK);refine wr ?_
    refine zBY @hl0 rfl ?_;(repeat intro K hK);refine wr ?_
    refine hV 0 _ (id) (⟨hvr, by omega, by omega⟩) ⟨rfl, ?_, ?_, ?_, by simp⟩
    ·simp [leT, ltV, lt1, ren, ren1]
    ·simp [leO, lt1, ren1]
    ·(simp; try omega)
   ·have hl0' : (0 : Int) < (st.l.length : Int) := by omega
    have hl1 : IntKind.i64.wrap ((st.l.length : Int) - 1) = (st.l.length : Int) - 1 := zAC (by omega) (by omega)
    have htn : ((st.l.length : Int) - 1).toNat = st.l.length - 1 := by omega
    have glast := zBO st.l (st.l.length - 1) (by omega)
    have hlr : valR S st = if (st.l.getD (st.l.length - 1) arg0).2.2 = [] then some (st.l.getD (st.l.length - 1) arg0).2.1 else (zDo (st.l.getD (st.l.length - 1) arg0).2.2 S).map fun a => if 0 < st.op then a.tdiv 4 - st.at' else a := rfl
    have hra := gS.2.2.1 _ (List.getElem_mem (show st.l.length - 1 < st.l.length by omega))
    have hge : st.l[st.l.length - 1] = st.l.getD (st.l.length - 1) arg0 := by rw [List.getD_eq_getElem?_getD, List.getElem?_eq_getElem (by omega)]; rfl
    rw [hge] at hra
    generalize st.l.getD (st.l.length - 1) arg0 = r at glast hlr hra
    obtain ⟨r1, r2, r3⟩ := r
    obtain ⟨_, hb1, hb2⟩ := hra
    simp only at glast hlr hb1 hb2
    refine af1 @hal ?_;(repeat intro K hK);refine wr ?_
    refine zAA rfl (fun _ => ?_) (fun h => absurd (by simpa using h) hl0)
    refine af1 (kX4 @hal @hl1 @htn @glast) ?_;(repeat intro K hK);refine wr ?_
    by_cases h3 : r3 = []
    ·rw [if_pos h3] at hlr
     refine zBY @h3 rfl ?_;(repeat intro K hK);refine wr ?_
     refine hV r2 _ (id) (⟨hlr, by omega, by omega⟩) ⟨rfl, ?_, ?_, ?_, by simp⟩
     ·simp [leT, ltV, lt1, ren, ren1]
     ·simp [leO, lt1, ren1]
     ·(simp; try omega)
    ·rw [if_neg h3] at hlr
     refine zEG @h3 rfl ?_;(repeat intro K hK);refine wr ?_
     refine cXf (zCh S r3 (by omega)) ?_;(repeat intro K hK);refine wr ?_
     cases hfd : zDo r3 S with
     | none =>
      rw [hfd] at hlr
      simp only [Option.map_none] at hlr
      rw [hlr] at hx
      have hv : zGW s = .tup [.sl 1 true [], errV (302, st.line)] := by unfold zGW; rw [ha, hx]
      refine zEG @hfd rfl ?_;(repeat intro K hK);refine wr ?_
      refine zAE ([0, 1, 2, 3, 4] : List Nat) ([[], [0], [0, 1], [], [0, 1, 2, 3]] : List (List Nat)) ([(4, ([[], [0], [0, 1], []], [])), (1, ([], []))] : List (Nat × List (List Nat) × List (Nat × Nat))) (by kernel_rfl) (by kernel_rfl) (by kernel_rfl) ?_
      refine af ?_;(repeat intro K hK);refine wr ?_
      refine af ?_;(repeat intro K hK);refine wr ?_
      refine zAI ?_
      refine zAB ?_
      simp [hv]
     | some ad =>
      rw [hfd] at hlr
      simp only [Option.map_some] at hlr
      obtain ⟨zz, hz1, hz2⟩ := zIf hfd
      obtain ⟨hz3, hz4⟩ := hg.2.1 zz hz1
      rw [hz2] at hz3 hz4
      have hwa : IntKind.i64.wrap ad = ad := zAC (by omega) (by omega)
      have ht4 : ad.tdiv 4 = ad / 4 := Int.tdiv_eq_ediv_of_nonneg hz3
      have hwd : IntKind.i64.wrap (ad / 4) = ad / 4 := zAC (by omega) (by omega)
      have hwm : IntKind.i64.wrap (ad / 4 - st.at') = ad / 4 - st.at' := zAC (by omega) (by omega)
      refine zEn @hfd rfl (kX2 @hfd @hwa) ?_;(repeat intro K hK);refine wr ?_
      by_cases hop : 0 < st.op
      ·rw [if_pos hop, ht4] at hlr
       refine zCt @hop rfl (kX5 @hwa @hwd @hwm @ht4 @hfd) ?_;(repeat intro K hK);refine wr ?_
       refine hV (ad / 4 - st.at') _ (id) (⟨hlr, by omega, by omega⟩) ⟨rfl, ?_, ?_, ?_, by simp⟩
       ·simp [leT, ltV, lt1, ren, ren1, hwd, hwm, ht4]
       ·simp [leO, lt1, ren1, hwd, hwm, ht4]
       ·(simp; try omega)
      ·rw [if_neg hop] at hlr
       refine zBY @hop rfl ?_;(repeat intro K hK);refine wr ?_
       refine hV ad _ (id) (⟨hlr, by omega, by omega⟩) ⟨rfl, ?_, ?_, ?_, by simp⟩
       ·simp [leT, ltV, lt1, ren, ren1, hfd, hwa]
       ·simp [leO, lt1, ren1, hfd, hwa]
       ·(simp; try omega)
  ·have : i = T.length := by omega
   subst this
   rw [List.drop_length, zGJ] at hx
   have hv : zGW s = .tup [.new 25 1 (ints .u32 out), errV (0, 0)] := by unfold zGW; rw [ha, hx]
   refine zC9 rfl ?_;(repeat intro K hK);refine wr ?_
   refine zAB ?_
   simp [hv]
end Go.Proofs.YtjmhjieflbnehaaGreat.As
end
