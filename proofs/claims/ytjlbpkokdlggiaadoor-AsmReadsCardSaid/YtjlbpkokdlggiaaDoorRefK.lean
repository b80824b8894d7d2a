/- The document's assembler: Assemble. (Numbers of seat r2.D.) -/
import Derived.Test.YtjlbpkokdlggiaaDoorRefJ
namespace Go.Proofs.YtjlbpkokdlggiaaDoor
open Go.Ab Go.RowKit
set_option linter.unusedSimpArgs false
set_option maxRecDepth 100000
def lastR (a : List ArgD) : ArgD := a.getD (a.length - 1) arg0
def valR (S : List (Str × Int)) (st : StD) : Option Int :=
  if (lastR st.l).2.2 = [] then some (lastR st.l).2.1
  else (findL (lastR st.l).2.2 S).map fun a => if 0 < st.op then a.tdiv 4 - st.at' else a
def encE (i : InstD) : Int := if validD i then encW i else 0
def codR (st : StD) (v : Int) : Option (List Int) :=
  if st.what = wordW then some [v % 4294967296]
  else if st.what = spaceW then some (List.replicate st.size.toNat 0)
  else if st.what = liWd then some [encE ⟨24, (st.l.getD 0 arg0).1, 0, 0, v % 4294967296 / 65536⟩, encE ⟨18, (st.l.getD 0 arg0).1, (st.l.getD 0 arg0).1, 0, v % 65536⟩]
  else if st.what = mvW then some [encE ⟨16, (st.l.getD 0 arg0).1, (st.l.getD 1 arg0).1, 0, 0⟩]
  else if st.what = nopW then some [encE ⟨16, 0, 0, 0, 0⟩]
  else (instR st.op st.l v).map fun w => [w]
def refAll (S : List (Str × Int)) : List StD → List Int → Except (Int × Int) (List Int)
  | [], out => .ok out
  | st :: r, out => match valR S st with
    | none => .error (302, st.line)
    | some v => match codR st v with
      | none => .error (304, st.line)
      | some w => refAll S r (out ++ w)
def asmR (s : Str) : Except (Int × Int) (List Int) := match readR s with
  | .error e => .error e
  | .ok p => refAll p.syms p.sts []
def asmRV (s : Str) : V := match asmR s with
  | .error e => .tup [.sl 1 true [], errV e]
  | .ok out => .tup [.sl 1 false (ints .u32 out), errV (0, 0)]
theorem stsV_at (l : List StD) (i : Nat) (h : i < l.length) : (stsV l)[i]? = some l[i].row := by simp [stsV, h]
theorem redF_err : ∀ {L : List Str} {n e m : Int} {p : PrR}, redF L n p = .error (e, m) → e ≠ 0
  | [], n, e, m, p, h => by simp [redF] at h
  | t :: ts, n, e, m, p, h => by
    simp only [redF] at h
    split at h
    · simp only [Except.error.injEq, Prod.mk.injEq] at h; omega
    · split at h
      · simp only [Except.error.injEq, Prod.mk.injEq] at h; omega
      · split at h
        · simp only [Except.error.injEq, Prod.mk.injEq] at h; omega
        · exact redF_err h
theorem readR_err {s : Str} {e n : Int} (h : readR s = .error (e, n)) : e ≠ 0 := by
  unfold readR at h
  split at h
  · simp only [Except.error.injEq, Prod.mk.injEq] at h; omega
  · exact redF_err h
theorem encodeE_ok (i : InstD) (hi : -2147483648 ≤ i.imm ∧ i.imm ≤ 2147483647) : Meets Tryd.prog 13 [.st i.row] (.tup [.int .u32 (encE i), .bool (validD i)]) := encodeR_ok i hi
theorem ints_one1 (k : IntKind) (l : List Int) (x : Int) : ints k l ++ [[V.int k x]] = ints k (l ++ [x]) := by simp [ints]
theorem ints_two (k : IntKind) (l : List Int) (x y : Int) : ints k l ++ [[V.int k x], [V.int k y]] = ints k (l ++ [x, y]) := by simp [ints]
set_option maxHeartbeats 32000000 in
theorem assembleR_ok (s : Str) (hsl : s.length ≤ 999999) : Meets Tryd.prog 47 [.str s] (asmRV s) := by
  refine Meets.of Tryd.func47 rfl (by kernel_rfl) rfl ?_
  simp only [Tryd.ntmps47, St.start, argT]
  refine au  ?_
  repeat intro K hK
  refine wr ?_
  have hrd := read_ok s (by omega)
  unfold readV at hrd
  cases hr : readR s with
  | error e =>
    obtain ⟨e, n⟩ := e
    rw [hr] at hrd
    have hne : e ≠ 0 := readR_err hr
    have hv : asmRV s = .tup [.sl 1 true [], errV (e, n)] := by unfold asmRV asmR; rw [hr]
    refine ca (hrd)  ?_
    refine au  ?_
    repeat intro K hK
    refine wr ?_
    refine awp_cond rfl (fun _ => ?_) (fun h => by simp [hne] at h)
    refine au  ?_
    repeat intro K hK
    refine wr ?_
    refine awp_planI ([0, 1, 2] : List Nat) ([[], [], [0, 1]] : List (List Nat)) ([(2, ([[], []], [])), (1, ([], []))] : List (Nat × List (List Nat) × List (Nat × Nat))) (by kernel_rfl) (by kernel_rfl) (by kernel_rfl) ?_
    refine af  ?_
    repeat intro K hK
    refine wr ?_
    refine af  ?_
    repeat intro K hK
    refine wr ?_
    refine awp_fzA ?_
    refine awp_ret ?_
    simp [hv]
  | ok p =>
    obtain ⟨hg, hpl, hsyl⟩ := readR_good hr
    rw [hr] at hrd
    have ha : asmR s = refAll p.syms p.sts [] := by unfold asmR; rw [hr]
    obtain ⟨S, T, w⟩ := p
    simp only at hrd ha hpl hsyl
    refine ca (hrd)  ?_
    refine af  ?_
    repeat intro K hK
    refine wr ?_
    refine awp_cond rfl (fun h => by simp at h) (fun _ => ?_)
    refine af  ?_
    repeat intro K hK
    refine wr ?_
    refine awp_nilOwn 7 22 1 (by decide) rfl ?_
    simp
    obtain ⟨I, hI⟩ : ∃ I : Nat → St → Prop, I = (fun kk ss => ∃ (i : Nat) (out : List Int), i ≤ T.length ∧ kk = T.length - i ∧ (refAll S T [] = refAll S (T.drop i) out ∧ out.length ≤ 1024 * i) ∧ ss = ⟨194, [(8, .int .i64 i), (7, .own 1), (5, .sl 6 false (stsV T)), (4, .sl 2 false (symsV S)), (3, .ptr 0 2 0 0)], 2, [(0, some ⟨45, 2, true, false, [[.int .i64 0, .int .i64 0]]⟩), (1, some ⟨22, 1, false, false, ints .u32 out⟩)], 0⟩) := ⟨_, rfl⟩
    refine awp_loopA I (k0 := T.length) (st0 := (fun (i : Nat) (out : List Int) => (⟨194, [(8, .int .i64 i), (7, .own 1), (5, .sl 6 false (stsV T)), (4, .sl 2 false (symsV S)), (3, .ptr 0 2 0 0)], 2, [(0, some ⟨45, 2, true, false, [[.int .i64 0, .int .i64 0]]⟩), (1, some ⟨22, 1, false, false, ints .u32 out⟩)], 0⟩ : St)) 0 []) (ρ0 := fun x => if x = 1 then 6 else x) ⟨rfl, by simp [leT, ltV, lt1, ren, ren1], by simp [leO, lt1, ren1], by simp, by simp⟩ (by rw [hI]; exact ⟨0, [], by simp, by simp, by simp, rfl⟩) ?_
    intro kk ss hIk _
    rw [hI] at hIk
    obtain ⟨i, out, hi, rfl, hx, rfl⟩ := hIk
    obtain ⟨hx, hol⟩ := hx
    have hTl := stsV_len T
    have hw : IntKind.i64.wrap ((i : Int) + 1) = (i : Int) + 1 := wrap_i64_in (by omega) (by omega)
    refine af1 @hTl ?_
    repeat intro K hK
    refine wr ?_
    by_cases hi' : i < T.length
    · obtain ⟨st, hst⟩ : ∃ st, st = T[i] := ⟨_, rfl⟩
      have hstm : st ∈ T := by rw [hst]; exact List.getElem_mem hi'
      obtain ⟨gS, ga1, ga2⟩ := hg.1 st hstm
      have hget : (stsV T)[i]? = some st.row := by rw [hst]; exact stsV_at T i hi'
      have hdr : T.drop i = st :: T.drop (i + 1) := by rw [List.drop_eq_getElem_cons hi', hst]
      rw [hdr, refAll] at hx
      have hal := argsV_len st.l
      have hl6 := gS.1
      refine awp_cond rfl (fun _ => ?_) (fun h => by simp [hi'] at h)
      iterate 12 (first | (with_reducible first | refine awp_seqK fun K hK => ?_ | refine awp_block ?_) | ((with_reducible first | refine awp_region (by kernel_rfl) ?_ | refine gcall_tt ?_ | refine gcall_ff ?_ | refine gcall_tf ?_ | refine gcall_ft ?_ | refine gcallE_tt ?_ | refine gcallE_ff ?_ | refine gcallE_tf ?_ | refine gcallE_ft ?_ | refine awp_skip ?_ | refine awp_exit ?_); simp [hget, hTl]) | ((repeat ((fail_if_success ((with_reducible first | refine hK _ ?_ | refine hK _ _ _ _ ?_))); clear hK)); (with_reducible first | refine hK _ ?_ | refine hK _ _ _ _ ?_); clear hK) | (with_reducible refine segs_one fun K hK => ?_; simp [hget, hTl]) | (with_reducible refine segs_nil ?_; try simp only [thn, blk]) | (with_reducible refine segs_two fun K hK => ?_; simp only [List.take_succ_cons, List.take_zero]) | (with_reducible refine draw_step fun K hK => ?_; simp [hget, hTl]) | (with_reducible refine draw_end ?_) | (with_reducible refine rechk_nil ?_; simp only [List.drop_succ_cons, List.drop_zero]; simp only [stS, eT, eO, List.cons_append, List.nil_append, cond_true, cond_false, Bool.and_true, Bool.and_false, Bool.true_and, Bool.false_and]) | (with_reducible refine rechk_cons ?_ ?_; (· (simp [hget, hTl] <;> first | omega | grind))) | refine And.intro (by first | omega | assumption | grind) ?_)
      refine join_of (α := Int) (fun v => (⟨194, [(10, .int .i64 v), (9, .ptr 2 6 0 0), (8, .int .i64 i), (7, .own 1), (5, .sl 6 false (stsV T)), (4, .sl 2 false (symsV S)), (3, .ptr 0 2 0 0)], 3, [(0, some ⟨45, 2, true, false, [[.int .i64 0, .int .i64 0]]⟩), (1, some ⟨22, 1, false, false, ints .u32 out⟩), (2, some ⟨123, 6, true, false, [[.str st.what, .int .i64 st.op, .sl 3 false (argsV st.l), .int .i64 st.line, .int .i64 st.at', .int .i64 st.size]]⟩)], 0⟩ : St)) (fun v => valR S st = some v ∧ -4294967296 ≤ v ∧ v ≤ 4294967296) hK (fun v hxhV => ?_) (fun hV => ?_)
      all_goals clear hK
      · obtain ⟨hvr, hv1, hv2⟩ := hxhV
        rw [hvr] at hx
        simp only at hx
        have hu : IntKind.u32.wrap v = v % 4294967296 := IntKind.wrap_u32 v
        have hil := ints_len .u32 out
        have hmx : (ints .u32 out).length + 1 ≤ maxLen := by rw [hil]; simp [maxLen]; omega
        have hm4 : (out.length + 1) * 4 ≤ 140737488355328 := by omega
        refine af  ?_
        repeat intro K hK
        refine wr ?_
        by_cases w1 : st.what = wordW
        · have hc : codR st v = some [v % 4294967296] := by unfold codR; rw [if_pos w1]
          refine awp_cond rfl (fun _ => ?_) (fun h => by simp [w1] at h)
          rw [hc] at hx
          simp only at hx
          have hap := ints_one1 .u32 out (v % 4294967296)
          refine af5 @hu @hmx @hm4 @hap @hil ?_
          repeat intro K hK
          refine wr ?_
          refine again_of (T.length - (i + 1)) ((fun (i : Nat) (out : List Int) => (⟨194, [(8, .int .i64 i), (7, .own 1), (5, .sl 6 false (stsV T)), (4, .sl 2 false (symsV S)), (3, .ptr 0 2 0 0)], 2, [(0, some ⟨45, 2, true, false, [[.int .i64 0, .int .i64 0]]⟩), (1, some ⟨22, 1, false, false, ints .u32 out⟩)], 0⟩ : St)) (i + 1) (out ++ [v % 4294967296])) (fun x => if x = 1 then 4 else x) (by omega) (by rw [hI]; exact ⟨i + 1, (out ++ [v % 4294967296]), by omega, rfl, ⟨hx, by simp; omega⟩, rfl⟩) ⟨rfl, ?_, ?_, ?_, by simp⟩
          · simp [leT, ltV, lt1, ren, ren1, wrap_i64_in (n := (i : Int) + 1) (by omega) (by omega), hw, hap]
          · simp [leO, lt1, ren1, hw, hap]
          · (simp; try omega)
        · refine awp_cond rfl (fun h => by simp [w1] at h) (fun _ => ?_)
          refine af  ?_
          repeat intro K hK
          refine wr ?_
          by_cases w2 : st.what = spaceW
          · obtain ⟨⟨hs0, hs1⟩, _⟩ := gS.2
            obtain ⟨z, hz⟩ : ∃ z : Nat, z = st.size.toNat := ⟨_, rfl⟩
            have hzs : st.size = (z : Int) := by omega
            have hc : codR st v = some (List.replicate z 0) := by unfold codR; rw [if_neg w1, if_pos w2, hz]
            rw [hc] at hx
            simp only at hx
            refine awp_cond rfl (fun _ => ?_) (fun h => by simp [w2] at h)
            refine af  ?_
            repeat intro K hK
            refine wr ?_
            obtain ⟨Ij, hIj⟩ : ∃ I : Nat → St → Prop, I = (fun kk ss => ∃ (j : Nat) , j ≤ z ∧ kk = z - j ∧ (True) ∧ ss = ⟨194, [(14, .int .i64 j), (10, .int .i64 v), (9, .ptr 2 6 0 0), (8, .int .i64 i), (7, .own 1), (5, .sl 6 false (stsV T)), (4, .sl 2 false (symsV S)), (3, .ptr 0 2 0 0)], 3, [(0, some ⟨45, 2, true, false, [[.int .i64 0, .int .i64 0]]⟩), (1, some ⟨22, 1, false, false, ints .u32 (out ++ List.replicate j 0)⟩), (2, some ⟨123, 6, true, false, [[.str st.what, .int .i64 st.op, .sl 3 false (argsV st.l), .int .i64 st.line, .int .i64 st.at', .int .i64 st.size]]⟩)], 0⟩) := ⟨_, rfl⟩
            refine awp_loopA Ij (k0 := z) (st0 := (fun (j : Nat)  => (⟨194, [(14, .int .i64 j), (10, .int .i64 v), (9, .ptr 2 6 0 0), (8, .int .i64 i), (7, .own 1), (5, .sl 6 false (stsV T)), (4, .sl 2 false (symsV S)), (3, .ptr 0 2 0 0)], 3, [(0, some ⟨45, 2, true, false, [[.int .i64 0, .int .i64 0]]⟩), (1, some ⟨22, 1, false, false, ints .u32 (out ++ List.replicate j 0)⟩), (2, some ⟨123, 6, true, false, [[.str st.what, .int .i64 st.op, .sl 3 false (argsV st.l), .int .i64 st.line, .int .i64 st.at', .int .i64 st.size]]⟩)], 0⟩ : St)) 0 ) (ρ0 := id) ⟨rfl, by simp [leT, ltV, lt1, ren, ren1], by simp [leO, lt1, ren1], by simp, by simp⟩ (by rw [hIj]; exact ⟨0, by simp, by simp, trivial, rfl⟩) ?_
            intro kk ss hIk _
            rw [hIj] at hIk
            obtain ⟨j, hj, rfl, hxj, rfl⟩ := hIk
            have hwj : IntKind.i64.wrap ((j : Int) + 1) = (j : Int) + 1 := wrap_i64_in (by omega) (by omega)
            have hil2 := ints_len .u32 (out ++ List.replicate j 0)
            rw [List.length_append, List.length_replicate] at hil2
            have hmx2 : (ints .u32 (out ++ List.replicate j 0)).length + 1 ≤ maxLen := by rw [hil2]; simp [maxLen]; omega
            have hm42 : (out.length + j + 1) * 4 ≤ 140737488355328 := by omega
            have hap2 := ints_one1 .u32 (out ++ List.replicate j 0) 0
            have hrp : out ++ List.replicate j (0 : Int) ++ [0] = out ++ List.replicate (j + 1) 0 := by rw [List.append_assoc, List.replicate_succ']
            rw [hrp] at hap2
            obtain ⟨o2, ho2⟩ : ∃ o2, o2 = out ++ List.replicate j (0 : Int) := ⟨_, rfl⟩
            rw [← ho2] at hil2 hmx2 hap2 ⊢
            refine af1 @hzs ?_
            repeat intro K hK
            refine wr ?_
            by_cases hj' : j < z
            · refine awp_cond rfl (fun _ => ?_) (fun h => by simp [hj'] at h)
              refine af4 @hil2 @hmx2 @hm42 @hap2 ?_
              repeat intro K hK
              refine wr ?_
              refine again_of (z - (j + 1)) ((fun (j : Nat)  => (⟨194, [(14, .int .i64 j), (10, .int .i64 v), (9, .ptr 2 6 0 0), (8, .int .i64 i), (7, .own 1), (5, .sl 6 false (stsV T)), (4, .sl 2 false (symsV S)), (3, .ptr 0 2 0 0)], 3, [(0, some ⟨45, 2, true, false, [[.int .i64 0, .int .i64 0]]⟩), (1, some ⟨22, 1, false, false, ints .u32 (out ++ List.replicate j 0)⟩), (2, some ⟨123, 6, true, false, [[.str st.what, .int .i64 st.op, .sl 3 false (argsV st.l), .int .i64 st.line, .int .i64 st.at', .int .i64 st.size]]⟩)], 0⟩ : St)) (j + 1) ) (fun x => if x = 1 then 4 else x) (by omega) (by rw [hIj]; exact ⟨j + 1, by omega, rfl, trivial, rfl⟩) ⟨rfl, ?_, ?_, ?_, by simp⟩
              · simp [leT, ltV, lt1, ren, ren1, wrap_i64_in (n := (j : Int) + 1) (by omega) (by omega), hwj, hap2, hzs]
              · simp [leO, lt1, ren1, hwj, hap2, hzs]
              · (simp; try omega)
            · have hjz : j = z := by omega
              subst hjz
              rw [← ho2] at hx
              refine awp_cond rfl (fun h => by simp [hj'] at h) (fun _ => ?_)
              refine af  ?_
              repeat intro K hK
              refine wr ?_
              refine again_of (T.length - (i + 1)) ((fun (i : Nat) (out : List Int) => (⟨194, [(8, .int .i64 i), (7, .own 1), (5, .sl 6 false (stsV T)), (4, .sl 2 false (symsV S)), (3, .ptr 0 2 0 0)], 2, [(0, some ⟨45, 2, true, false, [[.int .i64 0, .int .i64 0]]⟩), (1, some ⟨22, 1, false, false, ints .u32 out⟩)], 0⟩ : St)) (i + 1) o2) (id) (by omega) (by rw [hI]; exact ⟨i + 1, o2, by omega, rfl, ⟨hx, by rw [ho2]; simp; omega⟩, rfl⟩) ⟨rfl, ?_, ?_, ?_, by simp⟩
              · simp [leT, ltV, lt1, ren, ren1, wrap_i64_in (n := (i : Int) + 1) (by omega) (by omega), hw]
              · simp [leO, lt1, ren1, hw]
              · (simp; try omega)
          · refine awp_cond rfl (fun h => by simp [w2] at h) (fun _ => ?_)
            refine af  ?_
            repeat intro K hK
            refine wr ?_
            by_cases w3 : st.what = liWd
            · have g0 := argsV_at st.l 0 (by have := gS.2.2.2.1 w3; omega)
              have hd1 : IntKind.i32.wrap (v % 4294967296 / 65536) = v % 4294967296 / 65536 := by rw [IntKind.wrap_i32]; omega
              have hd2 : IntKind.i32.wrap (v % 4294967296 % 65536) = v % 4294967296 % 65536 := by rw [IntKind.wrap_i32]; omega
              have hfd : (v % 4294967296).fdiv 65536 = v % 4294967296 / 65536 := Int.fdiv_eq_ediv_of_nonneg _ (by decide)
              have hc : codR st v = some [encE ⟨24, (st.l.getD 0 arg0).1, 0, 0, v % 4294967296 / 65536⟩, encE ⟨18, (st.l.getD 0 arg0).1, (st.l.getD 0 arg0).1, 0, v % 65536⟩] := by unfold codR; rw [if_neg w1, if_neg w2, if_pos w3]
              generalize st.l.getD 0 arg0 = r at g0 hc
              rw [hc] at hx
              simp only at hx
              have hdf : IntKind.i32.wrap ((v % 4294967296).fdiv 65536) = v % 4294967296 / 65536 := by rw [hfd, hd1]
              have hd2' : IntKind.i32.wrap (v % 4294967296 % 65536) = v % 65536 := by rw [hd2]; omega
              have hdm : IntKind.i32.wrap (IntKind.u32.wrap ((BitVec.ofInt 32 (v % 4294967296) &&& 65535#32).toNat : Int)) = v % 65536 := by
                have := and_mask (v % 4294967296) 16 65536 (by decide) (by decide)
                rw [show BitVec.ofNat 32 (65536 - 1) = 65535#32 from rfl] at this
                rw [this, show ((65536 : Nat) : Int) = 65536 from rfl]; exact hd2'
              have hem : Meets Tryd.prog 13 [.st [.int .i64 18, .int .i64 r.1, .int .i64 r.1, .int .i64 0, .int .i32 (IntKind.i32.wrap (IntKind.u32.wrap ((BitVec.ofInt 32 (v % 4294967296) &&& 65535#32).toNat : Int)))]] (.tup [.int .u32 (encE ⟨18, r.1, r.1, 0, v % 65536⟩), .bool (validD ⟨18, r.1, r.1, 0, v % 65536⟩)]) := by
                rw [hdm]; exact encodeE_ok ⟨18, r.1, r.1, 0, v % 65536⟩ ⟨by simp only; omega, by simp only; omega⟩
              have hm42 : (out.length + 2) * 4 ≤ 140737488355328 := by omega
              have hmx2 : (ints .u32 out).length + 2 ≤ maxLen := by rw [hil]; simp [maxLen]; omega
              refine awp_cond rfl (fun _ => ?_) (fun h => by simp [w3] at h)
              refine af3 @g0 @hu @hal ?_
              repeat intro K hK
              refine wr ?_
              simp only [hdf]
              refine ca (encodeE_ok ⟨24, r.1, 0, 0, v % 4294967296 / 65536⟩ ⟨by simp only; omega, by simp only; omega⟩)  ?_
              refine af  ?_
              repeat intro K hK
              refine wr ?_
              refine awp_planI ([0, 1, 2, 3, 4, 5, 6, 7, 8, 9, 10, 11, 12, 13, 14, 15, 16, 17, 18, 19, 20] : List Nat) ([[], [0], [0, 1], [0, 1, 2], [0, 1, 2, 3], [], [5], [5, 6], [5, 6, 7], [5, 6, 7, 8], [], [10], [10, 11], [10, 11, 12], [0, 1, 2, 3, 4, 5, 6, 7, 8, 9, 10, 11, 12, 13], [0, 1, 2, 3, 4, 5, 6, 7, 8, 9, 10, 11, 12, 13, 14], [0, 1, 2, 3, 4, 5, 6, 7, 8, 9, 10, 11, 12, 13, 14, 15], [0, 1, 2, 3, 4, 5, 6, 7, 8, 9, 10, 11, 12, 13, 14, 15, 16], [0, 1, 2, 3, 4, 5, 6, 7, 8, 9, 10, 11, 12, 13, 14, 15, 16], [0, 1, 2, 3, 4, 5, 6, 7, 8, 9, 10, 11, 12, 13, 14, 15, 16, 17], [0, 1, 2, 3, 4, 5, 6, 7, 8, 9, 10, 11, 12, 13, 14, 15, 16, 17, 18, 19]] : List (List Nat)) ([(14, ([[], [0], [0, 1], [0, 1, 2], [0, 1, 2, 3], [], [5], [5, 6], [5, 6, 7], [5, 6, 7, 8], [], [10], [10, 11], [10, 11, 12]], [])), (1, ([], [])), (1, ([], [])), (1, ([], [])), (3, ([[], [], [0]], [])), (1, ([], []))] : List (Nat × List (List Nat) × List (Nat × Nat))) (by kernel_rfl) (by kernel_rfl) (by kernel_rfl) ?_
              refine af3 @g0 @hu @hal ?_
              repeat intro K hK
              refine wr ?_
              refine ca (hem)  ?_
              have hap := ints_two .u32 out (encE ⟨24, r.1, 0, 0, v % 4294967296 / 65536⟩) (encE ⟨18, r.1, r.1, 0, v % 65536⟩)
              refine af5 @hu @hmx2 @hm42 @hap @hil ?_
              repeat intro K hK
              refine wr ?_
              refine again_of (T.length - (i + 1)) ((fun (i : Nat) (out : List Int) => (⟨194, [(8, .int .i64 i), (7, .own 1), (5, .sl 6 false (stsV T)), (4, .sl 2 false (symsV S)), (3, .ptr 0 2 0 0)], 2, [(0, some ⟨45, 2, true, false, [[.int .i64 0, .int .i64 0]]⟩), (1, some ⟨22, 1, false, false, ints .u32 out⟩)], 0⟩ : St)) (i + 1) (out ++ [encE ⟨24, r.1, 0, 0, v % 4294967296 / 65536⟩, encE ⟨18, r.1, r.1, 0, v % 65536⟩])) (fun x => if x = 1 then 8 else x) (by omega) (by rw [hI]; exact ⟨i + 1, (out ++ [encE ⟨24, r.1, 0, 0, v % 4294967296 / 65536⟩, encE ⟨18, r.1, r.1, 0, v % 65536⟩]), by omega, rfl, ⟨hx, by simp; omega⟩, rfl⟩) ⟨rfl, ?_, ?_, ?_, by simp⟩
              · simp [leT, ltV, lt1, ren, ren1, wrap_i64_in (n := (i : Int) + 1) (by omega) (by omega), hw, hap]
              · simp [leO, lt1, ren1, hw, hap]
              · (simp; try omega)
            · refine awp_cond rfl (fun h => by simp [w3] at h) (fun _ => ?_)
              refine af  ?_
              repeat intro K hK
              refine wr ?_
              by_cases w4 : st.what = mvW
              · have g0 := argsV_at st.l 0 (by have := gS.2.2.2.2.1 w4; omega)
                have g1 := argsV_at st.l 1 (by have := gS.2.2.2.2.1 w4; omega)
                have hc : codR st v = some [encE ⟨16, (st.l.getD 0 arg0).1, (st.l.getD 1 arg0).1, 0, 0⟩] := by unfold codR; rw [if_neg w1, if_neg w2, if_neg w3, if_pos w4]
                generalize st.l.getD 0 arg0 = r at g0 hc
                generalize st.l.getD 1 arg0 = q at g1 hc
                refine awp_cond rfl (fun _ => ?_) (fun h => by simp [w4] at h)
                refine af  ?_
                repeat intro K hK
                refine wr ?_
                refine awp_planI ([0, 1, 2, 3, 4, 5, 6, 7, 8, 9, 10, 11, 12, 13, 14, 15, 16] : List Nat) ([[], [0], [0, 1], [0, 1, 2], [0, 1, 2, 3], [], [5], [5, 6], [5, 6, 7], [5, 6, 7, 8], [0, 1, 2, 3, 4, 5, 6, 7, 8, 9], [0, 1, 2, 3, 4, 5, 6, 7, 8, 9, 10], [0, 1, 2, 3, 4, 5, 6, 7, 8, 9, 10, 11], [0, 1, 2, 3, 4, 5, 6, 7, 8, 9, 10, 11, 12], [0, 1, 2, 3, 4, 5, 6, 7, 8, 9, 10, 11, 12], [0, 1, 2, 3, 4, 5, 6, 7, 8, 9, 10, 11, 12, 13], [0, 1, 2, 3, 4, 5, 6, 7, 8, 9, 10, 11, 12, 13, 14, 15]] : List (List Nat)) ([(10, ([[], [0], [0, 1], [0, 1, 2], [0, 1, 2, 3], [], [5], [5, 6], [5, 6, 7], [5, 6, 7, 8]], [])), (1, ([], [])), (1, ([], [])), (1, ([], [])), (3, ([[], [], [0]], [])), (1, ([], []))] : List (Nat × List (List Nat) × List (Nat × Nat))) (by kernel_rfl) (by kernel_rfl) (by kernel_rfl) ?_
                refine af2 @g0 @g1 ?_
                repeat intro K hK
                refine wr ?_
                refine af2 @g0 @g1 ?_
                repeat intro K hK
                refine wr ?_
                refine ca (encodeE_ok ⟨16, r.1, q.1, 0, 0⟩ ⟨by simp only; omega, by simp only; omega⟩)  ?_
                rw [hc] at hx
                simp only at hx
                have hap := ints_one1 .u32 out (encE ⟨16, r.1, q.1, 0, 0⟩)
                refine af5 @hu @hmx @hm4 @hap @hil ?_
                repeat intro K hK
                refine wr ?_
                refine again_of (T.length - (i + 1)) ((fun (i : Nat) (out : List Int) => (⟨194, [(8, .int .i64 i), (7, .own 1), (5, .sl 6 false (stsV T)), (4, .sl 2 false (symsV S)), (3, .ptr 0 2 0 0)], 2, [(0, some ⟨45, 2, true, false, [[.int .i64 0, .int .i64 0]]⟩), (1, some ⟨22, 1, false, false, ints .u32 out⟩)], 0⟩ : St)) (i + 1) (out ++ [encE ⟨16, r.1, q.1, 0, 0⟩])) (fun x => if x = 1 then 6 else x) (by omega) (by rw [hI]; exact ⟨i + 1, (out ++ [encE ⟨16, r.1, q.1, 0, 0⟩]), by omega, rfl, ⟨hx, by simp; omega⟩, rfl⟩) ⟨rfl, ?_, ?_, ?_, by simp⟩
                · simp [leT, ltV, lt1, ren, ren1, wrap_i64_in (n := (i : Int) + 1) (by omega) (by omega), hw, hap]
                · simp [leO, lt1, ren1, hw, hap]
                · (simp; try omega)
              · refine awp_cond rfl (fun h => by simp [w4] at h) (fun _ => ?_)
                refine af  ?_
                repeat intro K hK
                refine wr ?_
                by_cases w5 : st.what = nopW
                · refine awp_cond rfl (fun _ => ?_) (fun h => by simp [w5] at h)
                  refine af  ?_
                  repeat intro K hK
                  refine wr ?_
                  refine ca (encodeE_ok ⟨16, 0, 0, 0, 0⟩ ⟨by decide, by decide⟩)  ?_
                  have hc : codR st v = some [encE ⟨16, 0, 0, 0, 0⟩] := by unfold codR; rw [if_neg w1, if_neg w2, if_neg w3, if_neg w4, if_pos w5]
                  rw [hc] at hx
                  simp only at hx
                  have hap := ints_one1 .u32 out (encE ⟨16, 0, 0, 0, 0⟩)
                  refine af5 @hu @hmx @hm4 @hap @hil ?_
                  repeat intro K hK
                  refine wr ?_
                  refine again_of (T.length - (i + 1)) ((fun (i : Nat) (out : List Int) => (⟨194, [(8, .int .i64 i), (7, .own 1), (5, .sl 6 false (stsV T)), (4, .sl 2 false (symsV S)), (3, .ptr 0 2 0 0)], 2, [(0, some ⟨45, 2, true, false, [[.int .i64 0, .int .i64 0]]⟩), (1, some ⟨22, 1, false, false, ints .u32 out⟩)], 0⟩ : St)) (i + 1) (out ++ [encE ⟨16, 0, 0, 0, 0⟩])) (fun x => if x = 1 then 6 else x) (by omega) (by rw [hI]; exact ⟨i + 1, (out ++ [encE ⟨16, 0, 0, 0, 0⟩]), by omega, rfl, ⟨hx, by simp; omega⟩, rfl⟩) ⟨rfl, ?_, ?_, ?_, by simp⟩
                  · simp [leT, ltV, lt1, ren, ren1, wrap_i64_in (n := (i : Int) + 1) (by omega) (by omega), hw, hap]
                  · simp [leO, lt1, ren1, hw, hap]
                  · (simp; try omega)
                · have hio := inst_ok st v (gS.2.2.2.2.2 w1 w2 w3 w4 w5)
                  have hc : codR st v = (instR st.op st.l v).map fun w => [w] := by unfold codR; rw [if_neg w1, if_neg w2, if_neg w3, if_neg w4, if_neg w5]
                  unfold instV at hio
                  refine awp_cond rfl (fun h => by simp [w5] at h) (fun _ => ?_)
                  refine af  ?_
                  repeat intro K hK
                  refine wr ?_
                  refine ca (hio)  ?_
                  refine af  ?_
                  repeat intro K hK
                  refine wr ?_
                  cases hir : instR st.op st.l v with
                  | none =>
                    rw [hir] at hc
                    rw [hc] at hx
                    have hv : asmRV s = .tup [.sl 1 true [], errV (304, st.line)] := by unfold asmRV; rw [ha, hx]; rfl
                    refine awp_cond rfl (fun _ => ?_) (fun h => by simp [hir] at h)
                    refine af  ?_
                    repeat intro K hK
                    refine wr ?_
                    refine awp_planI ([0, 1, 2, 3, 4] : List Nat) ([[], [0], [0, 1], [], [0, 1, 2, 3]] : List (List Nat)) ([(4, ([[], [0], [0, 1], []], [])), (1, ([], []))] : List (Nat × List (List Nat) × List (Nat × Nat))) (by kernel_rfl) (by kernel_rfl) (by kernel_rfl) ?_
                    refine af  ?_
                    repeat intro K hK
                    refine wr ?_
                    refine af  ?_
                    repeat intro K hK
                    refine wr ?_
                    refine awp_fzA ?_
                    refine awp_ret ?_
                    simp [hv]
                  | some wd =>
                    rw [hir] at hc
                    simp only [Option.map_some] at hc
                    refine awp_cond rfl (fun h => by simp [hir] at h) (fun _ => ?_)
                    refine af1 @hir ?_
                    repeat intro K hK
                    refine wr ?_
                    rw [hc] at hx
                    simp only at hx
                    have hap := ints_one1 .u32 out (wd)
                    refine af5 @hu @hmx @hm4 @hap @hil ?_
                    repeat intro K hK
                    refine wr ?_
                    refine again_of (T.length - (i + 1)) ((fun (i : Nat) (out : List Int) => (⟨194, [(8, .int .i64 i), (7, .own 1), (5, .sl 6 false (stsV T)), (4, .sl 2 false (symsV S)), (3, .ptr 0 2 0 0)], 2, [(0, some ⟨45, 2, true, false, [[.int .i64 0, .int .i64 0]]⟩), (1, some ⟨22, 1, false, false, ints .u32 out⟩)], 0⟩ : St)) (i + 1) (out ++ [wd])) (fun x => if x = 1 then 6 else x) (by omega) (by rw [hI]; exact ⟨i + 1, (out ++ [wd]), by omega, rfl, ⟨hx, by simp; omega⟩, rfl⟩) ⟨rfl, ?_, ?_, ?_, by simp⟩
                    · simp [leT, ltV, lt1, ren, ren1, wrap_i64_in (n := (i : Int) + 1) (by omega) (by omega), hw, hap]
                    · simp [leO, lt1, ren1, hw, hap]
                    · (simp; try omega)
      by_cases hl0 : st.l.length = 0
      · have hvr : valR S st = some 0 := by
          have : st.l = [] := List.eq_nil_of_length_eq_zero hl0
          simp [valR, lastR, this]
        have hl0' : ¬ (0 : Int) < (st.l.length : Int) := by omega
        refine af1 @hal ?_
        repeat intro K hK
        refine wr ?_
        refine awp_cond rfl (fun h => by simp [hl0] at h) (fun _ => ?_)
        refine af  ?_
        repeat intro K hK
        refine wr ?_
        refine hV 0 _ (id) (⟨hvr, by omega, by omega⟩) ⟨rfl, ?_, ?_, ?_, by simp⟩
        · simp [leT, ltV, lt1, ren, ren1]
        · simp [leO, lt1, ren1]
        · (simp; try omega)
      · have hl0' : (0 : Int) < (st.l.length : Int) := by omega
        have hl1 : IntKind.i64.wrap ((st.l.length : Int) - 1) = (st.l.length : Int) - 1 := wrap_i64_in (by omega) (by omega)
        have htn : ((st.l.length : Int) - 1).toNat = st.l.length - 1 := by omega
        have glast := argsV_at st.l (st.l.length - 1) (by omega)
        have hlr : valR S st = if (st.l.getD (st.l.length - 1) arg0).2.2 = [] then some (st.l.getD (st.l.length - 1) arg0).2.1 else (findL (st.l.getD (st.l.length - 1) arg0).2.2 S).map fun a => if 0 < st.op then a.tdiv 4 - st.at' else a := rfl
        have hra := gS.2.2.1 _ (List.getElem_mem (show st.l.length - 1 < st.l.length by omega))
        have hge : st.l[st.l.length - 1] = st.l.getD (st.l.length - 1) arg0 := by rw [List.getD_eq_getElem?_getD, List.getElem?_eq_getElem (by omega)]; rfl
        rw [hge] at hra
        generalize st.l.getD (st.l.length - 1) arg0 = r at glast hlr hra
        obtain ⟨r1, r2, r3⟩ := r
        obtain ⟨_, hb1, hb2⟩ := hra
        simp only at glast hlr hb1 hb2
        refine af1 @hal ?_
        repeat intro K hK
        refine wr ?_
        refine awp_cond rfl (fun _ => ?_) (fun h => absurd (by simpa using h) hl0)
        refine af4 @hal @hl1 @htn @glast ?_
        repeat intro K hK
        refine wr ?_
        by_cases h3 : r3 = []
        · rw [if_pos h3] at hlr
          refine awp_cond rfl (fun h => by simp [h3] at h) (fun _ => ?_)
          refine af  ?_
          repeat intro K hK
          refine wr ?_
          refine hV r2 _ (id) (⟨hlr, by omega, by omega⟩) ⟨rfl, ?_, ?_, ?_, by simp⟩
          · simp [leT, ltV, lt1, ren, ren1]
          · simp [leO, lt1, ren1]
          · (simp; try omega)
        · rw [if_neg h3] at hlr
          refine awp_cond rfl (fun _ => ?_) (fun h => by simp [h3] at h)
          refine af  ?_
          repeat intro K hK
          refine wr ?_
          refine ca (address_ok S r3 (by omega))  ?_
          refine af  ?_
          repeat intro K hK
          refine wr ?_
          cases hfd : findL r3 S with
          | none =>
            rw [hfd] at hlr
            simp only [Option.map_none] at hlr
            rw [hlr] at hx
            have hv : asmRV s = .tup [.sl 1 true [], errV (302, st.line)] := by unfold asmRV; rw [ha, hx]
            refine awp_cond rfl (fun _ => ?_) (fun h => by simp [hfd] at h)
            refine af  ?_
            repeat intro K hK
            refine wr ?_
            refine awp_planI ([0, 1, 2, 3, 4] : List Nat) ([[], [0], [0, 1], [], [0, 1, 2, 3]] : List (List Nat)) ([(4, ([[], [0], [0, 1], []], [])), (1, ([], []))] : List (Nat × List (List Nat) × List (Nat × Nat))) (by kernel_rfl) (by kernel_rfl) (by kernel_rfl) ?_
            refine af  ?_
            repeat intro K hK
            refine wr ?_
            refine af  ?_
            repeat intro K hK
            refine wr ?_
            refine awp_fzA ?_
            refine awp_ret ?_
            simp [hv]
          | some ad =>
            rw [hfd] at hlr
            simp only [Option.map_some] at hlr
            obtain ⟨zz, hz1, hz2⟩ := findL_mem hfd
            obtain ⟨hz3, hz4⟩ := hg.2.1 zz hz1
            rw [hz2] at hz3 hz4
            have hwa : IntKind.i64.wrap ad = ad := wrap_i64_in (by omega) (by omega)
            have ht4 : ad.tdiv 4 = ad / 4 := Int.tdiv_eq_ediv_of_nonneg hz3
            have hwd : IntKind.i64.wrap (ad / 4) = ad / 4 := wrap_i64_in (by omega) (by omega)
            have hwm : IntKind.i64.wrap (ad / 4 - st.at') = ad / 4 - st.at' := wrap_i64_in (by omega) (by omega)
            refine awp_cond rfl (fun h => by simp [hfd] at h) (fun _ => ?_)
            refine af2 @hfd @hwa ?_
            repeat intro K hK
            refine wr ?_
            by_cases hop : 0 < st.op
            · rw [if_pos hop, ht4] at hlr
              refine awp_cond rfl (fun _ => ?_) (fun h => by simp [hop] at h)
              refine af5 @hwa @hwd @hwm @ht4 @hfd ?_
              repeat intro K hK
              refine wr ?_
              refine hV (ad / 4 - st.at') _ (id) (⟨hlr, by omega, by omega⟩) ⟨rfl, ?_, ?_, ?_, by simp⟩
              · simp [leT, ltV, lt1, ren, ren1, hwd, hwm, ht4]
              · simp [leO, lt1, ren1, hwd, hwm, ht4]
              · (simp; try omega)
            · rw [if_neg hop] at hlr
              refine awp_cond rfl (fun h => by simp [hop] at h) (fun _ => ?_)
              refine af  ?_
              repeat intro K hK
              refine wr ?_
              refine hV ad _ (id) (⟨hlr, by omega, by omega⟩) ⟨rfl, ?_, ?_, ?_, by simp⟩
              · simp [leT, ltV, lt1, ren, ren1, hfd, hwa]
              · simp [leO, lt1, ren1, hfd, hwa]
              · (simp; try omega)
    · have : i = T.length := by omega
      subst this
      rw [List.drop_length, refAll] at hx
      have hv : asmRV s = .tup [.sl 1 false (ints .u32 out), errV (0, 0)] := by unfold asmRV; rw [ha, hx]
      refine awp_cond rfl (fun h => by simp at h) (fun _ => ?_)
      refine af  ?_
      repeat intro K hK
      refine wr ?_
      refine awp_fzA ?_
      refine awp_ret ?_
      simp [hv]
end Go.Proofs.YtjlbpkokdlggiaaDoor
