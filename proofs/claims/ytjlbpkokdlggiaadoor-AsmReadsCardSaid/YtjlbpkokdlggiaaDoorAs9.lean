/- Package asm: parse. (Numbers of seat r2.D.) -/
import Derived.Test.YtjlbpkokdlggiaaDoorAs8
namespace Go.Proofs.YtjlbpkokdlggiaaDoor
open Go.Ab Go.RowKit
set_option linter.unusedSimpArgs false
set_option maxRecDepth 100000
def addAll : List Str → Int → ProgD → Except (Int × Int) ProgD
  | [], _, p => .ok p
  | t :: ts, n, p => if (addD p n t).1 = 0 then addAll ts (n + 1) (addD p n t).2 else .error ((addD p n t).1, n)
abbrev p0 : ProgD := ⟨[], [], 0⟩
def parseD (s : Str) : Except (Int × Int) ProgD := if 8192 < s.length then .error (300, 0) else addAll (splitD s) 1 ⟨[], [], 0⟩
def progV (p : ProgD) : V := .st [.sl 13 false (linesV p.lines), .sl 2 false (symsV p.syms), .mp 2 (symsV p.syms), .int .i64 p.words]
def parseV (s : Str) : V := match parseD s with
  | .error (e, n) => .tup [.st [.poi, .poi, .poi, .poi], .st [.int .i64 e, .int .i64 n]]
  | .ok p => .tup [progV p, .st [.int .i64 0, .int .i64 0]]
theorem fin_facts {lb : Str} {at' : Int} {q r : ProgD} (h : finD lb at' q = (0, r)) : r.words = q.words ∧ r.words ≤ 1024 ∧ r.lines = q.lines ∧ r.syms.length ≤ q.syms.length + 1 := by
  unfold finD at h
  split at h
  · simp at h
  · split at h
    · simp at h
    · rename_i hw
      simp only [Prod.mk.injEq, true_and] at h
      subst h
      split
      · exact ⟨rfl, by omega, rfl, by omega⟩
      · exact ⟨rfl, by simp only; omega, rfl, by simp⟩
theorem add_facts {p q : ProgD} {n : Int} {t : Str} (h : addD p n t = (0, q)) (h0 : 0 ≤ p.words) : 0 ≤ q.words ∧ q.words ≤ 1024 ∧ q.lines.length ≤ p.lines.length + 1 ∧ q.syms.length ≤ p.syms.length + 1 := by
  unfold addD at h
  split at h
  · simp at h
  · by_cases h1 : (clD t).2.1 = []
    · rw [if_pos h1] at h
      obtain ⟨e1, e2, e3, e4⟩ := fin_facts h
      exact ⟨by omega, e2, by rw [e3]; omega, e4⟩
    · rw [if_neg h1] at h
      rcases ps_cases (clD t).2.1 with ⟨e, _⟩ | ⟨l, e, _⟩ | ⟨l, e, _, lw0, lw1, _⟩
      · rw [e] at h; simp at h
      · rw [e] at h; simp at h
      · rw [e] at h
        obtain ⟨e1, e2, e3, e4⟩ := fin_facts h
        exact ⟨by rw [e1]; simp only; omega, e2, by rw [e3]; simp, e4⟩
theorem split_len (s : Str) : (splitD s).length ≤ s.length + 1 := by
  have := lines_len s
  simpa [splitD] using this
theorem split_mem {s t : Str} (h : t ∈ splitD s) : t.length ≤ s.length ∧ ∀ c ∈ t, c ∈ s := by
  simp only [splitD, List.mem_map] at h
  obtain ⟨l, hl, rfl⟩ := h
  obtain ⟨h1, h2⟩ := lines_mem s l hl
  have h3 := len_take l fun b => !(b == 59)
  exact ⟨by unfold befD; omega, fun c hc => h2 c ((List.takeWhile_prefix _).subset hc)⟩
set_option maxHeartbeats 16000000 in
theorem parse_ok (s : Str) (ha : okText s) (hl : s.length < 4294967281) : Meets Tryd.prog 45 [.str s] (parseV s) := by
  refine Meets.of Tryd.func45 rfl (by kernel_rfl) rfl ?_
  simp only [Tryd.ntmps45, St.start, argT]
  refine au  ?_
  repeat intro K hK
  refine wr ?_
  refine awp_cond rfl (fun h => ?_) (fun h => ?_)
  · simp at h
    have hr : parseD s = .error (300, 0) := by unfold parseD; rw [if_pos (by omega)]
    have hv : parseV s =   .tup [.st [.poi, .poi, .poi, .poi], .st [.int .i64 300, .int .i64 0]] := by unfold parseV; rw [hr]
    refine au  ?_
    repeat intro K hK
    refine wr ?_
    refine awp_poiB 0 (by simp [lookO]; rfl) rfl ?_
    simp
    refine awp_fzA ?_
    refine awp_ret ?_
    simp [hv]
  · simp at h
    have hr : parseD s = addAll (splitD s) 1 ⟨[], [], 0⟩ := by unfold parseD; rw [if_neg (by omega)]
    have hL := split_len s
    have hM := @split_mem s
    refine au  ?_
    repeat intro K hK
    refine wr ?_
    refine ca (statements_ok)  ?_
    refine au  ?_
    repeat intro K hK
    refine wr ?_
    refine ca (split_ok s ha hl)  ?_
    refine au1 @sstr_len ?_
    repeat intro K hK
    refine wr ?_
    generalize splitD s = L at hr hL hM ⊢
    refine awp_fz [4] ?_
    simp
    refine awp_nilCell 3 0 116 13 (by decide) (by simp [lookO]; rfl) rfl rfl rfl ?_
    refine awp_nilCell 3 1 53 2 (by decide) (by simp [lookO]; rfl) rfl rfl rfl ?_
    simp [sstr_len]
    obtain ⟨I, hI⟩ : ∃ I : Nat → St → Prop, I = (fun kk ss => ∃ (i : Nat) (p : ProgD), i ≤ L.length ∧ kk = L.length - i ∧ (addAll L 1 ⟨[], [], 0⟩ = addAll (L.drop i) ((i : Int) + 1) p ∧ 0 ≤ p.words ∧ p.words ≤ 1024 ∧ p.lines.length ≤ i ∧ p.syms.length ≤ i) ∧ ss = ⟨40, [(20, .int .i64 i), (19, .int .i64 L.length), (18, .own 5), (5, .omap 4), (4, .ptr 3 4 0 0), (2, .ptr 0 4 0 0), (3, .ptr 1 2 0 0)], 8, pOb L p, 0⟩) := ⟨_, rfl⟩
    refine awp_loopA I (k0 := L.length) (st0 := (fun (i : Nat) (p : ProgD) => (⟨40, [(20, .int .i64 i), (19, .int .i64 L.length), (18, .own 5), (5, .omap 4), (4, .ptr 3 4 0 0), (2, .ptr 0 4 0 0), (3, .ptr 1 2 0 0)], 8, pOb L p, 0⟩ : St)) 0 p0) (ρ0 := id) ⟨rfl, by simp [leT, ltV, lt1, ren, ren1], by simp [leO, lt1, ren1], by simp, by simp⟩ (by rw [hI]; exact ⟨0, p0, by simp, by simp, by simp, rfl⟩) ?_
    intro kk ss hIk _
    rw [hI] at hIk
    obtain ⟨i, p, hi, rfl, hx, rfl⟩ := hIk
    obtain ⟨hx1, hx2, hx3, hx4, hx5⟩ := hx
    have hsl := sstr_len L
    have hw : IntKind.i64.wrap ((i : Int) + 1) = (i : Int) + 1 := wrap_i64_in (by omega) (by omega)
    have hw' : IntKind.i64.wrap ((i : Int) + 1) = ((i + 1 : Nat) : Int) := by rw [wrap_i64_in (by omega) (by omega)]; omega
    refine au  ?_
    repeat intro K hK
    refine wr ?_
    by_cases hi : i < L.length
    · obtain ⟨t, ht⟩ : ∃ t, t = L[i] := ⟨_, rfl⟩
      have htm : t ∈ L := by rw [ht]; exact List.getElem_mem hi
      obtain ⟨t1, t2⟩ := hM htm
      have hgs : (strs L)[i]? = some [.str t] := by rw [ht]; exact strs_at L i hi
      have hdr : L.drop i = t :: L.drop (i + 1) := by rw [List.drop_eq_getElem_cons hi, ht]
      rw [hdr] at hx1
      simp only [addAll] at hx1
      refine awp_cond rfl (fun _ => ?_) (fun h => by simp [hi] at h)
      refine au2 @hgs @hsl ?_
      repeat intro K hK
      refine wr ?_
      have hadd := add_ok L p ((i : Int) + 1) t trivial (by omega) hx2 hx3 (by omega) (by omega)
      rw [← hw] at hadd
      refine .inr ((hadd).mono fun r nx' ob' hp => ?_)
      rw [hw] at hp
      cases hqq : addD p ((i : Int) + 1) t with
      | mk e q =>
      rw [hqq] at hp hx1
      simp only at hx1
      obtain ⟨rfl, a, b, ha6, hb6, hab, l0, l1, l2, l3, l4, l5, la, lb⟩ := hp
      simp only at l0 l1 l2 l3 l4 l5 la lb
      refine au  ?_
      repeat intro K hK
      refine wr ?_
      by_cases he : e = 0
      · subst he
        obtain ⟨f1, f2, f3, f4⟩ := add_facts hqq hx2
        rw [if_pos rfl] at hx1
        refine awp_cond rfl (fun h => by simp at h) (fun _ => ?_)
        refine au  ?_
        repeat intro K hK
        refine wr ?_
        refine again_of (L.length - (i + 1)) ((fun (i : Nat) (p : ProgD) => (⟨40, [(20, .int .i64 i), (19, .int .i64 L.length), (18, .own 5), (5, .omap 4), (4, .ptr 3 4 0 0), (2, .ptr 0 4 0 0), (3, .ptr 1 2 0 0)], 8, pOb L p, 0⟩ : St)) (i + 1) q) (fun x => if x = 6 then a else if x = 7 then b else x) (by omega) (by rw [hI]; exact ⟨i + 1, q, by omega, rfl, ⟨by rw [hx1]; rfl, f1, f2, by omega, by omega⟩, rfl⟩) ⟨rfl, ?_, ?_, ?_, by simp⟩
        · simp [leT, ltV, lt1, ren, ren1, wrap_i64_in (n := (i : Int) + 1) (by omega) (by omega), hw', l0, l1, l2, l3, l4, l5, la, lb]
        · simp [leO, lt1, ren1, hw', l0, l1, l2, l3, l4, l5, la, lb]
        · (simp; try omega)
      · rw [if_neg he] at hx1
        have hv : parseV s = .tup [.st [.poi, .poi, .poi, .poi], .st [.int .i64 e, .int .i64 ((i : Int) + 1)]] := by unfold parseV; rw [hr, hx1]
        refine awp_cond rfl (fun _ => ?_) (fun h => by simp [he] at h)
        refine au8 @l0 @l1 @l2 @l3 @l4 @l5 @la @lb ?_
        repeat intro K hK
        refine wr ?_
        refine awp_poiB 0 (by simp [lookO]; rfl) rfl ?_
        simp
        refine awp_fzA ?_
        refine awp_ret ?_
        simp [hv, hw]
    · have hil : i = L.length := by omega
      subst hil
      rw [List.drop_length] at hx1
      simp only [addAll] at hx1
      have hv : parseV s = .tup [progV p, .st [.int .i64 0, .int .i64 0]] := by unfold parseV; rw [hr, hx1]
      refine awp_cond rfl (fun h => by simp at h) (fun _ => ?_)
      refine au  ?_
      repeat intro K hK
      refine wr ?_
      refine awp_fzA ?_
      refine awp_ret ?_
      simp [hv, progV]
end Go.Proofs.YtjlbpkokdlggiaaDoor
