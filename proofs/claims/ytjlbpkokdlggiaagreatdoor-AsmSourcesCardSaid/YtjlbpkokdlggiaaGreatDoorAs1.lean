/- Package asm: what the library's functions give (by the shelf); skip, cutWord. (Numbers of seat r2.D.) -/
import Derived.Test.YtjlbpkokdlggiaaGreatDoorIsa5
import Derived.Lib.TrimByte
import Derived.Lib.IndexAny
namespace Go.Proofs.YtjlbpkokdlggiaaGreatDoor
open Go.Ab Go.RowKit
set_option linter.unusedSimpArgs false
set_option maxRecDepth 100000
abbrev Str := List UInt8
theorem vals2 {a b : Value} {vals : Array Value} (hs : vals.size = 2) (h0 : vals.getD 0 undef = a) (h1 : vals.getD 1 undef = b) : vals = #[a, b] := by
  apply Array.ext
  · simpa using hs
  · intro i hi hi'
    have : i = 0 ∨ i = 1 := by simp at hi'; omega
    rcases this with rfl | rfl
    · simpa [Array.getD, hi] using h0
    · simpa [Array.getD, hi] using h1
theorem bytes_list (s : Str) : (⟨s.toArray⟩ : ByteArray).data.toList = s := by simp
theorem one_arr (c : UInt8) : (⟨[c].toArray⟩ : ByteArray) = ⟨#[c]⟩ := rfl
theorem Meets.str2 {f : FuncId} {s t : Str} {r : V} {val : Value} (hc : callable Tryz.prog f = true) (hno : ∀ n, obsL n r.fcells = []) (hr : ∀ (M : Mp) (w : World) (X : Nat → Prop) (n : Nat), R M w X n (opn n r) val)
    (h : ∀ w : World, GIn w (fun b => b < w.heap.size) → Calls Tryz.prog f #[.string ⟨s.toArray⟩, .string ⟨t.toArray⟩] w fun e w' => e = .returned val ∧ Below w.heap.size w w') : Meets Tryz.prog f [.str s, .str t] r := by
  refine ⟨hc, fun w Xa vals M hXa hs hrr => ?_⟩
  obtain rfl := vals2 hs (R_str (hrr 0 _ rfl)) (R_str (hrr 1 _ rfl))
  refine (h w (hXa.2.1.to fun b hb => hXa.1 b hb)).mono ?_
  rintro e w' ⟨rfl, hb⟩
  refine ⟨_, rfl, hb, fun M n hM => ⟨?_, fun id o ho => ?_, fun id id' o o' g ho => ?_⟩⟩
  · exact (hr M w' (Xf w.heap.size Xa w' M (obsL n r.fcells)) n).mono (Nat.le_add_right _ _) (fun _ _ => rfl) (fun _ h => h) (fun _ _ => rfl)
  · rw [hno] at ho; simp [lookO] at ho
  · rw [hno] at ho; simp [lookO] at ho
def skipD (s : Str) : Str := s.dropWhile (· == 32)
theorem trim_ok (s : Str) : Meets Tryz.prog 111 [.str s, .str [32]] (.str (skipD s)) := by
  refine Meets.str2 (val := .string ⟨(skipD s).toArray⟩) (by kernel_rfl) (fun n => rfl) (fun M w X n => .str _ _) fun w _ => ?_
  refine (Any.strings_TrimLeft_one trimLays ⟨s.toArray⟩ 32 (by decide) w).mono ?_
  rintro e w' ⟨rfl, rfl⟩
  rw [bytes_list]
  exact ⟨rfl, Below.refl _ _⟩
theorem skip_ok (s : Str) : Meets Tryz.prog 96 [.str s] (.str (skipD s)) := by
  refine Meets.of Tryz.func96 rfl (by kernel_rfl) rfl ?_
  simp only [Tryz.ntmps96, St.start, argT]
  refine au  ?_
  repeat intro K hK
  refine wr ?_
  refine ca (trim_ok s)  ?_
  refine au  ?_
  repeat intro K hK
  refine wr ?_
  refine awp_ret ?_
  simp
theorem cutp_ok (s p : Str) : Meets Tryz.prog 98 [.str s, .str p] (.tup [.str (Lib.trimPrefix s p), .bool (Lib.hasPrefix s p)]) := by
  refine Meets.str2 (val := .tuple #[.string ⟨(Lib.trimPrefix s p).toArray⟩, .bool (Lib.hasPrefix s p)]) (by kernel_rfl) (fun n => rfl) (fun M w X n => ?_) fun w _ => ?_
  · refine .tup _ _ _ rfl fun j u hu => ?_
    match j, hu with
    | 0, hu => simp at hu; subst hu; exact .str _ _
    | 1, hu => simp at hu; subst hu; exact .bool _ _
  · refine (Any.strings_CutPrefix cutpLays ⟨s.toArray⟩ ⟨p.toArray⟩ w).mono ?_
    rintro e w' ⟨rfl, rfl⟩
    rw [bytes_list, bytes_list]
    exact ⟨rfl, Below.refl _ _⟩
def isAscii (s : Str) : Prop := ∀ b ∈ s, b.toNat < 128
def seps : Str := [32, 44, 58, 40, 41]
def sepB (c : UInt8) : Bool := seps.contains c
theorem any_ok (s : Str) (ha : isAscii s) (hl : s.length < 4294967281) : Meets Tryz.prog 112 [.str s, .str seps] (.int .i64 (Lib.indexAny s seps)) := by
  refine Meets.str2 (val := .int .i64 (Lib.indexAny s seps)) (by kernel_rfl) (fun n => rfl) (fun M w X n => .int _ _ _) fun w _ => ?_
  refine (Any.strings_IndexAny_laid anyLays (by kernel_rfl) ⟨s.toArray⟩ ⟨seps.toArray⟩ w (by simpa [ByteArray.size] using hl) (by decide) (fun j b hb => ha b (by rw [bytes_list] at hb; exact List.mem_of_getElem? hb)) (fun j b hb => ?_)).mono ?_
  · rw [bytes_list] at hb
    have : ∀ b ∈ seps, b.toNat < 128 := by decide
    exact this b (List.mem_of_getElem? hb)
  · rintro e w' ⟨rfl, hb⟩
    rw [bytes_list, bytes_list]
    exact ⟨rfl, hb⟩
def wordD (s : Str) : Str := s.takeWhile fun c => !sepB c
def afterD (s : Str) : Str := s.dropWhile fun c => !sepB c
theorem indexAny_spec : ∀ s : Str, (Lib.indexAny s seps = -1 ∧ wordD s = s ∧ afterD s = []) ∨ (0 ≤ Lib.indexAny s seps ∧ Lib.indexAny s seps < s.length ∧ wordD s = s.take (Lib.indexAny s seps).toNat ∧ afterD s = s.drop (Lib.indexAny s seps).toNat)
  | [] => .inl ⟨rfl, rfl, rfl⟩
  | c :: s => by
    by_cases hc : seps.contains c = true
    · right
      have h1 : Lib.indexAny (c :: s) seps = 0 := by simp only [Lib.indexAny, hc, if_true]
      have h2 : (!sepB c) = false := by unfold sepB; rw [hc]; rfl
      rw [h1]
      refine ⟨Int.le_refl _, by simp, ?_, ?_⟩
      · simp [wordD, List.takeWhile_cons, h2]
      · simp [afterD, List.dropWhile_cons, h2]
    · have hc' : seps.contains c = false := by simpa using hc
      have h2 : (!sepB c) = true := by unfold sepB; rw [hc']; rfl
      have hw : wordD (c :: s) = c :: wordD s := by simp [wordD, List.takeWhile_cons, h2]
      have ha : afterD (c :: s) = afterD s := by simp [afterD, List.dropWhile_cons, h2]
      rw [hw, ha]
      rcases indexAny_spec s with ⟨h, e1, e2⟩ | ⟨h, h', e1, e2⟩
      · left
        refine ⟨?_, by rw [e1], e2⟩
        simp only [Lib.indexAny, hc', h, Bool.false_eq_true, if_false]; rfl
      · right
        have hne : (Lib.indexAny s seps == -1) = false := by simp; omega
        have h3 : Lib.indexAny (c :: s) seps = Lib.indexAny s seps + 1 := by simp only [Lib.indexAny, hc', hne, Bool.false_eq_true, if_false]
        rw [h3]
        refine ⟨by omega, by simp only [List.length_cons]; omega, ?_, ?_⟩
        · rw [e1, show (Lib.indexAny s seps + 1).toNat = (Lib.indexAny s seps).toNat + 1 by omega]; rfl
        · rw [e2, show (Lib.indexAny s seps + 1).toNat = (Lib.indexAny s seps).toNat + 1 by omega]; rfl
theorem cutWord_ok (s : Str) (ha : isAscii s) (hl : s.length < 4294967281) : Meets Tryz.prog 97 [.str s] (.tup [.str (wordD s), .str (afterD s)]) := by
  refine Meets.of Tryz.func97 rfl (by kernel_rfl) rfl ?_
  simp only [Tryz.ntmps97, St.start, argT]
  refine au  ?_
  repeat intro K hK
  refine wr ?_
  refine ca (any_ok s ha hl)  ?_
  refine au  ?_
  repeat intro K hK
  refine wr ?_
  rcases indexAny_spec s with ⟨q, e1, e2⟩ | ⟨q, q', e1, e2⟩
  · refine awp_cond rfl (fun h => by simp [q] at h) (fun _ => ?_)
    refine au  ?_
    repeat intro K hK
    refine wr ?_
    refine awp_ret ?_
    simp [e1, e2]
  · refine awp_cond rfl (fun _ => ?_) (fun h => by simp [q] at h)
    refine au  ?_
    repeat intro K hK
    refine wr ?_
    refine awp_planI ([0, 1, 2, 3, 4, 5, 6, 7] : List Nat) ([[], [], [0, 1], [], [], [3, 4], [0, 1, 2], [0, 1, 2, 3, 4, 5, 6]] : List (List Nat)) ([(7, ([[], [], [0, 1], [], [], [3, 4], [0, 1, 2]], [])), (1, ([], []))] : List (Nat × List (List Nat) × List (Nat × Nat))) (by kernel_rfl) (by kernel_rfl) (by kernel_rfl) ?_
    refine af  ?_
    repeat intro K hK
    refine wr ?_
    refine awp_ret ?_
    simp [e1, e2]
end Go.Proofs.YtjlbpkokdlggiaaGreatDoor
