/- Package asm: what the library's functions give (by the shelf); skip, cutWord. (Numbers of seat r2.D.) -/
import Derived.Test.YtjlbpkokdlggiaaDoorIsa5
import Derived.Lib.TrimByte
import Derived.Lib.IndexAny
namespace Go.Proofs.YtjlbpkokdlggiaaDoor
open Go.Ab Go.RowKit
set_option linter.unusedSimpArgs false
set_option maxRecDepth 100000
abbrev Str := List UInt8
theorem vals2 {a b : Value} {vals : Array Value} (hs : vals.size = 2) (h0 : vals.getD 0 undef = a) (h1 : vals.getD 1 undef = b) : vals = #[a, b] := by
  apply Array.ext
  · simpa using hs
  · intro i hi hi'
    have : i = 0 ∨ i = 1 := by simp at hi'; omega
    rcases this with rfl | rfl
    · simpa [Array.getD, hi] using h0
    · simpa [Array.getD, hi] using h1
theorem bytes_list (s : Str) : (⟨s.toArray⟩ : ByteArray).data.toList = s := by simp
theorem one_arr (c : UInt8) : (⟨[c].toArray⟩ : ByteArray) = ⟨#[c]⟩ := rfl
theorem Meets.str2 {f : FuncId} {s t : Str} {r : V} {val : Value} (hc : callable Tryd.prog f = true) (hno : ∀ n, obsL n r.fcells = []) (hr : ∀ (M : Mp) (w : World) (X : Nat → Prop) (n : Nat), R M w X n (opn n r) val)
    (h : ∀ w : World, GIn w (fun b => b < w.heap.size) → Calls Tryd.prog f #[.string ⟨s.toArray⟩, .string ⟨t.toArray⟩] w fun e w' => e = .returned val ∧ Below w.heap.size w w') : Meets Tryd.prog f [.str s, .str t] r := by
  refine ⟨hc, fun w Xa vals M hXa hs hrr => ?_⟩
  obtain rfl := vals2 hs (R_str (hrr 0 _ rfl)) (R_str (hrr 1 _ rfl))
  refine (h w (hXa.2.1.to fun b hb => hXa.1 b hb)).mono ?_
  rintro e w' ⟨rfl, hb⟩
  refine ⟨_, rfl, hb, fun M n hM => ⟨?_, fun id o ho => ?_, fun id id' o o' g ho => ?_⟩⟩
  · exact (hr M w' (Xf w.heap.size Xa w' M (obsL n r.fcells)) n).mono (Nat.le_add_right _ _) (fun _ _ => rfl) (fun _ h => h) (fun _ _ => rfl)
  · rw [hno] at ho; simp [lookO] at ho
  · rw [hno] at ho; simp [lookO] at ho
def skipD (s : Str) : Str := s.dropWhile (· == 32)
theorem trim_ok (s : Str) : Meets Tryd.prog 113 [.str s, .str [32]] (.str (skipD s)) := by
  refine Meets.str2 (val := .string ⟨(skipD s).toArray⟩) (by kernel_rfl) (fun n => rfl) (fun M w X n => .str _ _) fun w _ => ?_
  refine (Any.strings_TrimLeft_one trimLays ⟨s.toArray⟩ 32 (by decide) w).mono ?_
  rintro e w' ⟨rfl, rfl⟩
  rw [bytes_list]
  exact ⟨rfl, Below.refl _ _⟩
theorem skip_ok (s : Str) : Meets Tryd.prog 94 [.str s] (.str (skipD s)) := by
  refine Meets.of Tryd.func94 rfl (by kernel_rfl) rfl ?_
  simp only [Tryd.ntmps94, St.start, argT]
  refine au  ?_
  repeat intro K hK
  refine wr ?_
  refine ca (trim_ok s)  ?_
  refine au  ?_
  repeat intro K hK
  refine wr ?_
  refine awp_ret ?_
  simp
theorem cutp_ok (s p : Str) : Meets Tryd.prog 96 [.str s, .str p] (.tup [.str (Lib.trimPrefix s p), .bool (Lib.hasPrefix s p)]) := by
  refine Meets.str2 (val := .tuple #[.string ⟨(Lib.trimPrefix s p).toArray⟩, .bool (Lib.hasPrefix s p)]) (by kernel_rfl) (fun n => rfl) (fun M w X n => ?_) fun w _ => ?_
  · refine .tup _ _ _ rfl fun j u hu => ?_
    match j, hu with
    | 0, hu => simp at hu; subst hu; exact .str _ _
    | 1, hu => simp at hu; subst hu; exact .bool _ _
  · refine (Any.strings_CutPrefix cutpLays ⟨s.toArray⟩ ⟨p.toArray⟩ w).mono ?_
    rintro e w' ⟨rfl, rfl⟩
    rw [bytes_list, bytes_list]
    exact ⟨rfl, Below.refl _ _⟩
end Go.Proofs.YtjlbpkokdlggiaaDoor
