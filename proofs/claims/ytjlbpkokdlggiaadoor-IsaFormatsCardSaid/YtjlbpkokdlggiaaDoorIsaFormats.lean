/- IsaFormats: the shell, by program (shelld.py). -/
import Derived.Test.YtjlbpkokdlggiaaDoorIsb6
import Derived.Test.YtjlbpkokdlggiaaDoorDoorL
import Derived.Test.YtjlbpkokdlggiaaDoorBriD
import Derived.Test.YtjlbpkokdlggiaaDoorRows
import Derived.Test.YtjlbpkokdlggiaaDoorCards
import Derived.Test.YtjlbpkokdlggiaaDoorTie
import Derived.SevenTiedAt
namespace Go.Proofs.YtjlbpkokdlggiaaDoor.isaFormats
open Go.Ab Go.ChangeShapes Go.WideShapes Go.ChangeAt Go.RowKit
open Go.ChangeMaps (open_string shut_string)
theorem own : ownKnob Tryd.prog.godebug = none := by kernel_rfl
theorem laidOut : laidOutB Tryd.prog = true := by kernel_rfl
set_option maxRecDepth 100000 in
theorem lifted (os : Os) (started : os.Started) (H : Type) (enc : TypeId × Value → H) :
    ReturnsInHanded {} Tryd.checked os 4 .any (fun w args => (Rows.isaFormatsSpec.pre enc Tryd.prog Tryd.f4 [] false w args ∧ laidMetH Tryd.prog Rows.isaFormatsRow.laid w) ∧ sizedMet enc Tryd.prog Tryd.f4 (OpenSpec.ofChange Rows.isaFormatsSpec) false w args)
      (Rows.isaFormatsSpec.post enc Tryd.prog Tryd.f4 false true false false) := by
  refine returnsInHanded_of_change_and (C := Tryd.checked) (X := fun w _ => laidMetH Tryd.prog Rows.isaFormatsRow.laid w) (fun _ _ _ hh h => h.of_heap hh) own started (by kernel_rfl) Tryd.func4
    (ChangeSpec.witness_shaped (enc := enc) (C := Tryd.checked) (os := os) (X := fun w _ => laidMetH Tryd.prog Rows.isaFormatsRow.laid w) false (World.doorLaid Tryd.prog 600 os) #[.agg #[.int .i64 0, .int .i64 0, .int .i64 0, .int .i64 0, .int .i32 0], .agg #[.int .i64 0, .int .i64 0, .int .i64 0, .int .i64 0, .int .i32 0], .int .i64 0, .int .i64 0, .bool false] 8 rfl (World.shaped_of_RefB (by kernel_rfl) (by kernel_rfl)) (by kernel_rfl) (by kernel_rfl) (by kernel_rfl) (door_met os _)) ?_
  intro W base args ds gs before hval0 hW _ _ hL _
  have hG : GIn W (X0 W) := of_laid hL
  have hval : ∀ (j : Nat) t v, Tryd.f4.params[j]? = some t → args[j]? = some v → Value.okWide Tryd.prog W .any base t v := hval0
  have hW' := hW
  obtain ⟨p, q, hA0, hV, rfl, hfz, hnd⟩ := hW
  have hA : DataW.TrodAll enc Tryd.prog W 0 (fun _ => true) true Tryd.f4.params.toList args.toList ds p := hA0
  rw [Tryd.params4] at hA hval
  obtain ⟨v0, vs0, d0, ds0, p0, q0, hargs, rfl, rfl, h0, r0⟩ := trodAll_cons hA
  obtain ⟨v1, vs1, d1, ds1, p1, q1, rfl, rfl, rfl, h1, r1⟩ := trodAll_cons r0
  obtain ⟨v2, vs2, d2, ds2, p2, q2, rfl, rfl, rfl, h2, r2⟩ := trodAll_cons r1
  obtain ⟨v3, vs3, d3, ds3, p3, q3, rfl, rfl, rfl, h3, r3⟩ := trodAll_cons r2
  obtain ⟨v4, vs4, d4, ds4, p4, q4, rfl, rfl, rfl, h4, r4⟩ := trodAll_cons r3
  obtain ⟨rfl, rfl, rfl⟩ := trodAll_nil r4
  obtain rfl : args = #[v0, v1, v2, v3, v4] := by cases args; simp_all
  obtain ⟨rfl, rfl⟩ := trodVars_none hV
  have kk0 := h0
  have lt0 : ∀ x ∈ p0, x.block < W.heap.size := by obtain ⟨m, hm⟩ := kk0; exact DataW.trod_lt m _ _ _ hm
  obtain ⟨x0, hx0, R0⟩ := R_inst (hval 0 26 v0 rfl rfl) h0
  have kk1 := h1
  have lt1 : ∀ x ∈ p1, x.block < W.heap.size := by obtain ⟨m, hm⟩ := kk1; exact DataW.trod_lt m _ _ _ hm
  obtain ⟨x1, hx1, R1⟩ := R_inst (hval 1 26 v1 rfl rfl) h1
  obtain ⟨a2, rfl, rfl, rfl, w2⟩ := open_int Tryd.underlying3 (hval 2 3 v2 rfl rfl) h2
  obtain ⟨a3, rfl, rfl, rfl, w3⟩ := open_int Tryd.underlying3 (hval 3 3 v3 rfl rfl) h3
  obtain ⟨a4, rfl, rfl, rfl⟩ := open_bool Tryd.underlying4 (hval 4 4 v4 rfl rfl) h4
  clear hA0 hval0
  refine (says (formats_ok (x0) (x1) (a2) (a3) (a4) hx0 hx1) hG rfl (fun j u hu => ?_)).mono fun e W' ⟨he, bel⟩ => ?_
  · match j, hu with
    | 0, hu => obtain rfl := Option.some.inj hu; exact R0
    | 1, hu => obtain rfl := Option.some.inj hu; exact R1
    | 2, hu => obtain rfl := Option.some.inj hu; exact .int _ _ _
    | 3, hu => obtain rfl := Option.some.inj hu; exact .int _ _ _
    | 4, hu => obtain rfl := Option.some.inj hu; exact .bool _ _
  subst he
  exact ⟨_, rfl, _, _, _, [], _, [], hW', trodAll_mk1 (shut_bool Tryd.underlying4 _), (trodAll_cons_mk (Below.trod laidOut (by kernel_rfl) (of_decide_eq_true (by kernel_rfl)) kk0 bel lt0) (trodAll_cons_mk (Below.trod laidOut (by kernel_rfl) (of_decide_eq_true (by kernel_rfl)) kk1 bel lt1) (trodAll_cons_mk (shut_int Tryd.underlying3 w2) (trodAll_cons_mk (shut_int Tryd.underlying3 w3) (trodAll_cons_mk (shut_bool Tryd.underlying4 _) trodAll_mk0))))), rfl, bel.frame _, fun h => by cases h⟩
theorem over : Rows.IsaFormatsSaid :=
  OpenClaim.holds_of_wide 4 Tryd.f4 rfl rfl rfl rfl rfl rfl rfl ⟨rfl, rfl, rfl, rfl, rfl⟩ rfl rfl rfl rfl rfl (by kernel_rfl) Tryd.func4 (by kernel_rfl)
    (of_decide_eq_true (by kernel_rfl)) (by unfold Func.isWrapper; first | (rw [if_pos (by decide +kernel)]; kernel_rfl) | (rw [if_neg (by decide +kernel)]; exact ⟨rfl, rfl⟩))
    (fun os started H enc _ => lifted os started H enc)
/-- The given statement: the row, its variables tied to the program's text. -/
theorem proved : Rows.IsaFormatsCardSaid :=
  Claim7.holds_tied_plain_at .later [] [.data, .data, .data, .data] true (true, "b2f34bf26cec77b715f453e0335c8b5eaa845afdfc86519c64d7140b275993fe") false
    over (fun _ h => by cases h) (by kernel_rfl) (fun _ h => by cases h) isaFormats_row_tie rfl ⟨rfl, rfl⟩ (by kernel_rfl) rfl
    (fun f fn hf hfn => by
      obtain rfl : f = 4 := Option.some.inj ((show Tryd.prog.funcNamed Rows.isaFormatsRow.func = some 4 by kernel_rfl).symm.trans hf) |>.symm
      obtain rfl : fn = Tryd.f4 := (Option.some.inj (Tryd.func4.symm.trans hfn)).symm
      refine ⟨by kernel_rfl, fun j t ht => ?_⟩
      rw [Tryd.params4] at ht
      match j, ht with
      | 0, ht => obtain rfl := Option.some.inj ht; exact (show Tryd.prog.wantsStandIn 26 = false by kernel_rfl)
      | 1, ht => obtain rfl := Option.some.inj ht; exact (show Tryd.prog.wantsStandIn 26 = false by kernel_rfl)
      | 2, ht => obtain rfl := Option.some.inj ht; exact (show Tryd.prog.wantsStandIn 3 = false by kernel_rfl)
      | 3, ht => obtain rfl := Option.some.inj ht; exact (show Tryd.prog.wantsStandIn 3 = false by kernel_rfl)
      | 4, ht => obtain rfl := Option.some.inj ht; exact (show Tryd.prog.wantsStandIn 4 = false by kernel_rfl)
      | j + 5, ht => simp at ht)
    (by kernel_rfl)
#print axioms proved
end Go.Proofs.YtjlbpkokdlggiaaDoor.isaFormats
