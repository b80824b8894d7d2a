/- AsmMoves: the shell, by program (shelld.py). -/
import Derived.Test.YtjlbpkokdlggiaaDoorAs16
import Derived.Test.YtjlbpkokdlggiaaDoorDoorL
import Derived.Test.YtjlbpkokdlggiaaDoorBriD
import Derived.Test.YtjlbpkokdlggiaaDoorRows
import Derived.Test.YtjlbpkokdlggiaaDoorCards
import Derived.Test.YtjlbpkokdlggiaaDoorTie
import Derived.SevenTiedAt
namespace Go.Proofs.YtjlbpkokdlggiaaDoor.asmMoves
open Go.Ab Go.ChangeShapes Go.WideShapes Go.ChangeAt Go.RowKit
open Go.ChangeMaps (open_string shut_string)
theorem own : ownKnob Tryd.prog.godebug = none := by kernel_rfl
theorem laidOut : laidOutB Tryd.prog = true := by kernel_rfl
set_option maxRecDepth 100000 in
theorem lifted (os : Os) (started : os.Started) (H : Type) (enc : TypeId × Value → H) :
    ReturnsInHanded {} Tryd.checked os 9 .any (fun w args => (Rows.asmMovesSpec.pre enc Tryd.prog Tryd.f9 [] false w args ∧ laidMetH Tryd.prog Rows.asmMovesRow.laid w) ∧ sizedMet enc Tryd.prog Tryd.f9 (OpenSpec.ofChange Rows.asmMovesSpec) false w args)
      (Rows.asmMovesSpec.post enc Tryd.prog Tryd.f9 false true false false) := by
  refine returnsInHanded_of_change_and (C := Tryd.checked) (X := fun w _ => laidMetH Tryd.prog Rows.asmMovesRow.laid w) (fun _ _ _ hh h => h.of_heap hh) own started (by kernel_rfl) Tryd.func9
    (ChangeSpec.witness_shaped (enc := enc) (C := Tryd.checked) (os := os) (X := fun w _ => laidMetH Tryd.prog Rows.asmMovesRow.laid w) false (World.laidAll Tryd.prog os Rows.asmMovesRow.laid) #[.int .i64 0, .int .i64 0, .bool false] 8 (World.laidAll_os _ _ _) (World.shaped_of_ZipB (by kernel_rfl) (by kernel_rfl)) (by kernel_rfl) (by kernel_rfl) (by kernel_rfl) (door_met os _)) ?_
  intro W base args ds gs before hval0 hW _ _ hL _
  have hG : GIn W (X0 W) := of_laid hL
  have hval : ∀ (j : Nat) t v, Tryd.f9.params[j]? = some t → args[j]? = some v → Value.okWide Tryd.prog W .any base t v := hval0
  have hW' := hW
  obtain ⟨p, q, hA0, hV, rfl, hfz, hnd⟩ := hW
  have hA : DataW.TrodAll enc Tryd.prog W 0 (fun _ => true) true Tryd.f9.params.toList args.toList ds p := hA0
  rw [Tryd.params9] at hA hval
  obtain ⟨v0, vs0, d0, ds0, p0, q0, hargs, rfl, rfl, h0, r0⟩ := trodAll_cons hA
  obtain ⟨v1, vs1, d1, ds1, p1, q1, rfl, rfl, rfl, h1, r1⟩ := trodAll_cons r0
  obtain ⟨v2, vs2, d2, ds2, p2, q2, rfl, rfl, rfl, h2, r2⟩ := trodAll_cons r1
  obtain ⟨rfl, rfl, rfl⟩ := trodAll_nil r2
  obtain rfl : args = #[v0, v1, v2] := by cases args; simp_all
  obtain ⟨rfl, rfl⟩ := trodVars_none hV
  obtain ⟨a0, rfl, rfl, rfl, w0⟩ := open_int Tryd.underlying3 (hval 0 3 v0 rfl rfl) h0
  obtain ⟨a1, rfl, rfl, rfl, w1⟩ := open_int Tryd.underlying3 (hval 1 3 v1 rfl rfl) h1
  obtain ⟨a2, rfl, rfl, rfl⟩ := open_bool Tryd.underlying4 (hval 2 4 v2 rfl rfl) h2
  clear hA0 hval0
  refine (says (moves_ok (a0) (a1) (a2) ) hG rfl (fun j u hu => ?_)).mono fun e W' ⟨he, bel⟩ => ?_
  · match j, hu with
    | 0, hu => obtain rfl := Option.some.inj hu; exact .int _ _ _
    | 1, hu => obtain rfl := Option.some.inj hu; exact .int _ _ _
    | 2, hu => obtain rfl := Option.some.inj hu; exact .bool _ _
  subst he
  exact ⟨_, rfl, _, _, _, [], _, [], hW', trodAll_mk1 (shut_bool Tryd.underlying4 _), (trodAll_cons_mk (shut_int Tryd.underlying3 w0) (trodAll_cons_mk (shut_int Tryd.underlying3 w1) (trodAll_cons_mk (shut_bool Tryd.underlying4 _) trodAll_mk0))), rfl, bel.frame _, fun h => by cases h⟩
theorem over : Rows.AsmMovesSaid :=
  OpenClaim.holds_of_wide 9 Tryd.f9 rfl rfl rfl rfl rfl rfl rfl ⟨rfl, rfl, rfl, rfl, rfl⟩ rfl rfl rfl rfl rfl (by kernel_rfl) Tryd.func9 (by kernel_rfl)
    (of_decide_eq_true (by kernel_rfl)) (by unfold Func.isWrapper; first | (rw [if_pos (by decide +kernel)]; kernel_rfl) | (rw [if_neg (by decide +kernel)]; exact ⟨rfl, rfl⟩))
    (fun os started H enc _ => lifted os started H enc)
/-- The given statement: the row, its variables tied to the program's text. -/
theorem proved : Rows.AsmMovesCardSaid :=
  Claim7.holds_tied_plain_at .later [] [.data, .data, .data, .data, .data, .pinned] true (true, "b2f34bf26cec77b715f453e0335c8b5eaa845afdfc86519c64d7140b275993fe") false
    over (fun _ h => by cases h) (by kernel_rfl) (fun _ h => by cases h) asmMoves_row_tie rfl ⟨rfl, rfl⟩ (by kernel_rfl) rfl
    (fun f fn hf hfn => by
      obtain rfl : f = 9 := Option.some.inj ((show Tryd.prog.funcNamed Rows.asmMovesRow.func = some 9 by kernel_rfl).symm.trans hf) |>.symm
      obtain rfl : fn = Tryd.f9 := (Option.some.inj (Tryd.func9.symm.trans hfn)).symm
      refine ⟨by kernel_rfl, fun j t ht => ?_⟩
      rw [Tryd.params9] at ht
      match j, ht with
      | 0, ht => obtain rfl := Option.some.inj ht; exact (show Tryd.prog.wantsStandIn 3 = false by kernel_rfl)
      | 1, ht => obtain rfl := Option.some.inj ht; exact (show Tryd.prog.wantsStandIn 3 = false by kernel_rfl)
      | 2, ht => obtain rfl := Option.some.inj ht; exact (show Tryd.prog.wantsStandIn 4 = false by kernel_rfl)
      | j + 3, ht => simp at ht)
    (by kernel_rfl)
#print axioms proved
end Go.Proofs.YtjlbpkokdlggiaaDoor.asmMoves
