/- Objects that nothing needs any more are left out of the state. -/
import Derived.Test.YtpifpdjefbehmaaGreatAd
namespace Go.Ab
open Go.RowKit
def keepO : List Nat → List (Nat × Option Ob) → List (Nat × Option Ob)
  | [], _ => []
  | i :: r, ob => (i, lookO ob i) :: keepO r ob
theorem lookO_keepO (ob : List (Nat × Option Ob)) : ∀ (ids : List Nat) (id : Nat) (o : Ob), lookO (keepO ids ob) id = some o → lookO ob id = some o
  | [], id, o, h => by simp [keepO, lookO] at h
  | i :: r, id, o, h => by
    simp only [keepO, lookO] at h
    split at h
    · rename_i e; subst e; exact h
    · exact lookO_keepO ob r id o h
theorem awp_keepOb [Glo] {P : Program} {c : Code} {Q : Exit → St → Prop} {n nx pn : Nat} {tmp : List (Nat × V)} {ob O : List (Nat × Option Ob)} (ids : List Nat) (hO : keepO ids ob = O) (h : awp P c Q ⟨n, tmp, nx, O, pn⟩) : awp P c Q ⟨n, tmp, nx, ob, pn⟩ :=
  fun base Xa w0 a w ⟨M, hM⟩ => h base Xa w0 a w ⟨M, by
    have := hM.sub (ob1 := O) fun id o ho => ⟨o.fz, lookO_keepO ob ids id o (by rw [hO]; exact ho), fun h => h⟩
    exact this⟩
end Go.Ab
