/- Abstract states for walks, part 23: loops whose way back is hidden from simp. -/
import Derived.Test.YtnjpakhnaegdgaaFn2
namespace Go.Ab
def again (I : Nat → St → Prop) (k : Nat) (s' : St) : Prop := ∃ k' s'' ρ, k' < k ∧ Le ρ s' s'' ∧ I k' s''
theorem again_of {I : Nat → St → Prop} {k : Nat} {s' : St} (k' : Nat) (s'' : St) (ρ : Nat → Nat) (h : k' < k) (hI : I k' s'') (hle : Le ρ s' s'') : again I k s' := ⟨k', s'', ρ, h, hle, hI⟩
theorem awp_loopA {P : Program} {st : St} {Q : Exit → St → Prop} {c : Code} (I : Nat → St → Prop) {k0 : Nat} {st0 : St} {ρ0 : Nat → Nat} (hle : Le ρ0 st st0) (h0 : I k0 st0)
    (round : ∀ k s, I k s → s.n = st.n → awp P c (thn (again I k) Q) s) : awp P (.loop c) Q st := awp_loop I hle h0 round
end Go.Ab
