/- No package variable is read; the functions that are laid with boxes they may write. -/
import Derived.Test.YtpifpdjefbehmaaGreatL4
namespace Go.Proofs.YtpifpdjefbehmaaGreat
open Go.Ab
instance glo0 : Glo := ⟨[], fun _ => True, fun _ _ => trivial, fun f => f == 110 || f == 111 || f == 178, fun t => t == 54 || t == 51⟩
theorem gin0 (w : World) (X : Nat → Prop) : GIn w X := ⟨trivial, fun g cs h => by simp [Glo.tab, lookG] at h⟩
@[simp] theorem capt0 (f : Nat) : Glo.capt f = (f == 110 || f == 111 || f == 178) := rfl
@[simp] theorem prt0 (t : Nat) : Glo.prt t = (t == 54 || t == 51) := rfl
end Go.Proofs.YtpifpdjefbehmaaGreat
