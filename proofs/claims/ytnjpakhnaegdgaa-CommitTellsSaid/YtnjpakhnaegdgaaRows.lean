/-
  No cell of these rows narrows 'for every input' (looked for: loops, veiled, ifaces, maps, wideKeys, modest, calm, conditions, laid).
  DERIVED. THE GIVEN ROWS OF THIS SEAT. 12 by the template 'for every input the law returns true; each argument reads behind the call as it read before'; 0 by the template 'total and deterministic' (their statements: YtnjpakhnaegdgaaTotals.lean).
  GIVEN WITH THE SEED: the statements are not yours to turn. If you find one false, say at which input.
  Laid BY PROGRAM, IN A SANDBOX (cutbox-rows.mjs): the forced cells as the released guide's own fill.sh prints them over the translation beabfce90283e851… (all of the seat's roots in one cut). By AI agents, Wed Nov 11 2026. No macro, syntax, notation, axiom, sorry.
-/
import Derived.Test.YtnjpakhnaegdgaaChecked
import GoSem.Claim
import GoSem.ClaimJoined
import GoSem.ClaimMapViews
import Derived.JoinedTies
import Derived.KernelRfl
namespace Go.Proofs.Ytnjpakhnaegdgaa
/- THE CELL 'sum', in the pinned program and in every row, IS THE sha256 OF THE DUMP (.gsa) THAT YtnjpakhnaegdgaaProg.lean LOADS. Nothing in Lean hashes anything: it is a label: what it is worth is what the hold of that sum in a sandbox is worth. -/
noncomputable def Try.pinned : Pinned := { name := "ytnjpakhnaegdgaa", sum := "beabfce90283e8511bcd6b7e5b31ae3b17e6afdda88fd862318c244c8d3bb06e", checked := Try.checked }
namespace Rows
def none {H : Type} : Left H := { results := [], args := [] }

/-- 'vmfleetlaw23.LinkCuts': WHATEVER THE INPUT: true; the input reads as it did. -/
def linkCutsSpec : ChangeSpec := { name := "linkCuts", fn := fun _ => fun
  | [d1, d2, d3] => { results := [.lit (.bool true)], args := [d1, d2, d3] }
  | _ => none }
def linkCutsRow : OpenClaim := { program := "ytnjpakhnaegdgaa", sum := "beabfce90283e8511bcd6b7e5b31ae3b17e6afdda88fd862318c244c8d3bb06e", func := "vmfleet/vmfleetlaw23.LinkCuts", spec := "linkCuts", apart := false }
def LinkCutsSaid : Prop := linkCutsRow.holds Try.pinned (OpenSpec.ofChange linkCutsSpec)

/-- ITS FALSE NEIGHBOUR: 'it returns false'. Refute it at one input. -/
def linkCutsWrong : ChangeSpec := { name := "linkCuts", fn := fun _ => fun
  | [d1, d2, d3] => { results := [.lit (.bool false)], args := [d1, d2, d3] }
  | _ => none }
def LinkCutsWrongFalsely : Prop := linkCutsRow.holds Try.pinned (OpenSpec.ofChange linkCutsWrong)

/-- 'vmfleetlaw23.LinkCarries': WHATEVER THE INPUT: true; the input reads as it did. -/
def linkCarriesSpec : ChangeSpec := { name := "linkCarries", fn := fun _ => fun
  | [d] => { results := [.lit (.bool true)], args := [d] }
  | _ => none }
def linkCarriesRow : OpenClaim := { program := "ytnjpakhnaegdgaa", sum := "beabfce90283e8511bcd6b7e5b31ae3b17e6afdda88fd862318c244c8d3bb06e", func := "vmfleet/vmfleetlaw23.LinkCarries", spec := "linkCarries", apart := false }
def LinkCarriesSaid : Prop := linkCarriesRow.holds Try.pinned (OpenSpec.ofChange linkCarriesSpec)

/-- ITS FALSE NEIGHBOUR: 'it returns false'. Refute it at one input. -/
def linkCarriesWrong : ChangeSpec := { name := "linkCarries", fn := fun _ => fun
  | [d] => { results := [.lit (.bool false)], args := [d] }
  | _ => none }
def LinkCarriesWrongFalsely : Prop := linkCarriesRow.holds Try.pinned (OpenSpec.ofChange linkCarriesWrong)

/-- 'vmfleetlaw23.LinkCorrupts': WHATEVER THE INPUT: true; the input reads as it did. -/
def linkCorruptsSpec : ChangeSpec := { name := "linkCorrupts", fn := fun _ => fun
  | [d1, d2, d3] => { results := [.lit (.bool true)], args := [d1, d2, d3] }
  | _ => none }
def linkCorruptsRow : OpenClaim := { program := "ytnjpakhnaegdgaa", sum := "beabfce90283e8511bcd6b7e5b31ae3b17e6afdda88fd862318c244c8d3bb06e", func := "vmfleet/vmfleetlaw23.LinkCorrupts", spec := "linkCorrupts", apart := false }
def LinkCorruptsSaid : Prop := linkCorruptsRow.holds Try.pinned (OpenSpec.ofChange linkCorruptsSpec)

/-- ITS FALSE NEIGHBOUR: 'it returns false'. Refute it at one input. -/
def linkCorruptsWrong : ChangeSpec := { name := "linkCorrupts", fn := fun _ => fun
  | [d1, d2, d3] => { results := [.lit (.bool false)], args := [d1, d2, d3] }
  | _ => none }
def LinkCorruptsWrongFalsely : Prop := linkCorruptsRow.holds Try.pinned (OpenSpec.ofChange linkCorruptsWrong)

/-- 'vmfleetlaw26.ArbiterTells': WHATEVER THE INPUT: true; the input reads as it did. -/
def arbiterTellsSpec : ChangeSpec := { name := "arbiterTells", fn := fun _ => fun
  | [d1, d2, d3, d4, d5] => { results := [.lit (.bool true)], args := [d1, d2, d3, d4, d5] }
  | _ => none }
def arbiterTellsRow : OpenClaim := { program := "ytnjpakhnaegdgaa", sum := "beabfce90283e8511bcd6b7e5b31ae3b17e6afdda88fd862318c244c8d3bb06e", func := "vmfleet/vmfleetlaw26.ArbiterTells", spec := "arbiterTells", apart := false }
def ArbiterTellsSaid : Prop := arbiterTellsRow.holds Try.pinned (OpenSpec.ofChange arbiterTellsSpec)

/-- ITS FALSE NEIGHBOUR: 'it returns false'. Refute it at one input. -/
def arbiterTellsWrong : ChangeSpec := { name := "arbiterTells", fn := fun _ => fun
  | [d1, d2, d3, d4, d5] => { results := [.lit (.bool false)], args := [d1, d2, d3, d4, d5] }
  | _ => none }
def ArbiterTellsWrongFalsely : Prop := arbiterTellsRow.holds Try.pinned (OpenSpec.ofChange arbiterTellsWrong)

/-- 'vmfleetlaw26.ArbiterOne': WHATEVER THE INPUT: true; the input reads as it did. -/
def arbiterOneSpec : ChangeSpec := { name := "arbiterOne", fn := fun _ => fun
  | [d1, d2, d3] => { results := [.lit (.bool true)], args := [d1, d2, d3] }
  | _ => none }
def arbiterOneRow : OpenClaim := { program := "ytnjpakhnaegdgaa", sum := "beabfce90283e8511bcd6b7e5b31ae3b17e6afdda88fd862318c244c8d3bb06e", func := "vmfleet/vmfleetlaw26.ArbiterOne", spec := "arbiterOne", apart := false }
def ArbiterOneSaid : Prop := arbiterOneRow.holds Try.pinned (OpenSpec.ofChange arbiterOneSpec)

/-- ITS FALSE NEIGHBOUR: 'it returns false'. Refute it at one input. -/
def arbiterOneWrong : ChangeSpec := { name := "arbiterOne", fn := fun _ => fun
  | [d1, d2, d3] => { results := [.lit (.bool false)], args := [d1, d2, d3] }
  | _ => none }
def ArbiterOneWrongFalsely : Prop := arbiterOneRow.holds Try.pinned (OpenSpec.ofChange arbiterOneWrong)

/-- 'vmfleetlaw26.ArbiterFences': WHATEVER THE INPUT: true; the input reads as it did. -/
def arbiterFencesSpec : ChangeSpec := { name := "arbiterFences", fn := fun _ => fun
  | [d1, d2] => { results := [.lit (.bool true)], args := [d1, d2] }
  | _ => none }
def arbiterFencesRow : OpenClaim := { program := "ytnjpakhnaegdgaa", sum := "beabfce90283e8511bcd6b7e5b31ae3b17e6afdda88fd862318c244c8d3bb06e", func := "vmfleet/vmfleetlaw26.ArbiterFences", spec := "arbiterFences", apart := false }
def ArbiterFencesSaid : Prop := arbiterFencesRow.holds Try.pinned (OpenSpec.ofChange arbiterFencesSpec)

/-- ITS FALSE NEIGHBOUR: 'it returns false'. Refute it at one input. -/
def arbiterFencesWrong : ChangeSpec := { name := "arbiterFences", fn := fun _ => fun
  | [d1, d2] => { results := [.lit (.bool false)], args := [d1, d2] }
  | _ => none }
def ArbiterFencesWrongFalsely : Prop := arbiterFencesRow.holds Try.pinned (OpenSpec.ofChange arbiterFencesWrong)

/-- 'vmfleetlaw26.ArbiterRepeats': WHATEVER THE INPUT: true; the input reads as it did. -/
def arbiterRepeatsSpec : ChangeSpec := { name := "arbiterRepeats", fn := fun _ => fun
  | [d1, d2, d3, d4] => { results := [.lit (.bool true)], args := [d1, d2, d3, d4] }
  | _ => none }
def arbiterRepeatsRow : OpenClaim := { program := "ytnjpakhnaegdgaa", sum := "beabfce90283e8511bcd6b7e5b31ae3b17e6afdda88fd862318c244c8d3bb06e", func := "vmfleet/vmfleetlaw26.ArbiterRepeats", spec := "arbiterRepeats", apart := false }
def ArbiterRepeatsSaid : Prop := arbiterRepeatsRow.holds Try.pinned (OpenSpec.ofChange arbiterRepeatsSpec)

/-- ITS FALSE NEIGHBOUR: 'it returns false'. Refute it at one input. -/
def arbiterRepeatsWrong : ChangeSpec := { name := "arbiterRepeats", fn := fun _ => fun
  | [d1, d2, d3, d4] => { results := [.lit (.bool false)], args := [d1, d2, d3, d4] }
  | _ => none }
def ArbiterRepeatsWrongFalsely : Prop := arbiterRepeatsRow.holds Try.pinned (OpenSpec.ofChange arbiterRepeatsWrong)

/-- 'vmfleetlaw23.LinkTells': WHATEVER THE INPUT: true; the input reads as it did. -/
def linkTellsSpec : ChangeSpec := { name := "linkTells", fn := fun _ => fun
  | [d1, d2, d3, d4, d5, d6] => { results := [.lit (.bool true)], args := [d1, d2, d3, d4, d5, d6] }
  | _ => none }
def linkTellsRow : OpenClaim := { program := "ytnjpakhnaegdgaa", sum := "beabfce90283e8511bcd6b7e5b31ae3b17e6afdda88fd862318c244c8d3bb06e", func := "vmfleet/vmfleetlaw23.LinkTells", spec := "linkTells", apart := false }
def LinkTellsSaid : Prop := linkTellsRow.holds Try.pinned (OpenSpec.ofChange linkTellsSpec)

/-- ITS FALSE NEIGHBOUR: 'it returns false'. Refute it at one input. -/
def linkTellsWrong : ChangeSpec := { name := "linkTells", fn := fun _ => fun
  | [d1, d2, d3, d4, d5, d6] => { results := [.lit (.bool false)], args := [d1, d2, d3, d4, d5, d6] }
  | _ => none }
def LinkTellsWrongFalsely : Prop := linkTellsRow.holds Try.pinned (OpenSpec.ofChange linkTellsWrong)

/-- 'vmfleetlaw25.CommitTells': WHATEVER THE INPUT: true; the input reads as it did. -/
def commitTellsSpec : ChangeSpec := { name := "commitTells", fn := fun _ => fun
  | [d1, d2, d3, d4, d5] => { results := [.lit (.bool true)], args := [d1, d2, d3, d4, d5] }
  | _ => none }
def commitTellsRow : OpenClaim := { program := "ytnjpakhnaegdgaa", sum := "beabfce90283e8511bcd6b7e5b31ae3b17e6afdda88fd862318c244c8d3bb06e", func := "vmfleet/vmfleetlaw25.CommitTells", spec := "commitTells", unfollowed := true, recurses := true, apart := false }
def CommitTellsSaid : Prop := commitTellsRow.holds Try.pinned (OpenSpec.ofChange commitTellsSpec)

/-- ITS FALSE NEIGHBOUR: 'it returns false'. Refute it at one input. -/
def commitTellsWrong : ChangeSpec := { name := "commitTells", fn := fun _ => fun
  | [d1, d2, d3, d4, d5] => { results := [.lit (.bool false)], args := [d1, d2, d3, d4, d5] }
  | _ => none }
def CommitTellsWrongFalsely : Prop := commitTellsRow.holds Try.pinned (OpenSpec.ofChange commitTellsWrong)

/-- 'vmfleetlaw25.CommitWaits': WHATEVER THE INPUT: true; the input reads as it did. -/
def commitWaitsSpec : ChangeSpec := { name := "commitWaits", fn := fun _ => fun
  | [d1, d2, d3] => { results := [.lit (.bool true)], args := [d1, d2, d3] }
  | _ => none }
def commitWaitsRow : OpenClaim := { program := "ytnjpakhnaegdgaa", sum := "beabfce90283e8511bcd6b7e5b31ae3b17e6afdda88fd862318c244c8d3bb06e", func := "vmfleet/vmfleetlaw25.CommitWaits", spec := "commitWaits", unfollowed := true, recurses := true, apart := false }
def CommitWaitsSaid : Prop := commitWaitsRow.holds Try.pinned (OpenSpec.ofChange commitWaitsSpec)

/-- ITS FALSE NEIGHBOUR: 'it returns false'. Refute it at one input. -/
def commitWaitsWrong : ChangeSpec := { name := "commitWaits", fn := fun _ => fun
  | [d1, d2, d3] => { results := [.lit (.bool false)], args := [d1, d2, d3] }
  | _ => none }
def CommitWaitsWrongFalsely : Prop := commitWaitsRow.holds Try.pinned (OpenSpec.ofChange commitWaitsWrong)

/-- 'vmfleetlaw25.CommitTakes': WHATEVER THE INPUT: true; the input reads as it did. -/
def commitTakesSpec : ChangeSpec := { name := "commitTakes", fn := fun _ => fun
  | [d1, d2, d3] => { results := [.lit (.bool true)], args := [d1, d2, d3] }
  | _ => none }
def commitTakesRow : OpenClaim := { program := "ytnjpakhnaegdgaa", sum := "beabfce90283e8511bcd6b7e5b31ae3b17e6afdda88fd862318c244c8d3bb06e", func := "vmfleet/vmfleetlaw25.CommitTakes", spec := "commitTakes", unfollowed := true, recurses := true, apart := false }
def CommitTakesSaid : Prop := commitTakesRow.holds Try.pinned (OpenSpec.ofChange commitTakesSpec)

/-- ITS FALSE NEIGHBOUR: 'it returns false'. Refute it at one input. -/
def commitTakesWrong : ChangeSpec := { name := "commitTakes", fn := fun _ => fun
  | [d1, d2, d3] => { results := [.lit (.bool false)], args := [d1, d2, d3] }
  | _ => none }
def CommitTakesWrongFalsely : Prop := commitTakesRow.holds Try.pinned (OpenSpec.ofChange commitTakesWrong)

/-- 'vmfleetlaw25.CommitLate': WHATEVER THE INPUT: true; the input reads as it did. -/
def commitLateSpec : ChangeSpec := { name := "commitLate", fn := fun _ => fun
  | [d1, d2] => { results := [.lit (.bool true)], args := [d1, d2] }
  | _ => none }
def commitLateRow : OpenClaim := { program := "ytnjpakhnaegdgaa", sum := "beabfce90283e8511bcd6b7e5b31ae3b17e6afdda88fd862318c244c8d3bb06e", func := "vmfleet/vmfleetlaw25.CommitLate", spec := "commitLate", unfollowed := true, recurses := true, apart := false }
def CommitLateSaid : Prop := commitLateRow.holds Try.pinned (OpenSpec.ofChange commitLateSpec)

/-- ITS FALSE NEIGHBOUR: 'it returns false'. Refute it at one input. -/
def commitLateWrong : ChangeSpec := { name := "commitLate", fn := fun _ => fun
  | [d1, d2] => { results := [.lit (.bool false)], args := [d1, d2] }
  | _ => none }
def CommitLateWrongFalsely : Prop := commitLateRow.holds Try.pinned (OpenSpec.ofChange commitLateWrong)

/- THE SECOND FORM. 'bulk': how many values and letters a reading holds, each counted each time it is reached (what is shared counts as often as it is met; a slice's spare places count too). A statement '..UptoSaid' is the law's where the arguments, and the package variables that the reading takes, are together of bulk at most 1048576: NARROWER than '..Said'. Prove '..Said' where nothing that the law and all that it calls make is longer than what came in: it says more and counts as full. Else prove '..UptoSaid'. A law counts once. -/
mutual
def uptoBulk {H : Type} : DataW H → Nat
  | .lit (.string bytes) => bytes.length + 1
  | .lit _ => 1
  | .nil => 1
  | .ptr d => uptoBulk d + 1
  | .slice elems spare => uptoBulkAll elems + uptoBulkAll spare + 1
  | .agg parts => uptoBulkAll parts + 1
  | .iface _ d => uptoBulk d + 1
  | .map entries => uptoBulkEntries entries + 1
  | .held _ => 1
def uptoBulkAll {H : Type} : List (DataW H) → Nat
  | [] => 0
  | d :: r => uptoBulk d + uptoBulkAll r
def uptoBulkEntries {H : Type} : List (Lit × DataW H) → Nat
  | [] => 0
  | x :: r => uptoBulkEntry x + uptoBulkEntries r
def uptoBulkEntry {H : Type} : Lit × DataW H → Nat
  | (.string bytes, d) => bytes.length + uptoBulk d + 1
  | (_, d) => uptoBulk d + 1
 end
def uptoSmall : (H : Type) → List (DataW H) → Bool := fun _ ds => decide (uptoBulkAll ds ≤ 1048576)
def OpenSpec.upto (s : _root_.Go.ChangeSpec) : _root_.Go.OpenSpec := { _root_.Go.OpenSpec.ofChange s with cond := some uptoSmall }

/-- 'vmfleetlaw23.LinkCuts', WHERE WHAT IT READS IS OF BULK AT MOST 1048576: true; the input reads as it did. -/
def linkCutsUptoRow : OpenClaim := { program := "ytnjpakhnaegdgaa", sum := "beabfce90283e8511bcd6b7e5b31ae3b17e6afdda88fd862318c244c8d3bb06e", func := "vmfleet/vmfleetlaw23.LinkCuts", spec := "linkCuts", apart := false, narrowed := true }
def LinkCutsUptoSaid : Prop := linkCutsUptoRow.holds Try.pinned (OpenSpec.upto linkCutsSpec)

/-- 'vmfleetlaw23.LinkCarries', WHERE WHAT IT READS IS OF BULK AT MOST 1048576: true; the input reads as it did. -/
def linkCarriesUptoRow : OpenClaim := { program := "ytnjpakhnaegdgaa", sum := "beabfce90283e8511bcd6b7e5b31ae3b17e6afdda88fd862318c244c8d3bb06e", func := "vmfleet/vmfleetlaw23.LinkCarries", spec := "linkCarries", apart := false, narrowed := true }
def LinkCarriesUptoSaid : Prop := linkCarriesUptoRow.holds Try.pinned (OpenSpec.upto linkCarriesSpec)

/-- 'vmfleetlaw23.LinkCorrupts', WHERE WHAT IT READS IS OF BULK AT MOST 1048576: true; the input reads as it did. -/
def linkCorruptsUptoRow : OpenClaim := { program := "ytnjpakhnaegdgaa", sum := "beabfce90283e8511bcd6b7e5b31ae3b17e6afdda88fd862318c244c8d3bb06e", func := "vmfleet/vmfleetlaw23.LinkCorrupts", spec := "linkCorrupts", apart := false, narrowed := true }
def LinkCorruptsUptoSaid : Prop := linkCorruptsUptoRow.holds Try.pinned (OpenSpec.upto linkCorruptsSpec)

/-- 'vmfleetlaw26.ArbiterTells', WHERE WHAT IT READS IS OF BULK AT MOST 1048576: true; the input reads as it did. -/
def arbiterTellsUptoRow : OpenClaim := { program := "ytnjpakhnaegdgaa", sum := "beabfce90283e8511bcd6b7e5b31ae3b17e6afdda88fd862318c244c8d3bb06e", func := "vmfleet/vmfleetlaw26.ArbiterTells", spec := "arbiterTells", apart := false, narrowed := true }
def ArbiterTellsUptoSaid : Prop := arbiterTellsUptoRow.holds Try.pinned (OpenSpec.upto arbiterTellsSpec)

/-- 'vmfleetlaw26.ArbiterOne', WHERE WHAT IT READS IS OF BULK AT MOST 1048576: true; the input reads as it did. -/
def arbiterOneUptoRow : OpenClaim := { program := "ytnjpakhnaegdgaa", sum := "beabfce90283e8511bcd6b7e5b31ae3b17e6afdda88fd862318c244c8d3bb06e", func := "vmfleet/vmfleetlaw26.ArbiterOne", spec := "arbiterOne", apart := false, narrowed := true }
def ArbiterOneUptoSaid : Prop := arbiterOneUptoRow.holds Try.pinned (OpenSpec.upto arbiterOneSpec)

/-- 'vmfleetlaw26.ArbiterFences', WHERE WHAT IT READS IS OF BULK AT MOST 1048576: true; the input reads as it did. -/
def arbiterFencesUptoRow : OpenClaim := { program := "ytnjpakhnaegdgaa", sum := "beabfce90283e8511bcd6b7e5b31ae3b17e6afdda88fd862318c244c8d3bb06e", func := "vmfleet/vmfleetlaw26.ArbiterFences", spec := "arbiterFences", apart := false, narrowed := true }
def ArbiterFencesUptoSaid : Prop := arbiterFencesUptoRow.holds Try.pinned (OpenSpec.upto arbiterFencesSpec)

/-- 'vmfleetlaw26.ArbiterRepeats', WHERE WHAT IT READS IS OF BULK AT MOST 1048576: true; the input reads as it did. -/
def arbiterRepeatsUptoRow : OpenClaim := { program := "ytnjpakhnaegdgaa", sum := "beabfce90283e8511bcd6b7e5b31ae3b17e6afdda88fd862318c244c8d3bb06e", func := "vmfleet/vmfleetlaw26.ArbiterRepeats", spec := "arbiterRepeats", apart := false, narrowed := true }
def ArbiterRepeatsUptoSaid : Prop := arbiterRepeatsUptoRow.holds Try.pinned (OpenSpec.upto arbiterRepeatsSpec)

/-- 'vmfleetlaw23.LinkTells', WHERE WHAT IT READS IS OF BULK AT MOST 1048576: true; the input reads as it did. -/
def linkTellsUptoRow : OpenClaim := { program := "ytnjpakhnaegdgaa", sum := "beabfce90283e8511bcd6b7e5b31ae3b17e6afdda88fd862318c244c8d3bb06e", func := "vmfleet/vmfleetlaw23.LinkTells", spec := "linkTells", apart := false, narrowed := true }
def LinkTellsUptoSaid : Prop := linkTellsUptoRow.holds Try.pinned (OpenSpec.upto linkTellsSpec)

/-- 'vmfleetlaw25.CommitTells', WHERE WHAT IT READS IS OF BULK AT MOST 1048576: true; the input reads as it did. -/
def commitTellsUptoRow : OpenClaim := { program := "ytnjpakhnaegdgaa", sum := "beabfce90283e8511bcd6b7e5b31ae3b17e6afdda88fd862318c244c8d3bb06e", func := "vmfleet/vmfleetlaw25.CommitTells", spec := "commitTells", unfollowed := true, recurses := true, apart := false, narrowed := true }
def CommitTellsUptoSaid : Prop := commitTellsUptoRow.holds Try.pinned (OpenSpec.upto commitTellsSpec)

/-- 'vmfleetlaw25.CommitWaits', WHERE WHAT IT READS IS OF BULK AT MOST 1048576: true; the input reads as it did. -/
def commitWaitsUptoRow : OpenClaim := { program := "ytnjpakhnaegdgaa", sum := "beabfce90283e8511bcd6b7e5b31ae3b17e6afdda88fd862318c244c8d3bb06e", func := "vmfleet/vmfleetlaw25.CommitWaits", spec := "commitWaits", unfollowed := true, recurses := true, apart := false, narrowed := true }
def CommitWaitsUptoSaid : Prop := commitWaitsUptoRow.holds Try.pinned (OpenSpec.upto commitWaitsSpec)

/-- 'vmfleetlaw25.CommitTakes', WHERE WHAT IT READS IS OF BULK AT MOST 1048576: true; the input reads as it did. -/
def commitTakesUptoRow : OpenClaim := { program := "ytnjpakhnaegdgaa", sum := "beabfce90283e8511bcd6b7e5b31ae3b17e6afdda88fd862318c244c8d3bb06e", func := "vmfleet/vmfleetlaw25.CommitTakes", spec := "commitTakes", unfollowed := true, recurses := true, apart := false, narrowed := true }
def CommitTakesUptoSaid : Prop := commitTakesUptoRow.holds Try.pinned (OpenSpec.upto commitTakesSpec)

/-- 'vmfleetlaw25.CommitLate', WHERE WHAT IT READS IS OF BULK AT MOST 1048576: true; the input reads as it did. -/
def commitLateUptoRow : OpenClaim := { program := "ytnjpakhnaegdgaa", sum := "beabfce90283e8511bcd6b7e5b31ae3b17e6afdda88fd862318c244c8d3bb06e", func := "vmfleet/vmfleetlaw25.CommitLate", spec := "commitLate", unfollowed := true, recurses := true, apart := false, narrowed := true }
def CommitLateUptoSaid : Prop := commitLateUptoRow.holds Try.pinned (OpenSpec.upto commitLateSpec)

end Rows
end Go.Proofs.Ytnjpakhnaegdgaa
