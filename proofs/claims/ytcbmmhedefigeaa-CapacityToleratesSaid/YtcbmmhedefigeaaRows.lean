/-
  No cell of these rows narrows 'for every input' (looked for: loops, veiled, ifaces, maps, wideKeys, modest, calm, conditions, laid).
  DERIVED. THE GIVEN ROWS OF THIS SEAT. 7 by the template 'for every input the law returns true; each argument reads behind the call as it read before'; 0 by the template 'total and deterministic' (their statements: YtcbmmhedefigeaaTotals.lean).
  GIVEN WITH THE SEED: the statements are not yours to turn. If you find one false, say at which input.
  Laid BY PROGRAM, IN A SANDBOX (cutbox-rows.mjs): the forced cells as the released guide's own fill.sh prints them over the translation a3a7b4fada2a2d2a… (all of the seat's roots in one cut). By AI agents, Wed Nov 11 2026. No macro, syntax, notation, axiom, sorry.
-/
import Derived.Test.YtcbmmhedefigeaaChecked
import GoSem.Claim
import GoSem.ClaimJoined
import GoSem.ClaimMapViews
import Derived.JoinedTies
import Derived.KernelRfl
namespace Go.Proofs.Ytcbmmhedefigeaa
/- THE CELL 'sum', in the pinned program and in every row, IS THE sha256 OF THE DUMP (.gsa) THAT YtcbmmhedefigeaaProg.lean LOADS. Nothing in Lean hashes anything: it is a label: what it is worth is what the hold of that sum in a sandbox is worth. -/
noncomputable def Try.pinned : Pinned := { name := "ytcbmmhedefigeaa", sum := "a3a7b4fada2a2d2ae9d4644e9938de79c1ece2a8c2f020bbf9b11d1f1b1b0fca", checked := Try.checked }
namespace Rows
def none {H : Type} : Left H := { results := [], args := [] }

/-- 'spilelaw10.CapacityNarrow': WHATEVER THE INPUT: true; the input reads as it did. -/
def capacityNarrowSpec : ChangeSpec := { name := "capacityNarrow", fn := fun _ => fun
  | [d1, d2] => { results := [.lit (.bool true)], args := [d1, d2] }
  | _ => none }
def capacityNarrowRow : OpenClaim := { program := "ytcbmmhedefigeaa", sum := "a3a7b4fada2a2d2ae9d4644e9938de79c1ece2a8c2f020bbf9b11d1f1b1b0fca", func := "spile/spilelaw10.CapacityNarrow", spec := "capacityNarrow", unfollowed := true, recurses := true, apart := false }
def CapacityNarrowSaid : Prop := capacityNarrowRow.holds Try.pinned (OpenSpec.ofChange capacityNarrowSpec)

/-- ITS FALSE NEIGHBOUR: 'it returns false'. Refute it at one input. -/
def capacityNarrowWrong : ChangeSpec := { name := "capacityNarrow", fn := fun _ => fun
  | [d1, d2] => { results := [.lit (.bool false)], args := [d1, d2] }
  | _ => none }
def CapacityNarrowWrongFalsely : Prop := capacityNarrowRow.holds Try.pinned (OpenSpec.ofChange capacityNarrowWrong)

/-- 'spilelaw10.CapacityCasks': WHATEVER THE INPUT: true; the input reads as it did. -/
def capacityCasksSpec : ChangeSpec := { name := "capacityCasks", fn := fun _ => fun
  | [d1, d2, d3] => { results := [.lit (.bool true)], args := [d1, d2, d3] }
  | _ => none }
def capacityCasksRow : OpenClaim := { program := "ytcbmmhedefigeaa", sum := "a3a7b4fada2a2d2ae9d4644e9938de79c1ece2a8c2f020bbf9b11d1f1b1b0fca", func := "spile/spilelaw10.CapacityCasks", spec := "capacityCasks", unfollowed := true, recurses := true, apart := false }
def CapacityCasksSaid : Prop := capacityCasksRow.holds Try.pinned (OpenSpec.ofChange capacityCasksSpec)

/-- ITS FALSE NEIGHBOUR: 'it returns false'. Refute it at one input. -/
def capacityCasksWrong : ChangeSpec := { name := "capacityCasks", fn := fun _ => fun
  | [d1, d2, d3] => { results := [.lit (.bool false)], args := [d1, d2, d3] }
  | _ => none }
def CapacityCasksWrongFalsely : Prop := capacityCasksRow.holds Try.pinned (OpenSpec.ofChange capacityCasksWrong)

/-- 'spilelaw10.CapacityTotals': WHATEVER THE INPUT: true; the input reads as it did. -/
def capacityTotalsSpec : ChangeSpec := { name := "capacityTotals", fn := fun _ => fun
  | [d] => { results := [.lit (.bool true)], args := [d] }
  | _ => none }
def capacityTotalsRow : OpenClaim := { program := "ytcbmmhedefigeaa", sum := "a3a7b4fada2a2d2ae9d4644e9938de79c1ece2a8c2f020bbf9b11d1f1b1b0fca", func := "spile/spilelaw10.CapacityTotals", spec := "capacityTotals", unfollowed := true, recurses := true, apart := false }
def CapacityTotalsSaid : Prop := capacityTotalsRow.holds Try.pinned (OpenSpec.ofChange capacityTotalsSpec)

/-- ITS FALSE NEIGHBOUR: 'it returns false'. Refute it at one input. -/
def capacityTotalsWrong : ChangeSpec := { name := "capacityTotals", fn := fun _ => fun
  | [d] => { results := [.lit (.bool false)], args := [d] }
  | _ => none }
def CapacityTotalsWrongFalsely : Prop := capacityTotalsRow.holds Try.pinned (OpenSpec.ofChange capacityTotalsWrong)

/-- 'spilelaw10.CapacityTolerates': WHATEVER THE INPUT: true; the input reads as it did. -/
def capacityToleratesSpec : ChangeSpec := { name := "capacityTolerates", fn := fun _ => fun
  | [d1, d2, d3] => { results := [.lit (.bool true)], args := [d1, d2, d3] }
  | _ => none }
def capacityToleratesRow : OpenClaim := { program := "ytcbmmhedefigeaa", sum := "a3a7b4fada2a2d2ae9d4644e9938de79c1ece2a8c2f020bbf9b11d1f1b1b0fca", func := "spile/spilelaw10.CapacityTolerates", spec := "capacityTolerates", unfollowed := true, recurses := true, apart := false }
def CapacityToleratesSaid : Prop := capacityToleratesRow.holds Try.pinned (OpenSpec.ofChange capacityToleratesSpec)

/-- ITS FALSE NEIGHBOUR: 'it returns false'. Refute it at one input. -/
def capacityToleratesWrong : ChangeSpec := { name := "capacityTolerates", fn := fun _ => fun
  | [d1, d2, d3] => { results := [.lit (.bool false)], args := [d1, d2, d3] }
  | _ => none }
def CapacityToleratesWrongFalsely : Prop := capacityToleratesRow.holds Try.pinned (OpenSpec.ofChange capacityToleratesWrong)

/-- 'spilelaw10.CapacitySpaces': WHATEVER THE INPUT: true; the input reads as it did. -/
def capacitySpacesSpec : ChangeSpec := { name := "capacitySpaces", fn := fun _ => fun
  | [d] => { results := [.lit (.bool true)], args := [d] }
  | _ => none }
def capacitySpacesRow : OpenClaim := { program := "ytcbmmhedefigeaa", sum := "a3a7b4fada2a2d2ae9d4644e9938de79c1ece2a8c2f020bbf9b11d1f1b1b0fca", func := "spile/spilelaw10.CapacitySpaces", spec := "capacitySpaces", unfollowed := true, recurses := true, apart := false }
def CapacitySpacesSaid : Prop := capacitySpacesRow.holds Try.pinned (OpenSpec.ofChange capacitySpacesSpec)

/-- ITS FALSE NEIGHBOUR: 'it returns false'. Refute it at one input. -/
def capacitySpacesWrong : ChangeSpec := { name := "capacitySpaces", fn := fun _ => fun
  | [d] => { results := [.lit (.bool false)], args := [d] }
  | _ => none }
def CapacitySpacesWrongFalsely : Prop := capacitySpacesRow.holds Try.pinned (OpenSpec.ofChange capacitySpacesWrong)

/-- 'spilelaw10.CapacityGrows': WHATEVER THE INPUT: true; the input reads as it did. -/
def capacityGrowsSpec : ChangeSpec := { name := "capacityGrows", fn := fun _ => fun
  | [d1, d2] => { results := [.lit (.bool true)], args := [d1, d2] }
  | _ => none }
def capacityGrowsRow : OpenClaim := { program := "ytcbmmhedefigeaa", sum := "a3a7b4fada2a2d2ae9d4644e9938de79c1ece2a8c2f020bbf9b11d1f1b1b0fca", func := "spile/spilelaw10.CapacityGrows", spec := "capacityGrows", unfollowed := true, recurses := true, apart := false }
def CapacityGrowsSaid : Prop := capacityGrowsRow.holds Try.pinned (OpenSpec.ofChange capacityGrowsSpec)

/-- ITS FALSE NEIGHBOUR: 'it returns false'. Refute it at one input. -/
def capacityGrowsWrong : ChangeSpec := { name := "capacityGrows", fn := fun _ => fun
  | [d1, d2] => { results := [.lit (.bool false)], args := [d1, d2] }
  | _ => none }
def CapacityGrowsWrongFalsely : Prop := capacityGrowsRow.holds Try.pinned (OpenSpec.ofChange capacityGrowsWrong)

/-- 'spilelaw10.CapacityParts': WHATEVER THE INPUT: true; the input reads as it did. -/
def capacityPartsSpec : ChangeSpec := { name := "capacityParts", fn := fun _ => fun
  | [d1, d2] => { results := [.lit (.bool true)], args := [d1, d2] }
  | _ => none }
def capacityPartsRow : OpenClaim := { program := "ytcbmmhedefigeaa", sum := "a3a7b4fada2a2d2ae9d4644e9938de79c1ece2a8c2f020bbf9b11d1f1b1b0fca", func := "spile/spilelaw10.CapacityParts", spec := "capacityParts", unfollowed := true, recurses := true, apart := false }
def CapacityPartsSaid : Prop := capacityPartsRow.holds Try.pinned (OpenSpec.ofChange capacityPartsSpec)

/-- ITS FALSE NEIGHBOUR: 'it returns false'. Refute it at one input. -/
def capacityPartsWrong : ChangeSpec := { name := "capacityParts", fn := fun _ => fun
  | [d1, d2] => { results := [.lit (.bool false)], args := [d1, d2] }
  | _ => none }
def CapacityPartsWrongFalsely : Prop := capacityPartsRow.holds Try.pinned (OpenSpec.ofChange capacityPartsWrong)

/- THE SECOND FORM. 'bulk': how many values and letters a reading holds, each counted each time it is reached (what is shared counts as often as it is met; a slice's spare places count too). A statement '..UptoSaid' is the law's where the arguments, and the package variables that the reading takes, are together of bulk at most 1048576: NARROWER than '..Said'. Prove '..Said' where nothing that the law and all that it calls make is longer than what came in: it says more and counts as full. Else prove '..UptoSaid'. A law counts once. -/
mutual
def uptoBulk {H : Type} : DataW H → Nat
  | .lit (.string bytes) => bytes.length + 1
  | .lit _ => 1
  | .nil => 1
  | .ptr d => uptoBulk d + 1
  | .slice elems spare => uptoBulkAll elems + uptoBulkAll spare + 1
  | .agg parts => uptoBulkAll parts + 1
  | .iface _ d => uptoBulk d + 1
  | .map entries => uptoBulkEntries entries + 1
  | .held _ => 1
def uptoBulkAll {H : Type} : List (DataW H) → Nat
  | [] => 0
  | d :: r => uptoBulk d + uptoBulkAll r
def uptoBulkEntries {H : Type} : List (Lit × DataW H) → Nat
  | [] => 0
  | x :: r => uptoBulkEntry x + uptoBulkEntries r
def uptoBulkEntry {H : Type} : Lit × DataW H → Nat
  | (.string bytes, d) => bytes.length + uptoBulk d + 1
  | (_, d) => uptoBulk d + 1
 end
def uptoSmall : (H : Type) → List (DataW H) → Bool := fun _ ds => decide (uptoBulkAll ds ≤ 1048576)
def OpenSpec.upto (s : _root_.Go.ChangeSpec) : _root_.Go.OpenSpec := { _root_.Go.OpenSpec.ofChange s with cond := some uptoSmall }

/-- 'spilelaw10.CapacityNarrow', WHERE WHAT IT READS IS OF BULK AT MOST 1048576: true; the input reads as it did. -/
def capacityNarrowUptoRow : OpenClaim := { program := "ytcbmmhedefigeaa", sum := "a3a7b4fada2a2d2ae9d4644e9938de79c1ece2a8c2f020bbf9b11d1f1b1b0fca", func := "spile/spilelaw10.CapacityNarrow", spec := "capacityNarrow", unfollowed := true, recurses := true, apart := false, narrowed := true }
def CapacityNarrowUptoSaid : Prop := capacityNarrowUptoRow.holds Try.pinned (OpenSpec.upto capacityNarrowSpec)

/-- 'spilelaw10.CapacityCasks', WHERE WHAT IT READS IS OF BULK AT MOST 1048576: true; the input reads as it did. -/
def capacityCasksUptoRow : OpenClaim := { program := "ytcbmmhedefigeaa", sum := "a3a7b4fada2a2d2ae9d4644e9938de79c1ece2a8c2f020bbf9b11d1f1b1b0fca", func := "spile/spilelaw10.CapacityCasks", spec := "capacityCasks", unfollowed := true, recurses := true, apart := false, narrowed := true }
def CapacityCasksUptoSaid : Prop := capacityCasksUptoRow.holds Try.pinned (OpenSpec.upto capacityCasksSpec)

/-- 'spilelaw10.CapacityTotals', WHERE WHAT IT READS IS OF BULK AT MOST 1048576: true; the input reads as it did. -/
def capacityTotalsUptoRow : OpenClaim := { program := "ytcbmmhedefigeaa", sum := "a3a7b4fada2a2d2ae9d4644e9938de79c1ece2a8c2f020bbf9b11d1f1b1b0fca", func := "spile/spilelaw10.CapacityTotals", spec := "capacityTotals", unfollowed := true, recurses := true, apart := false, narrowed := true }
def CapacityTotalsUptoSaid : Prop := capacityTotalsUptoRow.holds Try.pinned (OpenSpec.upto capacityTotalsSpec)

/-- 'spilelaw10.CapacityTolerates', WHERE WHAT IT READS IS OF BULK AT MOST 1048576: true; the input reads as it did. -/
def capacityToleratesUptoRow : OpenClaim := { program := "ytcbmmhedefigeaa", sum := "a3a7b4fada2a2d2ae9d4644e9938de79c1ece2a8c2f020bbf9b11d1f1b1b0fca", func := "spile/spilelaw10.CapacityTolerates", spec := "capacityTolerates", unfollowed := true, recurses := true, apart := false, narrowed := true }
def CapacityToleratesUptoSaid : Prop := capacityToleratesUptoRow.holds Try.pinned (OpenSpec.upto capacityToleratesSpec)

/-- 'spilelaw10.CapacitySpaces', WHERE WHAT IT READS IS OF BULK AT MOST 1048576: true; the input reads as it did. -/
def capacitySpacesUptoRow : OpenClaim := { program := "ytcbmmhedefigeaa", sum := "a3a7b4fada2a2d2ae9d4644e9938de79c1ece2a8c2f020bbf9b11d1f1b1b0fca", func := "spile/spilelaw10.CapacitySpaces", spec := "capacitySpaces", unfollowed := true, recurses := true, apart := false, narrowed := true }
def CapacitySpacesUptoSaid : Prop := capacitySpacesUptoRow.holds Try.pinned (OpenSpec.upto capacitySpacesSpec)

/-- 'spilelaw10.CapacityGrows', WHERE WHAT IT READS IS OF BULK AT MOST 1048576: true; the input reads as it did. -/
def capacityGrowsUptoRow : OpenClaim := { program := "ytcbmmhedefigeaa", sum := "a3a7b4fada2a2d2ae9d4644e9938de79c1ece2a8c2f020bbf9b11d1f1b1b0fca", func := "spile/spilelaw10.CapacityGrows", spec := "capacityGrows", unfollowed := true, recurses := true, apart := false, narrowed := true }
def CapacityGrowsUptoSaid : Prop := capacityGrowsUptoRow.holds Try.pinned (OpenSpec.upto capacityGrowsSpec)

/-- 'spilelaw10.CapacityParts', WHERE WHAT IT READS IS OF BULK AT MOST 1048576: true; the input reads as it did. -/
def capacityPartsUptoRow : OpenClaim := { program := "ytcbmmhedefigeaa", sum := "a3a7b4fada2a2d2ae9d4644e9938de79c1ece2a8c2f020bbf9b11d1f1b1b0fca", func := "spile/spilelaw10.CapacityParts", spec := "capacityParts", unfollowed := true, recurses := true, apart := false, narrowed := true }
def CapacityPartsUptoSaid : Prop := capacityPartsUptoRow.holds Try.pinned (OpenSpec.upto capacityPartsSpec)

end Rows
end Go.Proofs.Ytcbmmhedefigeaa
