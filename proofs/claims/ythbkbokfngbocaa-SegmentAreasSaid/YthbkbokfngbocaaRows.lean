/-
  No cell of these rows narrows 'for every input' (looked for: loops, veiled, ifaces, maps, wideKeys, modest, calm, conditions, laid).
  DERIVED. THE GIVEN ROWS OF THIS SEAT. 6 by the template 'for every input the law returns true; each argument reads behind the call as it read before'; 0 by the template 'total and deterministic' (their statements: YthbkbokfngbocaaTotals.lean).
  GIVEN WITH THE SEED: the statements are not yours to turn. If you find one false, say at which input.
  Laid BY PROGRAM, IN A SANDBOX (cutbox-rows.mjs): the forced cells as the released guide's own fill.sh prints them over the translation a3d603517e54e309… (all of the seat's roots in one cut). By AI agents, Wed Nov 11 2026. No macro, syntax, notation, axiom, sorry.
-/
import Derived.Test.YthbkbokfngbocaaChecked
import GoSem.Claim
import GoSem.ClaimJoined
import GoSem.ClaimMapViews
import Derived.JoinedTies
import Derived.KernelRfl
namespace Go.Proofs.Ythbkbokfngbocaa
/- THE CELL 'sum', in the pinned program and in every row, IS THE sha256 OF THE DUMP (.gsa) THAT YthbkbokfngbocaaProg.lean LOADS. Nothing in Lean hashes anything: it is a label: what it is worth is what the hold of that sum in a sandbox is worth. -/
noncomputable def Try.pinned : Pinned := { name := "ythbkbokfngbocaa", sum := "a3d603517e54e3093692543e1a8dad340c22dc0f538355394da28fc0c6f9842e", checked := Try.checked }
namespace Rows
def none {H : Type} : Left H := { results := [], args := [] }

/-- 'spilelaw07.SegmentWhole': WHATEVER THE INPUT: true; the input reads as it did. -/
def segmentWholeSpec : ChangeSpec := { name := "segmentWhole", fn := fun _ => fun
  | [d1, d2, d3] => { results := [.lit (.bool true)], args := [d1, d2, d3] }
  | _ => none }
def segmentWholeRow : OpenClaim := { program := "ythbkbokfngbocaa", sum := "a3d603517e54e3093692543e1a8dad340c22dc0f538355394da28fc0c6f9842e", func := "spile/spilelaw07.SegmentWhole", spec := "segmentWhole", unfollowed := true, recurses := true, apart := false }
def SegmentWholeSaid : Prop := segmentWholeRow.holds Try.pinned (OpenSpec.ofChange segmentWholeSpec)

/-- ITS FALSE NEIGHBOUR: 'it returns false'. Refute it at one input. -/
def segmentWholeWrong : ChangeSpec := { name := "segmentWhole", fn := fun _ => fun
  | [d1, d2, d3] => { results := [.lit (.bool false)], args := [d1, d2, d3] }
  | _ => none }
def SegmentWholeWrongFalsely : Prop := segmentWholeRow.holds Try.pinned (OpenSpec.ofChange segmentWholeWrong)

/-- 'spilelaw07.SegmentHeights': WHATEVER THE INPUT: true; the input reads as it did. -/
def segmentHeightsSpec : ChangeSpec := { name := "segmentHeights", fn := fun _ => fun
  | [d1, d2, d3] => { results := [.lit (.bool true)], args := [d1, d2, d3] }
  | _ => none }
def segmentHeightsRow : OpenClaim := { program := "ythbkbokfngbocaa", sum := "a3d603517e54e3093692543e1a8dad340c22dc0f538355394da28fc0c6f9842e", func := "spile/spilelaw07.SegmentHeights", spec := "segmentHeights", unfollowed := true, recurses := true, apart := false }
def SegmentHeightsSaid : Prop := segmentHeightsRow.holds Try.pinned (OpenSpec.ofChange segmentHeightsSpec)

/-- ITS FALSE NEIGHBOUR: 'it returns false'. Refute it at one input. -/
def segmentHeightsWrong : ChangeSpec := { name := "segmentHeights", fn := fun _ => fun
  | [d1, d2, d3] => { results := [.lit (.bool false)], args := [d1, d2, d3] }
  | _ => none }
def SegmentHeightsWrongFalsely : Prop := segmentHeightsRow.holds Try.pinned (OpenSpec.ofChange segmentHeightsWrong)

/-- 'spilelaw07.SegmentAreas': WHATEVER THE INPUT: true; the input reads as it did. -/
def segmentAreasSpec : ChangeSpec := { name := "segmentAreas", fn := fun _ => fun
  | [d1, d2, d3, d4] => { results := [.lit (.bool true)], args := [d1, d2, d3, d4] }
  | _ => none }
def segmentAreasRow : OpenClaim := { program := "ythbkbokfngbocaa", sum := "a3d603517e54e3093692543e1a8dad340c22dc0f538355394da28fc0c6f9842e", func := "spile/spilelaw07.SegmentAreas", spec := "segmentAreas", unfollowed := true, recurses := true, apart := false }
def SegmentAreasSaid : Prop := segmentAreasRow.holds Try.pinned (OpenSpec.ofChange segmentAreasSpec)

/-- ITS FALSE NEIGHBOUR: 'it returns false'. Refute it at one input. -/
def segmentAreasWrong : ChangeSpec := { name := "segmentAreas", fn := fun _ => fun
  | [d1, d2, d3, d4] => { results := [.lit (.bool false)], args := [d1, d2, d3, d4] }
  | _ => none }
def SegmentAreasWrongFalsely : Prop := segmentAreasRow.holds Try.pinned (OpenSpec.ofChange segmentAreasWrong)

/-- 'spilelaw07.SegmentFiner': WHATEVER THE INPUT: true; the input reads as it did. -/
def segmentFinerSpec : ChangeSpec := { name := "segmentFiner", fn := fun _ => fun
  | [d1, d2, d3] => { results := [.lit (.bool true)], args := [d1, d2, d3] }
  | _ => none }
def segmentFinerRow : OpenClaim := { program := "ythbkbokfngbocaa", sum := "a3d603517e54e3093692543e1a8dad340c22dc0f538355394da28fc0c6f9842e", func := "spile/spilelaw07.SegmentFiner", spec := "segmentFiner", unfollowed := true, recurses := true, apart := false }
def SegmentFinerSaid : Prop := segmentFinerRow.holds Try.pinned (OpenSpec.ofChange segmentFinerSpec)

/-- ITS FALSE NEIGHBOUR: 'it returns false'. Refute it at one input. -/
def segmentFinerWrong : ChangeSpec := { name := "segmentFiner", fn := fun _ => fun
  | [d1, d2, d3] => { results := [.lit (.bool false)], args := [d1, d2, d3] }
  | _ => none }
def SegmentFinerWrongFalsely : Prop := segmentFinerRow.holds Try.pinned (OpenSpec.ofChange segmentFinerWrong)

/-- 'spilelaw07.SegmentGrows': WHATEVER THE INPUT: true; the input reads as it did. -/
def segmentGrowsSpec : ChangeSpec := { name := "segmentGrows", fn := fun _ => fun
  | [d1, d2, d3, d4, d5] => { results := [.lit (.bool true)], args := [d1, d2, d3, d4, d5] }
  | _ => none }
def segmentGrowsRow : OpenClaim := { program := "ythbkbokfngbocaa", sum := "a3d603517e54e3093692543e1a8dad340c22dc0f538355394da28fc0c6f9842e", func := "spile/spilelaw07.SegmentGrows", spec := "segmentGrows", unfollowed := true, recurses := true, apart := false }
def SegmentGrowsSaid : Prop := segmentGrowsRow.holds Try.pinned (OpenSpec.ofChange segmentGrowsSpec)

/-- ITS FALSE NEIGHBOUR: 'it returns false'. Refute it at one input. -/
def segmentGrowsWrong : ChangeSpec := { name := "segmentGrows", fn := fun _ => fun
  | [d1, d2, d3, d4, d5] => { results := [.lit (.bool false)], args := [d1, d2, d3, d4, d5] }
  | _ => none }
def SegmentGrowsWrongFalsely : Prop := segmentGrowsRow.holds Try.pinned (OpenSpec.ofChange segmentGrowsWrong)

/-- 'spilelaw07.SegmentParts': WHATEVER THE INPUT: true; the input reads as it did. -/
def segmentPartsSpec : ChangeSpec := { name := "segmentParts", fn := fun _ => fun
  | [d1, d2, d3, d4] => { results := [.lit (.bool true)], args := [d1, d2, d3, d4] }
  | _ => none }
def segmentPartsRow : OpenClaim := { program := "ythbkbokfngbocaa", sum := "a3d603517e54e3093692543e1a8dad340c22dc0f538355394da28fc0c6f9842e", func := "spile/spilelaw07.SegmentParts", spec := "segmentParts", unfollowed := true, recurses := true, apart := false }
def SegmentPartsSaid : Prop := segmentPartsRow.holds Try.pinned (OpenSpec.ofChange segmentPartsSpec)

/-- ITS FALSE NEIGHBOUR: 'it returns false'. Refute it at one input. -/
def segmentPartsWrong : ChangeSpec := { name := "segmentParts", fn := fun _ => fun
  | [d1, d2, d3, d4] => { results := [.lit (.bool false)], args := [d1, d2, d3, d4] }
  | _ => none }
def SegmentPartsWrongFalsely : Prop := segmentPartsRow.holds Try.pinned (OpenSpec.ofChange segmentPartsWrong)

/- THE SECOND FORM. 'bulk': how many values and letters a reading holds, each counted each time it is reached (what is shared counts as often as it is met; a slice's spare places count too). A statement '..UptoSaid' is the law's where the arguments, and the package variables that the reading takes, are together of bulk at most 1048576: NARROWER than '..Said'. Prove '..Said' where nothing that the law and all that it calls make is longer than what came in: it says more and counts as full. Else prove '..UptoSaid'. A law counts once. -/
mutual
def uptoBulk {H : Type} : DataW H → Nat
  | .lit (.string bytes) => bytes.length + 1
  | .lit _ => 1
  | .nil => 1
  | .ptr d => uptoBulk d + 1
  | .slice elems spare => uptoBulkAll elems + uptoBulkAll spare + 1
  | .agg parts => uptoBulkAll parts + 1
  | .iface _ d => uptoBulk d + 1
  | .map entries => uptoBulkEntries entries + 1
  | .held _ => 1
def uptoBulkAll {H : Type} : List (DataW H) → Nat
  | [] => 0
  | d :: r => uptoBulk d + uptoBulkAll r
def uptoBulkEntries {H : Type} : List (Lit × DataW H) → Nat
  | [] => 0
  | x :: r => uptoBulkEntry x + uptoBulkEntries r
def uptoBulkEntry {H : Type} : Lit × DataW H → Nat
  | (.string bytes, d) => bytes.length + uptoBulk d + 1
  | (_, d) => uptoBulk d + 1
 end
def uptoSmall : (H : Type) → List (DataW H) → Bool := fun _ ds => decide (uptoBulkAll ds ≤ 1048576)
def OpenSpec.upto (s : _root_.Go.ChangeSpec) : _root_.Go.OpenSpec := { _root_.Go.OpenSpec.ofChange s with cond := some uptoSmall }

/-- 'spilelaw07.SegmentWhole', WHERE WHAT IT READS IS OF BULK AT MOST 1048576: true; the input reads as it did. -/
def segmentWholeUptoRow : OpenClaim := { program := "ythbkbokfngbocaa", sum := "a3d603517e54e3093692543e1a8dad340c22dc0f538355394da28fc0c6f9842e", func := "spile/spilelaw07.SegmentWhole", spec := "segmentWhole", unfollowed := true, recurses := true, apart := false, narrowed := true }
def SegmentWholeUptoSaid : Prop := segmentWholeUptoRow.holds Try.pinned (OpenSpec.upto segmentWholeSpec)

/-- 'spilelaw07.SegmentHeights', WHERE WHAT IT READS IS OF BULK AT MOST 1048576: true; the input reads as it did. -/
def segmentHeightsUptoRow : OpenClaim := { program := "ythbkbokfngbocaa", sum := "a3d603517e54e3093692543e1a8dad340c22dc0f538355394da28fc0c6f9842e", func := "spile/spilelaw07.SegmentHeights", spec := "segmentHeights", unfollowed := true, recurses := true, apart := false, narrowed := true }
def SegmentHeightsUptoSaid : Prop := segmentHeightsUptoRow.holds Try.pinned (OpenSpec.upto segmentHeightsSpec)

/-- 'spilelaw07.SegmentAreas', WHERE WHAT IT READS IS OF BULK AT MOST 1048576: true; the input reads as it did. -/
def segmentAreasUptoRow : OpenClaim := { program := "ythbkbokfngbocaa", sum := "a3d603517e54e3093692543e1a8dad340c22dc0f538355394da28fc0c6f9842e", func := "spile/spilelaw07.SegmentAreas", spec := "segmentAreas", unfollowed := true, recurses := true, apart := false, narrowed := true }
def SegmentAreasUptoSaid : Prop := segmentAreasUptoRow.holds Try.pinned (OpenSpec.upto segmentAreasSpec)

/-- 'spilelaw07.SegmentFiner', WHERE WHAT IT READS IS OF BULK AT MOST 1048576: true; the input reads as it did. -/
def segmentFinerUptoRow : OpenClaim := { program := "ythbkbokfngbocaa", sum := "a3d603517e54e3093692543e1a8dad340c22dc0f538355394da28fc0c6f9842e", func := "spile/spilelaw07.SegmentFiner", spec := "segmentFiner", unfollowed := true, recurses := true, apart := false, narrowed := true }
def SegmentFinerUptoSaid : Prop := segmentFinerUptoRow.holds Try.pinned (OpenSpec.upto segmentFinerSpec)

/-- 'spilelaw07.SegmentGrows', WHERE WHAT IT READS IS OF BULK AT MOST 1048576: true; the input reads as it did. -/
def segmentGrowsUptoRow : OpenClaim := { program := "ythbkbokfngbocaa", sum := "a3d603517e54e3093692543e1a8dad340c22dc0f538355394da28fc0c6f9842e", func := "spile/spilelaw07.SegmentGrows", spec := "segmentGrows", unfollowed := true, recurses := true, apart := false, narrowed := true }
def SegmentGrowsUptoSaid : Prop := segmentGrowsUptoRow.holds Try.pinned (OpenSpec.upto segmentGrowsSpec)

/-- 'spilelaw07.SegmentParts', WHERE WHAT IT READS IS OF BULK AT MOST 1048576: true; the input reads as it did. -/
def segmentPartsUptoRow : OpenClaim := { program := "ythbkbokfngbocaa", sum := "a3d603517e54e3093692543e1a8dad340c22dc0f538355394da28fc0c6f9842e", func := "spile/spilelaw07.SegmentParts", spec := "segmentParts", unfollowed := true, recurses := true, apart := false, narrowed := true }
def SegmentPartsUptoSaid : Prop := segmentPartsUptoRow.holds Try.pinned (OpenSpec.upto segmentPartsSpec)

end Rows
end Go.Proofs.Ythbkbokfngbocaa
