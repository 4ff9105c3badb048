/-
  No cell of these rows narrows 'for every input' (looked for: loops, veiled, ifaces, maps, wideKeys, modest, calm, conditions, laid).
  DERIVED. THE GIVEN ROWS OF THIS SEAT. 6 by the template 'for every input the law returns true; each argument reads behind the call as it read before'; 0 by the template 'total and deterministic' (their statements: YtkhphphfnjmabaaTotals.lean).
  GIVEN WITH THE SEED: the statements are not yours to turn. If you find one false, say at which input.
  Laid BY PROGRAM, IN A SANDBOX (cutbox-rows.mjs): the forced cells as the released guide's own fill.sh prints them over the translation 337894e818b7f11d… (all of the seat's roots in one cut). By AI agents, Wed Nov 11 2026. No macro, syntax, notation, axiom, sorry.
-/
import Derived.Test.YtkhphphfnjmabaaChecked
import GoSem.Claim
import GoSem.ClaimJoined
import GoSem.ClaimMapViews
import Derived.JoinedTies
import Derived.KernelRfl
namespace Go.Proofs.Ytkhphphfnjmabaa
/- THE CELL 'sum', in the pinned program and in every row, IS THE sha256 OF THE DUMP (.gsa) THAT YtkhphphfnjmabaaProg.lean LOADS. Nothing in Lean hashes anything: it is a label: what it is worth is what the hold of that sum in a sandbox is worth. -/
noncomputable def Try.pinned : Pinned := { name := "ytkhphphfnjmabaa", sum := "337894e818b7f11d5bd4ab53de86450e28a18f1080497dfe2cb9c590a06c984f", checked := Try.checked }
namespace Rows
def none {H : Type} : Left H := { results := [], args := [] }

/-- 'spilelaw06.RootNumbers': WHATEVER THE INPUT: true; the input reads as it did. -/
def rootNumbersSpec : ChangeSpec := { name := "rootNumbers", fn := fun _ => fun
  | [d1, d2] => { results := [.lit (.bool true)], args := [d1, d2] }
  | _ => none }
def rootNumbersRow : OpenClaim := { program := "ytkhphphfnjmabaa", sum := "337894e818b7f11d5bd4ab53de86450e28a18f1080497dfe2cb9c590a06c984f", func := "spile/spilelaw06.RootNumbers", spec := "rootNumbers", apart := false }
def RootNumbersSaid : Prop := rootNumbersRow.holds Try.pinned (OpenSpec.ofChange rootNumbersSpec)

/-- ITS FALSE NEIGHBOUR: 'it returns false'. Refute it at one input. -/
def rootNumbersWrong : ChangeSpec := { name := "rootNumbers", fn := fun _ => fun
  | [d1, d2] => { results := [.lit (.bool false)], args := [d1, d2] }
  | _ => none }
def RootNumbersWrongFalsely : Prop := rootNumbersRow.holds Try.pinned (OpenSpec.ofChange rootNumbersWrong)

/-- 'spilelaw06.RootChords': WHATEVER THE INPUT: true; the input reads as it did. -/
def rootChordsSpec : ChangeSpec := { name := "rootChords", fn := fun _ => fun
  | [d1, d2] => { results := [.lit (.bool true)], args := [d1, d2] }
  | _ => none }
def rootChordsRow : OpenClaim := { program := "ytkhphphfnjmabaa", sum := "337894e818b7f11d5bd4ab53de86450e28a18f1080497dfe2cb9c590a06c984f", func := "spile/spilelaw06.RootChords", spec := "rootChords", apart := false }
def RootChordsSaid : Prop := rootChordsRow.holds Try.pinned (OpenSpec.ofChange rootChordsSpec)

/-- ITS FALSE NEIGHBOUR: 'it returns false'. Refute it at one input. -/
def rootChordsWrong : ChangeSpec := { name := "rootChords", fn := fun _ => fun
  | [d1, d2] => { results := [.lit (.bool false)], args := [d1, d2] }
  | _ => none }
def RootChordsWrongFalsely : Prop := rootChordsRow.holds Try.pinned (OpenSpec.ofChange rootChordsWrong)

/-- 'spilelaw06.RootBetween': WHATEVER THE INPUT: true; the input reads as it did. -/
def rootBetweenSpec : ChangeSpec := { name := "rootBetween", fn := fun _ => fun
  | [d] => { results := [.lit (.bool true)], args := [d] }
  | _ => none }
def rootBetweenRow : OpenClaim := { program := "ytkhphphfnjmabaa", sum := "337894e818b7f11d5bd4ab53de86450e28a18f1080497dfe2cb9c590a06c984f", func := "spile/spilelaw06.RootBetween", spec := "rootBetween", apart := false }
def RootBetweenSaid : Prop := rootBetweenRow.holds Try.pinned (OpenSpec.ofChange rootBetweenSpec)

/-- ITS FALSE NEIGHBOUR: 'it returns false'. Refute it at one input. -/
def rootBetweenWrong : ChangeSpec := { name := "rootBetween", fn := fun _ => fun
  | [d] => { results := [.lit (.bool false)], args := [d] }
  | _ => none }
def RootBetweenWrongFalsely : Prop := rootBetweenRow.holds Try.pinned (OpenSpec.ofChange rootBetweenWrong)

/-- 'spilelaw06.RootFolds': WHATEVER THE INPUT: true; the input reads as it did. -/
def rootFoldsSpec : ChangeSpec := { name := "rootFolds", fn := fun _ => fun
  | [d1, d2] => { results := [.lit (.bool true)], args := [d1, d2] }
  | _ => none }
def rootFoldsRow : OpenClaim := { program := "ytkhphphfnjmabaa", sum := "337894e818b7f11d5bd4ab53de86450e28a18f1080497dfe2cb9c590a06c984f", func := "spile/spilelaw06.RootFolds", spec := "rootFolds", apart := false }
def RootFoldsSaid : Prop := rootFoldsRow.holds Try.pinned (OpenSpec.ofChange rootFoldsSpec)

/-- ITS FALSE NEIGHBOUR: 'it returns false'. Refute it at one input. -/
def rootFoldsWrong : ChangeSpec := { name := "rootFolds", fn := fun _ => fun
  | [d1, d2] => { results := [.lit (.bool false)], args := [d1, d2] }
  | _ => none }
def RootFoldsWrongFalsely : Prop := rootFoldsRow.holds Try.pinned (OpenSpec.ofChange rootFoldsWrong)

/-- 'spilelaw06.RootGrows': WHATEVER THE INPUT: true; the input reads as it did. -/
def rootGrowsSpec : ChangeSpec := { name := "rootGrows", fn := fun _ => fun
  | [d1, d2, d3, d4] => { results := [.lit (.bool true)], args := [d1, d2, d3, d4] }
  | _ => none }
def rootGrowsRow : OpenClaim := { program := "ytkhphphfnjmabaa", sum := "337894e818b7f11d5bd4ab53de86450e28a18f1080497dfe2cb9c590a06c984f", func := "spile/spilelaw06.RootGrows", spec := "rootGrows", apart := false }
def RootGrowsSaid : Prop := rootGrowsRow.holds Try.pinned (OpenSpec.ofChange rootGrowsSpec)

/-- ITS FALSE NEIGHBOUR: 'it returns false'. Refute it at one input. -/
def rootGrowsWrong : ChangeSpec := { name := "rootGrows", fn := fun _ => fun
  | [d1, d2, d3, d4] => { results := [.lit (.bool false)], args := [d1, d2, d3, d4] }
  | _ => none }
def RootGrowsWrongFalsely : Prop := rootGrowsRow.holds Try.pinned (OpenSpec.ofChange rootGrowsWrong)

/-- 'spilelaw06.RootCircle': WHATEVER THE INPUT: true; the input reads as it did. -/
def rootCircleSpec : ChangeSpec := { name := "rootCircle", fn := fun _ => fun
  | [d1, d2] => { results := [.lit (.bool true)], args := [d1, d2] }
  | _ => none }
def rootCircleRow : OpenClaim := { program := "ytkhphphfnjmabaa", sum := "337894e818b7f11d5bd4ab53de86450e28a18f1080497dfe2cb9c590a06c984f", func := "spile/spilelaw06.RootCircle", spec := "rootCircle", apart := false }
def RootCircleSaid : Prop := rootCircleRow.holds Try.pinned (OpenSpec.ofChange rootCircleSpec)

/-- ITS FALSE NEIGHBOUR: 'it returns false'. Refute it at one input. -/
def rootCircleWrong : ChangeSpec := { name := "rootCircle", fn := fun _ => fun
  | [d1, d2] => { results := [.lit (.bool false)], args := [d1, d2] }
  | _ => none }
def RootCircleWrongFalsely : Prop := rootCircleRow.holds Try.pinned (OpenSpec.ofChange rootCircleWrong)

/- THE SECOND FORM. 'bulk': how many values and letters a reading holds, each counted each time it is reached (what is shared counts as often as it is met; a slice's spare places count too). A statement '..UptoSaid' is the law's where the arguments, and the package variables that the reading takes, are together of bulk at most 1048576: NARROWER than '..Said'. Prove '..Said' where nothing that the law and all that it calls make is longer than what came in: it says more and counts as full. Else prove '..UptoSaid'. A law counts once. -/
mutual
def uptoBulk {H : Type} : DataW H → Nat
  | .lit (.string bytes) => bytes.length + 1
  | .lit _ => 1
  | .nil => 1
  | .ptr d => uptoBulk d + 1
  | .slice elems spare => uptoBulkAll elems + uptoBulkAll spare + 1
  | .agg parts => uptoBulkAll parts + 1
  | .iface _ d => uptoBulk d + 1
  | .map entries => uptoBulkEntries entries + 1
  | .held _ => 1
def uptoBulkAll {H : Type} : List (DataW H) → Nat
  | [] => 0
  | d :: r => uptoBulk d + uptoBulkAll r
def uptoBulkEntries {H : Type} : List (Lit × DataW H) → Nat
  | [] => 0
  | x :: r => uptoBulkEntry x + uptoBulkEntries r
def uptoBulkEntry {H : Type} : Lit × DataW H → Nat
  | (.string bytes, d) => bytes.length + uptoBulk d + 1
  | (_, d) => uptoBulk d + 1
 end
def uptoSmall : (H : Type) → List (DataW H) → Bool := fun _ ds => decide (uptoBulkAll ds ≤ 1048576)
def OpenSpec.upto (s : _root_.Go.ChangeSpec) : _root_.Go.OpenSpec := { _root_.Go.OpenSpec.ofChange s with cond := some uptoSmall }

/-- 'spilelaw06.RootNumbers', WHERE WHAT IT READS IS OF BULK AT MOST 1048576: true; the input reads as it did. -/
def rootNumbersUptoRow : OpenClaim := { program := "ytkhphphfnjmabaa", sum := "337894e818b7f11d5bd4ab53de86450e28a18f1080497dfe2cb9c590a06c984f", func := "spile/spilelaw06.RootNumbers", spec := "rootNumbers", apart := false, narrowed := true }
def RootNumbersUptoSaid : Prop := rootNumbersUptoRow.holds Try.pinned (OpenSpec.upto rootNumbersSpec)

/-- 'spilelaw06.RootChords', WHERE WHAT IT READS IS OF BULK AT MOST 1048576: true; the input reads as it did. -/
def rootChordsUptoRow : OpenClaim := { program := "ytkhphphfnjmabaa", sum := "337894e818b7f11d5bd4ab53de86450e28a18f1080497dfe2cb9c590a06c984f", func := "spile/spilelaw06.RootChords", spec := "rootChords", apart := false, narrowed := true }
def RootChordsUptoSaid : Prop := rootChordsUptoRow.holds Try.pinned (OpenSpec.upto rootChordsSpec)

/-- 'spilelaw06.RootBetween', WHERE WHAT IT READS IS OF BULK AT MOST 1048576: true; the input reads as it did. -/
def rootBetweenUptoRow : OpenClaim := { program := "ytkhphphfnjmabaa", sum := "337894e818b7f11d5bd4ab53de86450e28a18f1080497dfe2cb9c590a06c984f", func := "spile/spilelaw06.RootBetween", spec := "rootBetween", apart := false, narrowed := true }
def RootBetweenUptoSaid : Prop := rootBetweenUptoRow.holds Try.pinned (OpenSpec.upto rootBetweenSpec)

/-- 'spilelaw06.RootFolds', WHERE WHAT IT READS IS OF BULK AT MOST 1048576: true; the input reads as it did. -/
def rootFoldsUptoRow : OpenClaim := { program := "ytkhphphfnjmabaa", sum := "337894e818b7f11d5bd4ab53de86450e28a18f1080497dfe2cb9c590a06c984f", func := "spile/spilelaw06.RootFolds", spec := "rootFolds", apart := false, narrowed := true }
def RootFoldsUptoSaid : Prop := rootFoldsUptoRow.holds Try.pinned (OpenSpec.upto rootFoldsSpec)

/-- 'spilelaw06.RootGrows', WHERE WHAT IT READS IS OF BULK AT MOST 1048576: true; the input reads as it did. -/
def rootGrowsUptoRow : OpenClaim := { program := "ytkhphphfnjmabaa", sum := "337894e818b7f11d5bd4ab53de86450e28a18f1080497dfe2cb9c590a06c984f", func := "spile/spilelaw06.RootGrows", spec := "rootGrows", apart := false, narrowed := true }
def RootGrowsUptoSaid : Prop := rootGrowsUptoRow.holds Try.pinned (OpenSpec.upto rootGrowsSpec)

/-- 'spilelaw06.RootCircle', WHERE WHAT IT READS IS OF BULK AT MOST 1048576: true; the input reads as it did. -/
def rootCircleUptoRow : OpenClaim := { program := "ytkhphphfnjmabaa", sum := "337894e818b7f11d5bd4ab53de86450e28a18f1080497dfe2cb9c590a06c984f", func := "spile/spilelaw06.RootCircle", spec := "rootCircle", apart := false, narrowed := true }
def RootCircleUptoSaid : Prop := rootCircleUptoRow.holds Try.pinned (OpenSpec.upto rootCircleSpec)

end Rows
end Go.Proofs.Ytkhphphfnjmabaa
