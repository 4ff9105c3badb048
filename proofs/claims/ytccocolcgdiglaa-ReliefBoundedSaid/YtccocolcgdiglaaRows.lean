/-
  No cell of these rows narrows 'for every input' (looked for: loops, veiled, ifaces, maps, wideKeys, modest, calm, conditions, laid).
  DERIVED. THE GIVEN ROWS OF THIS SEAT. 7 by the template 'for every input the law returns true; each argument reads behind the call as it read before'; 0 by the template 'total and deterministic' (their statements: YtccocolcgdiglaaTotals.lean).
  GIVEN WITH THE SEED: the statements are not yours to turn. If you find one false, say at which input.
  Laid BY PROGRAM, IN A SANDBOX (cutbox-rows.mjs): the forced cells as the released guide's own fill.sh prints them over the translation ddfb4dc3a93f43a9… (all of the seat's roots in one cut). By AI agents, Wed Nov 11 2026. No macro, syntax, notation, axiom, sorry.
-/
import Derived.Test.YtccocolcgdiglaaChecked
import GoSem.Claim
import GoSem.ClaimJoined
import GoSem.ClaimMapViews
import Derived.JoinedTies
import Derived.KernelRfl
namespace Go.Proofs.Ytccocolcgdiglaa
/- THE CELL 'sum', in the pinned program and in every row, IS THE sha256 OF THE DUMP (.gsa) THAT YtccocolcgdiglaaProg.lean LOADS. Nothing in Lean hashes anything: it is a label: what it is worth is what the hold of that sum in a sandbox is worth. -/
noncomputable def Try.pinned : Pinned := { name := "ytccocolcgdiglaa", sum := "ddfb4dc3a93f43a9994ea842f55490a7ff7fc054a88682d3a17602fbde5bfbb4", checked := Try.checked }
namespace Rows
def none {H : Type} : Left H := { results := [], args := [] }

/-- 'spilelaw47.ReliefGreatest': WHATEVER THE INPUT: true; the input reads as it did. -/
def reliefGreatestSpec : ChangeSpec := { name := "reliefGreatest", fn := fun _ => fun
  | [d1, d2, d3] => { results := [.lit (.bool true)], args := [d1, d2, d3] }
  | _ => none }
def reliefGreatestRow : OpenClaim := { program := "ytccocolcgdiglaa", sum := "ddfb4dc3a93f43a9994ea842f55490a7ff7fc054a88682d3a17602fbde5bfbb4", func := "spile/spilelaw47.ReliefGreatest", spec := "reliefGreatest", unfollowed := true, recurses := true, apart := false }
def ReliefGreatestSaid : Prop := reliefGreatestRow.holds Try.pinned (OpenSpec.ofChange reliefGreatestSpec)

/-- ITS FALSE NEIGHBOUR: 'it returns false'. Refute it at one input. -/
def reliefGreatestWrong : ChangeSpec := { name := "reliefGreatest", fn := fun _ => fun
  | [d1, d2, d3] => { results := [.lit (.bool false)], args := [d1, d2, d3] }
  | _ => none }
def ReliefGreatestWrongFalsely : Prop := reliefGreatestRow.holds Try.pinned (OpenSpec.ofChange reliefGreatestWrong)

/-- 'spilelaw47.ReliefChecks': WHATEVER THE INPUT: true; the input reads as it did. -/
def reliefChecksSpec : ChangeSpec := { name := "reliefChecks", fn := fun _ => fun
  | [d1, d2, d3, d4] => { results := [.lit (.bool true)], args := [d1, d2, d3, d4] }
  | _ => none }
def reliefChecksRow : OpenClaim := { program := "ytccocolcgdiglaa", sum := "ddfb4dc3a93f43a9994ea842f55490a7ff7fc054a88682d3a17602fbde5bfbb4", func := "spile/spilelaw47.ReliefChecks", spec := "reliefChecks", unfollowed := true, recurses := true, apart := false }
def ReliefChecksSaid : Prop := reliefChecksRow.holds Try.pinned (OpenSpec.ofChange reliefChecksSpec)

/-- ITS FALSE NEIGHBOUR: 'it returns false'. Refute it at one input. -/
def reliefChecksWrong : ChangeSpec := { name := "reliefChecks", fn := fun _ => fun
  | [d1, d2, d3, d4] => { results := [.lit (.bool false)], args := [d1, d2, d3, d4] }
  | _ => none }
def ReliefChecksWrongFalsely : Prop := reliefChecksRow.holds Try.pinned (OpenSpec.ofChange reliefChecksWrong)

/-- 'spilelaw47.ReliefGrants': WHATEVER THE INPUT: true; the input reads as it did. -/
def reliefGrantsSpec : ChangeSpec := { name := "reliefGrants", fn := fun _ => fun
  | [d1, d2, d3] => { results := [.lit (.bool true)], args := [d1, d2, d3] }
  | _ => none }
def reliefGrantsRow : OpenClaim := { program := "ytccocolcgdiglaa", sum := "ddfb4dc3a93f43a9994ea842f55490a7ff7fc054a88682d3a17602fbde5bfbb4", func := "spile/spilelaw47.ReliefGrants", spec := "reliefGrants", unfollowed := true, recurses := true, apart := false }
def ReliefGrantsSaid : Prop := reliefGrantsRow.holds Try.pinned (OpenSpec.ofChange reliefGrantsSpec)

/-- ITS FALSE NEIGHBOUR: 'it returns false'. Refute it at one input. -/
def reliefGrantsWrong : ChangeSpec := { name := "reliefGrants", fn := fun _ => fun
  | [d1, d2, d3] => { results := [.lit (.bool false)], args := [d1, d2, d3] }
  | _ => none }
def ReliefGrantsWrongFalsely : Prop := reliefGrantsRow.holds Try.pinned (OpenSpec.ofChange reliefGrantsWrong)

/-- 'spilelaw47.ReliefChoice': WHATEVER THE INPUT: true; the input reads as it did. -/
def reliefChoiceSpec : ChangeSpec := { name := "reliefChoice", fn := fun _ => fun
  | [d1, d2, d3] => { results := [.lit (.bool true)], args := [d1, d2, d3] }
  | _ => none }
def reliefChoiceRow : OpenClaim := { program := "ytccocolcgdiglaa", sum := "ddfb4dc3a93f43a9994ea842f55490a7ff7fc054a88682d3a17602fbde5bfbb4", func := "spile/spilelaw47.ReliefChoice", spec := "reliefChoice", unfollowed := true, recurses := true, apart := false }
def ReliefChoiceSaid : Prop := reliefChoiceRow.holds Try.pinned (OpenSpec.ofChange reliefChoiceSpec)

/-- ITS FALSE NEIGHBOUR: 'it returns false'. Refute it at one input. -/
def reliefChoiceWrong : ChangeSpec := { name := "reliefChoice", fn := fun _ => fun
  | [d1, d2, d3] => { results := [.lit (.bool false)], args := [d1, d2, d3] }
  | _ => none }
def ReliefChoiceWrongFalsely : Prop := reliefChoiceRow.holds Try.pinned (OpenSpec.ofChange reliefChoiceWrong)

/-- 'spilelaw47.ReliefBounded': WHATEVER THE INPUT: true; the input reads as it did. -/
def reliefBoundedSpec : ChangeSpec := { name := "reliefBounded", fn := fun _ => fun
  | [d1, d2] => { results := [.lit (.bool true)], args := [d1, d2] }
  | _ => none }
def reliefBoundedRow : OpenClaim := { program := "ytccocolcgdiglaa", sum := "ddfb4dc3a93f43a9994ea842f55490a7ff7fc054a88682d3a17602fbde5bfbb4", func := "spile/spilelaw47.ReliefBounded", spec := "reliefBounded", unfollowed := true, recurses := true, apart := false }
def ReliefBoundedSaid : Prop := reliefBoundedRow.holds Try.pinned (OpenSpec.ofChange reliefBoundedSpec)

/-- ITS FALSE NEIGHBOUR: 'it returns false'. Refute it at one input. -/
def reliefBoundedWrong : ChangeSpec := { name := "reliefBounded", fn := fun _ => fun
  | [d1, d2] => { results := [.lit (.bool false)], args := [d1, d2] }
  | _ => none }
def ReliefBoundedWrongFalsely : Prop := reliefBoundedRow.holds Try.pinned (OpenSpec.ofChange reliefBoundedWrong)

/-- 'spilelaw47.ReliefEarlier': WHATEVER THE INPUT: true; the input reads as it did. -/
def reliefEarlierSpec : ChangeSpec := { name := "reliefEarlier", fn := fun _ => fun
  | [d1, d2, d3, d4] => { results := [.lit (.bool true)], args := [d1, d2, d3, d4] }
  | _ => none }
def reliefEarlierRow : OpenClaim := { program := "ytccocolcgdiglaa", sum := "ddfb4dc3a93f43a9994ea842f55490a7ff7fc054a88682d3a17602fbde5bfbb4", func := "spile/spilelaw47.ReliefEarlier", spec := "reliefEarlier", unfollowed := true, recurses := true, apart := false }
def ReliefEarlierSaid : Prop := reliefEarlierRow.holds Try.pinned (OpenSpec.ofChange reliefEarlierSpec)

/-- ITS FALSE NEIGHBOUR: 'it returns false'. Refute it at one input. -/
def reliefEarlierWrong : ChangeSpec := { name := "reliefEarlier", fn := fun _ => fun
  | [d1, d2, d3, d4] => { results := [.lit (.bool false)], args := [d1, d2, d3, d4] }
  | _ => none }
def ReliefEarlierWrongFalsely : Prop := reliefEarlierRow.holds Try.pinned (OpenSpec.ofChange reliefEarlierWrong)

/-- 'spilelaw47.ReliefWhole': WHATEVER THE INPUT: true; the input reads as it did. -/
def reliefWholeSpec : ChangeSpec := { name := "reliefWhole", fn := fun _ => fun
  | [d1, d2, d3] => { results := [.lit (.bool true)], args := [d1, d2, d3] }
  | _ => none }
def reliefWholeRow : OpenClaim := { program := "ytccocolcgdiglaa", sum := "ddfb4dc3a93f43a9994ea842f55490a7ff7fc054a88682d3a17602fbde5bfbb4", func := "spile/spilelaw47.ReliefWhole", spec := "reliefWhole", unfollowed := true, recurses := true, apart := false }
def ReliefWholeSaid : Prop := reliefWholeRow.holds Try.pinned (OpenSpec.ofChange reliefWholeSpec)

/-- ITS FALSE NEIGHBOUR: 'it returns false'. Refute it at one input. -/
def reliefWholeWrong : ChangeSpec := { name := "reliefWhole", fn := fun _ => fun
  | [d1, d2, d3] => { results := [.lit (.bool false)], args := [d1, d2, d3] }
  | _ => none }
def ReliefWholeWrongFalsely : Prop := reliefWholeRow.holds Try.pinned (OpenSpec.ofChange reliefWholeWrong)

/- THE SECOND FORM. 'bulk': how many values and letters a reading holds, each counted each time it is reached (what is shared counts as often as it is met; a slice's spare places count too). A statement '..UptoSaid' is the law's where the arguments, and the package variables that the reading takes, are together of bulk at most 1048576: NARROWER than '..Said'. Prove '..Said' where nothing that the law and all that it calls make is longer than what came in: it says more and counts as full. Else prove '..UptoSaid'. A law counts once. -/
mutual
def uptoBulk {H : Type} : DataW H → Nat
  | .lit (.string bytes) => bytes.length + 1
  | .lit _ => 1
  | .nil => 1
  | .ptr d => uptoBulk d + 1
  | .slice elems spare => uptoBulkAll elems + uptoBulkAll spare + 1
  | .agg parts => uptoBulkAll parts + 1
  | .iface _ d => uptoBulk d + 1
  | .map entries => uptoBulkEntries entries + 1
  | .held _ => 1
def uptoBulkAll {H : Type} : List (DataW H) → Nat
  | [] => 0
  | d :: r => uptoBulk d + uptoBulkAll r
def uptoBulkEntries {H : Type} : List (Lit × DataW H) → Nat
  | [] => 0
  | x :: r => uptoBulkEntry x + uptoBulkEntries r
def uptoBulkEntry {H : Type} : Lit × DataW H → Nat
  | (.string bytes, d) => bytes.length + uptoBulk d + 1
  | (_, d) => uptoBulk d + 1
 end
def uptoSmall : (H : Type) → List (DataW H) → Bool := fun _ ds => decide (uptoBulkAll ds ≤ 1048576)
def OpenSpec.upto (s : _root_.Go.ChangeSpec) : _root_.Go.OpenSpec := { _root_.Go.OpenSpec.ofChange s with cond := some uptoSmall }

/-- 'spilelaw47.ReliefGreatest', WHERE WHAT IT READS IS OF BULK AT MOST 1048576: true; the input reads as it did. -/
def reliefGreatestUptoRow : OpenClaim := { program := "ytccocolcgdiglaa", sum := "ddfb4dc3a93f43a9994ea842f55490a7ff7fc054a88682d3a17602fbde5bfbb4", func := "spile/spilelaw47.ReliefGreatest", spec := "reliefGreatest", unfollowed := true, recurses := true, apart := false, narrowed := true }
def ReliefGreatestUptoSaid : Prop := reliefGreatestUptoRow.holds Try.pinned (OpenSpec.upto reliefGreatestSpec)

/-- 'spilelaw47.ReliefChecks', WHERE WHAT IT READS IS OF BULK AT MOST 1048576: true; the input reads as it did. -/
def reliefChecksUptoRow : OpenClaim := { program := "ytccocolcgdiglaa", sum := "ddfb4dc3a93f43a9994ea842f55490a7ff7fc054a88682d3a17602fbde5bfbb4", func := "spile/spilelaw47.ReliefChecks", spec := "reliefChecks", unfollowed := true, recurses := true, apart := false, narrowed := true }
def ReliefChecksUptoSaid : Prop := reliefChecksUptoRow.holds Try.pinned (OpenSpec.upto reliefChecksSpec)

/-- 'spilelaw47.ReliefGrants', WHERE WHAT IT READS IS OF BULK AT MOST 1048576: true; the input reads as it did. -/
def reliefGrantsUptoRow : OpenClaim := { program := "ytccocolcgdiglaa", sum := "ddfb4dc3a93f43a9994ea842f55490a7ff7fc054a88682d3a17602fbde5bfbb4", func := "spile/spilelaw47.ReliefGrants", spec := "reliefGrants", unfollowed := true, recurses := true, apart := false, narrowed := true }
def ReliefGrantsUptoSaid : Prop := reliefGrantsUptoRow.holds Try.pinned (OpenSpec.upto reliefGrantsSpec)

/-- 'spilelaw47.ReliefChoice', WHERE WHAT IT READS IS OF BULK AT MOST 1048576: true; the input reads as it did. -/
def reliefChoiceUptoRow : OpenClaim := { program := "ytccocolcgdiglaa", sum := "ddfb4dc3a93f43a9994ea842f55490a7ff7fc054a88682d3a17602fbde5bfbb4", func := "spile/spilelaw47.ReliefChoice", spec := "reliefChoice", unfollowed := true, recurses := true, apart := false, narrowed := true }
def ReliefChoiceUptoSaid : Prop := reliefChoiceUptoRow.holds Try.pinned (OpenSpec.upto reliefChoiceSpec)

/-- 'spilelaw47.ReliefBounded', WHERE WHAT IT READS IS OF BULK AT MOST 1048576: true; the input reads as it did. -/
def reliefBoundedUptoRow : OpenClaim := { program := "ytccocolcgdiglaa", sum := "ddfb4dc3a93f43a9994ea842f55490a7ff7fc054a88682d3a17602fbde5bfbb4", func := "spile/spilelaw47.ReliefBounded", spec := "reliefBounded", unfollowed := true, recurses := true, apart := false, narrowed := true }
def ReliefBoundedUptoSaid : Prop := reliefBoundedUptoRow.holds Try.pinned (OpenSpec.upto reliefBoundedSpec)

/-- 'spilelaw47.ReliefEarlier', WHERE WHAT IT READS IS OF BULK AT MOST 1048576: true; the input reads as it did. -/
def reliefEarlierUptoRow : OpenClaim := { program := "ytccocolcgdiglaa", sum := "ddfb4dc3a93f43a9994ea842f55490a7ff7fc054a88682d3a17602fbde5bfbb4", func := "spile/spilelaw47.ReliefEarlier", spec := "reliefEarlier", unfollowed := true, recurses := true, apart := false, narrowed := true }
def ReliefEarlierUptoSaid : Prop := reliefEarlierUptoRow.holds Try.pinned (OpenSpec.upto reliefEarlierSpec)

/-- 'spilelaw47.ReliefWhole', WHERE WHAT IT READS IS OF BULK AT MOST 1048576: true; the input reads as it did. -/
def reliefWholeUptoRow : OpenClaim := { program := "ytccocolcgdiglaa", sum := "ddfb4dc3a93f43a9994ea842f55490a7ff7fc054a88682d3a17602fbde5bfbb4", func := "spile/spilelaw47.ReliefWhole", spec := "reliefWhole", unfollowed := true, recurses := true, apart := false, narrowed := true }
def ReliefWholeUptoSaid : Prop := reliefWholeUptoRow.holds Try.pinned (OpenSpec.upto reliefWholeSpec)

end Rows
end Go.Proofs.Ytccocolcgdiglaa
