/-
  No cell of these rows narrows 'for every input' (looked for: loops, veiled, ifaces, maps, wideKeys, modest, calm, conditions, laid).
  DERIVED. THE GIVEN ROWS OF THIS SEAT. 6 by the template 'for every input the law returns true; each argument reads behind the call as it read before'; 0 by the template 'total and deterministic' (their statements: YtdomdddponkmhaaTotals.lean).
  GIVEN WITH THE SEED: the statements are not yours to turn. If you find one false, say at which input.
  Laid BY PROGRAM, IN A SANDBOX (cutbox-rows.mjs): the forced cells as the released guide's own fill.sh prints them over the translation e42a3759984b6b61… (all of the seat's roots in one cut). By AI agents, Wed Nov 11 2026. No macro, syntax, notation, axiom, sorry.
-/
import Derived.Test.YtdomdddponkmhaaChecked
import GoSem.Claim
import GoSem.ClaimJoined
import GoSem.ClaimMapViews
import Derived.JoinedTies
import Derived.KernelRfl
namespace Go.Proofs.Ytdomdddponkmhaa
/- THE CELL 'sum', in the pinned program and in every row, IS THE sha256 OF THE DUMP (.gsa) THAT YtdomdddponkmhaaProg.lean LOADS. Nothing in Lean hashes anything: it is a label: what it is worth is what the hold of that sum in a sandbox is worth. -/
noncomputable def Try.pinned : Pinned := { name := "ytdomdddponkmhaa", sum := "e42a3759984b6b6187ad66417f8cb2fea85000f024bbfa23f111b9d6b4a78d4b", checked := Try.checked }
namespace Rows
def none {H : Type} : Left H := { results := [], args := [] }

/-- 'spilelaw08.ProfileChecks': WHATEVER THE INPUT: true; the input reads as it did. -/
def profileChecksSpec : ChangeSpec := { name := "profileChecks", fn := fun _ => fun
  | [d] => { results := [.lit (.bool true)], args := [d] }
  | _ => none }
def profileChecksRow : OpenClaim := { program := "ytdomdddponkmhaa", sum := "e42a3759984b6b6187ad66417f8cb2fea85000f024bbfa23f111b9d6b4a78d4b", func := "spile/spilelaw08.ProfileChecks", spec := "profileChecks", unfollowed := true, recurses := true, apart := false }
def ProfileChecksSaid : Prop := profileChecksRow.holds Try.pinned (OpenSpec.ofChange profileChecksSpec)

/-- ITS FALSE NEIGHBOUR: 'it returns false'. Refute it at one input. -/
def profileChecksWrong : ChangeSpec := { name := "profileChecks", fn := fun _ => fun
  | [d] => { results := [.lit (.bool false)], args := [d] }
  | _ => none }
def ProfileChecksWrongFalsely : Prop := profileChecksRow.holds Try.pinned (OpenSpec.ofChange profileChecksWrong)

/-- 'spilelaw08.ProfilePlaces': WHATEVER THE INPUT: true; the input reads as it did. -/
def profilePlacesSpec : ChangeSpec := { name := "profilePlaces", fn := fun _ => fun
  | [d1, d2] => { results := [.lit (.bool true)], args := [d1, d2] }
  | _ => none }
def profilePlacesRow : OpenClaim := { program := "ytdomdddponkmhaa", sum := "e42a3759984b6b6187ad66417f8cb2fea85000f024bbfa23f111b9d6b4a78d4b", func := "spile/spilelaw08.ProfilePlaces", spec := "profilePlaces", unfollowed := true, recurses := true, apart := false }
def ProfilePlacesSaid : Prop := profilePlacesRow.holds Try.pinned (OpenSpec.ofChange profilePlacesSpec)

/-- ITS FALSE NEIGHBOUR: 'it returns false'. Refute it at one input. -/
def profilePlacesWrong : ChangeSpec := { name := "profilePlaces", fn := fun _ => fun
  | [d1, d2] => { results := [.lit (.bool false)], args := [d1, d2] }
  | _ => none }
def ProfilePlacesWrongFalsely : Prop := profilePlacesRow.holds Try.pinned (OpenSpec.ofChange profilePlacesWrong)

/-- 'spilelaw08.ProfileBulges': WHATEVER THE INPUT: true; the input reads as it did. -/
def profileBulgesSpec : ChangeSpec := { name := "profileBulges", fn := fun _ => fun
  | [d1, d2, d3] => { results := [.lit (.bool true)], args := [d1, d2, d3] }
  | _ => none }
def profileBulgesRow : OpenClaim := { program := "ytdomdddponkmhaa", sum := "e42a3759984b6b6187ad66417f8cb2fea85000f024bbfa23f111b9d6b4a78d4b", func := "spile/spilelaw08.ProfileBulges", spec := "profileBulges", unfollowed := true, recurses := true, apart := false }
def ProfileBulgesSaid : Prop := profileBulgesRow.holds Try.pinned (OpenSpec.ofChange profileBulgesSpec)

/-- ITS FALSE NEIGHBOUR: 'it returns false'. Refute it at one input. -/
def profileBulgesWrong : ChangeSpec := { name := "profileBulges", fn := fun _ => fun
  | [d1, d2, d3] => { results := [.lit (.bool false)], args := [d1, d2, d3] }
  | _ => none }
def ProfileBulgesWrongFalsely : Prop := profileBulgesRow.holds Try.pinned (OpenSpec.ofChange profileBulgesWrong)

/-- 'spilelaw08.ProfileInserted': WHATEVER THE INPUT: true; the input reads as it did. -/
def profileInsertedSpec : ChangeSpec := { name := "profileInserted", fn := fun _ => fun
  | [d1, d2, d3] => { results := [.lit (.bool true)], args := [d1, d2, d3] }
  | _ => none }
def profileInsertedRow : OpenClaim := { program := "ytdomdddponkmhaa", sum := "e42a3759984b6b6187ad66417f8cb2fea85000f024bbfa23f111b9d6b4a78d4b", func := "spile/spilelaw08.ProfileInserted", spec := "profileInserted", unfollowed := true, recurses := true, apart := false }
def ProfileInsertedSaid : Prop := profileInsertedRow.holds Try.pinned (OpenSpec.ofChange profileInsertedSpec)

/-- ITS FALSE NEIGHBOUR: 'it returns false'. Refute it at one input. -/
def profileInsertedWrong : ChangeSpec := { name := "profileInserted", fn := fun _ => fun
  | [d1, d2, d3] => { results := [.lit (.bool false)], args := [d1, d2, d3] }
  | _ => none }
def ProfileInsertedWrongFalsely : Prop := profileInsertedRow.holds Try.pinned (OpenSpec.ofChange profileInsertedWrong)

/-- 'spilelaw08.ProfileTwice': WHATEVER THE INPUT: true; the input reads as it did. -/
def profileTwiceSpec : ChangeSpec := { name := "profileTwice", fn := fun _ => fun
  | [d1, d2] => { results := [.lit (.bool true)], args := [d1, d2] }
  | _ => none }
def profileTwiceRow : OpenClaim := { program := "ytdomdddponkmhaa", sum := "e42a3759984b6b6187ad66417f8cb2fea85000f024bbfa23f111b9d6b4a78d4b", func := "spile/spilelaw08.ProfileTwice", spec := "profileTwice", unfollowed := true, recurses := true, apart := false }
def ProfileTwiceSaid : Prop := profileTwiceRow.holds Try.pinned (OpenSpec.ofChange profileTwiceSpec)

/-- ITS FALSE NEIGHBOUR: 'it returns false'. Refute it at one input. -/
def profileTwiceWrong : ChangeSpec := { name := "profileTwice", fn := fun _ => fun
  | [d1, d2] => { results := [.lit (.bool false)], args := [d1, d2] }
  | _ => none }
def ProfileTwiceWrongFalsely : Prop := profileTwiceRow.holds Try.pinned (OpenSpec.ofChange profileTwiceWrong)

/-- 'spilelaw08.ProfileInner': WHATEVER THE INPUT: true; the input reads as it did. -/
def profileInnerSpec : ChangeSpec := { name := "profileInner", fn := fun _ => fun
  | [d1, d2, d3, d4] => { results := [.lit (.bool true)], args := [d1, d2, d3, d4] }
  | _ => none }
def profileInnerRow : OpenClaim := { program := "ytdomdddponkmhaa", sum := "e42a3759984b6b6187ad66417f8cb2fea85000f024bbfa23f111b9d6b4a78d4b", func := "spile/spilelaw08.ProfileInner", spec := "profileInner", unfollowed := true, recurses := true, apart := false }
def ProfileInnerSaid : Prop := profileInnerRow.holds Try.pinned (OpenSpec.ofChange profileInnerSpec)

/-- ITS FALSE NEIGHBOUR: 'it returns false'. Refute it at one input. -/
def profileInnerWrong : ChangeSpec := { name := "profileInner", fn := fun _ => fun
  | [d1, d2, d3, d4] => { results := [.lit (.bool false)], args := [d1, d2, d3, d4] }
  | _ => none }
def ProfileInnerWrongFalsely : Prop := profileInnerRow.holds Try.pinned (OpenSpec.ofChange profileInnerWrong)

/- THE SECOND FORM. 'bulk': how many values and letters a reading holds, each counted each time it is reached (what is shared counts as often as it is met; a slice's spare places count too). A statement '..UptoSaid' is the law's where the arguments, and the package variables that the reading takes, are together of bulk at most 1048576: NARROWER than '..Said'. Prove '..Said' where nothing that the law and all that it calls make is longer than what came in: it says more and counts as full. Else prove '..UptoSaid'. A law counts once. -/
mutual
def uptoBulk {H : Type} : DataW H → Nat
  | .lit (.string bytes) => bytes.length + 1
  | .lit _ => 1
  | .nil => 1
  | .ptr d => uptoBulk d + 1
  | .slice elems spare => uptoBulkAll elems + uptoBulkAll spare + 1
  | .agg parts => uptoBulkAll parts + 1
  | .iface _ d => uptoBulk d + 1
  | .map entries => uptoBulkEntries entries + 1
  | .held _ => 1
def uptoBulkAll {H : Type} : List (DataW H) → Nat
  | [] => 0
  | d :: r => uptoBulk d + uptoBulkAll r
def uptoBulkEntries {H : Type} : List (Lit × DataW H) → Nat
  | [] => 0
  | x :: r => uptoBulkEntry x + uptoBulkEntries r
def uptoBulkEntry {H : Type} : Lit × DataW H → Nat
  | (.string bytes, d) => bytes.length + uptoBulk d + 1
  | (_, d) => uptoBulk d + 1
 end
def uptoSmall : (H : Type) → List (DataW H) → Bool := fun _ ds => decide (uptoBulkAll ds ≤ 1048576)
def OpenSpec.upto (s : _root_.Go.ChangeSpec) : _root_.Go.OpenSpec := { _root_.Go.OpenSpec.ofChange s with cond := some uptoSmall }

/-- 'spilelaw08.ProfileChecks', WHERE WHAT IT READS IS OF BULK AT MOST 1048576: true; the input reads as it did. -/
def profileChecksUptoRow : OpenClaim := { program := "ytdomdddponkmhaa", sum := "e42a3759984b6b6187ad66417f8cb2fea85000f024bbfa23f111b9d6b4a78d4b", func := "spile/spilelaw08.ProfileChecks", spec := "profileChecks", unfollowed := true, recurses := true, apart := false, narrowed := true }
def ProfileChecksUptoSaid : Prop := profileChecksUptoRow.holds Try.pinned (OpenSpec.upto profileChecksSpec)

/-- 'spilelaw08.ProfilePlaces', WHERE WHAT IT READS IS OF BULK AT MOST 1048576: true; the input reads as it did. -/
def profilePlacesUptoRow : OpenClaim := { program := "ytdomdddponkmhaa", sum := "e42a3759984b6b6187ad66417f8cb2fea85000f024bbfa23f111b9d6b4a78d4b", func := "spile/spilelaw08.ProfilePlaces", spec := "profilePlaces", unfollowed := true, recurses := true, apart := false, narrowed := true }
def ProfilePlacesUptoSaid : Prop := profilePlacesUptoRow.holds Try.pinned (OpenSpec.upto profilePlacesSpec)

/-- 'spilelaw08.ProfileBulges', WHERE WHAT IT READS IS OF BULK AT MOST 1048576: true; the input reads as it did. -/
def profileBulgesUptoRow : OpenClaim := { program := "ytdomdddponkmhaa", sum := "e42a3759984b6b6187ad66417f8cb2fea85000f024bbfa23f111b9d6b4a78d4b", func := "spile/spilelaw08.ProfileBulges", spec := "profileBulges", unfollowed := true, recurses := true, apart := false, narrowed := true }
def ProfileBulgesUptoSaid : Prop := profileBulgesUptoRow.holds Try.pinned (OpenSpec.upto profileBulgesSpec)

/-- 'spilelaw08.ProfileInserted', WHERE WHAT IT READS IS OF BULK AT MOST 1048576: true; the input reads as it did. -/
def profileInsertedUptoRow : OpenClaim := { program := "ytdomdddponkmhaa", sum := "e42a3759984b6b6187ad66417f8cb2fea85000f024bbfa23f111b9d6b4a78d4b", func := "spile/spilelaw08.ProfileInserted", spec := "profileInserted", unfollowed := true, recurses := true, apart := false, narrowed := true }
def ProfileInsertedUptoSaid : Prop := profileInsertedUptoRow.holds Try.pinned (OpenSpec.upto profileInsertedSpec)

/-- 'spilelaw08.ProfileTwice', WHERE WHAT IT READS IS OF BULK AT MOST 1048576: true; the input reads as it did. -/
def profileTwiceUptoRow : OpenClaim := { program := "ytdomdddponkmhaa", sum := "e42a3759984b6b6187ad66417f8cb2fea85000f024bbfa23f111b9d6b4a78d4b", func := "spile/spilelaw08.ProfileTwice", spec := "profileTwice", unfollowed := true, recurses := true, apart := false, narrowed := true }
def ProfileTwiceUptoSaid : Prop := profileTwiceUptoRow.holds Try.pinned (OpenSpec.upto profileTwiceSpec)

/-- 'spilelaw08.ProfileInner', WHERE WHAT IT READS IS OF BULK AT MOST 1048576: true; the input reads as it did. -/
def profileInnerUptoRow : OpenClaim := { program := "ytdomdddponkmhaa", sum := "e42a3759984b6b6187ad66417f8cb2fea85000f024bbfa23f111b9d6b4a78d4b", func := "spile/spilelaw08.ProfileInner", spec := "profileInner", unfollowed := true, recurses := true, apart := false, narrowed := true }
def ProfileInnerUptoSaid : Prop := profileInnerUptoRow.holds Try.pinned (OpenSpec.upto profileInnerSpec)

end Rows
end Go.Proofs.Ytdomdddponkmhaa
