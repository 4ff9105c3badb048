/- RootChords: for every radius and distance Half and Chord come to what the reference's come to, errors among it; no condition. -/
import Derived.Test.YtkhphphfnjmabaaXx4
import Derived.Test.YtkhphphfnjmabaaRoot
namespace Go.Proofs.Ytkhphphfnjmabaa.Pure
open Go.RowKit Go.Proofs.Ytkhphphfnjmabaa.X Go.Proofs.Ytkhphphfnjmabaa.Sq

theorem RootChords : spilelaw06_RootChords.Pure := by
  intro r y _ _
  refine ⟨50, ?_⟩
  have aw : spilelaw06_awake.f 50 = some true := by decide +kernel
  have hk : 41 ≤ 50 := by decide
  unfold spilelaw06_RootChords.f
  rw [aw, Option.bind_some, if_pos rfl, Half_spec r y hk, Option.bind_some, refHalf_spec r y hk, Option.bind_some, Chord_spec r y hk, Option.bind_some, refChord_spec r y hk, Option.bind_some,
    if_pos (by simp), if_pos rfl, if_pos (by simp)]
  simp
end Go.Proofs.Ytkhphphfnjmabaa.Pure
