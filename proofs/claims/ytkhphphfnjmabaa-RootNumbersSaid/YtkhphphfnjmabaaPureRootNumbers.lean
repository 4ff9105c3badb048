/- RootNumbers: for all numbers n and k, Down, Up, Square and Fold come to what the reference's come to, errors among it; no condition. -/
import Derived.Test.YtkhphphfnjmabaaXx3
import Derived.Test.YtkhphphfnjmabaaRoot
namespace Go.Proofs.Ytkhphphfnjmabaa.Pure
open Go.RowKit Go.Proofs.Ytkhphphfnjmabaa.X Go.Proofs.Ytkhphphfnjmabaa.Sq

theorem RootNumbers : spilelaw06_RootNumbers.Pure := by
  intro n c _ _
  refine ⟨50, ?_⟩
  have aw : spilelaw06_awake.f 50 = some true := by decide +kernel
  have hk : 40 ≤ 50 := by decide
  have hk2 : 41 ≤ 50 := by decide
  unfold spilelaw06_RootNumbers.f
  rw [aw, Option.bind_some, if_pos rfl, Down_spec n hk, Option.bind_some, refDown_spec n hk, Option.bind_some, Up_spec n hk, Option.bind_some, refUp_spec n hk, Option.bind_some, Fold_spec n c hk, Option.bind_some, refFold_spec n c hk, Option.bind_some,
    if_pos rfl, if_pos rfl, if_pos rfl, if_pos rfl, if_pos rfl, if_pos rfl, Square_spec n hk2, Option.bind_some, refSquare_spec n hk, Option.bind_some]
  simp
end Go.Proofs.Ytkhphphfnjmabaa.Pure
