/- ReliefChecks: for all reliefs and items (those that are many or have long names are let by) Check, Items and Applies answer as the reference does; no condition. -/
import Derived.Test.YtccocolcgdiglaaRla
import Derived.Test.YtccocolcgdiglaaRle
import Derived.Test.YtccocolcgdiglaaLck
namespace Go.Proofs.Ytccocolcgdiglaa.Pure
set_option linter.unusedVariables false
set_option linter.unusedSimpArgs false
open Go.RowKit Go.Proofs.Ytccocolcgdiglaa.X Go.Proofs.Ytccocolcgdiglaa.Rel Go.Proofs.YtccocolcgdiglaaW.PrintWords Go.Proofs.YtccocolcgdiglaaW.PrintLast Go.Proofs.YtccocolcgdiglaaW.PrintMore
theorem cloneR_f {l : List S33} (h : l.length ≤ 1000) : api_Relief_13.f l = some l := by unfold api_Relief_13.f; rw [if_pos (by omega)]
theorem cloneI_f {l : List S25} (h : l.length ≤ 1000) : api_Item_14.f l = some l := by unfold api_Item_14.f; rw [if_pos (by omega)]
theorem applies_both (r : S33) (x : S25) : ∃ b, relief_Applies.f r.f0 r.f1 r.f2 r.f3 r.f4 r.f5 r.f6 x.f0 x.f1 x.f2 x.f3 x.f4 = some b ∧ spileref47_Applies.f r.f0 r.f1 r.f2 r.f3 r.f4 r.f5 r.f6 x.f0 x.f1 x.f2 x.f3 x.f4 = some b := by
  unfold relief_Applies.f spileref47_Applies.f
  rw [within_f, Option.bind_some]
  have e : (if x.f2 ≥ r.f3 then some (decide (x.f2 ≤ r.f4)) else some false) = some (btw x.f2 r.f3 r.f4) := between_f _ _ _
  rw [e]
  split
  · exact ⟨_, rfl, rfl⟩
  · split <;> exact ⟨_, rfl, rfl⟩
theorem reliefChecks (l : List S33) (xs : List S25) (r : S33) (x : S25) (hl : l.length ≤ 9223372036854775807) : ∃ k, spilelaw47_ReliefChecks.f k l xs r.f0 r.f1 r.f2 r.f3 r.f4 r.f5 r.f6 x.f0 x.f1 x.f2 x.f3 x.f4 = some true := by
  obtain ⟨K, hK1, hK2⟩ : ∃ K : Nat, l.length < K ∧ 10000 ≤ K := ⟨l.length + 10001, by omega, by omega⟩
  refine ⟨K + 1, ?_⟩
  unfold spilelaw47_ReliefChecks.f
  rw [awake_f (by omega), Option.bind_some, if_pos rfl, few_f hl (by omega), Option.bind_some]
  cases h : (smallB l l.length && fewS l xs) with
  | false =>
    simp only [spilelaw47_ReliefChecks.j0]
    rw [if_pos (show (!false) = true from rfl), awake_f (by omega)]; rfl
  | true =>
    obtain ⟨hs, h1, h2⟩ := few_true h
    obtain ⟨b, e1, e2⟩ := applies_both r x
    simp only [spilelaw47_ReliefChecks.j0]
    rw [if_neg (by simp), cloneR_f (by omega), Option.bind_some, check_f hs (by omega), Option.bind_some, refCheck_f hs (by omega), Option.bind_some, cloneI_f (by omega), Option.bind_some, items_f xs (by omega), Option.bind_some, refItems_f xs (by omega), Option.bind_some,
      if_pos rfl, if_pos rfl, if_pos rfl, if_pos rfl, e1, Option.bind_some, e2, Option.bind_some]
    simp
end Go.Proofs.Ytccocolcgdiglaa.Pure
