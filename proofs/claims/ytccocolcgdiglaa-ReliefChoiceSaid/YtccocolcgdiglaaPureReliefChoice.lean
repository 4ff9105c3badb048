/- ReliefChoice: for all reliefs, items and every item (those that are many or have long names are let by) Best answers as the reference does; no condition. -/
import Derived.Test.YtccocolcgdiglaaRld
import Derived.Test.YtccocolcgdiglaaRle
import Derived.Test.YtccocolcgdiglaaLch
namespace Go.Proofs.Ytccocolcgdiglaa.Pure
set_option linter.unusedVariables false
set_option linter.unusedSimpArgs false
open Go.RowKit Go.Proofs.Ytccocolcgdiglaa.X Go.Proofs.Ytccocolcgdiglaa.Rel Go.Proofs.Ytccocolcgdiglaa.It Go.Proofs.YtccocolcgdiglaaW.PrintWords Go.Proofs.YtccocolcgdiglaaW.PrintLast Go.Proofs.YtccocolcgdiglaaW.PrintMore
theorem reliefChoice (l : List S33) (xs : List S25) (x : S25) (hl : l.length ≤ 9223372036854775807) : ∃ k, spilelaw47_ReliefChoice.f k l xs x.f0 x.f1 x.f2 x.f3 x.f4 = some true := by
  obtain ⟨K, hK1, hK2⟩ : ∃ K : Nat, l.length < K ∧ 10000 ≤ K := ⟨l.length + 10001, by omega, by omega⟩
  refine ⟨K + 1, ?_⟩
  unfold spilelaw47_ReliefChoice.f
  rw [awake_f (by omega), Option.bind_some, if_pos rfl, few_f hl (by omega), Option.bind_some]
  cases h : (smallB l l.length && fewS l xs) with
  | false =>
    simp only [spilelaw47_ReliefChoice.j0]
    rw [if_pos (show (!false) = true from rfl), awake_f (by omega)]; rfl
  | true =>
    obtain ⟨hs, h1, h2⟩ := few_true h
    simp only [spilelaw47_ReliefChoice.j0]
    rw [if_neg (by simp), cloneR_f (by omega), Option.bind_some, cloneI_f (by omega), Option.bind_some, Best_f hs xs h2 x (by omega), Option.bind_some, refBest_f hs xs h2 x (by omega), Option.bind_some, if_pos rfl, if_pos rfl]
    simp
end Go.Proofs.Ytccocolcgdiglaa.Pure
