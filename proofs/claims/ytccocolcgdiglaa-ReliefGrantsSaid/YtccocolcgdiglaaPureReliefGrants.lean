/- ReliefGrants: for all reliefs, items and every ID (those that are many or have long names are let by) Grant and Left answer as the reference does; no condition. -/
import Derived.Test.YtccocolcgdiglaaRlc
import Derived.Test.YtccocolcgdiglaaRle
import Derived.Test.YtccocolcgdiglaaLgr
namespace Go.Proofs.Ytccocolcgdiglaa.Pure
set_option linter.unusedVariables false
set_option linter.unusedSimpArgs false
open Go.RowKit Go.Proofs.Ytccocolcgdiglaa.X Go.Proofs.Ytccocolcgdiglaa.Rel Go.Proofs.Ytccocolcgdiglaa.It Go.Proofs.YtccocolcgdiglaaW.PrintWords Go.Proofs.YtccocolcgdiglaaW.PrintLast Go.Proofs.YtccocolcgdiglaaW.PrintMore
theorem reliefGrants (l : List S33) (xs : List S25) (id : Int) (hl : l.length ≤ 9223372036854775807) : ∃ k, spilelaw47_ReliefGrants.f k l xs id = some true := by
  obtain ⟨K, hK1, hK2⟩ : ∃ K : Nat, l.length < K ∧ 10000 ≤ K := ⟨l.length + 10001, by omega, by omega⟩
  refine ⟨K + 1, ?_⟩
  unfold spilelaw47_ReliefGrants.f
  rw [awake_f (by omega), Option.bind_some, if_pos rfl, few_f hl (by omega), Option.bind_some]
  cases h : (smallB l l.length && fewS l xs) with
  | false =>
    simp only [spilelaw47_ReliefGrants.j0]
    rw [if_pos (show (!false) = true from rfl), awake_f (by omega)]; rfl
  | true =>
    obtain ⟨hs, h1, h2⟩ := few_true h
    simp only [spilelaw47_ReliefGrants.j0]
    rw [if_neg (by simp), cloneR_f (by omega), Option.bind_some, cloneI_f (by omega), Option.bind_some, Grant_f hs xs (by omega), Option.bind_some, refGrant_f hs xs (by omega), Option.bind_some, Option.bind_some, Option.bind_some,
      Left_f hs xs id (by omega), Option.bind_some, refLeft_f hs xs id (by omega), Option.bind_some, equal_f (by have := grantS_len (l := l) (xs := xs); omega) (by omega), Option.bind_some, decide_eq_true rfl, if_pos rfl, if_pos rfl, if_pos rfl, if_pos rfl]
    simp
end Go.Proofs.Ytccocolcgdiglaa.Pure
