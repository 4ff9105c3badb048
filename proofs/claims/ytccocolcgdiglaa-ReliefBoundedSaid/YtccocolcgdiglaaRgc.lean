import Derived.Test.YtccocolcgdiglaaRgb
/-! What Left comes to, in plain numbers; the reference's is the same. -/
namespace Go.Proofs.Ytccocolcgdiglaa.Rel
set_option linter.unusedVariables false
set_option linter.unusedSimpArgs false
open Go.RowKit Go.Proofs.Ytccocolcgdiglaa.X Go.Proofs.Ytccocolcgdiglaa.It Go.Proofs.YtccocolcgdiglaaW.PrintWords Go.Proofs.YtccocolcgdiglaaW.PrintLast Go.Proofs.YtccocolcgdiglaaW.PrintMore

def leftS (l : List S33) (xs : List S25) (id : Int) : Int × Int :=
  if (grantS l xs).2.2 = 0 then (if idxR l id < 0 then (0, 7) else if (R l (idxR l id).toNat).f6 = 0 then (0, 15) else (wrap64 ((R l (idxR l id).toNat).f6 - Mpi.gv xs (grantS l xs).1 id), 0)) else (0, (grantS l xs).2.2)
theorem Left_f {l : List S33} (hs : small l) (xs : List S25) (id : Int) {k : Nat} (hk : 1000 ≤ k) : relief_Left.f k l xs id = some (leftS l xs id) := by
  unfold relief_Left.f leftS
  rw [grant_f hs xs hk, Option.bind_some]
  dsimp only
  by_cases h : (grantS l xs).2.2 = 0
  · rw [if_pos h, if_pos h]
    obtain ⟨h1, h2, h3, h4⟩ := grantS_ok h
    obtain ⟨g1, g2, _⟩ := chkS_zero h1
    by_cases c2 : idxR l id < 0
    · rw [find_none (by omega) c2, Option.bind_some, if_pos c2]
      simp
    · obtain ⟨f1, f2, f3⟩ := find_some (a := id) (l := l) (by omega) c2
      have hok := okR_spec (g2 (idxR l id).toNat (by omega))
      rw [f2, Option.bind_some, if_neg c2]
      dsimp only
      rw [if_pos rfl]
      by_cases c3 : (R l (idxR l id).toNat).f6 = 0
      · rw [if_pos c3, if_pos c3]
      · rw [if_neg c3, if_neg c3, if_pos (by omega)]
  · rw [if_neg h, if_neg h]
end Go.Proofs.Ytccocolcgdiglaa.Rel
