/- RootBetween: for every number the squares of the two roots stand on both sides of it, the roots differ by at most 1, by 0 just for squares; outside the range the errors are equal and the results zero; no condition. -/
import Derived.Test.YtkhphphfnjmabaaXx4
import Derived.Test.YtkhphphfnjmabaaRoot
namespace Go.Proofs.Ytkhphphfnjmabaa.Pure
open Go.RowKit Go.Proofs.Ytkhphphfnjmabaa.X Go.Proofs.Ytkhphphfnjmabaa.Sq

theorem RootBetween : spilelaw06_RootBetween.Pure := by
  intro n _
  refine ⟨50, ?_⟩
  have aw : spilelaw06_awake.f 50 = some true := by decide +kernel
  have hk : 40 ≤ 50 := by decide
  have hk2 : 41 ≤ 50 := by decide
  unfold spilelaw06_RootBetween.f
  rw [aw, Option.bind_some, if_pos rfl, Down_spec n hk, Option.bind_some, Up_spec n hk, Option.bind_some, Square_spec n hk2]
  simp only [Option.bind_some]
  by_cases c : n < 0 ∨ n > 1125899906842624
  · have e1 : sDown n = (0, 2) := by unfold sDown; split; rfl; rw [if_pos (by omega)]
    have e2 : sUp n = (0, 2) := by unfold sUp; split; rfl; rw [if_pos (by omega)]
    have e3 : sSquare n = false := by unfold sSquare; simp; omega
    rw [e1, e2, e3]; rfl
  · have e1 : sDown n = (sqr n, 0) := by unfold sDown; rw [if_neg (by omega), if_neg (by omega)]
    have e2 : sUp n = (cei n, 0) := by unfold sUp; rw [if_neg (by omega), if_neg (by omega)]
    have e3 : sSquare n = decide (sqr n = cei n) := by unfold sSquare; simp [show 0 ≤ n by omega, show n ≤ 1125899906842624 by omega]
    have h0 : 0 ≤ n := by omega
    have ⟨a1, a2, a3, a4⟩ := sqr_small h0 (by omega)
    have a5 : sqr n ≤ 33554432 := by have := sqr_lt (n := n) (b := 33554433) h0 (by omega) (by omega); omega
    have a6 := sqr_hi h0
    have a7 : (sqr n + 1) * (sqr n + 1) = sqr n * sqr n + 2 * sqr n + 1 := by grind
    have cc := cei_cases n
    have a8 := cei_hi h0
    rw [e1, e2, e3]
    simp only []
    rw [if_pos trivial, if_pos trivial, if_neg (by omega), if_neg (by omega)]
    rw [wid (x := sqr n * sqr n) (by omega) (by omega), wid (x := sqr n + 1) (by omega) (by omega), wid (x := (sqr n + 1) * (sqr n + 1)) (by omega) (by omega)]
    rcases cc with ⟨x, y⟩ | ⟨x, y⟩
    · rw [y, if_pos rfl, if_pos a4, if_pos a6, wid (x := sqr n * sqr n) (by omega) (by omega), if_pos (by omega)]
      simp [x]
    · rw [y] at a8 ⊢
      rw [if_neg (by omega), if_pos rfl, if_pos a4, if_pos a6, wid (x := (sqr n + 1) * (sqr n + 1)) (by omega) (by omega), if_pos a8]
      have z1 : (sqr n == sqr n + 1) = false := beq_eq_false_iff_ne.mpr (by omega)
      have z2 : (sqr n * sqr n == n) = false := beq_eq_false_iff_ne.mpr x
      have z3 : decide (sqr n = sqr n + 1) = false := decide_eq_false (by omega)
      rw [z1, z2, z3]; rfl
end Go.Proofs.Ytkhphphfnjmabaa.Pure
