/- RootFolds: for all n and k the k-fold root stands between k times both roots, its square is not above n times the square of k, that of the next number is; errors come with 0; no condition. -/
import Derived.Test.YtkhphphfnjmabaaXx4
import Derived.Test.YtkhphphfnjmabaaRoot
namespace Go.Proofs.Ytkhphphfnjmabaa.Pure
open Go.RowKit Go.Proofs.Ytkhphphfnjmabaa.X Go.Proofs.Ytkhphphfnjmabaa.Sq

theorem RootFolds : spilelaw06_RootFolds.Pure := by
  intro n c _ _
  refine ⟨50, ?_⟩
  have aw : spilelaw06_awake.f 50 = some true := by decide +kernel
  have hk : 40 ≤ 50 := by decide
  unfold spilelaw06_RootFolds.f
  rw [aw, Option.bind_some, if_pos rfl, Fold_spec n c hk, Option.bind_some, Down_spec n hk, Option.bind_some, Up_spec n hk, Option.bind_some]
  by_cases h : n < 0 ∨ n > 1099511627776 ∨ c < 1 ∨ c > 1000
  · have e1 : sFold n c = (0, 2) := by unfold sFold; split; rfl; split; rfl; split; rfl; rw [if_pos (by omega)]
    rw [e1]; rfl
  · have e0 : sFold n c = (sqr (n * c * c), 0) := by unfold sFold; rw [if_neg (by omega), if_neg (by omega), if_neg (by omega), if_neg (by omega)]
    have e1 : sDown n = (sqr n, 0) := by unfold sDown; rw [if_neg (by omega), if_neg (by omega)]
    have e2 : sUp n = (cei n, 0) := by unfold sUp; rw [if_neg (by omega), if_neg (by omega)]
    have ⟨f1, f2, f3, f4⟩ := fold_small (n := n) (k := c) (by omega) (by omega) (by omega) (by omega)
    have h0 : 0 ≤ n := by omega
    have ⟨a1, a2, a3, a4⟩ := sqr_small h0 (by omega)
    have b1 := sqr_le_cei n
    have b2 := cei_le n
    have b3 : sqr n < 1048577 := sqr_lt h0 (by omega) (by omega)
    have ⟨g1, g2, g3, g4⟩ := sqr_small f3 (by omega)
    have g5 := sqr_hi f3
    have l1 : c * sqr n ≤ sqr (n * c * c) := by
      refine le_of_sq g1 (n := n * c * c) ?_ g5
      have e : c * sqr n * (c * sqr n) = sqr n * sqr n * c * c := by grind
      rw [e]
      exact Int.mul_le_mul_of_nonneg_right (Int.mul_le_mul_of_nonneg_right a4 (by omega)) (by omega)
    have l2 : sqr (n * c * c) ≤ c * cei n := by
      have p : 0 ≤ c * cei n := Int.mul_nonneg (by omega) (cei_nonneg n)
      refine le_of_sq p g4 ?_
      have e : c * cei n * (c * cei n) = cei n * cei n * c * c := by grind
      have e2 : n * c * c ≤ cei n * cei n * c * c := Int.mul_le_mul_of_nonneg_right (Int.mul_le_mul_of_nonneg_right (cei_hi h0) (by omega)) (by omega)
      have e3 : (c * cei n + 1) * (c * cei n + 1) = c * cei n * (c * cei n) + 2 * (c * cei n) + 1 := by grind
      omega
    have m1 : 0 ≤ c * sqr n := Int.mul_nonneg (by omega) a1
    have m2 : c * sqr n ≤ 1000 * 1048577 := Int.mul_le_mul (by omega) (by omega) a1 (by omega)
    have m3 : 0 ≤ c * cei n := Int.mul_nonneg (by omega) (by omega)
    have m4 : c * cei n ≤ 1000 * 1048577 := Int.mul_le_mul (by omega) (by omega) (by omega) (by omega)
    have m5 : (sqr (n * c * c) + 1) * (sqr (n * c * c) + 1) = sqr (n * c * c) * sqr (n * c * c) + 2 * sqr (n * c * c) + 1 := by grind
    rw [e0, e1, e2]
    simp only []
    rw [if_pos trivial, if_pos trivial, if_pos trivial]
    rw [wid (x := c * sqr n) (by omega) (by omega), wid (x := c * cei n) (by omega) (by omega), wid (x := n * c) (by omega) (by omega), wid (x := n * c * c) (by omega) (by omega),
      wid (x := sqr (n * c * c) * sqr (n * c * c)) (by omega) (by omega), wid (x := sqr (n * c * c) + 1) (by omega) (by omega), wid (x := (sqr (n * c * c) + 1) * (sqr (n * c * c) + 1)) (by omega) (by omega)]
    rw [if_neg (by omega), if_neg (by omega), if_neg (by omega), if_pos g4, decide_eq_true g5]
end Go.Proofs.Ytkhphphfnjmabaa.Pure
