/- RootCircle: for every radius and distance the squares of the bounds of the half chord, and of the distance, stand on both sides of that of the radius; the chord is twice the half chord; no condition. -/
import Derived.Test.YtkhphphfnjmabaaXx6
import Derived.Test.YtkhphphfnjmabaaRoot
namespace Go.Proofs.Ytkhphphfnjmabaa.Pure
open Go.RowKit Go.Proofs.Ytkhphphfnjmabaa.X Go.Proofs.Ytkhphphfnjmabaa.Sq

theorem circle0 (r y : Int) (h : ¬ (r < 0 ∨ r > 100000 ∨ y < -100000 ∨ y > 100000)) {k : Nat} (hk : 1 ≤ k) : spilelaw06_RootCircle.j0 k r y false (sHalf r y).1 (sHalf r y).2.1 = some true := by
  obtain ⟨k, rfl⟩ : ∃ m, k = m + 1 := ⟨k - 1, by omega⟩
  simp only [spilelaw06_RootCircle.j0]
  rw [if_neg (by simp), wid (x := -r) (by omega) (by omega)]
  by_cases c2 : y > r ∨ -y > r
  · rw [sHalf_out h c2]
    by_cases c : y > r
    · rw [if_pos c]; rfl
    · rw [if_neg c, if_pos (by omega)]; rfl
  · rw [sHalf_in h c2, if_neg (by omega), if_neg (by omega)]
    have ⟨e1, e2, e3, e4⟩ := half_small (r := r) (y := y) (by omega) (by omega) (by omega) (by omega)
    have h0 : 0 ≤ r * r - y * y := by omega
    have a := sqr_lo h0
    have b := cei_hi h0
    have a0 := sqr_nonneg (r * r - y * y)
    have b0 := sqr_le_cei (r * r - y * y)
    have b1 := cei_le (r * r - y * y)
    have b2 : cei (r * r - y * y) ≤ r := cei_least h0 (by omega) (by omega)
    have b3 := mul_self_le (cei_nonneg (r * r - y * y)) b2
    have b4 := Int.mul_nonneg a0 a0
    simp only []
    rw [wid (x := sqr (r * r - y * y) * sqr (r * r - y * y)) (by omega) (by omega), wid (x := cei (r * r - y * y) * cei (r * r - y * y)) (by omega) (by omega), wid (x := y * y) (by omega) (by omega), wid (x := r * r) (by omega) (by omega),
      wid (x := sqr (r * r - y * y) * sqr (r * r - y * y) + y * y) (by omega) (by omega), wid (x := cei (r * r - y * y) * cei (r * r - y * y) + y * y) (by omega) (by omega), wid (x := cei (r * r - y * y) - sqr (r * r - y * y)) (by omega) (by omega)]
    rw [if_pos (by omega), if_pos (by omega), decide_eq_true (by omega)]

theorem RootCircle : spilelaw06_RootCircle.Pure := by
  intro r y _ _
  refine ⟨50, ?_⟩
  have aw : spilelaw06_awake.f 50 = some true := by decide +kernel
  have hk : 41 ≤ 50 := by decide
  unfold spilelaw06_RootCircle.f
  rw [aw, Option.bind_some, if_pos rfl, Half_spec r y hk, Option.bind_some, Chord_spec r y hk, Option.bind_some]
  unfold sChord
  have hb := sHalf_bound r y
  by_cases c : r < 0 ∨ r > 100000 ∨ y < -100000 ∨ y > 100000
  · rw [sHalf_err c]; rfl
  · rw [if_pos (sHalf_ok c), if_pos (sHalf_ok c), wid (x := 2 * (sHalf r y).1) (by omega) (by omega), wid (x := 2 * (sHalf r y).2.1) (by omega) (by omega)]
    simp only [BEq.rfl, Bool.not_true, Bool.or_false]
    exact circle0 r y c (by decide)
end Go.Proofs.Ytkhphphfnjmabaa.Pure
