/- RootGrows: for all numbers half chords do not get smaller with the radius, nor greater with the distance from the centre; both signs of the distance have the same one; at the centre it is the radius; no condition. -/
import Derived.Test.YtkhphphfnjmabaaXx5
import Derived.Test.YtkhphphfnjmabaaRoot
namespace Go.Proofs.Ytkhphphfnjmabaa.Pure
open Go.RowKit Go.Proofs.Ytkhphphfnjmabaa.X Go.Proofs.Ytkhphphfnjmabaa.Sq Go.Proofs.YtkhphphfnjmabaaW.PrintWords Go.Proofs.YtkhphphfnjmabaaW.PrintLast

theorem grows1 (r y m f : Int) (h : ¬ (r < 0 ∨ r > 100000 ∨ y < -100000 ∨ y > 100000)) (hm : 0 ≤ m ∧ m ≤ 100000) (hf : 0 ≤ f ∧ f ≤ 100000) {k : Nat} (hk : 42 ≤ k) :
    spilelaw06_RootGrows.j1 k r y m f false (sHalf r y).1 (sHalf r y).2.1 = some true := by
  obtain ⟨k, rfl⟩ : ∃ m, k = m + 1 := ⟨k - 1, by omega⟩
  have hk2 : 41 ≤ k := by omega
  simp only [spilelaw06_RootGrows.j1]
  have hmx : mx y (-y) = y ∧ 0 ≤ y ∨ mx y (-y) = -y ∧ y ≤ 0 := by unfold mx; split <;> omega
  rw [if_neg (by simp), wid (x := r + m) (by omega) (by omega), wid (x := -y) (by omega) (by omega), wid (x := mx y (-y) + f) (by omega) (by omega)]
  rw [Half_spec (r + m) y hk2, Option.bind_some, Half_spec r (mx y (-y) + f) hk2, Option.bind_some]
  have last : (if (sHalf r (mx y (-y) + f)).2.2 = 0 then (if (sHalf r (mx y (-y) + f)).1 ≤ (sHalf r y).1 then (some (decide ((sHalf r (mx y (-y) + f)).2.1 ≤ (sHalf r y).2.1))) else (some false)) else (some true)) = some true := by
    by_cases c : mx y (-y) + f > 100000
    · rw [sHalf_err (r := r) (y := mx y (-y) + f) (by omega)]; rfl
    · have := sHalf_mono (r := r) (y := mx y (-y) + f) (r' := r) (y' := y) (by omega) h (Int.le_refl _) (by omega)
      rw [if_pos (sHalf_ok (by omega)), if_pos this.1, decide_eq_true this.2]
  rw [last]
  by_cases c : r + m > 100000
  · rw [sHalf_err (r := r + m) (by omega)]; rfl
  · have := sHalf_mono (r := r) (y := y) (r' := r + m) (y' := y) h (by omega) (by omega) (by omega)
    rw [if_pos (sHalf_ok (by omega)), if_neg (by omega), if_neg (by omega)]

theorem grows0 (r y m f : Int) (b : Bool) (hb : b = false → r ≤ 100000 ∧ y ≤ 100000 ∧ (0 ≤ m ∧ m ≤ 100000) ∧ (0 ≤ f ∧ f ≤ 100000)) {k : Nat} (hk : 43 ≤ k) :
    spilelaw06_RootGrows.j0 k r y m f b = some true := by
  obtain ⟨k, rfl⟩ : ∃ m, k = m + 1 := ⟨k - 1, by omega⟩
  have hk2 : 41 ≤ k := by omega
  simp only [spilelaw06_RootGrows.j0]
  cases b with
  | true => rw [if_pos rfl]
  | false =>
    obtain ⟨a1, a2, a3, a4⟩ := hb rfl
    rw [if_neg (by simp), Half_spec r y hk2, Option.bind_some]
    by_cases c : r < 0 ∨ r > 100000 ∨ y < -100000 ∨ y > 100000
    · rw [sHalf_err c]; rfl
    · rw [if_pos (sHalf_ok c), wid (x := -y) (by omega) (by omega), Half_spec r (-y) hk2, Option.bind_some, Half_spec r 0 hk2, Option.bind_some, sHalf_neg, if_pos (sHalf_ok c), sHalf_zero (r := r) (by omega) (by omega)]
      rw [if_pos rfl, if_neg (by simp), if_neg (by simp)]
      have hbd := sHalf_bound r y
      have hr : (sHalf r y).2.1 ≤ r := by
        by_cases c2 : y > r ∨ -y > r
        · rw [sHalf_out c c2]; show (0 : Int) ≤ r; omega
        · rw [sHalf_in c c2]
          have ⟨e1, e2, e3, e4⟩ := half_small (r := r) (y := y) (by omega) (by omega) (by omega) (by omega)
          exact cei_least (by omega) (by omega) (by omega)
      rw [if_neg (by omega), if_neg (by omega), decide_eq_false (by omega)]
      exact grows1 r y m f c a3 a4 (by omega)

theorem RootGrows : spilelaw06_RootGrows.Pure := by
  intro r y m f _ _ _ _
  refine ⟨50, ?_⟩
  have aw : spilelaw06_awake.f 50 = some true := by decide +kernel
  have hk : 43 ≤ 50 := by decide
  unfold spilelaw06_RootGrows.f
  rw [aw, Option.bind_some, if_pos rfl]
  repeat (split; exact grows0 _ _ _ _ _ (by simp) hk)
  exact grows0 _ _ _ _ _ (by simp; omega) hk
end Go.Proofs.Ytkhphphfnjmabaa.Pure
