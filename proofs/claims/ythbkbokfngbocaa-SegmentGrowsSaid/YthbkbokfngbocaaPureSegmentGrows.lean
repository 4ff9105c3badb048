/- SegmentGrows: for all numbers and heights a greater radius has no lesser bounds between the same heights, and heights that go further up have none either; what the statement lets by (more than 64 heights, numbers out of range) is let by; no other condition. -/
import Derived.Test.YthbkbokfngbocaaXx9
import Derived.Test.YthbkbokfngbocaaSgl
namespace Go.Proofs.Ythbkbokfngbocaa.Pure
set_option linter.unusedVariables false
open Go.RowKit Go.Proofs.Ythbkbokfngbocaa.X Go.Proofs.Ythbkbokfngbocaa.Sq Go.Proofs.Ythbkbokfngbocaa.It

theorem awakeG : spilelaw07_awake.f 200 = some true := by decide +kernel
theorem cloneG (l : List Int) (h : l.length ≤ 70) : slices_Clone_int_int.f l = some l := by unfold slices_Clone_int_int.f; rw [if_pos (by omega)]
theorem area_f (r c : Int) (l : List Int) : segment_Area.f r c l = some (sArea r c l) := rfl

theorem grows1 (r c : Int) (l : List Int) (x : Int) (hl : l.length ≤ 64) (h : isM r = true ∧ isM c = true ∧ sCheck l = 0) {k : Nat} (hk : 1 ≤ k) :
    spilelaw07_SegmentGrows.j1 k r c l x false (lowT r c (pairs l)) (highT r c (pairs l)) = some true := by
  obtain ⟨k, rfl⟩ : ∃ m, k = m + 1 := ⟨k - 1, by omega⟩
  obtain ⟨h1, h2, h3⟩ := h
  have hr := of_decide_eq_true h1
  simp only [spilelaw07_SegmentGrows.j1]
  rw [if_neg (by simp), cloneG l (by omega), Option.bind_some, if_pos (by omega), area_f, Option.bind_some]
  by_cases h4 : sCheck (l ++ [x]) = 0
  · obtain ⟨h2l, _, _, _⟩ := sCheck_ok h3
    rw [area_ok h1 h2 h4, pairs_snoc l x (by omega), lowT_app, highT_app]
    have hp := pairs_ok h4 (l[l.length - 1]?.getD 0, x) (by rw [pairs_snoc l x (by omega)]; simp)
    have b := P_bound (r := r) (c := c) (by omega) (by omega) hp
    have e1 : lowT r c [(l[l.length - 1]?.getD 0, x)] = lowP r c (l[l.length - 1]?.getD 0, x) := by simp [lowT]
    have e2 : highT r c [(l[l.length - 1]?.getD 0, x)] = highP r c (l[l.length - 1]?.getD 0, x) := by simp [highT]
    rw [e1, e2, if_pos rfl, if_pos (by show _ ≥ _; simp only []; omega), decide_eq_true (by simp only []; omega)]
  · obtain ⟨e, he, ha⟩ := area_err (r := r) (c := c) (l := l ++ [x]) (by intro ⟨_, _, z⟩; exact h4 z)
    rw [ha, if_neg he]

theorem grows0 (r c m : Int) (l : List Int) (x : Int) (b : Bool) (hl : l.length ≤ 64 ∨ b = true) (hm : b = false → 0 ≤ m ∧ m ≤ 100000 ∧ r ≤ 100000) {k : Nat} (hk : 2 ≤ k) :
    spilelaw07_SegmentGrows.j0 k r c m l x b = some true := by
  obtain ⟨k, rfl⟩ : ∃ m, k = m + 1 := ⟨k - 1, by omega⟩
  simp only [spilelaw07_SegmentGrows.j0]
  cases b with
  | true => rw [if_pos rfl]
  | false =>
    obtain ⟨m1, m2, m3⟩ := hm rfl
    have hl : l.length ≤ 64 := hl.elim id (by simp)
    rw [if_neg (by simp), cloneG l (by omega), Option.bind_some, area_f, Option.bind_some]
    by_cases h : isM r = true ∧ isM c = true ∧ sCheck l = 0
    · have hr := of_decide_eq_true h.1
      rw [area_ok h.1 h.2.1 h.2.2, if_pos rfl, Option.bind_some, area_f, Option.bind_some, wid (x := r + m) (by omega) (by omega)]
      by_cases h5 : isM (r + m) = true
      · have hr5 := of_decide_eq_true h5
        have g := T_grows (r := r) (r' := r + m) (c := c) (by omega) (by omega) (by omega) (pairs l) (pairs_ok h.2.2)
        rw [area_ok h5 h.2.1 h.2.2, if_pos rfl, if_neg (by simp only []; omega), decide_eq_false (by simp only []; omega)]
        exact grows1 r c l x hl h (by omega)
      · obtain ⟨e, he, ha⟩ := area_err (r := r + m) (c := c) (l := l) (by intro ⟨z, _, _⟩; exact h5 z)
        rw [ha, if_neg he]
        exact grows1 r c l x hl h (by omega)
    · obtain ⟨e, he, ha⟩ := area_err h
      rw [ha, if_neg he]; rfl

theorem SegmentGrows : spilelaw07_SegmentGrows.Pure := by
  intro r c m l x _ _ _ _ _ _ _
  refine ⟨200, ?_⟩
  unfold spilelaw07_SegmentGrows.f
  rw [awakeG, Option.bind_some, if_pos rfl]
  by_cases h1 : (l.length : Int) > 64
  · rw [if_pos h1, grows0 r c m l x true (.inr rfl) (by simp) (by decide)]
  · rw [if_neg h1]
    by_cases h2 : m < 0
    · rw [if_pos h2, grows0 r c m l x true (.inr rfl) (by simp) (by decide)]
    · rw [if_neg h2]
      by_cases h3 : m > 100000
      · rw [if_pos h3, grows0 r c m l x true (.inr rfl) (by simp) (by decide)]
      · rw [if_neg h3, grows0 r c m l x _ (.inl (by omega)) (by intro h; have := of_decide_eq_false h; omega) (by decide)]
end Go.Proofs.Ythbkbokfngbocaa.Pure
