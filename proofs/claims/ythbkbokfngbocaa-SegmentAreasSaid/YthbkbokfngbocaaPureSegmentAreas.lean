/- SegmentAreas: for all numbers, strips and heights Strip, Area and Whole return what the definitions specify; lists of more than 70 heights are let by, as the statement says; no other condition. -/
import Derived.Test.YthbkbokfngbocaaArw
import Derived.Test.YthbkbokfngbocaaSgl
import Derived.Test.YthbkbokfngbocaaSeg
import Derived.Test.YthbkbokfngbocaaRootB
namespace Go.Proofs.Ythbkbokfngbocaa.Pure
set_option linter.unusedVariables false
open Go.RowKit Go.Proofs.Ythbkbokfngbocaa.X Go.Proofs.Ythbkbokfngbocaa.Sq Go.Proofs.Ythbkbokfngbocaa.It Go.Proofs.YthbkbokfngbocaaW.PrintWords

theorem awakeA : spilelaw07_awake.f 400 = some true := by decide +kernel
theorem cloneA (l : List Int) (h : l.length < 17592186044416) : slices_Clone_int_int.f l = some l := by unfold slices_Clone_int_int.f; rw [if_pos h]
theorem areaA (r c : Int) (l : List Int) : segment_Area.f r c l = some (sArea r c l) := rfl
theorem length_spec (n : Int) : spileref07_IsLength.f n = some (isM n) := measure_spec n

theorem bnd_hf {r d : Int} (h0 : 0 ≤ r) (h1 : r ≤ 100000) (h2 : -100000 ≤ d) (h3 : d ≤ 200000) {k : Nat} (hk : 42 ≤ k) : spileref06_Bounds.f k r d = some (hf r d) := by
  by_cases h : d ≤ 100000
  · rw [Bounds_spec r d h0 h1 h2 h (by omega)]
    unfold sHalf hf
    rw [if_neg (by omega)]
    split <;> rfl
  · obtain ⟨k, rfl⟩ : ∃ m, k = m + 1 := ⟨k - 1, by omega⟩
    unfold spileref06_Bounds.f hf
    rw [if_pos (by omega), if_pos (by omega)]
    simp only [spileref06_Bounds.j0]
    rw [if_pos trivial]
theorem ref_chord {r c a : Int} (h0 : 0 ≤ r) (h1 : r ≤ 100000) (h2 : 0 ≤ c) (h3 : c ≤ 100000) (h4 : 0 ≤ a) (h5 : a ≤ 200000) {k : Nat} (hk : 42 ≤ k) : spileref07_chord.f k r c a = some (sCh r c a) := by
  unfold spileref07_chord.f
  have b := hf_bound (r := r) (d := a - c) h0 h1
  rw [wid (x := a - c) (by omega) (by omega), bnd_hf h0 h1 (by omega) (by omega) hk, Option.bind_some, sCh_val h0 h1 h2 h3 h4 h5, wid (by omega) (by omega), wid (by omega) (by omega)]
theorem ref_of {r c : Int} {p : Int × Int} (h0 : 0 ≤ r) (h1 : r ≤ 100000) (h2 : 0 ≤ c) (h3 : c ≤ 100000) (hp : okP p) {k : Nat} (hk : 42 ≤ k) : spileref07_Of.f k r c p.1 p.2 = some (sStrip r c p.1 p.2) := by
  obtain ⟨a, b, d⟩ := hp
  unfold spileref07_Of.f sStrip
  rw [ref_chord h0 h1 h2 h3 a (by omega) hk, Option.bind_some, ref_chord h0 h1 h2 h3 (by omega) d hk, Option.bind_some]
  by_cases h1 : p.1 ≤ c
  · rw [if_pos h1, if_pos h1]
    by_cases h2 : c ≤ p.2
    · rw [if_pos h2, if_pos h2]
    · rw [if_neg h2, if_neg h2]
  · rw [if_neg h1, if_neg h1]

theorem refArea_loop {r c : Int} {l : List Int} (h : isM r = true ∧ isM c = true ∧ sCheck l = 0) (d : Nat) : ∀ (k i : Nat), 1 ≤ i → i ≤ l.length → l.length - i = d → d + 60 < k →
    spileref07_Area.l0 k r c l (i : Int) (sumS r c (upto (nb l) (i - 1))).1 (sumS r c (upto (nb l) (i - 1))).2 = some ((sumS r c (upto (nb l) (l.length - 1))).1, (sumS r c (upto (nb l) (l.length - 1))).2, 0) := by
  obtain ⟨h2l, h65, hr, hs⟩ := sCheck_ok h.2.2
  have r1 := of_decide_eq_true h.1
  have r2 := of_decide_eq_true h.2.1
  induction d with
  | zero =>
    intro k i h1 h2 hd hk
    obtain ⟨k, rfl⟩ : ∃ m, k = m + 1 := ⟨k - 1, by omega⟩
    have e : i - 1 = l.length - 1 := by omega
    simp only [spileref07_Area.l0]
    rw [if_neg (by omega), e]
  | succ d ih =>
    intro k i h1 h2 hd hk
    obtain ⟨k, rfl⟩ : ∃ m, k = m + 1 := ⟨k - 1, by omega⟩
    obtain ⟨j, rfl⟩ : ∃ j, i = j + 1 := ⟨i - 1, by omega⟩
    have e0 : (((j + 1 : Nat) : Int)) - 1 = (j : Int) := by omega
    have ew : wrap64 ((((j + 1 : Nat) : Int)) - 1) = (j : Int) := by rw [e0]; exact wid (by omega) (by omega)
    have ew2 : wrap64 ((((j + 1 : Nat) : Int)) + 1) = ((j + 1 + 1 : Nat) : Int) := by rw [wid (by omega) (by omega)]; omega
    simp only [spileref07_Area.l0]
    rw [if_pos (by omega), ew, ew2, if_pos (by omega), if_pos (by omega), if_pos (by omega), rd_nat, rd_nat]
    have hj : j < l.length - 1 := by omega
    have ok : okP (nb l j) := pairs_ok h.2.2 _ (upto_get (nb l) hj)
    have s := ref_of (r := r) (c := c) r1.1 r1.2 r2.1 r2.2 ok (k := k) (by omega)
    have g := ih k (j + 1 + 1) (by omega) (by omega) (by omega) (by omega)
    have e1 : j + 1 + 1 - 1 = j + 1 := by omega
    have e2 : j + 1 - 1 = j := by omega
    rw [e1, upto_succ, sumS_snoc] at g
    rw [e2]
    unfold nb at s
    simp only [] at s
    rw [s, Option.bind_some]
    exact g
theorem refArea_spec (r c : Int) (l : List Int) {k : Nat} (hk : 300 ≤ k) : spileref07_Area.f k r c l = some (sArea r c l) := by
  obtain ⟨k, rfl⟩ : ∃ m, k = m + 1 := ⟨k - 1, by omega⟩
  unfold spileref07_Area.f sArea
  rw [length_spec, Option.bind_some]
  by_cases h1 : isM r = true
  · rw [if_pos h1, if_pos h1, length_spec, Option.bind_some]
    simp only [spileref07_Area.j0]
    by_cases h2 : isM c = true
    · rw [h2, if_neg (by simp), if_pos rfl, refCheck_spec l (by omega), Option.bind_some]
      by_cases h3 : sCheck l = 0
      · rw [if_pos h3, if_pos h3]
        obtain ⟨h2l, h65, _, _⟩ := sCheck_ok h3
        exact refArea_loop ⟨h1, h2, h3⟩ (l.length - 1) k 1 (by omega) (by omega) rfl (by omega)
      · rw [if_neg h3, if_neg h3]
    · have h2 := Bool.eq_false_iff.2 h2
      rw [h2, if_pos (by simp), if_neg (by simp)]
  · rw [if_neg h1, if_neg h1]
    simp only [spileref07_Area.j0]
    rw [if_pos trivial]

theorem SegmentAreas : spilelaw07_SegmentAreas.Pure := by
  intro r c s0 s1 l _ _ _ _ _ hlen _
  refine ⟨400, ?_⟩
  unfold spilelaw07_SegmentAreas.f
  rw [awakeA, Option.bind_some, if_pos rfl]
  by_cases h70 : (l.length : Int) > 70
  · rw [if_pos h70]
  · rw [if_neg h70]
    unfold segment_Strip.f spileref07_Strip.f
    rw [areaA, refArea_spec _ _ _ (by decide), Option.bind_some, Option.bind_some, Option.bind_some, cloneA l (by omega), Option.bind_some, areaA, Option.bind_some, refArea_spec _ _ _ (by decide), Option.bind_some]
    have e : spileref07_Whole.f r = segment_Whole.f r := by
      unfold spileref07_Whole.f segment_Whole.f
      rw [length_spec, measure_spec]
    rw [e]
    obtain ⟨x, hx⟩ : ∃ x, segment_Whole.f r = some x := by
      unfold segment_Whole.f
      rw [measure_spec, Option.bind_some]
      by_cases h : isM r = true
      · rw [if_pos h]; exact ⟨_, rfl⟩
      · rw [if_neg h]; exact ⟨_, rfl⟩
    rw [hx, Option.bind_some, Option.bind_some, if_pos (by simp), if_pos rfl, if_pos (by simp), if_pos rfl, if_pos (by simp)]
    simp
end Go.Proofs.Ythbkbokfngbocaa.Pure
