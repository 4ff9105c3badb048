/- SegmentWhole: for all numbers the bounds of the strips from below a circle to above it overlap with those of the whole area, and the lower one is never above the upper one; what the statement lets by (a centre below the radius or above the greatest length) is let by; no other condition. -/
import Derived.Test.YthbkbokfngbocaaXx5
import Derived.Test.YthbkbokfngbocaaCel
namespace Go.Proofs.Ythbkbokfngbocaa.Pure
set_option linter.unusedVariables false
open Go.RowKit Go.Proofs.Ythbkbokfngbocaa.X Go.Proofs.Ythbkbokfngbocaa.Sq Go.Proofs.Ythbkbokfngbocaa.It

theorem awakeW : spilelaw07_awake.f 200 = some true := by decide +kernel
theorem areaW (r c : Int) (l : List Int) : segment_Area.f r c l = some (sArea r c l) := rfl

/-- the height of strip j -/
def hj (top : Int) (n : Nat) (j : Nat) : Int := ((j : Int) * top) / (n : Int)
theorem hj_up {top : Int} {n : Nat} (ht : 0 ≤ top) (hn : 1 ≤ n) (j : Nat) : hj top n j ≤ hj top n (j + 1) := by
  unfold hj
  refine Int.ediv_le_ediv (by omega) ?_
  exact Int.mul_le_mul_of_nonneg_right (by omega) ht
theorem hj_zero (top : Int) (n : Nat) : hj top n 0 = 0 := by unfold hj; simp
theorem hj_top (top : Int) {n : Nat} (hn : 1 ≤ n) : hj top n n = top := by
  unfold hj
  exact Int.mul_ediv_cancel_left top (by omega)
theorem hj_low {top : Int} {n : Nat} (ht : 0 ≤ top) (hn : 1 ≤ n) (hn2 : n ≤ 64) {j : Nat} (hj' : j < n) : top ≤ 64 * (top - hj top n j) := by
  have m : (n : Int) * hj top n j ≤ (j : Int) * top := Int.mul_ediv_self_le (by omega)
  have m2 : (j : Int) * top ≤ ((n : Int) - 1) * top := Int.mul_le_mul_of_nonneg_right (by omega) ht
  have m3 : ((n : Int) - 1) * top = n * top - top := by rw [Int.sub_mul]; omega
  have m4 : (n : Int) * (top - hj top n j) = n * top - n * hj top n j := by rw [Int.mul_sub]
  have p : 0 < top - hj top n j ∨ top - hj top n j ≤ 0 := by omega
  rcases p with p | p
  · have m5 : (n : Int) * (top - hj top n j) ≤ 64 * (top - hj top n j) := Int.mul_le_mul_of_nonneg_right (by omega) (by omega)
    omega
  · have m5 : (n : Int) * (top - hj top n j) ≤ n * 0 := Int.mul_le_mul_of_nonneg_left p (by omega)
    have m6 : hj top n j ≤ top := by
      have : hj top n j * n ≤ top * n := by rw [Int.mul_comm, Int.mul_comm top]; omega
      exact Int.le_of_mul_le_mul_right this (by omega)
    omega
theorem hgt_eq {top : Int} {n : Nat} (ht : 0 ≤ top) (ht2 : top ≤ 200000) (hn : 1 ≤ n) {j : Nat} (hj' : j ≤ 64) : hgt top (n : Int) j = hj top n j := by
  unfold hgt hj
  have b : (j : Int) * top ≤ 64 * 200000 := Int.le_trans (Int.mul_le_mul_of_nonneg_right (by omega) ht) (Int.mul_le_mul_of_nonneg_left ht2 (by omega))
  have p : 0 ≤ (j : Int) * top := Int.mul_nonneg (by omega) ht
  have q : 0 ≤ (j : Int) * top / (n : Int) := Int.ediv_nonneg p (by omega)
  have q2 : (j : Int) * top / (n : Int) ≤ (j : Int) * top := Int.ediv_le_self _ p
  rw [wid (x := (j : Int) * top) (by omega) (by omega), Int.tdiv_eq_ediv_of_nonneg p, wid (by omega) (by omega)]
theorem upto_val {f : Nat → Int} {k j : Nat} (h : j < k) : (upto f k)[j]?.getD 0 = f j := by
  unfold upto
  rw [List.getElem?_map, List.getElem?_range h]; rfl
theorem upto_congr {α : Type} {f g : Nat → α} {k : Nat} (h : ∀ j, j < k → f j = g j) : upto f k = upto g k := by
  unfold upto
  exact List.map_congr_left (fun j hj => h j (List.mem_range.1 hj))

theorem hts_nb {top : Int} {n : Nat} (ht : 0 ≤ top) (ht2 : top ≤ 200000) (hn : 1 ≤ n) (hn2 : n ≤ 64) : pairs (upto (hgt top (n : Int)) (n + 1)) = upto (fun j => (hj top n j, hj top n (j + 1))) n := by
  unfold pairs
  rw [upto_length]
  refine upto_congr (k := n) (fun j hj' => ?_)
  unfold nb
  rw [upto_val (by omega), upto_val (by omega), hgt_eq ht ht2 hn (by omega), hgt_eq ht ht2 hn (by omega)]
theorem hj_bound {top : Int} {n : Nat} (ht : 0 ≤ top) (hn : 1 ≤ n) {j : Nat} (hj' : j ≤ n) : 0 ≤ hj top n j ∧ hj top n j ≤ top := by
  constructor
  · exact Int.ediv_nonneg (Int.mul_nonneg (by omega) ht) (by omega)
  · have e := hj_top top hn
    have : hj top n j ≤ hj top n n := by
      unfold hj
      exact Int.ediv_le_ediv (by omega) (Int.mul_le_mul_of_nonneg_right (by omega) ht)
    omega
theorem hts_check {top : Int} {n : Nat} (ht : 0 ≤ top) (ht2 : top ≤ 200000) (hn : 1 ≤ n) (hn2 : n ≤ 64) : sCheck (upto (hgt top (n : Int)) (n + 1)) = 0 := by
  have len : (upto (hgt top (n : Int)) (n + 1)).length = n + 1 := upto_length _ _
  have up : (upto (nb (upto (hgt top (n : Int)) (n + 1))) ((upto (hgt top (n : Int)) (n + 1)).length - 1)).all rising = true := by
    have e := hts_nb ht ht2 hn hn2
    unfold pairs at e
    rw [e, List.all_eq_true]
    intro p hp
    obtain ⟨j, _, rfl⟩ := List.mem_map.1 hp
    unfold rising
    exact decide_eq_true (hj_up ht hn j)
  have get : ∀ j, j < (upto (hgt top (n : Int)) (n + 1)).length → inRange ((upto (hgt top (n : Int)) (n + 1))[j]?.getD 0) = true := by
    intro j hj'
    rw [len] at hj'
    rw [upto_val hj', hgt_eq ht ht2 hn (by omega)]
    have b := hj_bound ht hn (show j ≤ n by omega)
    unfold inRange
    exact decide_eq_true (by omega)
  unfold sCheck
  rw [if_neg (by omega), if_neg (by omega), if_pos (rangeOk_all get), if_pos up]

theorem whole_f (r : Int) : segment_Whole.f r = some (if isM r = true then (r * r * 333 / 106, (r * r * 355 + 112) / 113, 0) else (0, 0, 2)) := by
  unfold segment_Whole.f
  rw [measure_spec, Option.bind_some]
  by_cases h : isM r = true
  · rw [if_pos h, if_pos h]
    have h1 := of_decide_eq_true h
    have b : r * r ≤ 100000 * 100000 := Int.le_trans (Int.mul_le_mul_of_nonneg_right h1.2 h1.1) (Int.mul_le_mul_of_nonneg_left h1.2 (by omega))
    have p : 0 ≤ r * r := Int.mul_nonneg h1.1 h1.1
    rw [wid (x := r * r) (by omega) (by omega), wid (x := r * r * 333) (by omega) (by omega), wid (x := r * r * 355) (by omega) (by omega), wid (x := r * r * 355 + 112) (by omega) (by omega), Int.tdiv_eq_ediv_of_nonneg (by omega), Int.tdiv_eq_ediv_of_nonneg (by omega), wid (by omega) (by omega), wid (by omega) (by omega)]
  · rw [if_neg h, if_neg h]

theorem SegmentWhole : spilelaw07_SegmentWhole.Pure := by
  intro r c n _ _ _
  refine ⟨200, ?_⟩
  unfold spilelaw07_SegmentWhole.f
  rw [awakeW, Option.bind_some, if_pos rfl, whole_f, Option.bind_some]
  by_cases hm : isM r = true
  · have h1 := of_decide_eq_true hm
    rw [if_pos hm]
    have side : ∀ q v, spilelaw07_SegmentWhole.j0 200 r c n 0 true q v = some true := by
      intro q v
      simp only [spilelaw07_SegmentWhole.j0]
      rw [if_pos trivial, if_pos trivial]
    rw [if_pos rfl]
    by_cases h2 : c < r
    · rw [if_pos h2, side]
    · rw [if_neg h2]
      by_cases h3 : c > 100000
      · rw [decide_eq_true h3, side]
      · rw [decide_eq_false h3]
        simp only [spilelaw07_SegmentWhole.j0]
        rw [if_neg (by simp), wid (x := c + r) (by omega) (by omega), heights_spec _ _ (by decide), Option.bind_some]
        unfold sHeights
        by_cases h4 : c + r < 0 ∨ c + r > 200000 ∨ n < 1 ∨ n > 64
        · rw [if_pos h4, if_neg (by decide)]; rfl
        · rw [if_neg h4, if_pos rfl]
          obtain ⟨N, rfl⟩ : ∃ N : Nat, n = (N : Int) := ⟨n.toNat, by omega⟩
          have eN : (N : Int).toNat + 1 = N + 1 := by omega
          have hN : 1 ≤ N := by omega
          have hN2 : N ≤ 64 := by omega
          have hc : isM c = true := decide_eq_true (by omega)
          have ck := hts_check (top := c + r) (by omega) (by omega) hN hN2
          rw [eN, areaW, area_ok hm hc ck, Option.bind_some, if_pos rfl, hts_nb (by omega) (by omega) hN hN2]
          have up := hj_up (top := c + r) (by omega) hN
          have z := hj_zero (c + r) N
          have t := hj_top (c + r) hN
          have low : ∀ j, j < N → 32 * (hj (c + r) N j - c) ≤ 31 * r := by
            intro j hj'
            have := hj_low (top := c + r) (by omega) hN hN2 hj'
            omega
          have A := whole_above (c := c) h1.1 h1.2 (hj (c + r) N) N up (by omega) t (fun j hj' => .inr (low j hj'))
          have B := whole_below (c := c) h1.1 h1.2 (hj (c + r) N) N up (by omega) t (fun j hj' => by
            by_cases e : j + 1 < N
            · exact .inl (low _ e)
            · have e2 : j + 1 = N := by omega
              rw [e2, t]; exact .inr (by omega))
          have ok : ∀ p ∈ upto (fun j => (hj (c + r) N j, hj (c + r) N (j + 1))) N, okP p := by
            rw [← hts_nb (by omega) (by omega) hN hN2]; exact pairs_ok ck
          have T := T_bound (r := r) (c := c) h1.1 h1.2 _ ok
          generalize lowT r c (upto (fun j => (hj (c + r) N j, hj (c + r) N (j + 1))) N) = lo at *
          generalize highT r c (upto (fun j => (hj (c + r) N j, hj (c + r) N (j + 1))) N) = hi at *
          have p : 0 ≤ r * r := Int.mul_nonneg h1.1 h1.1
          generalize r * r = q at *
          rw [if_pos (by (try simp only []); omega), if_pos (by (try simp only []); omega), if_pos (by (try simp only []); omega), decide_eq_true (by (try simp only []); omega)]
  · rw [if_neg hm, if_neg (by decide)]
    simp only [spilelaw07_SegmentWhole.j0]
    rw [if_pos trivial, if_neg (by decide)]; rfl
end Go.Proofs.Ythbkbokfngbocaa.Pure
