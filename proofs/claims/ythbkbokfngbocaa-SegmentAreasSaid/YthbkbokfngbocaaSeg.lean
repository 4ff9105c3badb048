import Derived.Test.YthbkbokfngbocaaXx3
import Derived.Test.YthbkbokfngbocaaXx5
import Derived.Test.YthbkbokfngbocaaXx4
import Derived.Test.YthbkbokfngbocaaXx6
import Derived.Test.YthbkbokfngbocaaRef
import Derived.Test.YthbkbokfngbocaaCln
/-! What Heights, Check and Refine, and those of the reference, come to. -/
namespace Go.Proofs.Ythbkbokfngbocaa.Sq
set_option linter.unusedVariables false
set_option linter.unusedSimpArgs false
open Go.RowKit Go.Proofs.Ythbkbokfngbocaa.X Go.Proofs.Ythbkbokfngbocaa.It Go.Proofs.YthbkbokfngbocaaW.PrintWords Go.Proofs.YthbkbokfngbocaaW.PrintLast Go.Proofs.YthbkbokfngbocaaW.PrintMore

theorem equal_loop (l : List Int) (hl : l.length < 1000000) (d : Nat) : ∀ (k i : Nat), i ≤ l.length → l.length - i = d → d < k → slices_Equal_int_int.l0 k l l (l.length : Int) (i : Int) = some true := by
  induction d with
  | zero =>
    intro k i h0 h1 hk
    obtain ⟨k, rfl⟩ : ∃ m, k = m + 1 := ⟨k - 1, by omega⟩
    simp only [slices_Equal_int_int.l0]
    rw [if_neg (by omega)]
  | succ d ih =>
    intro k i h0 h1 hk
    obtain ⟨k, rfl⟩ : ∃ m, k = m + 1 := ⟨k - 1, by omega⟩
    simp only [slices_Equal_int_int.l0]
    rw [if_pos (by omega), if_pos (by omega), if_pos (by omega), if_pos (by omega), if_pos trivial]
    have e : wrap64 ((i : Int) + 1) = ((i + 1 : Nat) : Int) := by rw [wid (by omega) (by omega)]; omega
    rw [e]
    exact ih k (i + 1) (by omega) (by omega) (by omega)
theorem equal_self (l : List Int) (hl : l.length < 1000000) {k : Nat} (hk : l.length < k) : slices_Equal_int_int.f k l l = some true := by
  unfold slices_Equal_int_int.f
  rw [if_pos rfl]
  exact equal_loop l hl l.length k 0 (by omega) (by omega) hk

/-- the height of a strip -/
def hgt (top n : Int) (i : Nat) : Int := wrap64 (Int.tdiv (wrap64 ((i : Int) * top)) n)
def sHeights (top n : Int) : List Int × Int := if top < 0 ∨ top > 200000 ∨ n < 1 ∨ n > 64 then ([], 2) else (upto (hgt top n) (n.toNat + 1), 0)
theorem heights_loop (top n : Int) (h1 : 1 ≤ n) (h2 : n ≤ 64) (d : Nat) : ∀ (k i : Nat), i ≤ n.toNat + 1 → n.toNat + 1 - i = d → d < k → segment_Heights.l0 k top n (upto (hgt top n) i) (wrap64 (n + 1)) (i : Int) = some (upto (hgt top n) (n.toNat + 1), 0) := by
  induction d with
  | zero =>
    intro k i h3 h4 hk
    obtain ⟨k, rfl⟩ : ∃ m, k = m + 1 := ⟨k - 1, by omega⟩
    have e : i = n.toNat + 1 := by omega
    subst e
    simp only [segment_Heights.l0]
    rw [wid (by omega) (by omega), if_neg (by omega)]
  | succ d ih =>
    intro k i h3 h4 hk
    obtain ⟨k, rfl⟩ : ∃ m, k = m + 1 := ⟨k - 1, by omega⟩
    simp only [segment_Heights.l0]
    have e : wrap64 ((i : Int) + 1) = ((i + 1 : Nat) : Int) := by rw [wid (by omega) (by omega)]; omega
    rw [if_pos (by rw [wid (by omega) (by omega)]; omega), if_neg (by omega), if_pos (by rw [upto_length]; omega), e]
    have := ih k (i + 1) (by omega) (by omega) (by omega)
    rw [upto_succ] at this
    exact this
theorem heights_spec (top n : Int) {k : Nat} (hk : 70 ≤ k) : segment_Heights.f k top n = some (sHeights top n) := by
  obtain ⟨k, rfl⟩ : ∃ m, k = m + 1 := ⟨k - 1, by omega⟩
  have bad : ∀ b : Bool, (b = true → top < 0 ∨ top > 200000 ∨ n < 1 ∨ n > 64) → (b = false → ¬ (top < 0 ∨ top > 200000 ∨ n < 1 ∨ n > 64)) → segment_Heights.j0 (k + 1) top n b = some (sHeights top n) := by
    intro b h1 h2
    simp only [segment_Heights.j0]
    unfold sHeights
    cases b with
    | true => rw [if_pos rfl, if_pos (h1 rfl)]
    | false =>
      have := h2 rfl
      rw [if_neg (by simp), if_neg this]
      exact heights_loop top n (by omega) (by omega) (n.toNat + 1) k 0 (by omega) (by omega) (by omega)
  unfold segment_Heights.f
  by_cases c1 : top < 0
  · rw [if_pos c1, bad true (by intro; omega) (by simp)]
  · rw [if_neg c1]
    by_cases c2 : top > 200000
    · rw [if_pos c2, bad true (by intro; omega) (by simp)]
    · rw [if_neg c2]
      by_cases c3 : n < 1
      · rw [if_pos c3, bad true (by intro; omega) (by simp)]
      · rw [if_neg c3, bad _ (by intro h; have := of_decide_eq_true h; omega) (by intro h; have := of_decide_eq_false h; omega)]
theorem refHeights_loop (top n : Int) (h1 : 1 ≤ n) (h2 : n ≤ 64) (d : Nat) : ∀ (k i : Nat), i ≤ n.toNat + 1 → n.toNat + 1 - i = d → d < k → spileref07_Heights.l0 k top n (upto (hgt top n) i) (i : Int) = some (upto (hgt top n) (n.toNat + 1), 0) := by
  induction d with
  | zero =>
    intro k i h3 h4 hk
    obtain ⟨k, rfl⟩ : ∃ m, k = m + 1 := ⟨k - 1, by omega⟩
    have e : i = n.toNat + 1 := by omega
    subst e
    simp only [spileref07_Heights.l0]
    rw [if_neg (by omega)]
  | succ d ih =>
    intro k i h3 h4 hk
    obtain ⟨k, rfl⟩ : ∃ m, k = m + 1 := ⟨k - 1, by omega⟩
    simp only [spileref07_Heights.l0]
    have e : wrap64 ((i : Int) + 1) = ((i + 1 : Nat) : Int) := by rw [wid (by omega) (by omega)]; omega
    rw [if_pos (by omega), if_neg (by omega), if_pos (by rw [upto_length]; omega), e]
    have := ih k (i + 1) (by omega) (by omega) (by omega)
    rw [upto_succ] at this
    exact this
theorem refHeights_spec (top n : Int) {k : Nat} (hk : 70 ≤ k) : spileref07_Heights.f k top n = some (sHeights top n) := by
  obtain ⟨k, rfl⟩ : ∃ m, k = m + 1 := ⟨k - 1, by omega⟩
  have bad : ∀ b : Bool, (b = true → top < 0 ∨ top > 200000 ∨ n < 1 ∨ n > 64) → (b = false → ¬ (top < 0 ∨ top > 200000 ∨ n < 1 ∨ n > 64)) → spileref07_Heights.j0 (k + 1) top n b = some (sHeights top n) := by
    intro b h1 h2
    simp only [spileref07_Heights.j0]
    unfold sHeights
    cases b with
    | true => rw [if_pos rfl, if_pos (h1 rfl)]
    | false =>
      have := h2 rfl
      rw [if_neg (by simp), if_neg this]
      exact refHeights_loop top n (by omega) (by omega) (n.toNat + 1) k 0 (by omega) (by omega) (by omega)
  unfold spileref07_Heights.f
  by_cases c1 : top < 0
  · rw [if_pos c1, bad true (by intro; omega) (by simp)]
  · rw [if_neg c1]
    by_cases c2 : top > 200000
    · rw [if_pos c2, bad true (by intro; omega) (by simp)]
    · rw [if_neg c2]
      by_cases c3 : n < 1
      · rw [if_pos c3, bad true (by intro; omega) (by simp)]
      · rw [if_neg c3, bad _ (by intro h; have := of_decide_eq_true h; omega) (by intro h; have := of_decide_eq_false h; omega)]

theorem rd_nat (l : List Int) (j : Nat) : rd l (j : Int) = l[j]?.getD 0 := by
  unfold rd
  simp [List.getD_eq_getElem?_getD]

theorem sorted_ok {l : List Int} (h : ∀ j, j < l.length - 1 → rising (nb l j) = true) : (upto (nb l) (l.length - 1)).all rising = true := by
  rw [List.all_eq_true]
  intro x hx
  unfold upto at hx
  obtain ⟨j, hj, rfl⟩ := List.mem_map.1 hx
  exact h j (List.mem_range.1 hj)

theorem refCheck_l1 (l : List Int) (hl : 2 ≤ l.length) (hl2 : l.length ≤ 65) (d : Nat) : ∀ (k i : Nat), 1 ≤ i → i ≤ l.length → l.length - i = d → d < k → (∀ j, j + 1 < i → rising (nb l j) = true) →
    spileref07_Check.l1 k l (i : Int) = some (if (upto (nb l) (l.length - 1)).all rising = true then 0 else 5) := by
  induction d with
  | zero =>
    intro k i h0 h1 h2 hk hr
    obtain ⟨k, rfl⟩ : ∃ m, k = m + 1 := ⟨k - 1, by omega⟩
    simp only [spileref07_Check.l1]
    rw [if_neg (by omega), if_pos (sorted_ok (fun j hj => hr j (by omega)))]
  | succ d ih =>
    intro k i h0 h1 h2 hk hr
    obtain ⟨k, rfl⟩ : ∃ m, k = m + 1 := ⟨k - 1, by omega⟩
    obtain ⟨i, rfl⟩ : ∃ m, i = m + 1 := ⟨i - 1, by omega⟩
    simp only [spileref07_Check.l1]
    have e0 : wrap64 (((i + 1 : Nat) : Int) - 1) = (i : Int) := by rw [wid (by omega) (by omega)]; omega
    have e1 : wrap64 (((i + 1 : Nat) : Int) + 1) = ((i + 1 + 1 : Nat) : Int) := by rw [wid (by omega) (by omega)]; omega
    rw [e0, e1, rd_nat, rd_nat, if_pos (by omega), if_pos (by omega), if_pos (by omega), if_pos (by omega)]
    by_cases c : l[i + 1]?.getD 0 < l[i]?.getD 0
    · have hf : rising (nb l i) = false := by unfold rising nb; exact decide_eq_false (by show ¬ l[i]?.getD 0 ≤ l[i + 1]?.getD 0; omega)
      rw [if_pos c, all_upto_false (show i < l.length - 1 by omega) hf, if_neg (by simp)]
    · have ht : rising (nb l i) = true := by unfold rising nb; exact decide_eq_true (by show l[i]?.getD 0 ≤ l[i + 1]?.getD 0; omega)
      rw [if_neg c]
      refine ih k (i + 1 + 1) (by omega) (by omega) (by omega) (by omega) (fun j hj => ?_)
      rcases Nat.lt_or_ge (j + 1) (i + 1) with h | h
      · exact hr j h
      · have : j = i := by omega
        subst this; exact ht
theorem refCheck_l0 (l : List Int) (hl : 2 ≤ l.length) (hl2 : l.length ≤ 65) (d : Nat) : ∀ (k i : Nat), i ≤ l.length → l.length - i = d → d + 70 < k → (∀ j, j < i → inRange (l[j]?.getD 0) = true) →
    spileref07_Check.l0 k l (i : Int) = some (if l.all inRange = true then (if (upto (nb l) (l.length - 1)).all rising = true then 0 else 5) else 2) := by
  induction d with
  | zero =>
    intro k i h1 h2 hk hr
    obtain ⟨k, rfl⟩ : ∃ m, k = m + 1 := ⟨k - 1, by omega⟩
    simp only [spileref07_Check.l0]
    rw [if_neg (by omega), if_pos (rangeOk_all (fun j hj => hr j (by omega)))]
    exact refCheck_l1 l hl hl2 (l.length - 1) k 1 (by omega) (by omega) (by omega) (by omega) (fun j hj => by omega)
  | succ d ih =>
    intro k i h1 h2 hk hr
    obtain ⟨k, rfl⟩ : ∃ m, k = m + 1 := ⟨k - 1, by omega⟩
    simp only [spileref07_Check.l0]
    have e1 : wrap64 ((i : Int) + 1) = ((i + 1 : Nat) : Int) := by rw [wid (by omega) (by omega)]; omega
    rw [e1, rd_nat, if_pos (by omega), if_pos (by omega)]
    have bad : ¬ (0 ≤ l[i]?.getD 0 ∧ l[i]?.getD 0 ≤ 200000) → l.all inRange = false := fun h => rangeOk_fail (show i < l.length by omega) (by unfold inRange; exact decide_eq_false h)
    by_cases c : l[i]?.getD 0 < 0
    · rw [if_pos c, bad (by omega), if_neg (by simp)]
    · rw [if_neg c]
      by_cases c2 : l[i]?.getD 0 > 200000
      · rw [if_pos c2, bad (by omega), if_neg (by simp)]
      · rw [if_neg c2]
        refine ih k (i + 1) (by omega) (by omega) (by omega) (fun j hj => ?_)
        rcases Nat.lt_or_ge j i with h | h
        · exact hr j h
        · have : j = i := by omega
          subst this; unfold inRange; exact decide_eq_true (by omega)
theorem refCheck_spec (l : List Int) {k : Nat} (hk : 140 ≤ k) : spileref07_Check.f k l = some (sCheck l) := by
  unfold spileref07_Check.f sCheck
  by_cases h1 : l.length < 2
  · rw [if_pos (by omega), if_pos h1]
  · rw [if_neg (by omega), if_neg h1]
    by_cases h2 : 65 < l.length
    · rw [if_pos (by omega), if_pos h2]
    · rw [if_neg (by omega), if_neg h2]
      exact refCheck_l0 l (by omega) (by omega) l.length k 0 (by omega) (by omega) (by omega) (fun j hj => by omega)

theorem refRefine_loop (l : List Int) (hl : 2 ≤ l.length) (hl2 : l.length ≤ 65) (d : Nat) : ∀ (k i : Nat), 1 ≤ i → i ≤ l.length → l.length - i = d → d < k →
    spileref07_Refine.l0 k l (l[0]?.getD 0 :: (upto (nb l) (i - 1)).flatMap mid) (i : Int) = some (l[0]?.getD 0 :: (upto (nb l) (l.length - 1)).flatMap mid, 0) := by
  induction d with
  | zero =>
    intro k i h0 h1 h2 hk
    obtain ⟨k, rfl⟩ : ∃ m, k = m + 1 := ⟨k - 1, by omega⟩
    have e : i = l.length := by omega
    subst e
    simp only [spileref07_Refine.l0]
    rw [if_neg (by omega)]
  | succ d ih =>
    intro k i h0 h1 h2 hk
    obtain ⟨k, rfl⟩ : ∃ m, k = m + 1 := ⟨k - 1, by omega⟩
    obtain ⟨i, rfl⟩ : ∃ m, i = m + 1 := ⟨i - 1, by omega⟩
    simp only [spileref07_Refine.l0]
    have e0 : wrap64 (((i + 1 : Nat) : Int) - 1) = (i : Int) := by rw [wid (by omega) (by omega)]; omega
    have e1 : wrap64 (((i + 1 : Nat) : Int) + 1) = ((i + 1 + 1 : Nat) : Int) := by rw [wid (by omega) (by omega)]; omega
    rw [e0, e1, rd_nat, rd_nat, if_pos (by omega), if_pos (by omega), if_pos (by omega), if_pos (by omega), Option.bind_some]
    have := ih k (i + 1 + 1) (by omega) (by omega) (by omega) (by omega)
    simp only [Nat.add_sub_cancel] at this ⊢
    rw [upto_succ, List.flatMap_append] at this
    rw [if_pos (by rw [flat_len, upto_length]; simp; omega)]
    simpa [mid, nb] using this
theorem refRefine_spec (l : List Int) {k : Nat} (hk : 140 ≤ k) : spileref07_Refine.f k l = some (sRefine l) := by
  unfold spileref07_Refine.f sRefine
  rw [refCheck_spec l hk, Option.bind_some]
  by_cases he : sCheck l = 0
  · obtain ⟨h2, h65, _, _⟩ := sCheck_ok he
    rw [if_pos he, if_pos he, wid (x := 2 * (l.length : Int)) (by omega) (by omega), wid (by omega) (by omega)]
    by_cases hl : 65 < 2 * (l.length : Int) - 1
    · rw [if_pos hl, if_pos hl]
    · rw [if_neg hl, if_neg hl, if_pos (by omega)]
      have := refRefine_loop l h2 h65 (l.length - 1) k 1 (by omega) (by omega) (by omega) (by omega)
      have e : rd l 0 = l[0]?.getD 0 := rd_nat l 0
      rw [e]
      simpa [upto] using this
  · rw [if_neg he, if_neg he]
end Go.Proofs.Ythbkbokfngbocaa.Sq
