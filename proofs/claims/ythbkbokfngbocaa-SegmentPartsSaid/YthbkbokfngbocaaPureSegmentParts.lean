/- SegmentParts: for all numbers and heights the bounds between right heights are the sums of those of two parts, and of all strips; what is not right has no bounds; no other condition. -/
import Derived.Test.YthbkbokfngbocaaPar
import Derived.OpenShut
import Derived.Test.YthbkbokfngbocaaSgl
import Derived.Test.YthbkbokfngbocaaSeg
namespace Go.Proofs.Ythbkbokfngbocaa.Pure
set_option linter.unusedVariables false
open Go.RowKit Go.Proofs.Ythbkbokfngbocaa.X Go.Proofs.Ythbkbokfngbocaa.Sq Go.Proofs.Ythbkbokfngbocaa.It Go.Proofs.YthbkbokfngbocaaW.PrintWords

theorem awakeP : spilelaw07_awake.f 200 = some true := by decide +kernel
theorem cloneP (l : List Int) (h : l.length < 17592186044416) : slices_Clone_int_int.f l = some l := by unfold slices_Clone_int_int.f; rw [if_pos h]
theorem areaP (r c : Int) (l : List Int) : segment_Area.f r c l = some (sArea r c l) := rfl

theorem sCheck_mk {m : List Int} (h1 : 2 ≤ m.length) (h2 : m.length ≤ 65) (h3 : ∀ x ∈ m, inRange x = true) (h4 : ∀ p ∈ pairs m, p.1 ≤ p.2) : sCheck m = 0 := by
  have a : m.all inRange = true := List.all_eq_true.2 h3
  have b : (upto (nb m) (m.length - 1)).all rising = true := by
    rw [List.all_eq_true]; intro p hp; exact decide_eq_true (h4 p hp)
  unfold sCheck
  rw [if_neg (by omega), if_neg (by omega), if_pos a, if_pos b]
theorem upto_congr2 {α : Type} {f g : Nat → α} {k : Nat} (h : ∀ j, j < k → f j = g j) : upto f k = upto g k := by
  unfold upto
  exact List.map_congr_left (fun j hj => h j (List.mem_range.1 hj))
theorem upto_split {α : Type} (f : Nat → α) (a : Nat) : ∀ b, upto f (a + b) = upto f a ++ upto (fun j => f (a + j)) b
  | 0 => by simp [upto]
  | b + 1 => by
    have e : a + (b + 1) = (a + b) + 1 := by omega
    rw [e, upto_succ, upto_split f a b, upto_succ, List.append_assoc]
theorem strip_ok {r c a b : Int} (hr : isM r = true) (hc : isM c = true) (hp : okP (a, b)) : segment_Strip.f r c a b = some (lowP r c (a, b), highP r c (a, b), 0) := by
  obtain ⟨p1, p2, p3⟩ := hp
  simp only [] at p1 p2 p3
  have e : pairs [a, b] = [(a, b)] := rfl
  have k : sCheck [a, b] = 0 := by
    refine sCheck_mk (by simp) (by simp) ?_ ?_
    · intro x hx
      simp only [List.mem_cons, List.not_mem_nil, or_false] at hx
      unfold inRange
      rcases hx with rfl | rfl <;> exact decide_eq_true (by omega)
    · rw [e]; intro p hp
      simp only [List.mem_cons, List.not_mem_nil, or_false] at hp
      subst hp; exact p2
  unfold segment_Strip.f
  rw [areaP, area_ok hr hc k, Option.bind_some, e]
  simp [lowT, highT]

theorem parts_two (r c x3 : Int) (l : List Int) (h : isM r = true ∧ isM c = true ∧ sCheck l = 0) (h3 : 0 ≤ x3 ∧ x3 ≤ 255) {k : Nat} (hk : 1 ≤ k) :
    spilelaw07_SegmentParts.j2 k r c l x3 (decide ((l.length : Int) < 3)) (lowT r c (pairs l)) (highT r c (pairs l)) (lowT r c (pairs l)) (highT r c (pairs l)) = some true := by
  obtain ⟨k, rfl⟩ : ∃ m, k = m + 1 := ⟨k - 1, by omega⟩
  obtain ⟨h2l, h65, hr, hs⟩ := sCheck_ok h.2.2
  simp only [spilelaw07_SegmentParts.j2]
  by_cases h4 : (l.length : Int) < 3
  · rw [decide_eq_true h4, if_pos rfl]; simp
  · rw [decide_eq_false h4, if_neg (by simp)]
    have e1 : wrap64 ((l.length : Int) - 2) = (l.length : Int) - 2 := wid (by omega) (by omega)
    have e2 : wrap64 x3 = x3 := wid (by omega) (by omega)
    have m0 : 0 ≤ Int.tmod x3 ((l.length : Int) - 2) := Int.tmod_nonneg _ h3.1
    have m1 : Int.tmod x3 ((l.length : Int) - 2) < (l.length : Int) - 2 := Int.tmod_lt_of_pos _ (by omega)
    rw [e1, e2]
    obtain ⟨m, hm⟩ : ∃ m : Nat, Int.tmod x3 ((l.length : Int) - 2) = (m : Int) := ⟨(Int.tmod x3 ((l.length : Int) - 2)).toNat, by omega⟩
    rw [hm] at m0 m1 ⊢
    have e3 : wrap64 (1 + (m : Int)) = 1 + (m : Int) := wid (by omega) (by omega)
    have e4 : wrap64 (1 + (m : Int) + 1) = 1 + (m : Int) + 1 := wid (by omega) (by omega)
    rw [e3, e4, if_neg (by omega), if_pos (by omega), if_pos (by omega)]
    have t1 : (1 + (m : Int) + 1).toNat = m + 2 := by omega
    have t2 : (1 + (m : Int)).toNat = m + 1 := by omega
    rw [t1, t2]
    have lt : (l.take (m + 2)).length = m + 2 := by rw [List.length_take]; omega
    have ld : (l.drop (m + 1)).length = l.length - (m + 1) := by rw [List.length_drop]
    have pt : pairs (l.take (m + 2)) = upto (nb l) (m + 1) := by
      unfold pairs
      rw [lt]
      refine upto_congr2 (k := m + 1) (fun j hj => ?_)
      unfold nb
      rw [List.getElem?_take_of_lt (by omega), List.getElem?_take_of_lt (by omega)]
    have pd : pairs (l.drop (m + 1)) = upto (fun j => nb l (m + 1 + j)) (l.length - 1 - (m + 1)) := by
      unfold pairs
      rw [ld]
      have e : l.length - (m + 1) - 1 = l.length - 1 - (m + 1) := by omega
      rw [e]
      refine upto_congr2 (fun j hj => ?_)
      unfold nb
      rw [List.getElem?_drop, List.getElem?_drop]
      rfl
    have pp : pairs l = pairs (l.take (m + 2)) ++ pairs (l.drop (m + 1)) := by
      rw [pt, pd]
      unfold pairs
      have e : l.length - 1 = (m + 1) + (l.length - 1 - (m + 1)) := by omega
      have s := upto_split (nb l) (m + 1) (l.length - 1 - (m + 1))
      rw [← e] at s
      exact s
    have ok := pairs_ok h.2.2
    have kt : sCheck (l.take (m + 2)) = 0 := by
      refine sCheck_mk (by omega) (by omega) (fun x hx => List.all_eq_true.1 hr x (List.mem_of_mem_take hx)) (fun p hp => ?_)
      exact (ok p (by rw [pp]; exact List.mem_append_left _ hp)).2.1
    have kd : sCheck (l.drop (m + 1)) = 0 := by
      refine sCheck_mk (by omega) (by omega) (fun x hx => List.all_eq_true.1 hr x (List.mem_of_mem_drop hx)) (fun p hp => ?_)
      exact (ok p (by rw [pp]; exact List.mem_append_right _ hp)).2.1
    rw [cloneP _ (by omega), Option.bind_some, areaP, area_ok h.1 h.2.1 kt, Option.bind_some, if_pos (by omega), if_pos (by omega), cloneP _ (by omega), Option.bind_some, areaP, area_ok h.1 h.2.1 kd, Option.bind_some, if_pos rfl, if_pos rfl]
    have h1 := of_decide_eq_true h.1
    have T1 := T_bound (r := r) (c := c) h1.1 h1.2 (pairs (l.take (m + 2))) (fun p hp => ok p (by rw [pp]; exact List.mem_append_left _ hp))
    have T2 := T_bound (r := r) (c := c) h1.1 h1.2 (pairs (l.drop (m + 1))) (fun p hp => ok p (by rw [pp]; exact List.mem_append_right _ hp))
    rw [pairs_len, lt] at T1
    rw [pairs_len, ld] at T2
    rw [pp, lowT_app, highT_app]
    simp only []
    rw [wid (x := lowT r c (pairs (l.take (m + 2))) + lowT r c (pairs (l.drop (m + 1)))) (by omega) (by omega), wid (x := highT r c (pairs (l.take (m + 2))) + highT r c (pairs (l.drop (m + 1)))) (by omega) (by omega)]
    simp

theorem parts_loop (r c x3 : Int) (l : List Int) (h : isM r = true ∧ isM c = true ∧ sCheck l = 0) (h3 : 0 ≤ x3 ∧ x3 ≤ 255) (d : Nat) : ∀ (k i : Nat), 1 ≤ i → i ≤ l.length → l.length - i = d → d + 1 < k →
    spilelaw07_SegmentParts.l0 k r c l x3 (i : Int) (lowT r c (pairs l)) (highT r c (pairs l)) (lowT r c (upto (nb l) (i - 1))) (highT r c (upto (nb l) (i - 1))) = some true := by
  obtain ⟨h2l, h65, hr, hs⟩ := sCheck_ok h.2.2
  induction d with
  | zero =>
    intro k i h1 h2 hd hk
    obtain ⟨k, rfl⟩ : ∃ m, k = m + 1 := ⟨k - 1, by omega⟩
    have e : i - 1 = l.length - 1 := by omega
    simp only [spilelaw07_SegmentParts.l0]
    rw [if_neg (by omega), e]
    have e2 : upto (nb l) (l.length - 1) = pairs l := rfl
    rw [e2, if_neg (by simp)]
    exact parts_two r c x3 l h h3 (by omega)
  | succ d ih =>
    intro k i h1 h2 hd hk
    obtain ⟨k, rfl⟩ : ∃ m, k = m + 1 := ⟨k - 1, by omega⟩
    obtain ⟨j, rfl⟩ : ∃ j, i = j + 1 := ⟨i - 1, by omega⟩
    have e0 : (((j + 1 : Nat) : Int)) - 1 = (j : Int) := by omega
    have ew : wrap64 ((((j + 1 : Nat) : Int)) - 1) = (j : Int) := by rw [e0]; exact wid (by omega) (by omega)
    have ew2 : wrap64 ((((j + 1 : Nat) : Int)) + 1) = ((j + 1 + 1 : Nat) : Int) := by rw [wid (by omega) (by omega)]; omega
    simp only [spilelaw07_SegmentParts.l0]
    rw [if_pos (by omega), ew, ew2, if_pos (by omega), if_pos (by omega), if_pos (by omega), rd_nat, rd_nat]
    have hj : j < l.length - 1 := by omega
    have ok : okP (nb l j) := pairs_ok h.2.2 _ (upto_get (nb l) hj)
    have s := strip_ok h.1 h.2.1 (show okP (l[j]?.getD 0, l[j + 1]?.getD 0) from ok)
    rw [s, Option.bind_some, if_pos rfl]
    have g := ih k (j + 1 + 1) (by omega) (by omega) (by omega) (by omega)
    have e1 : j + 1 + 1 - 1 = j + 1 := by omega
    have e2 : j + 1 - 1 = j := by omega
    rw [e1, upto_succ, lowT_app, highT_app] at g
    rw [e2]
    have z1 : lowT r c [nb l j] = lowP r c (l[j]?.getD 0, l[j + 1]?.getD 0) := by simp [lowT, nb]
    have z2 : highT r c [nb l j] = highP r c (l[j]?.getD 0, l[j + 1]?.getD 0) := by simp [highT, nb]
    rw [z1, z2] at g
    have hr1 := of_decide_eq_true h.1
    have T := T_bound (r := r) (c := c) hr1.1 hr1.2 (upto (nb l) j) (fun p hp => by
      obtain ⟨q, hq, rfl⟩ := List.mem_map.1 hp
      exact pairs_ok h.2.2 _ (upto_get (nb l) (by have := List.mem_range.1 hq; omega)))
    rw [upto_length] at T
    have P := P_bound (r := r) (c := c) hr1.1 hr1.2 (show okP (l[j]?.getD 0, l[j + 1]?.getD 0) from ok)
    simp only []
    rw [wid (x := lowT r c (upto (nb l) j) + lowP r c (l[j]?.getD 0, l[j + 1]?.getD 0)) (by omega) (by omega), wid (x := highT r c (upto (nb l) j) + highP r c (l[j]?.getD 0, l[j + 1]?.getD 0)) (by omega) (by omega)]
    exact g

theorem SegmentParts : spilelaw07_SegmentParts.Pure := by
  intro r c l x3 _ _ _ hlen _ w3
  have h3 : 0 ≤ x3 ∧ x3 ≤ 255 := Go.bounds_u8 w3
  refine ⟨200, ?_⟩
  unfold spilelaw07_SegmentParts.f
  rw [awakeP, Option.bind_some, if_pos rfl, cloneP l (by omega), Option.bind_some, areaP, Option.bind_some]
  by_cases h : isM r = true ∧ isM c = true ∧ sCheck l = 0
  · obtain ⟨h2l, h65, hr, hs⟩ := sCheck_ok h.2.2
    rw [area_ok h.1 h.2.1 h.2.2, if_pos rfl, if_neg (by omega), decide_eq_false (by omega)]
    simp only [spilelaw07_SegmentParts.j0]
    rw [if_neg (by simp)]
    have g := parts_loop r c x3 l h h3 (l.length - 1) 199 1 (by omega) (by omega) rfl (by omega)
    exact g
  · obtain ⟨e, he, ha⟩ := area_err h
    rw [ha, if_neg he]
    simp only [spilelaw07_SegmentParts.j0]
    rw [if_pos trivial, if_neg he]; rfl
end Go.Proofs.Ythbkbokfngbocaa.Pure
