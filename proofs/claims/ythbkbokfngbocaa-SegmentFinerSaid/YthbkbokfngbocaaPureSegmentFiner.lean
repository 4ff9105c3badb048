/- SegmentFiner: for all numbers and heights refined heights have bounds within those before, are right, and are the heights and others between them; lists of more than 70 heights are let by, as the statement says; no other condition. -/
import Derived.Test.YthbkbokfngbocaaFin
import Derived.Test.YthbkbokfngbocaaSgl
namespace Go.Proofs.Ythbkbokfngbocaa.Pure
set_option linter.unusedVariables false
open Go.RowKit Go.Proofs.Ythbkbokfngbocaa.X Go.Proofs.Ythbkbokfngbocaa.Sq Go.Proofs.Ythbkbokfngbocaa.It Go.Proofs.YthbkbokfngbocaaW.PrintWords

theorem awakeF : spilelaw07_awake.f 200 = some true := by decide +kernel
theorem cloneF (l : List Int) (h : l.length ≤ 140) : slices_Clone_int_int.f l = some l := by unfold slices_Clone_int_int.f; rw [if_pos (by omega)]
theorem areaF (r c : Int) (l : List Int) : segment_Area.f r c l = some (sArea r c l) := rfl
theorem refF (l : List Int) : segment_Refine.f l = some (sRefine l) := rfl

/-- the refined list -/
def fine (l : List Int) : List Int := l[0]?.getD 0 :: (pairs l).flatMap mid
theorem fine_len (l : List Int) : (fine l).length = 1 + 2 * (l.length - 1) := by unfold fine; rw [flat_len, pairs_len]
/-- its elements -/
theorem flat_get (ps : List (Int × Int)) : ∀ (j : Nat), j < ps.length → (ps.flatMap mid)[2 * j]? = some (wrap64 (Int.tdiv (wrap64 ((ps[j]?.getD (0, 0)).1 + (ps[j]?.getD (0, 0)).2)) 2)) ∧ (ps.flatMap mid)[2 * j + 1]? = some (ps[j]?.getD (0, 0)).2 := by
  induction ps with
  | nil => intro j hj; simp at hj
  | cons p ps ih =>
    intro j hj
    cases j with
    | zero => simp [mid]
    | succ j =>
      have := ih j (by simpa using hj)
      have e1 : 2 * (j + 1) = 2 * j + 2 := by omega
      simp only [List.flatMap_cons, mid, e1]
      simpa using this
theorem pairs_get (l : List Int) {j : Nat} (hj : j < l.length - 1) : (pairs l)[j]? = some (nb l j) := by
  unfold pairs upto
  rw [List.getElem?_map, List.getElem?_range hj]; rfl
theorem fine_even {l : List Int} {j : Nat} (hj : j < l.length) : (fine l)[2 * j]? = some (l[j]?.getD 0) := by
  unfold fine
  cases j with
  | zero => simp
  | succ j =>
    have e : 2 * (j + 1) = (2 * j + 1) + 1 := by omega
    rw [e, List.getElem?_cons_succ, (flat_get (pairs l) j (by rw [pairs_len]; omega)).2, pairs_get l (by omega)]
    rfl
theorem fine_odd {l : List Int} {j : Nat} (hj : j < l.length - 1) (h : okP (nb l j)) : (fine l)[2 * j + 1]? = some ((l[j]?.getD 0 + l[j + 1]?.getD 0) / 2) := by
  obtain ⟨a, b, d⟩ := h
  unfold nb at a b d
  simp only [] at a b d
  unfold fine
  rw [List.getElem?_cons_succ, (flat_get (pairs l) j (by rw [pairs_len]; omega)).1, pairs_get l hj]
  simp only [Option.getD_some, nb]
  rw [wid (x := l[j]?.getD 0 + l[j + 1]?.getD 0) (by omega) (by omega), Int.tdiv_eq_ediv_of_nonneg (by omega), wid (by omega) (by omega)]
theorem pair_okP {l : List Int} (h : sCheck l = 0) {j : Nat} (hj : j < l.length - 1) : okP (nb l j) := pairs_ok h _ (List.mem_of_getElem? (pairs_get l hj))
/-- the refined list's neighbours: two for each two -/
theorem fine_pairs {l : List Int} (h : sCheck l = 0) (n : Nat) : n ≤ l.length - 1 → upto (nb (fine l)) (2 * n) = (upto (nb l) n).flatMap (fun p => [(p.1, (p.1 + p.2) / 2), ((p.1 + p.2) / 2, p.2)]) := by
  induction n with
  | zero => intro _; rfl
  | succ n ih =>
    intro hn
    have e : 2 * (n + 1) = 2 * n + 1 + 1 := by omega
    have ok := pair_okP h (show n < l.length - 1 by omega)
    rw [e, upto_succ, upto_succ, ih (by omega), upto_succ, List.flatMap_append]
    have e1 : nb (fine l) (2 * n) = (l[n]?.getD 0, (l[n]?.getD 0 + l[n + 1]?.getD 0) / 2) := by
      unfold nb
      rw [fine_even (by omega), fine_odd (by omega) ok]; rfl
    have e2 : nb (fine l) (2 * n + 1) = ((l[n]?.getD 0 + l[n + 1]?.getD 0) / 2, l[n + 1]?.getD 0) := by
      unfold nb
      have e3 : 2 * n + 1 + 1 = 2 * (n + 1) := by omega
      rw [e3, fine_even (by omega), fine_odd (by omega) ok]; rfl
    rw [e1, e2]
    simp [nb]
theorem fine_check {l : List Int} (h : sCheck l = 0) (hl : l.length ≤ 33) : sCheck (fine l) = 0 := by
  obtain ⟨h2, h65, hr, hs⟩ := sCheck_ok h
  have hlen := fine_len l
  have get : ∀ j, j < (fine l).length → inRange ((fine l)[j]?.getD 0) = true := by
    intro j hj
    rcases Nat.mod_two_eq_zero_or_one j with hm | hm
    · obtain ⟨i, rfl⟩ : ∃ i, j = 2 * i := ⟨j / 2, by omega⟩
      have hi : i < l.length := by omega
      rw [fine_even hi]
      have a1 : l[i]?.getD 0 = l[i] := by rw [List.getElem?_eq_getElem hi]; rfl
      rw [Option.getD_some, a1]
      exact List.all_eq_true.1 hr _ (List.getElem_mem hi)
    · obtain ⟨i, rfl⟩ : ∃ i, j = 2 * i + 1 := ⟨j / 2, by omega⟩
      have hi : i < l.length - 1 := by omega
      have ok := pair_okP h hi
      rw [fine_odd hi ok]
      obtain ⟨a, b, d⟩ := ok
      unfold nb at a b d
      simp only [] at a b d
      unfold inRange
      exact decide_eq_true (by rw [Option.getD_some]; omega)
  have up : (upto (nb (fine l)) ((fine l).length - 1)).all rising = true := by
    have e : (fine l).length - 1 = 2 * (l.length - 1) := by omega
    rw [e, fine_pairs h _ (Nat.le_refl _), List.all_eq_true]
    intro q hq
    obtain ⟨p, hp, hq⟩ := List.mem_flatMap.1 hq
    obtain ⟨a, b, d⟩ := pairs_ok h p hp
    unfold rising
    simp only [List.mem_cons, List.not_mem_nil, or_false] at hq
    rcases hq with rfl | rfl <;> exact decide_eq_true (by simp only []; omega)
  unfold sCheck
  rw [if_neg (by omega), if_neg (by omega), if_pos (rangeOk_all get), if_pos up]
theorem cut_sum {r c : Int} (h0 : 0 ≤ r) (h1 : r ≤ 100000) (ps : List (Int × Int)) (hp : ∀ p ∈ ps, okP p) :
    lowT r c ps ≤ lowT r c (ps.flatMap (fun p => [(p.1, (p.1 + p.2) / 2), ((p.1 + p.2) / 2, p.2)])) ∧ highT r c (ps.flatMap (fun p => [(p.1, (p.1 + p.2) / 2), ((p.1 + p.2) / 2, p.2)])) ≤ highT r c ps := by
  induction ps with
  | nil => simp [lowT, highT]
  | cons p ps ih =>
    have i := ih (fun q hq => hp q (List.mem_cons_of_mem _ hq))
    obtain ⟨a, b, d⟩ := hp p List.mem_cons_self
    have k := P_cut (r := r) (c := c) (a := p.1) (m := (p.1 + p.2) / 2) (b := p.2) h0 h1 a (by omega) (by omega) d
    rw [List.flatMap_cons, lowT_app, highT_app, lowT_cons, highT_cons]
    simp only [lowT_cons, highT_cons]
    have z1 : lowT r c [] = 0 := rfl
    have z2 : highT r c [] = 0 := rfl
    have ep : (p.1, p.2) = p := rfl
    rw [ep] at k
    omega

theorem finer_loop (l : List Int) (hl : l.length ≤ 70) (d : Nat) : ∀ (k i : Nat), i ≤ l.length → l.length - i = d → d < k → spilelaw07_SegmentFiner.l0 k (fine l) l (l.length : Int) (i : Int) = some true := by
  have hlen := fine_len l
  induction d with
  | zero =>
    intro k i h1 h2 hk
    obtain ⟨k, rfl⟩ : ∃ m, k = m + 1 := ⟨k - 1, by omega⟩
    simp only [spilelaw07_SegmentFiner.l0]
    rw [if_neg (by omega)]
  | succ d ih =>
    intro k i h1 h2 hk
    obtain ⟨k, rfl⟩ : ∃ m, k = m + 1 := ⟨k - 1, by omega⟩
    have e1 : wrap64 ((i : Int) + 1) = ((i + 1 : Nat) : Int) := by rw [wid (by omega) (by omega)]; omega
    have e2 : wrap64 (2 * (i : Int)) = ((2 * i : Nat) : Int) := by rw [wid (by omega) (by omega)]; omega
    have e3 : rd (fine l) ((2 * i : Nat) : Int) = rd l (i : Int) := by rw [rd_nat, rd_nat, fine_even (by omega)]; rfl
    simp only [spilelaw07_SegmentFiner.l0]
    rw [e1, e2, e3, if_pos (by omega), if_pos (by omega), if_pos (by omega), if_pos (by omega), if_pos (by omega), if_pos rfl]
    exact ih k (i + 1) (by omega) (by omega) (by omega)

theorem SegmentFiner : spilelaw07_SegmentFiner.Pure := by
  intro r c l _ _ _ _ _
  refine ⟨200, ?_⟩
  unfold spilelaw07_SegmentFiner.f
  rw [awakeF, Option.bind_some, if_pos rfl]
  by_cases hl : (l.length : Int) > 70
  · rw [if_pos hl]
  · rw [if_neg hl, cloneF l (by omega), Option.bind_some, areaF, Option.bind_some, Option.bind_some, refF, Option.bind_some]
    by_cases h : isM r = true ∧ isM c = true ∧ sCheck l = 0
    · have hr := of_decide_eq_true h.1
      rw [area_ok h.1 h.2.1 h.2.2, if_pos rfl]
      by_cases h33 : 65 < 2 * (l.length : Int) - 1
      · have e : sRefine l = ([], 15) := by unfold sRefine; rw [if_pos h.2.2, if_pos h33]
        rw [e]
        have e15 : ((([] : List Int), (15 : Int)).2 != 0) = true := rfl
        rw [e15]
        simp only [spilelaw07_SegmentFiner.j0]
        rfl
      · have e : sRefine l = (fine l, 0) := by unfold sRefine; rw [if_pos h.2.2, if_neg h33]; rfl
        have hlen := fine_len l
        obtain ⟨h2, _, _, _⟩ := sCheck_ok h.2.2
        rw [e]
        have e0 : (((fine l), (0 : Int)).2 != 0) = false := rfl
        rw [e0]
        simp only [spilelaw07_SegmentFiner.j0]
        have hc := fine_check h.2.2 (by omega)
        have ep : pairs (fine l) = (pairs l).flatMap (fun p => [(p.1, (p.1 + p.2) / 2), ((p.1 + p.2) / 2, p.2)]) := by
          unfold pairs
          have e : (fine l).length - 1 = 2 * (l.length - 1) := by omega
          rw [e]; exact fine_pairs h.2.2 _ (Nat.le_refl _)
        have cs := cut_sum (r := r) (c := c) (by omega) (by omega) (pairs l) (pairs_ok h.2.2)
        rw [← ep] at cs
        have tb := T_bound (r := r) (c := c) (by omega) (by omega) (pairs (fine l)) (pairs_ok hc)
        rw [if_neg (by simp), cloneF (fine l) (by omega), Option.bind_some, areaF, Option.bind_some, area_ok h.1 h.2.1 hc, if_pos rfl, if_neg (by simp only []; omega), if_neg (by simp only []; omega), if_neg (by simp only []; omega),
          wid (x := 2 * (l.length : Int)) (by omega) (by omega), wid (x := 2 * (l.length : Int) - 1) (by omega) (by omega), if_pos (by omega), Option.bind_some, check_spec, hc, Option.bind_some]
        have e00 : ((0 : Int) != 0) = false := rfl
        rw [e00]
        simp only [spilelaw07_SegmentFiner.j1]
        rw [if_neg (by simp)]
        exact finer_loop l (by omega) l.length _ 0 (by omega) (by omega) (by omega)
    · obtain ⟨e, he, ha⟩ := area_err h
      rw [ha, if_neg he]
      simp only [spilelaw07_SegmentFiner.j0]
      rw [if_pos trivial, if_neg he, if_pos (by rfl)]
      by_cases h2 : (sRefine l).2 = 0
      · rw [if_pos h2]
      · rw [if_neg h2]
        have : (sRefine l).1 = [] := by
          unfold sRefine at h2 ⊢
          by_cases hc : sCheck l = 0
          · rw [if_pos hc] at h2 ⊢
            by_cases h3 : 65 < 2 * (l.length : Int) - 1
            · rw [if_pos h3]
            · rw [if_neg h3] at h2; exact absurd rfl h2
          · rw [if_neg hc]
        rw [this]; rfl
end Go.Proofs.Ythbkbokfngbocaa.Pure
