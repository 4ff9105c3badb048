import Derived.Test.YthbkbokfngbocaaSeg
/-! Strips of a circle in plain numbers: their values, how they grow, and how they are divided. -/
namespace Go.Proofs.Ythbkbokfngbocaa.Sq
set_option linter.unusedVariables false
set_option linter.unusedSimpArgs false
open Go.RowKit Go.Proofs.Ythbkbokfngbocaa.X Go.Proofs.Ythbkbokfngbocaa.It Go.Proofs.YthbkbokfngbocaaW.PrintWords Go.Proofs.YthbkbokfngbocaaW.PrintLast Go.Proofs.YthbkbokfngbocaaW.PrintMore

theorem mn_spec (a b : Int) : mn a b ≤ a ∧ mn a b ≤ b ∧ (mn a b = a ∨ mn a b = b) := by unfold mn; split <;> omega
theorem mx_spec (a b : Int) : a ≤ mx a b ∧ b ≤ mx a b ∧ (mx a b = a ∨ mx a b = b) := by unfold mx; split <;> omega

/-- the bounds of the half chord -/
def hf (r d : Int) : Int × Int := if d > r ∨ -d > r then (0, 0) else (sqr (r * r - d * d), cei (r * r - d * d))
theorem hf_bound {r d : Int} (h0 : 0 ≤ r) (h1 : r ≤ 100000) : 0 ≤ (hf r d).1 ∧ (hf r d).1 ≤ (hf r d).2 ∧ (hf r d).2 ≤ r := by
  unfold hf
  split
  · exact ⟨Int.le_refl _, Int.le_refl _, h0⟩
  · have ⟨e1, e2, e3, e4⟩ := half_small (r := r) (y := d) (by omega) (by omega) (by omega) (by omega)
    exact ⟨sqr_nonneg _, sqr_le_cei _, cei_least (by omega) (by omega) (by omega)⟩
theorem hf_mono {r r' d d' : Int} (h0 : 0 ≤ r) (h1 : r' ≤ 100000) (hr : r ≤ r') (hd : (d' ≤ d ∧ -d' ≤ d) ∨ (d' ≤ -d ∧ -d' ≤ -d)) : (hf r d).1 ≤ (hf r' d').1 ∧ (hf r d).2 ≤ (hf r' d').2 := by
  have b' := hf_bound (r := r') (d := d') (by omega) h1
  by_cases c : d > r ∨ -d > r
  · have : hf r d = (0, 0) := by unfold hf; rw [if_pos c]
    rw [this]; exact ⟨by show (0 : Int) ≤ _; omega, by show (0 : Int) ≤ _; omega⟩
  · have e : hf r d = (sqr (r * r - d * d), cei (r * r - d * d)) := by unfold hf; rw [if_neg c]
    have e' : hf r' d' = (sqr (r' * r' - d' * d'), cei (r' * r' - d' * d')) := by unfold hf; rw [if_neg (by omega)]
    rw [e, e']
    have ⟨e1, e2, e3, e4⟩ := half_small (r := r) (y := d) (by omega) (by omega) (by omega) (by omega)
    have f1 : r * r ≤ r' * r' := mul_self_le (by omega) hr
    have f2 : d' * d' ≤ d * d := by
      rcases hd with ⟨a, b⟩ | ⟨a, b⟩
      · exact (half_small (r := d) (y := d') (by omega) (by omega) (by omega) (by omega)).2.2.2
      · have := (half_small (r := -d) (y := d') (by omega) (by omega) (by omega) (by omega)).2.2.2
        rwa [Int.neg_mul_neg] at this
    exact ⟨sqr_le (by omega) (by omega), cei_mono (by omega) (by omega)⟩
theorem sCh_val {r c a : Int} (h0 : 0 ≤ r) (h1 : r ≤ 100000) (h2 : 0 ≤ c) (h3 : c ≤ 100000) (h4 : 0 ≤ a) (h5 : a ≤ 200000) : sCh r c a = (2 * (hf r (a - c)).1, 2 * (hf r (a - c)).2) := by
  unfold sCh hf
  rw [wid (x := a - c) (by omega) (by omega), wid (x := -(a - c)) (by omega) (by omega)]
  by_cases c1 : a - c > r
  · rw [if_pos c1, if_pos (.inl c1)]; rfl
  · rw [if_neg c1]
    by_cases c2 : -(a - c) > r
    · rw [if_pos c2, if_pos (.inr c2)]; rfl
    · rw [if_neg c2, if_neg (by omega)]
      unfold sChord
      rw [sHalf_in (by omega) (by omega)]

/-- the lower and the greater chord of a strip -/
def lowS (r c a b : Int) : Int := mn (2 * (hf r (a - c)).1) (2 * (hf r (b - c)).1)
def highS (r c a b : Int) : Int := if a ≤ c ∧ c ≤ b then 2 * r else mx (2 * (hf r (a - c)).2) (2 * (hf r (b - c)).2)
theorem lowS_bound {r c a b : Int} (h0 : 0 ≤ r) (h1 : r ≤ 100000) : 0 ≤ lowS r c a b ∧ lowS r c a b ≤ highS r c a b ∧ highS r c a b ≤ 2 * r := by
  have x := hf_bound (r := r) (d := a - c) h0 h1
  have y := hf_bound (r := r) (d := b - c) h0 h1
  have m := mn_spec (2 * (hf r (a - c)).1) (2 * (hf r (b - c)).1)
  have n := mx_spec (2 * (hf r (a - c)).2) (2 * (hf r (b - c)).2)
  unfold lowS highS
  split <;> omega
theorem prod_bound {x y : Int} (h0 : 0 ≤ x) (h1 : x ≤ 200000) (h2 : 0 ≤ y) (h3 : y ≤ 200000) : 0 ≤ x * y ∧ x * y ≤ 40000000000 := by
  have : x * y ≤ 200000 * 200000 := Int.mul_le_mul h1 h3 h2 (by omega)
  exact ⟨Int.mul_nonneg h0 h2, by omega⟩
theorem strip_val {r c a b : Int} (h0 : 0 ≤ r) (h1 : r ≤ 100000) (h2 : 0 ≤ c) (h3 : c ≤ 100000) (h4 : 0 ≤ a) (h5 : a ≤ b) (h6 : b ≤ 200000) :
    sStrip r c a b = ((b - a) * lowS r c a b, (b - a) * highS r c a b) := by
  have l := lowS_bound (r := r) (c := c) (a := a) (b := b) h0 h1
  have p := prod_bound (x := b - a) (y := lowS r c a b) (by omega) (by omega) (by omega) (by omega)
  have q := prod_bound (x := b - a) (y := highS r c a b) (by omega) (by omega) (by omega) (by omega)
  unfold sStrip
  rw [sCh_val h0 h1 h2 h3 h4 (by omega), sCh_val h0 h1 h2 h3 (by omega) h6, wid (x := b - a) (by omega) (by omega), wid (x := 2 * r) (by omega) (by omega)]
  have el : mn (2 * (hf r (a - c)).1) (2 * (hf r (b - c)).1) = lowS r c a b := rfl
  simp only [el]
  rw [wid (x := (b - a) * lowS r c a b) (by omega) (by omega)]
  by_cases c1 : a ≤ c
  · rw [if_pos c1]
    by_cases c2 : c ≤ b
    · have e : highS r c a b = 2 * r := by unfold highS; rw [if_pos ⟨c1, c2⟩]
      rw [if_pos c2, e, wid (x := (b - a) * (2 * r)) (by rw [← e]; omega) (by rw [← e]; omega)]
    · have e : highS r c a b = mx (2 * (hf r (a - c)).2) (2 * (hf r (b - c)).2) := by unfold highS; rw [if_neg (by omega)]
      rw [if_neg c2, ← e, wid (by omega) (by omega)]
  · have e : highS r c a b = mx (2 * (hf r (a - c)).2) (2 * (hf r (b - c)).2) := by unfold highS; rw [if_neg (by omega)]
    rw [if_neg c1, ← e, wid (by omega) (by omega)]

/-- a right pair of heights -/
def okP (p : Int × Int) : Prop := 0 ≤ p.1 ∧ p.1 ≤ p.2 ∧ p.2 ≤ 200000
def lowP (r c : Int) (p : Int × Int) : Int := (p.2 - p.1) * lowS r c p.1 p.2
def highP (r c : Int) (p : Int × Int) : Int := (p.2 - p.1) * highS r c p.1 p.2
def lowT (r c : Int) (ps : List (Int × Int)) : Int := (ps.map (lowP r c)).sum
def highT (r c : Int) (ps : List (Int × Int)) : Int := (ps.map (highP r c)).sum
theorem lowT_app (r c : Int) (ps qs : List (Int × Int)) : lowT r c (ps ++ qs) = lowT r c ps + lowT r c qs := by simp [lowT]
theorem highT_app (r c : Int) (ps qs : List (Int × Int)) : highT r c (ps ++ qs) = highT r c ps + highT r c qs := by simp [highT]
theorem lowT_cons (r c : Int) (p : Int × Int) (ps : List (Int × Int)) : lowT r c (p :: ps) = lowP r c p + lowT r c ps := by simp [lowT]
theorem highT_cons (r c : Int) (p : Int × Int) (ps : List (Int × Int)) : highT r c (p :: ps) = highP r c p + highT r c ps := by simp [highT]
theorem P_bound {r c : Int} {p : Int × Int} (h0 : 0 ≤ r) (h1 : r ≤ 100000) (hp : okP p) : 0 ≤ lowP r c p ∧ lowP r c p ≤ highP r c p ∧ highP r c p ≤ 40000000000 := by
  obtain ⟨a, b, d⟩ := hp
  have l := lowS_bound (r := r) (c := c) (a := p.1) (b := p.2) h0 h1
  have q := prod_bound (x := p.2 - p.1) (y := highS r c p.1 p.2) (by omega) (by omega) (by omega) (by omega)
  unfold lowP highP
  exact ⟨Int.mul_nonneg (by omega) l.1, Int.mul_le_mul_of_nonneg_left l.2.1 (by omega), q.2⟩
theorem T_bound {r c : Int} (h0 : 0 ≤ r) (h1 : r ≤ 100000) (ps : List (Int × Int)) (hp : ∀ p ∈ ps, okP p) : 0 ≤ lowT r c ps ∧ lowT r c ps ≤ highT r c ps ∧ highT r c ps ≤ 40000000000 * ps.length := by
  induction ps with
  | nil => simp [lowT, highT]
  | cons p ps ih =>
    have i := ih (fun q hq => hp q (List.mem_cons_of_mem _ hq))
    have b := P_bound (r := r) (c := c) h0 h1 (hp p List.mem_cons_self)
    rw [lowT_cons, highT_cons]
    simp only [List.length_cons]
    omega
theorem sumS_val {r c : Int} (h0 : 0 ≤ r) (h1 : r ≤ 100000) (h2 : 0 ≤ c) (h3 : c ≤ 100000) (qs : List (Int × Int)) : ∀ (ps : List (Int × Int)), (∀ p ∈ ps, okP p) → (∀ p ∈ qs, okP p) → ps.length + qs.length ≤ 1000 →
    qs.foldl (addS r c) (lowT r c ps, highT r c ps) = (lowT r c (ps ++ qs), highT r c (ps ++ qs)) := by
  induction qs with
  | nil => intro ps _ _ _; simp
  | cons q qs ih =>
    intro ps hp hq hl
    simp only [List.length_cons] at hl
    have hpq : ∀ p ∈ ps ++ [q], okP p := fun p hp' => (List.mem_append.1 hp').elim (hp p) (fun e => by simp at e; subst e; exact hq _ List.mem_cons_self)
    have b := T_bound (r := r) (c := c) h0 h1 (ps ++ [q]) hpq
    have ok := hq q List.mem_cons_self
    obtain ⟨o1, o2, o3⟩ := ok
    have e : addS r c (lowT r c ps, highT r c ps) q = (lowT r c (ps ++ [q]), highT r c (ps ++ [q])) := by
      unfold addS
      rw [strip_val h0 h1 h2 h3 o1 o2 o3]
      have e1 : lowT r c ps + (q.2 - q.1) * lowS r c q.1 q.2 = lowT r c (ps ++ [q]) := by rw [lowT_app]; simp [lowT, lowP]
      have e2 : highT r c ps + (q.2 - q.1) * highS r c q.1 q.2 = highT r c (ps ++ [q]) := by rw [highT_app]; simp [highT, highP]
      simp only [List.length_append, List.length_singleton] at b
      simp only [e1, e2]
      rw [wid (by omega) (by omega), wid (by omega) (by omega)]
    rw [List.foldl_cons, e, ih (ps ++ [q]) hpq (fun p hp' => hq p (List.mem_cons_of_mem _ hp')) (by simp; omega)]
    simp
theorem sum_val {r c : Int} (h0 : 0 ≤ r) (h1 : r ≤ 100000) (h2 : 0 ≤ c) (h3 : c ≤ 100000) (ps : List (Int × Int)) (hp : ∀ p ∈ ps, okP p) (hl : ps.length ≤ 1000) : sumS r c ps = (lowT r c ps, highT r c ps) := by
  have := sumS_val h0 h1 h2 h3 ps [] (by simp) hp (by simpa using hl)
  simpa [lowT, highT, sumS] using this

/-- the neighbours of a list -/
def pairs (l : List Int) : List (Int × Int) := upto (nb l) (l.length - 1)
theorem pairs_ok {l : List Int} (h : sCheck l = 0) : ∀ p ∈ pairs l, okP p := by
  obtain ⟨h2, h65, hr, hs⟩ := sCheck_ok h
  intro p hp
  have s := List.all_eq_true.1 hs p hp
  unfold pairs upto at hp
  obtain ⟨j, hj, rfl⟩ := List.mem_map.1 hp
  have hj' := List.mem_range.1 hj
  have a1 : l[j]?.getD 0 = l[j]'(by omega) := by rw [List.getElem?_eq_getElem (by omega)]; rfl
  have a2 : l[j + 1]?.getD 0 = l[j + 1]'(by omega) := by rw [List.getElem?_eq_getElem (by omega)]; rfl
  have r1 := List.all_eq_true.1 hr (l[j]'(by omega)) (List.getElem_mem _)
  have r2 := List.all_eq_true.1 hr (l[j + 1]'(by omega)) (List.getElem_mem _)
  unfold inRange at r1 r2
  unfold rising at s
  have r1 := of_decide_eq_true r1
  have r2 := of_decide_eq_true r2
  have s := of_decide_eq_true s
  unfold okP nb
  unfold nb at s
  simp only [a1, a2] at s ⊢
  omega
theorem pairs_len (l : List Int) : (pairs l).length = l.length - 1 := upto_length _ _
theorem area_ok {r c : Int} {l : List Int} (hr : isM r = true) (hc : isM c = true) (h : sCheck l = 0) : sArea r c l = (lowT r c (pairs l), highT r c (pairs l), 0) := by
  have h1 := of_decide_eq_true hr
  have h2 := of_decide_eq_true hc
  obtain ⟨_, h65, _, _⟩ := sCheck_ok h
  unfold sArea
  rw [if_pos hr, if_pos hc, if_pos h]
  have := sum_val (r := r) (c := c) (by omega) (by omega) (by omega) (by omega) (pairs l) (pairs_ok h) (by rw [pairs_len]; omega)
  unfold pairs at this ⊢
  rw [this]
theorem area_err {r c : Int} {l : List Int} (h : ¬ (isM r = true ∧ isM c = true ∧ sCheck l = 0)) : ∃ e, e ≠ 0 ∧ sArea r c l = (0, 0, e) := by
  unfold sArea
  by_cases h1 : isM r = true
  · rw [if_pos h1]
    by_cases h2 : isM c = true
    · rw [if_pos h2]
      by_cases h3 : sCheck l = 0
      · exact absurd ⟨h1, h2, h3⟩ h
      · rw [if_neg h3]; exact ⟨_, h3, rfl⟩
    · rw [if_neg h2]; exact ⟨2, by decide, rfl⟩
  · rw [if_neg h1]; exact ⟨2, by decide, rfl⟩

/-- one list goes up from a to b and on to the next -/
theorem pairs_snoc (l : List Int) (x : Int) (h : 1 ≤ l.length) : pairs (l ++ [x]) = pairs l ++ [(l[l.length - 1]?.getD 0, x)] := by
  unfold pairs
  have e : (l ++ [x]).length - 1 = (l.length - 1) + 1 := by simp; omega
  rw [e, upto_succ]
  congr 1
  · unfold upto
    refine List.map_congr_left (fun j hj => ?_)
    have hj' := List.mem_range.1 hj
    unfold nb
    rw [List.getElem?_append_left (by omega), List.getElem?_append_left (by omega)]
  · unfold nb
    have e2 : l.length - 1 + 1 = l.length := by omega
    rw [e2, List.getElem?_append_left (by omega), List.getElem?_append_right (Nat.le_refl _)]
    simp

/-- a greater radius has no lesser bounds -/
theorem P_grows {r r' c : Int} {p : Int × Int} (h0 : 0 ≤ r) (h1 : r ≤ r') (h2 : r' ≤ 100000) (hp : okP p) : lowP r c p ≤ lowP r' c p ∧ highP r c p ≤ highP r' c p := by
  obtain ⟨a, b, d⟩ := hp
  have x := hf_mono (r := r) (r' := r') (d := p.1 - c) (d' := p.1 - c) h0 h2 h1 (by omega)
  have y := hf_mono (r := r) (r' := r') (d := p.2 - c) (d' := p.2 - c) h0 h2 h1 (by omega)
  have m1 := mn_spec (2 * (hf r (p.1 - c)).1) (2 * (hf r (p.2 - c)).1)
  have m2 := mn_spec (2 * (hf r' (p.1 - c)).1) (2 * (hf r' (p.2 - c)).1)
  have n1 := mx_spec (2 * (hf r (p.1 - c)).2) (2 * (hf r (p.2 - c)).2)
  have n2 := mx_spec (2 * (hf r' (p.1 - c)).2) (2 * (hf r' (p.2 - c)).2)
  have l : lowS r c p.1 p.2 ≤ lowS r' c p.1 p.2 := by unfold lowS; omega
  have u : highS r c p.1 p.2 ≤ highS r' c p.1 p.2 := by unfold highS; split <;> omega
  unfold lowP highP
  exact ⟨Int.mul_le_mul_of_nonneg_left l (by omega), Int.mul_le_mul_of_nonneg_left u (by omega)⟩
theorem T_grows {r r' c : Int} (h0 : 0 ≤ r) (h1 : r ≤ r') (h2 : r' ≤ 100000) (ps : List (Int × Int)) (hp : ∀ p ∈ ps, okP p) : lowT r c ps ≤ lowT r' c ps ∧ highT r c ps ≤ highT r' c ps := by
  induction ps with
  | nil => simp [lowT, highT]
  | cons p ps ih =>
    have i := ih (fun q hq => hp q (List.mem_cons_of_mem _ hq))
    have b := P_grows (r := r) (r' := r') (c := c) h0 h1 h2 (hp p List.mem_cons_self)
    rw [lowT_cons, highT_cons, lowT_cons, highT_cons]
    omega

/-- a strip that is divided has bounds within those before -/
theorem P_cut {r c a m b : Int} (h0 : 0 ≤ r) (h1 : r ≤ 100000) (h2 : 0 ≤ a) (h3 : a ≤ m) (h4 : m ≤ b) (h5 : b ≤ 200000) :
    lowP r c (a, b) ≤ lowP r c (a, m) + lowP r c (m, b) ∧ highP r c (a, m) + highP r c (m, b) ≤ highP r c (a, b) := by
  have ba := hf_bound (r := r) (d := a - c) h0 h1
  have bm := hf_bound (r := r) (d := m - c) h0 h1
  have bb := hf_bound (r := r) (d := b - c) h0 h1
  have m1 := mn_spec (2 * (hf r (a - c)).1) (2 * (hf r (b - c)).1)
  have m2 := mn_spec (2 * (hf r (a - c)).1) (2 * (hf r (m - c)).1)
  have m3 := mn_spec (2 * (hf r (m - c)).1) (2 * (hf r (b - c)).1)
  have n1 := mx_spec (2 * (hf r (a - c)).2) (2 * (hf r (b - c)).2)
  have n2 := mx_spec (2 * (hf r (a - c)).2) (2 * (hf r (m - c)).2)
  have n3 := mx_spec (2 * (hf r (m - c)).2) (2 * (hf r (b - c)).2)
  have key : ((hf r (a - c)).1 ≤ (hf r (m - c)).1 ∧ (hf r (a - c)).2 ≤ (hf r (m - c)).2) ∨ ((hf r (b - c)).1 ≤ (hf r (m - c)).1 ∧ (hf r (b - c)).2 ≤ (hf r (m - c)).2) := by
    rcases Int.le_total m c with h | h
    · exact .inl (hf_mono (d := a - c) (d' := m - c) h0 h1 (Int.le_refl _) (.inr ⟨by omega, by omega⟩))
    · exact .inr (hf_mono (d := b - c) (d' := m - c) h0 h1 (Int.le_refl _) (.inl ⟨by omega, by omega⟩))
  have l1 : lowS r c a b ≤ lowS r c a m := by unfold lowS; omega
  have l2 : lowS r c a b ≤ lowS r c m b := by unfold lowS; omega
  have sa := lowS_bound (r := r) (c := c) (a := a) (b := m) h0 h1
  have sb := lowS_bound (r := r) (c := c) (a := m) (b := b) h0 h1
  have u : highS r c a m ≤ highS r c a b ∧ highS r c m b ≤ highS r c a b := by
    by_cases hc : a ≤ c ∧ c ≤ b
    · have e : highS r c a b = 2 * r := by unfold highS; rw [if_pos hc]
      rw [e]; exact ⟨sa.2.2, sb.2.2⟩
    · have e : highS r c a b = mx (2 * (hf r (a - c)).2) (2 * (hf r (b - c)).2) := by unfold highS; rw [if_neg hc]
      have e1 : highS r c a m = mx (2 * (hf r (a - c)).2) (2 * (hf r (m - c)).2) := by unfold highS; rw [if_neg (by omega)]
      have e2 : highS r c m b = mx (2 * (hf r (m - c)).2) (2 * (hf r (b - c)).2) := by unfold highS; rw [if_neg (by omega)]
      have k2 : (hf r (m - c)).2 ≤ (hf r (a - c)).2 ∨ (hf r (m - c)).2 ≤ (hf r (b - c)).2 := by
        rcases Int.le_total b c with h | h
        · exact .inr (hf_mono (d := m - c) (d' := b - c) h0 h1 (Int.le_refl _) (.inr ⟨by omega, by omega⟩)).2
        · exact .inl (hf_mono (d := m - c) (d' := a - c) h0 h1 (Int.le_refl _) (.inl ⟨by omega, by omega⟩)).2
      rw [e, e1, e2]; omega
  have q1 : (m - a) * lowS r c a b ≤ (m - a) * lowS r c a m := Int.mul_le_mul_of_nonneg_left l1 (by omega)
  have q2 : (b - m) * lowS r c a b ≤ (b - m) * lowS r c m b := Int.mul_le_mul_of_nonneg_left l2 (by omega)
  have q3 : (m - a) * highS r c a m ≤ (m - a) * highS r c a b := Int.mul_le_mul_of_nonneg_left u.1 (by omega)
  have q4 : (b - m) * highS r c m b ≤ (b - m) * highS r c a b := Int.mul_le_mul_of_nonneg_left u.2 (by omega)
  have e1 : (b - a) * lowS r c a b = (m - a) * lowS r c a b + (b - m) * lowS r c a b := by grind
  have e2 : (b - a) * highS r c a b = (m - a) * highS r c a b + (b - m) * highS r c a b := by grind
  unfold lowP highP
  simp only []
  omega
end Go.Proofs.Ythbkbokfngbocaa.Sq
