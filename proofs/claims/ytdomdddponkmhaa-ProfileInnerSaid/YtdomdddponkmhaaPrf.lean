import Derived.Test.YtdomdddponkmhaaAt8
import Derived.Test.YtdomdddponkmhaaLn
/-! Profiles, in plain numbers: what a right one is, and the radius anywhere. -/
namespace Go.Proofs.Ytdomdddponkmhaa.Prf
set_option linter.unusedVariables false
set_option linter.unusedSimpArgs false
open Go.RowKit Go.Proofs.Ytdomdddponkmhaa.X Go.Proofs.Ytdomdddponkmhaa.It Go.Proofs.Ytdomdddponkmhaa.Ln

def X (l : List S30) (i : Nat) : Int := (l[i]?.getD z30).f0
def R (l : List S30) (i : Nat) : Int := (l[i]?.getD z30).f1
structure Ok (l : List S30) : Prop where
  len2 : 2 ≤ l.length
  len32 : l.length ≤ 32
  x0 : ∀ i, i < l.length → 0 ≤ X l i
  x1 : ∀ i, i < l.length → X l i ≤ 100000
  r0 : ∀ i, i < l.length → 1 ≤ R l i
  r1 : ∀ i, i < l.length → R l i ≤ 100000
  zero : X l 0 = 0
  inc : ∀ i, i + 1 < l.length → X l i < X l (i + 1)
  uni : ∀ i j, i < j → j + 1 < l.length → R l (i + 1) < R l i → R l (j + 1) ≤ R l j

theorem getD_mem {l : List S30} {i : Nat} (h : i < l.length) : l[i]?.getD z30 ∈ l := by
  rw [List.getElem?_eq_getElem h]; exact List.getElem_mem h
theorem mem_getD {l : List S30} {z : S30} (h : z ∈ l) : ∃ i, i < l.length ∧ l[i]?.getD z30 = z := by
  obtain ⟨i, hi, rfl⟩ := List.mem_iff_getElem.1 h
  exact ⟨i, hi, by rw [List.getElem?_eq_getElem hi]; rfl⟩
theorem any_idx (p : S30 → Bool) (l : List S30) : l.any p = true ↔ ∃ i, i < l.length ∧ p (l[i]?.getD z30) = true := by
  rw [List.any_eq_true]
  constructor
  · rintro ⟨z, hz, hp⟩
    obtain ⟨i, hi, rfl⟩ := mem_getD hz
    exact ⟨i, hi, hp⟩
  · rintro ⟨i, hi, hp⟩
    exact ⟨_, getD_mem hi, hp⟩
theorem all_idx (p : S30 × S30 → Bool) (l : List S30) (m : Nat) : (upto (nb l) m).all p = true ↔ ∀ i, i < m → p (nb l i) = true := by
  rw [List.all_eq_true]
  constructor
  · intro h i hi
    exact h _ (List.mem_map.2 ⟨i, List.mem_range.2 hi, rfl⟩)
  · intro h z hz
    obtain ⟨i, hi, rfl⟩ := List.mem_map.1 hz
    exact h i (List.mem_range.1 hi)
theorem st_idx (l : List S30) : ∀ m, ((st (upto (nb l) m)).2 = true ↔ ∃ i, i < m ∧ R l (i + 1) < R l i) ∧ ((st (upto (nb l) m)).1 = true ↔ ∃ i j, i < j ∧ j < m ∧ R l (i + 1) < R l i ∧ R l j < R l (j + 1))
  | 0 => by
    constructor
    · constructor
      · intro h; simp [upto, st] at h
      · rintro ⟨i, hi, _⟩; omega
    · constructor
      · intro h; simp [upto, st] at h
      · rintro ⟨i, j, _, hi, _⟩; omega
  | m + 1 => by
    obtain ⟨h2, h1⟩ := st_idx l m
    rw [upto_succ, st_snoc]
    have e2 : (Go.Proofs.Ytdomdddponkmhaa.X.step (st (upto (nb l) m)) (nb l m)).2 = true ↔ (st (upto (nb l) m)).2 = true ∨ R l (m + 1) < R l m := by
      simp only [Go.Proofs.Ytdomdddponkmhaa.X.step, Bool.or_eq_true, decide_eq_true_eq]; rfl
    have e1 : (Go.Proofs.Ytdomdddponkmhaa.X.step (st (upto (nb l) m)) (nb l m)).1 = true ↔ (st (upto (nb l) m)).1 = true ∨ ((st (upto (nb l) m)).2 = true ∧ R l m < R l (m + 1)) := by
      simp only [Go.Proofs.Ytdomdddponkmhaa.X.step, Bool.or_eq_true, Bool.and_eq_true, decide_eq_true_eq]; rfl
    constructor
    · rw [e2, h2]
      constructor
      · rintro (⟨i, hi, h⟩ | h)
        · exact ⟨i, by omega, h⟩
        · exact ⟨m, by omega, h⟩
      · rintro ⟨i, hi, h⟩
        by_cases e : i = m
        · subst e; exact .inr h
        · exact .inl ⟨i, by omega, h⟩
    · rw [e1, h1, h2]
      constructor
      · rintro (⟨i, j, hij, hj, h, h'⟩ | ⟨⟨i, hi, h⟩, h'⟩)
        · exact ⟨i, j, hij, by omega, h, h'⟩
        · exact ⟨i, m, hi, by omega, h, h'⟩
      · rintro ⟨i, j, hij, hj, h, h'⟩
        by_cases e : j = m
        · subst e; exact .inr ⟨⟨i, hij, h⟩, h'⟩
        · exact .inl ⟨i, j, hij, by omega, h, h'⟩
theorem far_idx (l : List S30) (i : Nat) : far (l[i]?.getD z30) = true ↔ ¬ (0 ≤ X l i ∧ X l i ≤ 100000 ∧ 0 ≤ R l i ∧ R l i ≤ 100000) := by
  unfold far meas X R
  simp only [Bool.not_eq_true', Bool.and_eq_false_iff, decide_eq_false_iff_not]
  omega

theorem sCheck_ok {l : List S30} (h : sCheck l = 0) : Ok l := by
  unfold sCheck at h
  by_cases h1 : l.length < 2
  · rw [if_pos h1] at h; cases h
  rw [if_neg h1] at h
  by_cases h2 : 32 < l.length
  · rw [if_pos h2] at h; cases h
  rw [if_neg h2] at h
  by_cases h3 : l.any far = true
  · rw [if_pos h3] at h; cases h
  rw [if_neg h3] at h
  by_cases h4 : (l[0]?.getD z30).f0 ≠ 0
  · rw [if_pos h4] at h; cases h
  rw [if_neg h4] at h
  by_cases h5 : (upto (nb l) (l.length - 1)).all along = false
  · rw [if_pos h5] at h; cases h
  rw [if_neg h5] at h
  by_cases h6 : l.any flat = true
  · rw [if_pos h6] at h; cases h
  rw [if_neg h6] at h
  by_cases h7 : (st (upto (nb l) (l.length - 1))).1 = true
  · rw [if_pos h7] at h; cases h
  have g3 : ∀ i, i < l.length → 0 ≤ X l i ∧ X l i ≤ 100000 ∧ 0 ≤ R l i ∧ R l i ≤ 100000 := by
    intro i hi
    by_cases c : far (l[i]?.getD z30) = true
    · exact absurd ((any_idx far l).2 ⟨i, hi, c⟩) h3
    · rw [far_idx] at c; exact Decidable.of_not_not c
  have g6 : ∀ i, i < l.length → R l i ≠ 0 := by
    intro i hi c
    exact h6 ((any_idx flat l).2 ⟨i, hi, by simpa [flat, R] using c⟩)
  have g5 := (all_idx along l (l.length - 1)).1 (by simpa using h5)
  refine ⟨by omega, by omega, fun i hi => (g3 i hi).1, fun i hi => (g3 i hi).2.1, fun i hi => ?_, fun i hi => (g3 i hi).2.2.2, by unfold X; simpa using h4, fun i hi => ?_, fun i j hij hj hf => ?_⟩
  · have := g3 i hi; have := g6 i hi; omega
  · exact of_decide_eq_true (g5 i (by omega))
  · have := mt ((st_idx l (l.length - 1)).2.2) h7
    have : ¬ (R l j < R l (j + 1)) := fun c => this ⟨i, j, hij, by omega, hf, c⟩
    omega
theorem ok_sCheck {l : List S30} (h : Ok l) : sCheck l = 0 := by
  obtain ⟨a1, a2, a3, a4, a5, a6, a7, a8, a9⟩ := h
  unfold sCheck
  rw [if_neg (by omega), if_neg (by omega), if_neg, if_neg, if_neg, if_neg, if_neg]
  · rw [(st_idx l (l.length - 1)).2]
    rintro ⟨i, j, hij, hj, h1, h2⟩
    have := a9 i j hij (by omega) h1
    omega
  · rw [any_idx]
    rintro ⟨i, hi, c⟩
    have := a5 i hi
    have : R l i = 0 := by simpa [flat, R] using c
    omega
  · rw [Bool.not_eq_false, all_idx]
    intro i hi
    exact decide_eq_true (a8 i (by omega))
  · simpa [X] using a7
  · rw [any_idx]
    rintro ⟨i, hi, c⟩
    rw [far_idx] at c
    have := a3 i hi; have := a4 i hi; have := a5 i hi; have := a6 i hi
    omega

theorem Ok.lt {l : List S30} (h : Ok l) {i j : Nat} (hij : i < j) (hj : j < l.length) : X l i < X l j := by
  obtain ⟨d, rfl⟩ := Nat.le.dest hij
  induction d with
  | zero => exact h.inc i (by omega)
  | succ d ih => exact Int.lt_trans (ih (by omega) (by omega)) (h.inc (i + 1 + d) (by omega))
theorem Ok.le {l : List S30} (h : Ok l) {i j : Nat} (hij : i ≤ j) (hj : j < l.length) : X l i ≤ X l j := by
  rcases Nat.lt_or_eq_of_le hij with g | rfl
  · exact Int.le_of_lt (h.lt g hj)
  · exact Int.le_refl _
theorem Ok.idx_lt {l : List S30} (h : Ok l) {i j : Nat} (hi : i < l.length) (hx : X l i < X l j) : i < j := by
  rcases Nat.lt_or_ge i j with g | g
  · exact g
  · have := h.le g hi; omega
theorem Ok.apart {l : List S30} (h : Ok l) : (upto (nb l) (l.length - 1)).all apart = true := by
  rw [all_idx]
  intro i hi
  have := h.inc i (by omega)
  have := h.x0 i (by omega)
  have := h.x1 (i + 1) (by omega)
  show (wrap64 (X l (i + 1) - X l i) != 0) = true
  rw [wid (by omega) (by omega)]
  simp; omega
theorem Ok.at_f {l : List S30} (h : Ok l) (x : Int) : profile_at.f l x = some (sAt l x) := by
  unfold profile_at.f
  rw [if_pos (by have := h.len32; omega), if_pos h.apart]

/-- the numerator on stave i, and what divides it -/
def nm (l : List S30) (i : Nat) (x : Int) : Int := nu (X l i) (R l i) (X l (i + 1)) (R l (i + 1)) x
def dn (l : List S30) (i : Nat) : Int := X l (i + 1) - X l i
def on (l : List S30) (i : Nat) (x : Int) : Prop := i + 1 < l.length ∧ X l i ≤ x ∧ x ≤ X l (i + 1)
theorem Ok.dn_pos {l : List S30} (h : Ok l) {i : Nat} (hi : i + 1 < l.length) : 0 < dn l i := by have := h.inc i hi; unfold dn; omega
theorem mul_bound {a b A B : Int} (h0 : 0 ≤ a) (h1 : a ≤ A) (g0 : 0 ≤ b) (g1 : b ≤ B) : 0 ≤ a * b ∧ a * b ≤ A * B :=
  ⟨Int.mul_nonneg h0 g0, Int.mul_le_mul h1 g1 g0 (by omega)⟩
theorem tdivE {a b : Int} (h : 0 ≤ a) : Int.tdiv a b = a / b := Int.tdiv_eq_ediv_of_nonneg h
theorem fl_nonneg {n h : Int} (hh : 0 < h) (hn : 0 ≤ n) : 0 ≤ fl n h := (le_fl hh).2 (by omega)
theorem bnds_eq {l : List S30} (h : Ok l) {i : Nat} {x : Int} (ho : on l i x) : bnds x (nb l i) = (fl (nm l i x) (dn l i), ce (nm l i x) (dn l i)) := by
  obtain ⟨hi, h1, h2⟩ := ho
  have := h.inc i (by omega)
  have p0 := h.x0 i (by omega)
  have p1 := h.x1 (i + 1) (by omega)
  have q0 := h.r0 i (by omega)
  have q1 := h.r1 i (by omega)
  have q2 := h.r0 (i + 1) (by omega)
  have q3 := h.r1 (i + 1) (by omega)
  have m1 := mul_bound (a := R l i) (b := X l (i + 1) - x) (A := 100000) (B := 100000) (by omega) (by omega) (by omega) (by omega)
  have m2 := mul_bound (a := R l (i + 1)) (b := x - X l i) (A := 100000) (B := 100000) (by omega) (by omega) (by omega) (by omega)
  have hd : 0 < dn l i := h.dn_pos hi
  have en : numer x (nb l i) = nm l i x := by
    show wrap64 (wrap64 (R l i * wrap64 (X l (i + 1) - x)) + wrap64 (R l (i + 1) * wrap64 (x - X l i))) = _
    rw [wid (x := X l (i + 1) - x) (by omega) (by omega), wid (x := x - X l i) (by omega) (by omega), wid (x := R l i * (X l (i + 1) - x)) (by omega) (by omega), wid (x := R l (i + 1) * (x - X l i)) (by omega) (by omega), wid (by omega) (by omega)]
    rfl
  have ed : wrap64 ((nb l i).2.f0 - (nb l i).1.f0) = dn l i := wid (by show _ ≤ X l (i + 1) - X l i; omega) (by show X l (i + 1) - X l i < _; omega)
  have n0 : 0 ≤ nm l i x := by show 0 ≤ R l i * (X l (i + 1) - x) + R l (i + 1) * (x - X l i); omega
  have n1 : nm l i x ≤ 20000000000 := by show R l i * (X l (i + 1) - x) + R l (i + 1) * (x - X l i) ≤ _; omega
  have nle := nu_le (r := R l i) (s := R l (i + 1)) (m := 100000) h1 h2 q1 q3
  have c1 : fl (nm l i x) (dn l i) < 100001 := (fl_lt hd).2 (by show nu _ _ _ _ _ < 100001 * (X l (i + 1) - X l i); omega)
  have c0 := fl_nonneg hd n0
  have c2 := ce_le_fl (n := nm l i x) hd
  have c3 := fl_le_ce (n := nm l i x) hd
  have hdn : dn l i ≤ 100000 := by unfold dn; omega
  unfold bnds
  rw [en, ed, tdivE n0, wid (x := nm l i x + dn l i) (by omega) (by omega), wid (x := nm l i x + dn l i - 1) (by omega) (by omega), tdivE (by omega)]
  change (wrap64 (fl (nm l i x) (dn l i)), wrap64 (ce (nm l i x) (dn l i))) = _
  rw [wid (by omega) (by omega), wid (by omega) (by omega)]

theorem find_upto {l : List S30} {x : Int} : ∀ {m i : Nat}, i < m → x ≤ X l (i + 1) → (∀ j, j < i → X l (j + 1) < x) → (upto (nb l) m).find? (fun p => decide (x ≤ p.2.f0)) = some (nb l i)
  | 0, i, h, _, _ => by omega
  | m + 1, i, h, h1, h2 => by
    rw [upto_succ, List.find?_append]
    by_cases e : i = m
    · subst e
      have : (upto (nb l) i).find? (fun p => decide (x ≤ p.2.f0)) = none := by
        rw [List.find?_eq_none]
        intro p hp
        obtain ⟨j, hj, rfl⟩ := List.mem_map.1 hp
        have := h2 j (List.mem_range.1 hj)
        simp only [decide_eq_true_eq]
        show ¬ x ≤ X l (j + 1)
        omega
      rw [this, Option.none_or]
      have : decide (x ≤ (nb l i).2.f0) = true := decide_eq_true h1
      simp [this]
    · rw [find_upto (by omega) h1 h2, Option.some_or]
/-- which stave holds x -/
theorem Ok.stave {l : List S30} (h : Ok l) {x : Int} (h0 : 0 ≤ x) (h1 : x ≤ X l (l.length - 1)) : ∃ i, on l i x ∧ ∀ j, j < i → X l (j + 1) < x := by
  have key : ∀ m, m + 1 < l.length + 1 → (∀ j, j < m → X l (j + 1) < x) ∨ ∃ i, i < m ∧ x ≤ X l (i + 1) ∧ ∀ j, j < i → X l (j + 1) < x := by
    intro m
    induction m with
    | zero => intro _; exact .inl (fun j hj => by omega)
    | succ m ih =>
      intro hm
      rcases ih (by omega) with g | ⟨i, hi, g1, g2⟩
      · by_cases c : x ≤ X l (m + 1)
        · exact .inr ⟨m, by omega, c, g⟩
        · refine .inl (fun j hj => ?_)
          by_cases e : j = m
          · subst e; omega
          · exact g j (by omega)
      · exact .inr ⟨i, by omega, g1, g2⟩
  have l2 := h.len2
  rcases key (l.length - 1) (by omega) with g | ⟨i, hi, g1, g2⟩
  · have := g (l.length - 2) (by omega)
    rw [show l.length - 2 + 1 = l.length - 1 by omega] at this
    omega
  · refine ⟨i, ⟨by omega, ?_, g1⟩, g2⟩
    cases i with
    | zero => rw [h.zero]; exact h0
    | succ i => exact Int.le_of_lt (g2 i (by omega))
theorem Ok.sAt_first {l : List S30} (h : Ok l) {i : Nat} {x : Int} (ho : on l i x) (hf : ∀ j, j < i → X l (j + 1) < x) : sAt l x = (fl (nm l i x) (dn l i), ce (nm l i x) (dn l i)) := by
  unfold sAt
  have := ho.1
  rw [find_upto (i := i) (by omega) ho.2.2 hf]
  exact bnds_eq h ho
/-- the radius on any stave that holds x -/
theorem Ok.sAt_on {l : List S30} (h : Ok l) {i : Nat} {x : Int} (ho : on l i x) : sAt l x = (fl (nm l i x) (dn l i), ce (nm l i x) (dn l i)) := by
  by_cases c : X l i < x ∨ i = 0
  · refine h.sAt_first ho fun j hj => ?_
    have := h.le (i := j + 1) (j := i) (by omega) (by have := ho.1; omega)
    rcases c with c | c <;> omega
  · have h0 : 0 < i := by omega
    have hx : x = X l i := by have := ho.2.1; omega
    have hi := ho.1
    have ei : i - 1 + 1 = i := by omega
    have h3 : on l (i - 1) x := ⟨by omega, by have := h.inc (i - 1) (by omega); rw [ei] at this; omega, by rw [ei]; omega⟩
    rw [h.sAt_first h3 (fun j hj => by have := h.lt (i := j + 1) (j := i) (by omega) (by omega); omega)]
    have e1 : nm l (i - 1) x = R l i * dn l (i - 1) := by unfold nm dn; rw [ei, hx]; exact nu_right _ _ _ _
    have e2 : nm l i x = R l i * dn l i := by unfold nm dn; rw [hx]; exact nu_left _ _ _ _
    have d1 := h.dn_pos h3.1
    have d2 := h.dn_pos hi
    rw [e1, e2, fl_whole d1, ce_whole d1, fl_whole d2, ce_whole d2]
end Go.Proofs.Ytdomdddponkmhaa.Prf
