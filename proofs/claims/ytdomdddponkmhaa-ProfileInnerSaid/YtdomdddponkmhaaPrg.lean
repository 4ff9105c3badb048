import Derived.Test.YtdomdddponkmhaaPrf
/-! Profiles, in plain numbers: the bung, turning, inserting, the inner profile. -/
namespace Go.Proofs.Ytdomdddponkmhaa.Prf
set_option linter.unusedVariables false
set_option linter.unusedSimpArgs false
open Go.RowKit Go.Proofs.Ytdomdddponkmhaa.X Go.Proofs.Ytdomdddponkmhaa.It Go.Proofs.Ytdomdddponkmhaa.Ln

/-! ### the bung -/
structure IsBung (l : List S30) (b : Nat) : Prop where
  lt : b < l.length
  before : ∀ i, i < b → R l i < R l b
  most : ∀ i, i < l.length → R l i ≤ R l b
theorem Ok.up1 {l : List S30} (h : Ok l) {b : Nat} (hb : IsBung l b) {i : Nat} (hi : i < b) : R l i ≤ R l (i + 1) := by
  rcases Int.lt_or_le (R l (i + 1)) (R l i) with g | g
  · exfalso
    have key : ∀ d, i + 1 + d ≤ b → R l (i + 1 + d) < R l i := by
      intro d
      induction d with
      | zero => intro _; exact g
      | succ d ih =>
        intro hd
        have := ih (by omega)
        have := h.uni i (i + 1 + d) (by omega) (by have := hb.lt; omega) g
        have e : i + 1 + (d + 1) = i + 1 + d + 1 := by omega
        rw [e]; omega
    have := key (b - (i + 1)) (by omega)
    rw [show i + 1 + (b - (i + 1)) = b by omega] at this
    have := hb.before i hi
    omega
  · exact g
theorem Ok.down1 {l : List S30} (h : Ok l) {b : Nat} (hb : IsBung l b) {i : Nat} (hi : b ≤ i) (hn : i + 1 < l.length) : R l (i + 1) ≤ R l i := by
  rcases Int.lt_or_le (R l i) (R l (i + 1)) with g | g
  · exfalso
    have key : ∀ d, d ≤ i - b → R l (i - d) ≤ R l i := by
      intro d
      induction d with
      | zero => intro _; simp
      | succ d ih =>
        intro hd
        have h1 := ih (by omega)
        rcases Int.lt_or_le (R l (i - d)) (R l (i - (d + 1))) with c | c
        · have e : i - (d + 1) + 1 = i - d := by omega
          have := h.uni (i - (d + 1)) i (by omega) hn (by rw [e]; exact c)
          omega
        · omega
    have := key (i - b) (by omega)
    rw [show i - (i - b) = b by omega] at this
    have := hb.most (i + 1) hn
    omega
  · exact g
theorem Ok.up {l : List S30} (h : Ok l) {b : Nat} (hb : IsBung l b) {i j : Nat} (hij : i ≤ j) (hj : j ≤ b) : R l i ≤ R l j := by
  obtain ⟨d, rfl⟩ := Nat.le.dest hij
  clear hij
  induction d with
  | zero => exact Int.le_refl _
  | succ d ih => exact Int.le_trans (ih (by omega)) (h.up1 hb (by omega))
theorem Ok.down {l : List S30} (h : Ok l) {b : Nat} (hb : IsBung l b) {i j : Nat} (hbi : b ≤ i) (hij : i ≤ j) (hj : j < l.length) : R l j ≤ R l i := by
  obtain ⟨d, rfl⟩ := Nat.le.dest hij
  clear hij
  induction d with
  | zero => exact Int.le_refl _
  | succ d ih => exact Int.le_trans (h.down1 hb (i := i + d) (by omega) (by omega)) (ih (by omega))
/-- the least radius lies at a head -/
theorem Ok.heads {l : List S30} (h : Ok l) {b : Nat} (hb : IsBung l b) {i : Nat} (hi : i < l.length) : min (R l 0) (R l (l.length - 1)) ≤ R l i := by
  rcases Nat.le_total i b with g | g
  · have := h.up hb (Nat.zero_le i) g; omega
  · have := h.down hb g (show i ≤ l.length - 1 by omega) (by omega); omega

theorem Ok.ge_on {l : List S30} (h : Ok l) {i : Nat} {x m : Int} (ho : on l i x) (h1 : m ≤ R l i) (h2 : m ≤ R l (i + 1)) : m ≤ (sAt l x).1 := by
  rw [h.sAt_on ho, le_fl (h.dn_pos ho.1)]
  exact nu_ge ho.2.1 ho.2.2 h1 h2
theorem Ok.le_on {l : List S30} (h : Ok l) {i : Nat} {x m : Int} (ho : on l i x) (h1 : R l i ≤ m) (h2 : R l (i + 1) ≤ m) : (sAt l x).2 ≤ m := by
  rw [h.sAt_on ho, ce_le (h.dn_pos ho.1)]
  exact nu_le ho.2.1 ho.2.2 h1 h2
theorem Ok.lo_hi {l : List S30} (h : Ok l) {x : Int} (h0 : 0 ≤ x) (h1 : x ≤ X l (l.length - 1)) : (sAt l x).1 ≤ (sAt l x).2 ∧ (sAt l x).2 ≤ (sAt l x).1 + 1 := by
  obtain ⟨i, ho, _⟩ := h.stave h0 h1
  rw [h.sAt_on ho]
  exact ⟨fl_le_ce (h.dn_pos ho.1), ce_le_fl (h.dn_pos ho.1)⟩
theorem Ok.mono_up {l : List S30} (h : Ok l) {b : Nat} (hb : IsBung l b) {x y : Int} (h0 : 0 ≤ x) (hxy : x ≤ y) (h1 : y ≤ X l b) : (sAt l x).1 ≤ (sAt l y).1 ∧ (sAt l x).2 ≤ (sAt l y).2 := by
  have hbl := hb.lt
  have hlast := h.le (i := b) (j := l.length - 1) (by omega) (by omega)
  obtain ⟨j, hj, fj⟩ := h.stave (x := y) (by omega) (by omega)
  have hjb : j + 1 ≤ b ∨ j = 0 := by
    by_cases e : j = 0
    · exact .inr e
    · left
      have := fj (j - 1) (by omega)
      rw [show j - 1 + 1 = j by omega] at this
      have := h.idx_lt (i := j) (j := b) (by have := hj.1; omega) (by omega)
      omega
  by_cases hj0 : b = 0
  · -- the bung is the first point: x = y = 0
    subst hj0
    have e : x = y := by rw [h.zero] at h1; omega
    rw [e]; exact ⟨Int.le_refl _, Int.le_refl _⟩
  have hjb : j + 1 ≤ b := by omega
  obtain ⟨i, hi, fi⟩ := h.stave (x := x) h0 (by omega)
  have hij : i ≤ j := by
    rcases Nat.lt_or_ge j i with g | g
    · have := fi (j) g
      have := hj.2.2
      omega
    · exact g
  rcases Nat.lt_or_eq_of_le hij with g | e
  · have a1 := h.up hb (i := i) (j := j) (by omega) (by omega)
    have a2 := h.up hb (i := i + 1) (j := j) (by omega) (by omega)
    have a3 := h.up hb (i := j) (j := j + 1) (by omega) (by omega)
    have c1 := h.le_on hi a1 a2
    have c2 := h.ge_on hj (Int.le_refl _) a3
    have d1 := h.lo_hi (x := x) h0 (by omega)
    have d2 := h.lo_hi (x := y) (by omega) (by omega)
    omega
  · subst e
    rw [h.sAt_on hi, h.sAt_on hj]
    have hd := h.dn_pos hi.1
    have := nu_up (a := X l i) (b := X l (i + 1)) (h.up hb (i := i) (j := i + 1) (by omega) hjb) hxy
    have := Int.mul_le_mul_of_nonneg_right this (Int.le_of_lt hd)
    exact ⟨fl_mono hd hd this, ce_mono hd hd this⟩
theorem Ok.mono_down {l : List S30} (h : Ok l) {b : Nat} (hb : IsBung l b) {x y : Int} (h0 : X l b ≤ x) (hxy : x ≤ y) (h1 : y ≤ X l (l.length - 1)) : (sAt l y).1 ≤ (sAt l x).1 ∧ (sAt l y).2 ≤ (sAt l x).2 := by
  have hbl := hb.lt
  have l2 := h.len2
  have hb0 := h.x0 b hbl
  obtain ⟨j, hj, fj⟩ := h.stave (x := y) (by omega) h1
  have hjl := hj.1
  -- a stave for x that starts at the bung or behind it
  obtain ⟨i, hi, hbi, hij⟩ : ∃ i, on l i x ∧ (b ≤ i ∨ x = y) ∧ (i ≤ j ∨ x = y) := by
    by_cases hxl : x = y
    · exact ⟨j, hxl ▸ hj, .inr hxl, .inr hxl⟩
    obtain ⟨i, hi, fi⟩ := h.stave (x := x) (by omega) (by omega)
    have hil := hi.1
    have hij : i ≤ j := by
      rcases Nat.lt_or_ge j i with g | g
      · have := fi j g; have := hj.2.2; omega
      · exact g
    by_cases c : b ≤ i
    · exact ⟨i, hi, .inl c, .inl hij⟩
    · -- x is the end of stave i, and the bung is i + 1
      have := h.le (i := i + 1) (j := b) (by omega) hbl
      have hx := hi.2.2
      have e : b = i + 1 := by
        rcases Nat.lt_or_ge (i + 1) b with g | g
        · have := h.lt g hbl; omega
        · omega
      have hjb : b ≤ j := by
        rcases Nat.lt_or_ge j b with g | g
        · have := hj.2.2
          have := h.le (i := j + 1) (j := b) (by omega) hbl
          omega
        · exact g
      subst e
      exact ⟨i + 1, ⟨by omega, by omega, by have := h.inc (i + 1) (by omega); omega⟩, .inl (Nat.le_refl _), .inl hjb⟩
  rcases hbi with hbi | e
  · rcases hij with hij | e
    · rcases Nat.lt_or_eq_of_le hij with g | e
      · have a1 := h.down hb (i := i + 1) (j := j) (by omega) (by omega) (by omega)
        have a2 := h.down hb (i := i) (j := i + 1) (by omega) (by omega) (by omega)
        have a3 := h.down hb (i := j) (j := j + 1) (by omega) (by omega) (by omega)
        have c1 := h.le_on hj (Int.le_refl _) a3
        have c2 := h.ge_on hi (show R l j ≤ R l i by omega) a1
        have d1 := h.lo_hi (x := x) (by omega) (by omega)
        have d2 := h.lo_hi (x := y) (by omega) h1
        omega
      · subst e
        rw [h.sAt_on hi, h.sAt_on hj]
        have hd := h.dn_pos hi.1
        have := nu_down (a := X l i) (b := X l (i + 1)) (h.down hb (i := i) (j := i + 1) hbi (by omega) (by omega)) hxy
        have := Int.mul_le_mul_of_nonneg_right this (Int.le_of_lt hd)
        exact ⟨fl_mono hd hd this, ce_mono hd hd this⟩
    · subst e; exact ⟨Int.le_refl _, Int.le_refl _⟩
  · subst e; exact ⟨Int.le_refl _, Int.le_refl _⟩

/-! ### turning -/
def last (l : List S30) : Int := X l (l.length - 1)
def sTurn (l : List S30) : List S30 := l.reverse.map fun z => ⟨last l - z.f0, z.f1⟩
theorem sTurn_len (l : List S30) : (sTurn l).length = l.length := by simp [sTurn]
theorem sTurn_get (l : List S30) {i : Nat} (hi : i < l.length) : (sTurn l)[i]?.getD z30 = ⟨last l - X l (l.length - 1 - i), R l (l.length - 1 - i)⟩ := by
  unfold sTurn X R
  rw [List.getElem?_map, List.getElem?_reverse hi, List.getElem?_eq_getElem (by omega)]
  simp
theorem X_turn (l : List S30) {i : Nat} (hi : i < l.length) : X (sTurn l) i = last l - X l (l.length - 1 - i) := by
  show ((sTurn l)[i]?.getD z30).f0 = _; rw [sTurn_get l hi]
theorem R_turn (l : List S30) {i : Nat} (hi : i < l.length) : R (sTurn l) i = R l (l.length - 1 - i) := by
  show ((sTurn l)[i]?.getD z30).f1 = _; rw [sTurn_get l hi]
theorem Ok.turn {l : List S30} (h : Ok l) : Ok (sTurn l) := by
  have l2 := h.len2
  refine ⟨by rw [sTurn_len]; exact h.len2, by rw [sTurn_len]; exact h.len32, fun i hi => ?_, fun i hi => ?_, fun i hi => ?_, fun i hi => ?_, ?_, fun i hi => ?_, fun i j hij hj hf => ?_⟩
  · rw [sTurn_len] at hi; rw [X_turn l hi]
    have := h.le (i := l.length - 1 - i) (j := l.length - 1) (by omega) (by omega)
    unfold last; omega
  · rw [sTurn_len] at hi; rw [X_turn l hi]
    have := h.x1 (l.length - 1) (by omega)
    have := h.x0 (l.length - 1 - i) (by omega)
    unfold last; omega
  · rw [sTurn_len] at hi; rw [R_turn l hi]; exact h.r0 _ (by omega)
  · rw [sTurn_len] at hi; rw [R_turn l hi]; exact h.r1 _ (by omega)
  · rw [X_turn l (by omega)]; simp [last]
  · rw [sTurn_len] at hi; rw [X_turn l (by omega), X_turn l hi]
    have := h.lt (i := l.length - 1 - (i + 1)) (j := l.length - 1 - i) (by omega) (by omega)
    omega
  · rw [sTurn_len] at hj
    rw [R_turn l (by omega), R_turn l (by omega)] at hf ⊢
    rcases Int.lt_or_le (R l (l.length - 1 - j)) (R l (l.length - 1 - (j + 1))) with c | c
    · have := h.uni (l.length - 1 - (j + 1)) (l.length - 1 - (i + 1)) (by omega) (by omega) (by rw [show l.length - 1 - (j + 1) + 1 = l.length - 1 - j by omega]; exact c)
      rw [show l.length - 1 - (i + 1) + 1 = l.length - 1 - i by omega] at this
      omega
    · exact c
theorem last_turn (l : List S30) (h : Ok l) : last (sTurn l) = last l := by
  have := h.len2
  unfold last
  rw [sTurn_len, X_turn l (by omega), show l.length - 1 - (l.length - 1) = 0 by omega, h.zero]
  simp [last]
theorem turn_turn {l : List S30} (h : Ok l) : sTurn (sTurn l) = l := by
  have e : sTurn (sTurn l) = (sTurn l).reverse.map fun z => ⟨last l - z.f0, z.f1⟩ := by
    show (sTurn l).reverse.map (fun z => (⟨last (sTurn l) - z.f0, z.f1⟩ : S30)) = _
    rw [last_turn l h]
  rw [e]
  unfold sTurn
  rw [← List.map_reverse, List.reverse_reverse, List.map_map]
  conv => rhs; rw [← List.map_id l]
  refine List.map_congr_left fun z hz => ?_
  cases z
  simp; omega
theorem Ok.turn_at {l : List S30} (h : Ok l) {x : Int} (h0 : 0 ≤ x) (h1 : x ≤ last l) : sAt (sTurn l) (last l - x) = sAt l x := by
  obtain ⟨i, hi, _⟩ := h.stave h0 h1
  have hil := hi.1
  have e1 : l.length - 1 - (l.length - 2 - i) = i + 1 := by omega
  have e2 : l.length - 1 - (l.length - 2 - i + 1) = i := by omega
  have hX1 := X_turn l (i := l.length - 2 - i) (by omega)
  have hX2 := X_turn l (i := l.length - 2 - i + 1) (by omega)
  have hR1 := R_turn l (i := l.length - 2 - i) (by omega)
  have hR2 := R_turn l (i := l.length - 2 - i + 1) (by omega)
  rw [e1] at hX1 hR1
  rw [e2] at hX2 hR2
  have ho : on (sTurn l) (l.length - 2 - i) (last l - x) := ⟨by rw [sTurn_len]; omega, by rw [hX1]; have := hi.2.2; omega, by rw [hX2]; have := hi.2.1; omega⟩
  rw [h.sAt_on hi, h.turn.sAt_on ho]
  have en : nm (sTurn l) (l.length - 2 - i) (last l - x) = nm l i x := by
    unfold nm; rw [hX1, hX2, hR1, hR2]; exact nu_rev _ _ _ _ _ _
  have ed : dn (sTurn l) (l.length - 2 - i) = dn l i := by unfold dn; rw [hX1, hX2]; omega
  rw [en, ed]

/-! ### inserting -/
def sIns (l : List S30) (i : Nat) (z : S30) : List S30 := l.take i ++ z :: l.drop i
theorem sIns_len (l : List S30) {i : Nat} (z : S30) (hi : i ≤ l.length) : (sIns l i z).length = l.length + 1 := by simp [sIns]; omega
theorem sIns_get (l : List S30) {i : Nat} (z : S30) (hi : i ≤ l.length) (j : Nat) : (sIns l i z)[j]?.getD z30 = if j < i then l[j]?.getD z30 else if j = i then z else l[j - 1]?.getD z30 := by
  unfold sIns
  by_cases h1 : j < i
  · rw [if_pos h1, List.getElem?_append_left (by simp; omega), List.getElem?_take_of_lt h1]
  · rw [if_neg h1, List.getElem?_append_right (by simp; omega)]
    simp only [List.length_take]
    rw [show min i l.length = i by omega]
    by_cases h2 : j = i
    · subst h2; simp
    · rw [if_neg h2]
      obtain ⟨d, rfl⟩ : ∃ d, j = i + d + 1 := ⟨j - i - 1, by omega⟩
      rw [show i + d + 1 - i = d + 1 by omega, List.getElem?_cons_succ, List.getElem?_drop, show i + d + 1 - 1 = i + d by omega]
theorem X_ins (l : List S30) {i : Nat} (z : S30) (hi : i ≤ l.length) (j : Nat) : X (sIns l i z) j = if j < i then X l j else if j = i then z.f0 else X l (j - 1) := by
  unfold X; rw [sIns_get l z hi]; (split; · rfl); split <;> rfl
theorem R_ins (l : List S30) {i : Nat} (z : S30) (hi : i ≤ l.length) (j : Nat) : R (sIns l i z) j = if j < i then R l j else if j = i then z.f1 else R l (j - 1) := by
  unfold R; rw [sIns_get l z hi]; (split; · rfl); split <;> rfl
/-- what an inserted point keeps -/
structure Lies (l : List S30) (i : Nat) (z : S30) : Prop where
  pos : 0 < i
  lt : i < l.length
  left : X l (i - 1) < z.f0
  right : z.f0 < X l i
  line : z.f1 * dn l (i - 1) = nm l (i - 1) z.f0
theorem Lies.between {l : List S30} (h : Ok l) {i : Nat} {z : S30} (g : Lies l i z) (m : Int) : (m ≤ R l (i - 1) → m ≤ R l i → m ≤ z.f1) ∧ (R l (i - 1) ≤ m → R l i ≤ m → z.f1 ≤ m) := by
  obtain ⟨g1, g2, g3, g4, g5⟩ := g
  have hd := h.dn_pos (i := i - 1) (by omega)
  have e : i - 1 + 1 = i := by omega
  constructor
  · intro h1 h2
    refine Int.le_of_mul_le_mul_right (a := dn l (i - 1)) ?_ hd
    rw [g5]
    unfold nm dn
    rw [e]
    exact nu_ge (by omega) (by omega) h1 h2
  · intro h1 h2
    refine Int.le_of_mul_le_mul_right (a := dn l (i - 1)) ?_ hd
    rw [g5]
    unfold nm dn
    rw [e]
    exact nu_le (by omega) (by omega) h1 h2
theorem Ok.ins {l : List S30} (h : Ok l) {i : Nat} {z : S30} (g : Lies l i z) (h32 : l.length < 32) : Ok (sIns l i z) := by
  obtain ⟨g1, g2, g3, g4, g5⟩ := id g
  have il : i ≤ l.length := by omega
  have b1 := (g.between h 1).1 (h.r0 _ (by omega)) (h.r0 _ g2)
  have b2 := (g.between h 100000).2 (h.r1 _ (by omega)) (h.r1 _ g2)
  have bl := (g.between h (R l (i - 1)))
  have br := (g.between h (R l i))
  have x0 := h.x0 (i - 1) (by omega)
  have x1 := h.x1 i g2
  refine ⟨by rw [sIns_len l z il]; have := h.len2; omega, by rw [sIns_len l z il]; omega, fun j hj => ?_, fun j hj => ?_, fun j hj => ?_, fun j hj => ?_, ?_, fun j hj => ?_, fun j k hjk hk hf => ?_⟩
  · rw [sIns_len l z il] at hj; rw [X_ins l z il]
    split; · exact h.x0 _ (by omega)
    split; · omega
    exact h.x0 _ (by omega)
  · rw [sIns_len l z il] at hj; rw [X_ins l z il]
    split; · exact h.x1 _ (by omega)
    split; · omega
    exact h.x1 _ (by omega)
  · rw [sIns_len l z il] at hj; rw [R_ins l z il]
    split; · exact h.r0 _ (by omega)
    split; · omega
    exact h.r0 _ (by omega)
  · rw [sIns_len l z il] at hj; rw [R_ins l z il]
    split; · exact h.r1 _ (by omega)
    split; · omega
    exact h.r1 _ (by omega)
  · rw [X_ins l z il, if_pos g1]; exact h.zero
  · rw [sIns_len l z il] at hj; rw [X_ins l z il, X_ins l z il]
    by_cases c : j + 1 < i
    · rw [if_pos (by omega), if_pos c]; exact h.inc j (by omega)
    · by_cases c2 : j + 1 = i
      · rw [if_pos (by omega), if_neg c, if_pos c2, show j = i - 1 by omega]; exact g3
      · rw [if_neg (by omega), if_neg c, if_neg c2]
        by_cases c3 : j = i
        · rw [if_pos c3, c3, show i + 1 - 1 = i by omega]; exact g4
        · rw [if_neg c3, show j + 1 - 1 = (j - 1) + 1 by omega]; exact h.inc (j - 1) (by omega)
  · -- the bulge: each new step goes the way of an old one
    rw [sIns_len l z il] at hk
    -- the old index of a step
    have old : ∀ s, s < l.length → ∃ t, t + 1 < l.length ∧ (t = if s < i then s else s - 1) ∧ (R (sIns l i z) (s + 1) < R (sIns l i z) s → R l (t + 1) < R l t) ∧ (R (sIns l i z) s < R (sIns l i z) (s + 1) → R l t < R l (t + 1)) := by
      intro s hs
      refine ⟨_, ?_, rfl, ?_⟩
      · split <;> omega
      · rw [R_ins l z il, R_ins l z il]
        by_cases c : s + 1 < i
        · rw [if_pos (show s < i by omega), if_pos (show s < i by omega), if_pos c]
          exact ⟨id, id⟩
        · by_cases c2 : s + 1 = i
          · rw [if_pos (show s < i by omega), if_pos (show s < i by omega), if_neg c, if_pos c2, c2, show s = i - 1 by omega]
            omega
          · rw [if_neg (show ¬ s < i by omega), if_neg (show ¬ s < i by omega), if_neg c, if_neg c2]
            by_cases c3 : s = i
            · rw [if_pos c3, c3, show i - 1 + 1 = i by omega, show i + 1 - 1 = i by omega]
              omega
            · rw [if_neg c3, show s + 1 - 1 = s - 1 + 1 by omega]
              exact ⟨id, id⟩
    obtain ⟨t, ht, et, ft, _⟩ := old j (by omega)
    obtain ⟨u, hu, eu, _, ru⟩ := old k (by omega)
    rcases Int.lt_or_le (R (sIns l i z) k) (R (sIns l i z) (k + 1)) with c | c
    · have a1 := ft hf
      have a2 := ru c
      rcases Nat.lt_trichotomy t u with q | q | q
      · have := h.uni t u q hu a1
        omega
      · subst q; omega
      · exfalso
        split at et <;> split at eu <;> omega
    · exact c
theorem last_ins {l : List S30} (h : Ok l) {i : Nat} {z : S30} (g : Lies l i z) : last (sIns l i z) = last l := by
  have g2 := g.lt
  unfold last
  rw [sIns_len l z (by omega), X_ins l z (by omega), if_neg (by omega), if_neg (by omega)]
  rfl
theorem Ok.ins_at {l : List S30} (h : Ok l) {i : Nat} {z : S30} (g : Lies l i z) (h32 : l.length < 32) {y : Int} (h0 : 0 ≤ y) (h1 : y ≤ last l) : sAt (sIns l i z) y = sAt l y := by
  have hm := h.ins g h32
  obtain ⟨g1, g2, g3, g4, g5⟩ := id g
  have il : i ≤ l.length := by omega
  have e : i - 1 + 1 = i := by omega
  obtain ⟨j, hj, _⟩ := h.stave h0 h1
  have hjl := hj.1
  have hml := sIns_len l z il
  have XI := X_ins l z il
  have RI := R_ins l z il
  rcases Nat.lt_trichotomy j (i - 1) with c | c | c
  · have e0 := XI j; have e1 := XI (j + 1); have f0 := RI j; have f1 := RI (j + 1)
    rw [if_pos (by omega)] at e0 e1 f0 f1
    have ho : on (sIns l i z) j y := ⟨by omega, by rw [e0]; exact hj.2.1, by rw [e1]; exact hj.2.2⟩
    rw [h.sAt_on hj, hm.sAt_on ho]
    unfold nm dn
    rw [e0, e1, f0, f1]
  · subst c
    have e0 := XI (i - 1); have f0 := RI (i - 1)
    rw [if_pos (by omega)] at e0 f0
    have e1 := XI i; have f1 := RI i
    rw [if_neg (by omega), if_pos rfl] at e1 f1
    have e2 := XI (i + 1); have f2 := RI (i + 1)
    rw [if_neg (by omega), if_neg (by omega), show i + 1 - 1 = i by omega] at e2 f2
    have hd := h.dn_pos hj.1
    have hdE : dn l (i - 1) = X l i - X l (i - 1) := by unfold dn; rw [e]
    have hnE : ∀ x, nm l (i - 1) x = nu (X l (i - 1)) (R l (i - 1)) (X l i) (R l i) x := by intro x; unfold nm; rw [e]
    rw [h.sAt_on hj]
    have hq := g5
    rw [hdE, hnE] at hq
    rcases Int.le_total y z.f0 with q | q
    · have ho : on (sIns l i z) (i - 1) y := ⟨by omega, by rw [e0]; exact hj.2.1, by rw [e, e1]; exact q⟩
      rw [hm.sAt_on ho]
      have hd' := hm.dn_pos ho.1
      have hx : nm (sIns l i z) (i - 1) y * dn l (i - 1) = nm l (i - 1) y * dn (sIns l i z) (i - 1) := by
        unfold dn nm
        rw [e, e0, e1, f0, f1]
        exact nu_part (nu_left _ _ _ _).symm hq
      rw [fl_same hd' hd hx, ce_same hd' hd hx]
    · have ho : on (sIns l i z) i y := ⟨by omega, by rw [e1]; exact q, by rw [e2]; have := hj.2.2; rw [e] at this; exact this⟩
      rw [hm.sAt_on ho]
      have hd' := hm.dn_pos ho.1
      have hx : nm (sIns l i z) i y * dn l (i - 1) = nm l (i - 1) y * dn (sIns l i z) i := by
        unfold dn nm
        rw [e, e1, e2, f1, f2]
        exact nu_part hq (nu_right _ _ _ _).symm
      rw [fl_same hd' hd hx, ce_same hd' hd hx]
  · have e0 := XI (j + 1); have e1 := XI (j + 1 + 1); have f0 := RI (j + 1); have f1 := RI (j + 1 + 1)
    rw [if_neg (by omega), if_neg (by omega)] at e0 e1 f0 f1
    simp only [Nat.add_sub_cancel] at e0 e1 f0 f1
    have ho : on (sIns l i z) (j + 1) y := ⟨by omega, by rw [e0]; exact hj.2.1, by rw [e1]; exact hj.2.2⟩
    rw [h.sAt_on hj, hm.sAt_on ho]
    unfold nm dn
    rw [e0, e1, f0, f1]
theorem ins_bung {l : List S30} (h : Ok l) {i : Nat} {z : S30} (g : Lies l i z) {b c : Nat} (hb : IsBung l b) (hc : IsBung (sIns l i z) c) : R l b = R (sIns l i z) c := by
  have g2 := g.lt
  have il : i ≤ l.length := by omega
  have hbl := hb.lt
  have hcl := hc.lt
  rw [sIns_len l z il] at hcl
  have RI := R_ins l z il
  apply Int.le_antisymm
  · by_cases q : b < i
    · have := hc.most b (by rw [sIns_len l z il]; omega)
      rw [RI b, if_pos q] at this
      exact this
    · have := hc.most (b + 1) (by rw [sIns_len l z il]; omega)
      rw [RI (b + 1), if_neg (by omega), if_neg (by omega)] at this
      exact this
  · rw [RI c]
    split
    · exact hb.most _ (by omega)
    · split
      · exact (g.between h _).2 (hb.most _ (by omega)) (hb.most _ (by omega))
      · exact hb.most _ (by omega)
end Go.Proofs.Ytdomdddponkmhaa.Prf
