import Derived.Test.YtdomdddponkmhaaPrg
/-! Profiles, in plain numbers: the inner profile lies below the outer one. -/
namespace Go.Proofs.Ytdomdddponkmhaa.Prf
set_option linter.unusedVariables false
set_option linter.unusedSimpArgs false
open Go.RowKit Go.Proofs.Ytdomdddponkmhaa.X Go.Proofs.Ytdomdddponkmhaa.It Go.Proofs.Ytdomdddponkmhaa.Ln

def mids (l : List S30) (f g t : Int) : List S30 := (l.filter fun z => decide (f < z.f0 ∧ z.f0 < g)).map fun z => ⟨z.f0 - f, z.f1 - t⟩
def sIn (l : List S30) (f g t : Int) : List S30 := ⟨0, (sAt l f).1 - t⟩ :: mids l f g t ++ [⟨g - f, (sAt l g).1 - t⟩]

theorem least (P : Nat → Prop) [DecidablePred P] : ∀ m, P m → ∃ a, a ≤ m ∧ P a ∧ ∀ j, j < a → ¬ P j := by
  intro m
  induction m using Nat.strongRecOn with
  | ind m ih =>
    intro h
    by_cases c : ∃ j, j < m ∧ P j
    · obtain ⟨j, hj, hp⟩ := c
      obtain ⟨a, h1, h2, h3⟩ := ih j hj hp
      exact ⟨a, by omega, h2, h3⟩
    · exact ⟨m, Nat.le_refl _, h, fun j hj hp => c ⟨j, hj, hp⟩⟩
theorem filter_range {p : S30 → Bool} {l : List S30} {a b : Nat} (hab : a ≤ b) (hb : b ≤ l.length) (hp : ∀ m, m < l.length → (p (l[m]?.getD z30) = true ↔ a ≤ m ∧ m < b)) : l.filter p = (l.take b).drop a := by
  have e : l = l.take a ++ ((l.take b).drop a ++ l.drop b) := by
    have h1 : l.take a = (l.take b).take a := by rw [List.take_take, Nat.min_eq_left hab]
    rw [← List.append_assoc, h1, List.take_append_drop, List.take_append_drop]
  have m1 : ∀ z, z ∈ l.take a → p z = false := by
    intro z hz
    obtain ⟨i, hi, rfl⟩ := List.mem_iff_getElem.1 hz
    rw [List.length_take] at hi
    have := hp i (by omega)
    rw [List.getElem?_eq_getElem (by omega)] at this
    rw [List.getElem_take]
    simp only [Option.getD_some] at this
    cases c : p (l[i]'(by omega)) with
    | false => rfl
    | true => have := this.1 c; omega
  have m3 : ∀ z, z ∈ l.drop b → p z = false := by
    intro z hz
    obtain ⟨i, hi, rfl⟩ := List.mem_iff_getElem.1 hz
    rw [List.length_drop] at hi
    have := hp (b + i) (by omega)
    rw [List.getElem?_eq_getElem (by omega)] at this
    rw [List.getElem_drop]
    simp only [Option.getD_some] at this
    cases c : p (l[b + i]'(by omega)) with
    | false => rfl
    | true => have := this.1 c; omega
  have m2 : ∀ z, z ∈ (l.take b).drop a → p z = true := by
    intro z hz
    obtain ⟨i, hi, rfl⟩ := List.mem_iff_getElem.1 hz
    rw [List.length_drop, List.length_take] at hi
    have := hp (a + i) (by omega)
    rw [List.getElem?_eq_getElem (by omega)] at this
    rw [List.getElem_drop, List.getElem_take]
    simp only [Option.getD_some] at this
    exact this.2 (by omega)
  conv => lhs; rw [e]
  have z1 : (l.take a).filter p = [] := List.filter_eq_nil_iff.2 fun z hz => by rw [m1 z hz]; simp
  have z3 : (l.drop b).filter p = [] := List.filter_eq_nil_iff.2 fun z hz => by rw [m3 z hz]; simp
  rw [List.filter_append, List.filter_append, z1, z3, List.filter_eq_self.2 m2]
  simp
/-- a point at u of height v lies at least t below stave j -/
structure Under (l : List S30) (j : Nat) (t u v : Int) : Prop where
  on : on l j u
  below : v * dn l j ≤ nm l j u - t * dn l j
theorem under_lo {l : List S30} (h : Ok l) {j : Nat} {t u : Int} (ho : on l j u) : Under l j t u ((sAt l u).1 - t) := by
  refine ⟨ho, ?_⟩
  rw [h.sAt_on ho]
  have := fl_spec (n := nm l j u) (h.dn_pos ho.1)
  rw [Int.sub_mul]
  exact Int.sub_le_sub_right this _
theorem under_left {l : List S30} (h : Ok l) {j : Nat} {t : Int} (hj : j + 1 < l.length) : Under l j t (X l j) (R l j - t) := by
  refine ⟨⟨hj, Int.le_refl _, Int.le_of_lt (h.inc j hj)⟩, ?_⟩
  have : nm l j (X l j) = R l j * dn l j := nu_left _ _ _ _
  rw [this, Int.sub_mul]
  exact Int.le_refl _
theorem under_right {l : List S30} (h : Ok l) {j : Nat} {t : Int} (hj : j + 1 < l.length) : Under l j t (X l (j + 1)) (R l (j + 1) - t) := by
  refine ⟨⟨hj, Int.le_of_lt (h.inc j hj), Int.le_refl _⟩, ?_⟩
  have : nm l j (X l (j + 1)) = R l (j + 1) * dn l j := nu_right _ _ _ _
  rw [this, Int.sub_mul]
  exact Int.le_refl _
theorem under_stave {l q : List S30} (h : Ok l) (hq : Ok q) {j k : Nat} {f t x : Int} (h1 : Under l j t (X q k + f) (R q k)) (h2 : Under l j t (X q (k + 1) + f) (R q (k + 1))) (ho : on q k x) :
    (sAt q x).1 ≤ (sAt l (x + f)).1 - t ∧ (sAt q x).2 ≤ (sAt l (x + f)).2 - t := by
  have hjl := h1.on.1
  have hd := h.dn_pos hjl
  have hd' := hq.dn_pos ho.1
  have hon : on l j (x + f) := ⟨hjl, by have := h1.on.2.1; have := ho.2.1; omega, by have := h2.on.2.2; have := ho.2.2; omega⟩
  have key := nu_inner (a := X l j) (r := R l j) (b := X l (j + 1)) (s := R l (j + 1)) (x := x + f) (u := X q k + f) (v := X q (k + 1) + f) (p := R q k) (q := R q (k + 1)) (d := t) (by unfold dn at hd; omega)
    (by have := ho.2.1; omega) (by have := ho.2.2; omega) h1.below h2.below
  have e1 : nu (X q k + f) (R q k) (X q (k + 1) + f) (R q (k + 1)) (x + f) = nm q k x := by unfold nm nu; grind
  have e2 : X q (k + 1) + f - (X q k + f) = dn q k := by unfold dn; omega
  rw [e1, e2] at key
  rw [hq.sAt_on ho, h.sAt_on hon]
  exact ⟨by rw [← fl_sub hd]; exact fl_mono hd' hd key, by rw [← ce_sub hd]; exact ce_mono hd' hd key⟩
/-- the inner points, one by one -/
theorem sIn_get {l : List S30} (h : Ok l) {f g t : Int} (h0 : 0 ≤ f) (h1 : f < g) (h2 : g ≤ last l) : ∃ a b : Nat, 0 < a ∧ a ≤ b ∧ b < l.length ∧ X l (a - 1) ≤ f ∧ f < X l a ∧ g ≤ X l b ∧ (∀ i, i < b → X l i < g) ∧
    (sIn l f g t).length = b - a + 2 ∧ (sIn l f g t)[0]?.getD z30 = ⟨0, (sAt l f).1 - t⟩ ∧ (sIn l f g t)[b - a + 1]?.getD z30 = ⟨g - f, (sAt l g).1 - t⟩ ∧
    ∀ k, 1 ≤ k → k ≤ b - a → (sIn l f g t)[k]?.getD z30 = ⟨X l (a + k - 1) - f, R l (a + k - 1) - t⟩ := by
  have l2 := h.len2
  obtain ⟨a, a1, a2, a3⟩ := least (fun i => f < X l i) (l.length - 1) (by show f < last l; omega)
  obtain ⟨b, b1, b2, b3⟩ := least (fun i => g ≤ X l i) (l.length - 1) h2
  have ha : 0 < a := by
    rcases Nat.eq_zero_or_pos a with e | e
    · subst e; rw [h.zero] at a2; omega
    · exact e
  have hab : a ≤ b := by
    rcases Nat.lt_or_ge b a with c | c
    · have := a3 b c; omega
    · exact c
  have hf : (l.filter fun z => decide (f < z.f0 ∧ z.f0 < g)) = (l.take b).drop a := by
    refine filter_range hab (by omega) fun m hm => ?_
    show decide (f < X l m ∧ X l m < g) = true ↔ _
    rw [decide_eq_true_eq]
    constructor
    · rintro ⟨c1, c2⟩
      constructor
      · rcases Nat.lt_or_ge m a with c | c
        · have := h.le (i := m) (j := a - 1) (by omega) (by omega)
          have := a3 (a - 1) (by omega)
          omega
        · exact c
      · rcases Nat.lt_or_ge m b with c | c
        · exact c
        · have := h.le c hm; omega
    · rintro ⟨c1, c2⟩
      have := h.le c1 hm
      have := b3 m c2
      exact ⟨by omega, by omega⟩
  have hml : (mids l f g t).length = b - a := by unfold mids; rw [hf]; simp; omega
  refine ⟨a, b, ha, hab, by omega, by have := a3 (a - 1) (by omega); omega, a2, b2, fun i hi => by have := b3 i hi; omega, ?_, ?_, ?_, fun k k1 k2 => ?_⟩
  · unfold sIn; simp [hml]
  · unfold sIn; simp
  · unfold sIn
    rw [List.getElem?_append_right (by simp [hml])]
    simp [hml]
  · unfold sIn
    rw [List.getElem?_append_left (by simp [hml]; omega)]
    obtain ⟨k, rfl⟩ : ∃ m, k = m + 1 := ⟨k - 1, by omega⟩
    rw [List.getElem?_cons_succ]
    unfold mids
    rw [hf, List.getElem?_map, List.getElem?_drop, List.getElem?_take_of_lt (by omega), List.getElem?_eq_getElem (by omega)]
    unfold X R
    rw [show a + (k + 1) - 1 = a + k by omega, List.getElem?_eq_getElem (by omega)]
    rfl
theorem last_in {l : List S30} (f g t : Int) : last (sIn l f g t) = g - f := by
  unfold last X sIn
  simp
theorem Ok.inner {l : List S30} (h : Ok l) {f g t x : Int} (h0 : 0 ≤ f) (h1 : f < g) (h2 : g ≤ last l) (hq : Ok (sIn l f g t)) (x0 : 0 ≤ x) (x1 : x ≤ g - f) :
    (sAt (sIn l f g t) x).1 ≤ (sAt l (x + f)).1 - t ∧ (sAt (sIn l f g t) x).2 ≤ (sAt l (x + f)).2 - t := by
  obtain ⟨a, b, ha, hab, hb, f1, f2, g1, g2, hlen, e0, eE, eM⟩ := sIn_get h (t := t) h0 h1 h2
  obtain ⟨k, ho, _⟩ := hq.stave x0 (by have := last_in (l := l) f g t; unfold last at this; omega)
  have hk := ho.1
  rw [hlen] at hk
  have ej : a + k - 1 + 1 = a + k := by omega
  have hjl : a + k - 1 + 1 < l.length := by omega
  have fa : f ≤ X l a := by omega
  refine under_stave h hq (j := a + k - 1) ?_ ?_ ho
  · by_cases c : k = 0
    · subst c
      have e0' : X (sIn l f g t) 0 = 0 := by unfold X; rw [e0]
      have e0'' : R (sIn l f g t) 0 = (sAt l f).1 - t := by unfold R; rw [e0]
      rw [e0', e0'', Int.zero_add]
      exact under_lo h ⟨hjl, by simpa using f1, by rw [ej]; simpa using fa⟩
    · have e := eM k (by omega) (by omega)
      have e1 : X (sIn l f g t) k = X l (a + k - 1) - f := by show ((sIn l f g t)[k]?.getD z30).f0 = _; rw [e]
      have e2 : R (sIn l f g t) k = R l (a + k - 1) - t := by show ((sIn l f g t)[k]?.getD z30).f1 = _; rw [e]
      rw [e1, e2, Int.sub_add_cancel]
      exact under_left h hjl
  · by_cases c : k = b - a
    · have e1 : X (sIn l f g t) (k + 1) = g - f := by show ((sIn l f g t)[k + 1]?.getD z30).f0 = _; rw [c, eE]
      have e2 : R (sIn l f g t) (k + 1) = (sAt l g).1 - t := by show ((sIn l f g t)[k + 1]?.getD z30).f1 = _; rw [c, eE]
      rw [e1, e2, Int.sub_add_cancel]
      refine under_lo h ⟨hjl, ?_, by rw [ej, show a + k = b by omega]; exact g1⟩
      rw [show a + k - 1 = b - 1 by omega]
      exact Int.le_of_lt (g2 (b - 1) (by omega))
    · have e := eM (k + 1) (by omega) (by omega)
      have e1 : X (sIn l f g t) (k + 1) = X l (a + k) - f := by show ((sIn l f g t)[k + 1]?.getD z30).f0 = _; rw [e]; rfl
      have e2 : R (sIn l f g t) (k + 1) = R l (a + k) - t := by show ((sIn l f g t)[k + 1]?.getD z30).f1 = _; rw [e]; rfl
      rw [e1, e2, Int.sub_add_cancel]
      have := under_right h (t := t) hjl
      rw [ej] at this
      exact this
end Go.Proofs.Ytdomdddponkmhaa.Prf
