import Derived.Test.YthbkbokfngbocaaXx2
import Derived.Test.YthbkbokfngbocaaSq
/-! What the functions of the package root come to. -/
namespace Go.Proofs.Ythbkbokfngbocaa.Sq
set_option linter.unusedVariables false
set_option linter.unusedSimpArgs false
open Go.RowKit Go.Proofs.Ythbkbokfngbocaa.X

theorem of_loop {n : Int} (hn : 0 ≤ n) (hb : n < 4611686018427387904) (d : Nat) : ∀ (k : Nat) (l h : Int), 0 ≤ l → l < h → h ≤ 2147483648 → l * l ≤ n → n < h * h → h - l ≤ 2 ^ d → d < k →
    root_of.l0 k n l h = some (sqr n) := by
  induction d with
  | zero =>
    intro k l h h0 h1 h2 h3 h4 h5 hk
    obtain ⟨k, rfl⟩ : ∃ m, k = m + 1 := ⟨k - 1, by omega⟩
    have e : h = l + 1 := by simp at h5; omega
    subst e
    simp only [root_of.l0]
    rw [if_pos (by rw [wid (by omega) (by omega)]; omega), sqr_unique h0 h3 h4]
  | succ d ih =>
    intro k l h h0 h1 h2 h3 h4 h5 hk
    obtain ⟨k, rfl⟩ : ∃ m, k = m + 1 := ⟨k - 1, by omega⟩
    simp only [root_of.l0]
    rw [wid (x := h - l) (by omega) (by omega)]
    by_cases c : h - l = 1
    · have e : h = l + 1 := by omega
      subst e
      rw [if_pos c, sqr_unique h0 h3 h4]
    · rw [if_neg c, wid (x := l + h) (by omega) (by omega)]
      have e : Int.tdiv (l + h) 2 = (l + h) / 2 := Int.tdiv_eq_ediv_of_nonneg (by omega)
      rw [e]
      have hm1 : l < (l + h) / 2 := by omega
      have hm2 : (l + h) / 2 < h := by omega
      have hp : (2 : Int) ^ (d + 1) = 2 * 2 ^ d := by rw [Int.pow_succ]; omega
      have hp0 : (0 : Int) < 2 ^ d := Int.pow_pos (by omega)
      have hm3 : (l + h) / 2 - l ≤ 2 ^ d := by omega
      have hm4 : h - (l + h) / 2 ≤ 2 ^ d := by omega
      generalize (l + h) / 2 = m at *
      rw [wid (x := m) (by omega) (by omega), if_neg (by omega)]
      have e2 : Int.tdiv n m = n / m := Int.tdiv_eq_ediv_of_nonneg hn
      have hq0 : 0 ≤ n / m := Int.ediv_nonneg hn (by omega)
      have hq1 : n / m ≤ n := Int.ediv_le_self _ hn
      rw [e2, wid (x := n / m) (by omega) (by omega)]
      have key : m ≤ n / m ↔ m * m ≤ n := Int.le_ediv_iff_mul_le (by omega)
      by_cases c2 : m ≤ n / m
      · rw [if_pos c2]
        exact ih k m h (by omega) hm2 h2 (key.mp c2) h4 hm4 (by omega)
      · rw [if_neg c2]
        exact ih k l m h0 hm1 (by omega) h3 (by have := fun x => c2 (key.mpr x); omega) hm3 (by omega)

theorem of_spec {n : Int} (hn : 0 ≤ n) (hb : n < 4611686018427387904) {k : Nat} (hk : 40 ≤ k) : root_of.f k n = some (sqr n) := by
  unfold root_of.f
  exact of_loop hn hb 31 k 0 2147483648 (by omega) (by omega) (by omega) (by omega) (by omega) (by decide) (by omega)

theorem sqr_small {n : Int} (hn : 0 ≤ n) (hb : n < 4611686018427387904) : 0 ≤ sqr n ∧ sqr n < 2147483648 ∧ 0 ≤ sqr n * sqr n ∧ sqr n * sqr n ≤ n :=
  ⟨sqr_nonneg n, sqr_lt hn (by omega) (by omega), Int.mul_nonneg (sqr_nonneg n) (sqr_nonneg n), sqr_lo hn⟩

theorem both_spec {n : Int} (hn : 0 ≤ n) (hb : n < 4611686018427387904) {k : Nat} (hk : 40 ≤ k) : root_both.f k n = some (sqr n, cei n) := by
  unfold root_both.f
  rw [of_spec hn hb hk]
  have ⟨a, b, c, d⟩ := sqr_small hn hb
  rw [Option.bind_some]
  rw [wid (x := sqr n * sqr n) (by omega) (by omega), wid (x := sqr n + 1) (by omega) (by omega)]
  rcases cei_cases n with ⟨x, y⟩ | ⟨x, y⟩
  · rw [if_pos x, y]
  · rw [if_neg x, y]

def sHalf (r y : Int) : Int × Int × Int :=
  if r < 0 ∨ r > 100000 ∨ y < -100000 ∨ y > 100000 then (0, 0, 2)
  else if y > r ∨ -y > r then (0, 0, 0) else (sqr (r * r - y * y), cei (r * r - y * y), 0)

theorem half_small {r y : Int} (h0 : 0 ≤ r) (h1 : r ≤ 100000) (h2 : -r ≤ y) (h3 : y ≤ r) : 0 ≤ r * r ∧ r * r ≤ 10000000000 ∧ 0 ≤ y * y ∧ y * y ≤ r * r := by
  have a : r * r ≤ 100000 * 100000 := mul_self_le h0 h1
  have b : 0 ≤ y * y := by
    rcases Int.le_total 0 y with h | h
    · exact Int.mul_nonneg h h
    · have := Int.mul_nonneg (a := -y) (b := -y) (by omega) (by omega); rw [Int.neg_mul_neg] at this; exact this
  have c : y * y ≤ r * r := by
    rcases Int.le_total 0 y with h | h
    · exact mul_self_le h h3
    · have := mul_self_le (a := -y) (b := r) (by omega) (by omega); rw [Int.neg_mul_neg] at this; exact this
  exact ⟨Int.mul_nonneg h0 h0, by omega, b, c⟩

theorem halfj (r y : Int) (b : Bool) (hb : b = false → 0 ≤ r ∧ r ≤ 100000 ∧ -100000 ≤ y ∧ y ≤ 100000) (hb2 : b = true → r < 0 ∨ r > 100000 ∨ y < -100000 ∨ y > 100000) {k : Nat} (hk : 41 ≤ k) : root_Half.j0 k r y b = some (sHalf r y) := by
  obtain ⟨k, rfl⟩ : ∃ m, k = m + 1 := ⟨k - 1, by omega⟩
  simp only [root_Half.j0]
  unfold sHalf
  cases b with
  | true => rw [if_pos rfl, if_pos (hb2 rfl)]
  | false =>
    obtain ⟨a1, a2, a3, a4⟩ := hb rfl
    rw [if_neg (by simp), if_neg (c := r < 0 ∨ r > 100000 ∨ y < -100000 ∨ y > 100000) (by omega)]
    by_cases c1 : y > r
    · rw [if_pos c1, if_pos (.inl c1)]
    · rw [if_neg c1, wid (x := -y) (by omega) (by omega)]
      by_cases c2 : -y > r
      · rw [if_pos c2, if_pos (.inr c2)]
      · have ⟨e1, e2, e3, e4⟩ := half_small (r := r) (y := y) (by omega) (by omega) (by omega) (by omega)
        rw [if_neg c2, if_neg (c := y > r ∨ -y > r) (by omega), wid (x := r * r) (by omega) (by omega), wid (x := y * y) (by omega) (by omega), wid (x := r * r - y * y) (by omega) (by omega), both_spec (by omega) (by omega) (by omega)]
        rfl
theorem Half_spec (r y : Int) {k : Nat} (hk : 41 ≤ k) : root_Half.f k r y = some (sHalf r y) := by
  unfold root_Half.f
  by_cases c1 : r < 0
  · rw [if_pos c1, halfj r y true (by simp) (by omega) hk]
  · rw [if_neg c1]
    by_cases c2 : r > 100000
    · rw [if_pos c2, halfj r y true (by simp) (by omega) hk]
    · rw [if_neg c2]
      by_cases c3 : y < -100000
      · rw [if_pos c3, halfj r y true (by simp) (by omega) hk]
      · rw [if_neg c3, halfj r y _ (by simp; omega) (by simp; omega) hk]
theorem sHalf_bound (r y : Int) : 0 ≤ (sHalf r y).1 ∧ (sHalf r y).1 ≤ (sHalf r y).2.1 ∧ (sHalf r y).2.1 ≤ 100000 := by
  unfold sHalf
  split
  · simp
  · split
    · simp
    · have ⟨e1, e2, e3, e4⟩ := half_small (r := r) (y := y) (by omega) (by omega) (by omega) (by omega)
      exact ⟨sqr_nonneg _, sqr_le_cei _, cei_least (by omega) (by omega) (by omega)⟩
def sChord (r y : Int) : Int × Int × Int := (2 * (sHalf r y).1, 2 * (sHalf r y).2.1, (sHalf r y).2.2)
theorem Chord_spec (r y : Int) {k : Nat} (hk : 41 ≤ k) : root_Chord.f k r y = some (sChord r y) := by
  unfold root_Chord.f sChord
  rw [Half_spec r y hk]
  have := sHalf_bound r y
  rw [Option.bind_some]
  rw [wid (by omega) (by omega), wid (by omega) (by omega)]
theorem sHalf_err {r y : Int} (h : r < 0 ∨ r > 100000 ∨ y < -100000 ∨ y > 100000) : sHalf r y = (0, 0, 2) := by unfold sHalf; rw [if_pos h]
theorem sHalf_out {r y : Int} (h : ¬ (r < 0 ∨ r > 100000 ∨ y < -100000 ∨ y > 100000)) (h2 : y > r ∨ -y > r) : sHalf r y = (0, 0, 0) := by unfold sHalf; rw [if_neg h, if_pos h2]
theorem sHalf_in {r y : Int} (h : ¬ (r < 0 ∨ r > 100000 ∨ y < -100000 ∨ y > 100000)) (h2 : ¬ (y > r ∨ -y > r)) : sHalf r y = (sqr (r * r - y * y), cei (r * r - y * y), 0) := by unfold sHalf; rw [if_neg h, if_neg h2]
theorem sHalf_ok {r y : Int} (h : ¬ (r < 0 ∨ r > 100000 ∨ y < -100000 ∨ y > 100000)) : (sHalf r y).2.2 = 0 := by unfold sHalf; rw [if_neg h]; split <;> rfl
theorem sHalf_neg (r y : Int) : sHalf r (-y) = sHalf r y := by
  have e : -y * -y = y * y := Int.neg_mul_neg y y
  by_cases c : r < 0 ∨ r > 100000 ∨ y < -100000 ∨ y > 100000
  · rw [sHalf_err c, sHalf_err (by omega)]
  · by_cases c2 : y > r ∨ -y > r
    · rw [sHalf_out c c2, sHalf_out (by omega) (by omega)]
    · rw [sHalf_in c c2, sHalf_in (by omega) (by omega), e]
theorem sHalf_zero {r : Int} (h0 : 0 ≤ r) (h1 : r ≤ 100000) : sHalf r 0 = (r, r, 0) := by
  rw [sHalf_in (by omega) (by omega)]
  have e : r * r - 0 * 0 = r * r := by omega
  rw [e, sqr_sq h0, cei_sq h0]
/-- a greater radius, and a place nearer to the centre, has no lesser half chord -/
theorem sHalf_mono {r y r' y' : Int} (h : ¬ (r < 0 ∨ r > 100000 ∨ y < -100000 ∨ y > 100000)) (h' : ¬ (r' < 0 ∨ r' > 100000 ∨ y' < -100000 ∨ y' > 100000))
    (hr : r ≤ r') (hy : (y' ≤ y ∧ -y' ≤ y) ∨ (y' ≤ -y ∧ -y' ≤ -y)) : (sHalf r y).1 ≤ (sHalf r' y').1 ∧ (sHalf r y).2.1 ≤ (sHalf r' y').2.1 := by
  have b' := sHalf_bound r' y'
  by_cases c2 : y > r ∨ -y > r
  · rw [sHalf_out h c2]; exact ⟨by omega, by show (0 : Int) ≤ _; omega⟩
  · rw [sHalf_in h c2, sHalf_in h' (by omega)]
    have ⟨e1, e2, e3, e4⟩ := half_small (r := r) (y := y) (by omega) (by omega) (by omega) (by omega)
    have f1 : r * r ≤ r' * r' := mul_self_le (by omega) hr
    have f2 : y' * y' ≤ y * y := by
      rcases hy with ⟨a, b⟩ | ⟨a, b⟩
      · exact (half_small (r := y) (y := y') (by omega) (by omega) (by omega) (by omega)).2.2.2
      · have := (half_small (r := -y) (y := y') (by omega) (by omega) (by omega) (by omega)).2.2.2
        rwa [Int.neg_mul_neg] at this
    exact ⟨sqr_le (by omega) (by omega), cei_mono (by omega) (by omega)⟩
end Go.Proofs.Ythbkbokfngbocaa.Sq
