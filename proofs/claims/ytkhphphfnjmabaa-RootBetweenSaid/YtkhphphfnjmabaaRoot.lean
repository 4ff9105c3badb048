import Derived.Test.YtkhphphfnjmabaaXx4
import Derived.Test.YtkhphphfnjmabaaSq
/-! What the functions of the package root, and those of its reference, come to. -/
namespace Go.Proofs.Ytkhphphfnjmabaa.Sq
open Go.RowKit Go.Proofs.Ytkhphphfnjmabaa.X

theorem of_loop {n : Int} (hn : 0 ≤ n) (hb : n < 4611686018427387904) (d : Nat) : ∀ (k : Nat) (l h : Int), 0 ≤ l → l < h → h ≤ 2147483648 → l * l ≤ n → n < h * h → h - l ≤ 2 ^ d → d < k →
    root_of.l0 k n l h = some (sqr n) := by
  induction d with
  | zero =>
    intro k l h h0 h1 h2 h3 h4 h5 hk
    obtain ⟨k, rfl⟩ : ∃ m, k = m + 1 := ⟨k - 1, by omega⟩
    have e : h = l + 1 := by simp at h5; omega
    subst e
    simp only [root_of.l0]
    rw [if_pos (by rw [wid (by omega) (by omega)]; omega), sqr_unique h0 h3 h4]
  | succ d ih =>
    intro k l h h0 h1 h2 h3 h4 h5 hk
    obtain ⟨k, rfl⟩ : ∃ m, k = m + 1 := ⟨k - 1, by omega⟩
    simp only [root_of.l0]
    rw [wid (x := h - l) (by omega) (by omega)]
    by_cases c : h - l = 1
    · have e : h = l + 1 := by omega
      subst e
      rw [if_pos c, sqr_unique h0 h3 h4]
    · rw [if_neg c, wid (x := l + h) (by omega) (by omega)]
      have e : Int.tdiv (l + h) 2 = (l + h) / 2 := Int.tdiv_eq_ediv_of_nonneg (by omega)
      rw [e]
      have hm1 : l < (l + h) / 2 := by omega
      have hm2 : (l + h) / 2 < h := by omega
      have hp : (2 : Int) ^ (d + 1) = 2 * 2 ^ d := by rw [Int.pow_succ]; omega
      have hp0 : (0 : Int) < 2 ^ d := Int.pow_pos (by omega)
      have hm3 : (l + h) / 2 - l ≤ 2 ^ d := by omega
      have hm4 : h - (l + h) / 2 ≤ 2 ^ d := by omega
      generalize (l + h) / 2 = m at *
      rw [wid (x := m) (by omega) (by omega), if_neg (by omega)]
      have e2 : Int.tdiv n m = n / m := Int.tdiv_eq_ediv_of_nonneg hn
      have hq0 : 0 ≤ n / m := Int.ediv_nonneg hn (by omega)
      have hq1 : n / m ≤ n := Int.ediv_le_self _ hn
      rw [e2, wid (x := n / m) (by omega) (by omega)]
      have key : m ≤ n / m ↔ m * m ≤ n := Int.le_ediv_iff_mul_le (by omega)
      by_cases c2 : m ≤ n / m
      · rw [if_pos c2]
        exact ih k m h (by omega) hm2 h2 (key.mp c2) h4 hm4 (by omega)
      · rw [if_neg c2]
        exact ih k l m h0 hm1 (by omega) h3 (by have := fun x => c2 (key.mpr x); omega) hm3 (by omega)

theorem of_spec {n : Int} (hn : 0 ≤ n) (hb : n < 4611686018427387904) {k : Nat} (hk : 40 ≤ k) : root_of.f k n = some (sqr n) := by
  unfold root_of.f
  exact of_loop hn hb 31 k 0 2147483648 (by omega) (by omega) (by omega) (by omega) (by omega) (by decide) (by omega)

theorem floor_loop {n : Int} (d : Nat) : ∀ (k : Nat) (q : Int), d ≤ 30 → 0 ≤ q → q * q ≤ n → n < (q + 2 * 2 ^ d) * (q + 2 * 2 ^ d) → q + 2 * 2 ^ d ≤ 2147483648 → d + 1 < k →
    spileref06_Floor.l0 k n q (2 ^ d) = some (sqr n) := by
  induction d with
  | zero =>
    intro k q hd h0 h1 h2 h3 hk
    obtain ⟨k, rfl⟩ : ∃ m, k = m + 1 + 1 := ⟨k - 2, by omega⟩
    simp only [Int.pow_zero] at *
    simp only [spileref06_Floor.l0]
    rw [if_pos (by omega), wid (x := q + 1) (by omega) (by omega)]
    have hq : (q + 1) * (q + 1) ≤ 2147483648 * 2147483648 := mul_self_le (by omega) (by omega)
    have hq0 : 0 ≤ (q + 1) * (q + 1) := Int.mul_nonneg (by omega) (by omega)
    rw [wid (x := (q + 1) * (q + 1)) (by omega) (by omega)]
    have e : wrap64 (Int.tdiv 1 2) = 0 := by decide +kernel
    rw [e, if_neg (c := (0 : Int) > 0) (by omega), if_neg (c := (0 : Int) > 0) (by omega)]
    by_cases c : (q + 1) * (q + 1) ≤ n
    · rw [if_pos c]; congr 1; exact sqr_unique (by omega) c (by simpa [Int.add_assoc] using h2)
    · rw [if_neg c]; congr 1; exact sqr_unique h0 h1 (by omega)
  | succ d ih =>
    intro k q hd h0 h1 h2 h3 hk
    obtain ⟨k, rfl⟩ : ∃ m, k = m + 1 := ⟨k - 1, by omega⟩
    have hp : (2 : Int) ^ (d + 1) = 2 * 2 ^ d := by rw [Int.pow_succ]; omega
    have hp0 : (0 : Int) < 2 ^ d := Int.pow_pos (by omega)
    rw [hp] at h2 h3 ⊢
    have e : Int.tdiv (2 * 2 ^ d) 2 = 2 ^ d := by rw [Int.tdiv_eq_ediv_of_nonneg (by omega)]; omega
    simp only [spileref06_Floor.l0]
    rw [e]
    have ih := ih k
    generalize (2 : Int) ^ d = b at *
    have hq : (q + 2 * b) * (q + 2 * b) ≤ 2147483648 * 2147483648 := mul_self_le (by omega) (by omega)
    have hq0 : 0 ≤ (q + 2 * b) * (q + 2 * b) := Int.mul_nonneg (by omega) (by omega)
    rw [if_pos (by omega), wid (x := q + 2 * b) (by omega) (by omega), wid (x := b) (by omega) (by omega), wid (x := (q + 2 * b) * (q + 2 * b)) (by omega) (by omega)]
    by_cases c : (q + 2 * b) * (q + 2 * b) ≤ n
    · rw [if_pos c]
      exact ih (q + 2 * b) (by omega) (by omega) c (by have e2 : q + 2 * b + 2 * b = q + 2 * (2 * b) := (by omega); rw [e2]; exact h2) (by omega) (by omega)
    · rw [if_neg c]
      exact ih q (by omega) h0 h1 (by omega) (by omega) (by omega)

theorem floor_spec {n : Int} (hn : 0 ≤ n) (hb : n < 4611686018427387904) {k : Nat} (hk : 40 ≤ k) : spileref06_Floor.f k n = some (sqr n) := by
  unfold spileref06_Floor.f
  exact floor_loop 30 k 0 (by omega) (by omega) (by omega) (by simpa using hb) (by decide) (by omega)

theorem sqr_small {n : Int} (hn : 0 ≤ n) (hb : n < 4611686018427387904) : 0 ≤ sqr n ∧ sqr n < 2147483648 ∧ 0 ≤ sqr n * sqr n ∧ sqr n * sqr n ≤ n :=
  ⟨sqr_nonneg n, sqr_lt hn (by omega) (by omega), Int.mul_nonneg (sqr_nonneg n) (sqr_nonneg n), sqr_lo hn⟩

theorem ceiling_spec {n : Int} (hn : 0 ≤ n) (hb : n < 4611686018427387904) {k : Nat} (hk : 40 ≤ k) : spileref06_Ceiling.f k n = some (cei n) := by
  unfold spileref06_Ceiling.f
  rw [floor_spec hn hb hk]
  have ⟨a, b, c, d⟩ := sqr_small hn hb
  rw [Option.bind_some]
  rw [wid (x := sqr n * sqr n) (by omega) (by omega), wid (x := sqr n + 1) (by omega) (by omega)]
  rcases cei_cases n with ⟨x, y⟩ | ⟨x, y⟩
  · rw [if_neg (by omega), y]
  · rw [if_pos (by omega), y]

theorem both_spec {n : Int} (hn : 0 ≤ n) (hb : n < 4611686018427387904) {k : Nat} (hk : 40 ≤ k) : root_both.f k n = some (sqr n, cei n) := by
  unfold root_both.f
  rw [of_spec hn hb hk]
  have ⟨a, b, c, d⟩ := sqr_small hn hb
  rw [Option.bind_some]
  rw [wid (x := sqr n * sqr n) (by omega) (by omega), wid (x := sqr n + 1) (by omega) (by omega)]
  rcases cei_cases n with ⟨x, y⟩ | ⟨x, y⟩
  · rw [if_pos x, y]
  · rw [if_neg x, y]

/-- what Down, Up, Fold, Square, Half say -/
def sDown (n : Int) : Int × Int := if n < 0 then (0, 2) else if n > 1125899906842624 then (0, 2) else (sqr n, 0)
def sUp (n : Int) : Int × Int := if n < 0 then (0, 2) else if n > 1125899906842624 then (0, 2) else (cei n, 0)
def sFold (n k : Int) : Int × Int := if n < 0 then (0, 2) else if n > 1099511627776 then (0, 2) else if k < 1 then (0, 2) else if k > 1000 then (0, 2) else (sqr (n * k * k), 0)
def sSquare (n : Int) : Bool := decide (0 ≤ n ∧ n ≤ 1125899906842624 ∧ sqr n = cei n)
def sHalf (r y : Int) : Int × Int × Int :=
  if r < 0 ∨ r > 100000 ∨ y < -100000 ∨ y > 100000 then (0, 0, 2)
  else if y > r ∨ -y > r then (0, 0, 0) else (sqr (r * r - y * y), cei (r * r - y * y), 0)

theorem Down_spec (n : Int) {k : Nat} (hk : 40 ≤ k) : root_Down.f k n = some (sDown n) := by
  unfold root_Down.f sDown
  by_cases c : n < 0
  · rw [if_pos c, if_pos c]
  · rw [if_neg c, if_neg c]
    by_cases c2 : n > 1125899906842624
    · rw [if_pos c2, if_pos c2]
    · rw [if_neg c2, if_neg c2, both_spec (by omega) (by omega) hk]; rfl
theorem refDown_spec (n : Int) {k : Nat} (hk : 40 ≤ k) : spileref06_Down.f k n = some (sDown n) := by
  unfold spileref06_Down.f sDown
  by_cases c : n < 0
  · rw [if_pos c, if_pos c]
  · rw [if_neg c, if_neg c]
    by_cases c2 : n > 1125899906842624
    · rw [if_pos c2, if_pos c2]
    · rw [if_neg c2, if_neg c2, floor_spec (by omega) (by omega) hk]; rfl
theorem Up_spec (n : Int) {k : Nat} (hk : 40 ≤ k) : root_Up.f k n = some (sUp n) := by
  unfold root_Up.f sUp
  by_cases c : n < 0
  · rw [if_pos c, if_pos c]
  · rw [if_neg c, if_neg c]
    by_cases c2 : n > 1125899906842624
    · rw [if_pos c2, if_pos c2]
    · rw [if_neg c2, if_neg c2, both_spec (by omega) (by omega) hk]; rfl
theorem refUp_spec (n : Int) {k : Nat} (hk : 40 ≤ k) : spileref06_Up.f k n = some (sUp n) := by
  unfold spileref06_Up.f sUp
  by_cases c : n < 0
  · rw [if_pos c, if_pos c]
  · rw [if_neg c, if_neg c]
    by_cases c2 : n > 1125899906842624
    · rw [if_pos c2, if_pos c2]
    · rw [if_neg c2, if_neg c2, ceiling_spec (by omega) (by omega) hk]; rfl

theorem fold_small {n k : Int} (h0 : 0 ≤ n) (h1 : n ≤ 1099511627776) (h2 : 1 ≤ k) (h3 : k ≤ 1000) : 0 ≤ n * k ∧ n * k ≤ 1099511627776000 ∧ 0 ≤ n * k * k ∧ n * k * k ≤ 1099511627776000000 := by
  have a : n * k ≤ 1099511627776 * 1000 := Int.mul_le_mul h1 h3 (by omega) (by omega)
  have a0 : 0 ≤ n * k := Int.mul_nonneg h0 (by omega)
  have b : n * k * k ≤ 1099511627776000 * 1000 := Int.mul_le_mul (by omega) h3 (by omega) (by omega)
  exact ⟨a0, by omega, Int.mul_nonneg a0 (by omega), by omega⟩

theorem Fold_spec (n c : Int) {k : Nat} (hk : 40 ≤ k) : root_Fold.f k n c = some (sFold n c) := by
  unfold root_Fold.f sFold
  by_cases c1 : n < 0
  · rw [if_pos c1, if_pos c1]
  · rw [if_neg c1, if_neg c1]
    by_cases c2 : n > 1099511627776
    · rw [if_pos c2, if_pos c2]
    · rw [if_neg c2, if_neg c2]
      by_cases c3 : c < 1
      · rw [if_pos c3, if_pos c3]
      · rw [if_neg c3, if_neg c3]
        by_cases c4 : c > 1000
        · rw [if_pos c4, if_pos c4]
        · have ⟨a1, a2, a3, a4⟩ := fold_small (n := n) (k := c) (by omega) (by omega) (by omega) (by omega)
          rw [if_neg c4, if_neg c4, wid (x := n * c) (by omega) (by omega), wid (x := n * c * c) (by omega) (by omega), of_spec (by omega) (by omega) hk]; rfl
theorem refFold_spec (n c : Int) {k : Nat} (hk : 40 ≤ k) : spileref06_Fold.f k n c = some (sFold n c) := by
  unfold spileref06_Fold.f sFold
  by_cases c1 : n < 0
  · rw [if_pos c1, if_pos c1]
  · rw [if_neg c1, if_neg c1]
    by_cases c2 : n > 1099511627776
    · rw [if_pos c2, if_pos c2]
    · rw [if_neg c2, if_neg c2]
      by_cases c3 : c < 1
      · rw [if_pos c3, if_pos c3]
      · rw [if_neg c3, if_neg c3]
        by_cases c4 : c > 1000
        · rw [if_pos c4, if_pos c4]
        · have ⟨a1, a2, a3, a4⟩ := fold_small (n := n) (k := c) (by omega) (by omega) (by omega) (by omega)
          rw [if_neg c4, if_neg c4, wid (x := n * c) (by omega) (by omega), wid (x := n * c * c) (by omega) (by omega), floor_spec (by omega) (by omega) hk]; rfl

theorem sqj (n : Int) (b : Bool) (hb : b = false → 0 ≤ n ∧ n ≤ 1125899906842624) {k : Nat} (hk : 41 ≤ k) : root_Square.j0 k n b = some (!b && decide (sqr n = cei n)) := by
  obtain ⟨k, rfl⟩ : ∃ m, k = m + 1 := ⟨k - 1, by omega⟩
  simp only [root_Square.j0]
  cases b with
  | true => simp
  | false =>
    obtain ⟨a, c⟩ := hb rfl
    rw [of_spec a (by omega) (by omega), both_spec a (by omega) (by omega)]
    rw [Option.bind_some, Option.bind_some, Bool.not_false, Bool.true_and]
    simp [Bool.beq_eq_decide_eq, eq_comm]
theorem Square_spec (n : Int) {k : Nat} (hk : 41 ≤ k) : root_Square.f k n = some (sSquare n) := by
  unfold root_Square.f sSquare
  by_cases c : n < 0
  · rw [if_pos c, sqj n true (by simp) hk]; simp; omega
  · rw [if_neg c, sqj n _ (by simp; omega) hk]
    by_cases c2 : n > 1125899906842624
    · simp [c2]; omega
    · simp [c2, show 0 ≤ n by omega, show n ≤ 1125899906842624 by omega]
theorem refSquare_spec (n : Int) {k : Nat} (hk : 40 ≤ k) : spileref06_Square.f k n = some (sSquare n) := by
  unfold spileref06_Square.f sSquare
  by_cases c : n ≥ 0
  · rw [if_pos c]
    by_cases c2 : n ≤ 1125899906842624
    · rw [if_pos c2, floor_spec c (by omega) hk, ceiling_spec c (by omega) hk]
      rw [Option.bind_some, Option.bind_some]
      simp [show 0 ≤ n by omega, show n ≤ 1125899906842624 by omega, Bool.beq_eq_decide_eq]
    · rw [if_neg c2]; simp; omega
  · rw [if_neg c]; simp; omega

theorem half_small {r y : Int} (h0 : 0 ≤ r) (h1 : r ≤ 100000) (h2 : -r ≤ y) (h3 : y ≤ r) : 0 ≤ r * r ∧ r * r ≤ 10000000000 ∧ 0 ≤ y * y ∧ y * y ≤ r * r := by
  have a : r * r ≤ 100000 * 100000 := mul_self_le h0 h1
  have b : 0 ≤ y * y := by
    rcases Int.le_total 0 y with h | h
    · exact Int.mul_nonneg h h
    · have := Int.mul_nonneg (a := -y) (b := -y) (by omega) (by omega); rw [Int.neg_mul_neg] at this; exact this
  have c : y * y ≤ r * r := by
    rcases Int.le_total 0 y with h | h
    · exact mul_self_le h h3
    · have := mul_self_le (a := -y) (b := r) (by omega) (by omega); rw [Int.neg_mul_neg] at this; exact this
  exact ⟨Int.mul_nonneg h0 h0, by omega, b, c⟩

theorem halfj (r y : Int) (b : Bool) (hb : b = false → 0 ≤ r ∧ r ≤ 100000 ∧ -100000 ≤ y ∧ y ≤ 100000) (hb2 : b = true → r < 0 ∨ r > 100000 ∨ y < -100000 ∨ y > 100000) {k : Nat} (hk : 41 ≤ k) : root_Half.j0 k r y b = some (sHalf r y) := by
  obtain ⟨k, rfl⟩ : ∃ m, k = m + 1 := ⟨k - 1, by omega⟩
  simp only [root_Half.j0]
  unfold sHalf
  cases b with
  | true => rw [if_pos rfl, if_pos (hb2 rfl)]
  | false =>
    obtain ⟨a1, a2, a3, a4⟩ := hb rfl
    rw [if_neg (by simp), if_neg (c := r < 0 ∨ r > 100000 ∨ y < -100000 ∨ y > 100000) (by omega)]
    by_cases c1 : y > r
    · rw [if_pos c1, if_pos (.inl c1)]
    · rw [if_neg c1, wid (x := -y) (by omega) (by omega)]
      by_cases c2 : -y > r
      · rw [if_pos c2, if_pos (.inr c2)]
      · have ⟨e1, e2, e3, e4⟩ := half_small (r := r) (y := y) (by omega) (by omega) (by omega) (by omega)
        rw [if_neg c2, if_neg (c := y > r ∨ -y > r) (by omega), wid (x := r * r) (by omega) (by omega), wid (x := y * y) (by omega) (by omega), wid (x := r * r - y * y) (by omega) (by omega), both_spec (by omega) (by omega) (by omega)]
        rfl
theorem Half_spec (r y : Int) {k : Nat} (hk : 41 ≤ k) : root_Half.f k r y = some (sHalf r y) := by
  unfold root_Half.f
  by_cases c1 : r < 0
  · rw [if_pos c1, halfj r y true (by simp) (by omega) hk]
  · rw [if_neg c1]
    by_cases c2 : r > 100000
    · rw [if_pos c2, halfj r y true (by simp) (by omega) hk]
    · rw [if_neg c2]
      by_cases c3 : y < -100000
      · rw [if_pos c3, halfj r y true (by simp) (by omega) hk]
      · rw [if_neg c3, halfj r y _ (by simp; omega) (by simp; omega) hk]
theorem sHalf_bound (r y : Int) : 0 ≤ (sHalf r y).1 ∧ (sHalf r y).1 ≤ (sHalf r y).2.1 ∧ (sHalf r y).2.1 ≤ 100000 := by
  unfold sHalf
  split
  · simp
  · split
    · simp
    · have ⟨e1, e2, e3, e4⟩ := half_small (r := r) (y := y) (by omega) (by omega) (by omega) (by omega)
      exact ⟨sqr_nonneg _, sqr_le_cei _, cei_least (by omega) (by omega) (by omega)⟩
def sChord (r y : Int) : Int × Int × Int := (2 * (sHalf r y).1, 2 * (sHalf r y).2.1, (sHalf r y).2.2)
theorem Chord_spec (r y : Int) {k : Nat} (hk : 41 ≤ k) : root_Chord.f k r y = some (sChord r y) := by
  unfold root_Chord.f sChord
  rw [Half_spec r y hk]
  have := sHalf_bound r y
  rw [Option.bind_some]
  rw [wid (by omega) (by omega), wid (by omega) (by omega)]
theorem bndj (r y : Int) (b : Bool) (h0 : 0 ≤ r) (h1 : r ≤ 100000) (h2 : -100000 ≤ y) (h3 : y ≤ 100000) (hb : b = true ↔ (y > r ∨ y < -r)) {k : Nat} (hk : 41 ≤ k) : spileref06_Bounds.j0 k r y b = some ((sHalf r y).1, (sHalf r y).2.1) := by
  obtain ⟨k, rfl⟩ : ∃ m, k = m + 1 := ⟨k - 1, by omega⟩
  simp only [spileref06_Bounds.j0]
  unfold sHalf
  rw [if_neg (c := r < 0 ∨ r > 100000 ∨ y < -100000 ∨ y > 100000) (by omega)]
  cases b with
  | true => have := hb.mp rfl; rw [if_pos rfl, if_pos (by omega)]
  | false =>
    have hn : ¬ (y > r ∨ y < -r) := fun h => by have := hb.mpr h; simp at this
    rw [if_neg (by simp), if_neg (c := y > r ∨ -y > r) (by omega)]
    have ⟨e1, e2, e3, e4⟩ := half_small (r := r) (y := y) (by omega) (by omega) (by omega) (by omega)
    rw [wid (x := r * r) (by omega) (by omega), wid (x := y * y) (by omega) (by omega), wid (x := r * r - y * y) (by omega) (by omega), floor_spec (by omega) (by omega) (by omega), ceiling_spec (by omega) (by omega) (by omega), Option.bind_some, Option.bind_some]
theorem Bounds_spec (r y : Int) (h0 : 0 ≤ r) (h1 : r ≤ 100000) (h2 : -100000 ≤ y) (h3 : y ≤ 100000) {k : Nat} (hk : 41 ≤ k) : spileref06_Bounds.f k r y = some ((sHalf r y).1, (sHalf r y).2.1) := by
  unfold spileref06_Bounds.f
  by_cases c : y > r
  · rw [if_pos c, bndj r y true h0 h1 h2 h3 (by simp; omega) hk]
  · rw [if_neg c, wid (by omega) (by omega), bndj r y _ h0 h1 h2 h3 (by simp; omega) hk]
theorem refHalf_spec (r y : Int) {k : Nat} (hk : 41 ≤ k) : spileref06_Half.f k r y = some (sHalf r y) := by
  unfold spileref06_Half.f
  by_cases c1 : r < 0
  · rw [if_pos c1]; unfold sHalf; rw [if_pos (by omega)]
  · rw [if_neg c1]
    by_cases c2 : r > 100000
    · rw [if_pos c2]; unfold sHalf; rw [if_pos (by omega)]
    · rw [if_neg c2]
      by_cases c3 : y < -100000
      · rw [if_pos c3]; unfold sHalf; rw [if_pos (by omega)]
      · rw [if_neg c3]
        by_cases c4 : y > 100000
        · rw [if_pos c4]; unfold sHalf; rw [if_pos (by omega)]
        · rw [if_neg c4, Bounds_spec r y (by omega) (by omega) (by omega) (by omega) hk, Option.bind_some]
          have : (sHalf r y).2.2 = 0 := by
            unfold sHalf; rw [if_neg (by omega)]; split <;> rfl
          rw [← this]
theorem refChord_spec (r y : Int) {k : Nat} (hk : 41 ≤ k) : spileref06_Chord.f k r y = some (sChord r y) := by
  unfold spileref06_Chord.f sChord
  rw [refHalf_spec r y hk]
  have := sHalf_bound r y
  rw [Option.bind_some]
  rw [wid (by omega) (by omega), wid (by omega) (by omega)]
theorem sHalf_err {r y : Int} (h : r < 0 ∨ r > 100000 ∨ y < -100000 ∨ y > 100000) : sHalf r y = (0, 0, 2) := by unfold sHalf; rw [if_pos h]
theorem sHalf_out {r y : Int} (h : ¬ (r < 0 ∨ r > 100000 ∨ y < -100000 ∨ y > 100000)) (h2 : y > r ∨ -y > r) : sHalf r y = (0, 0, 0) := by unfold sHalf; rw [if_neg h, if_pos h2]
theorem sHalf_in {r y : Int} (h : ¬ (r < 0 ∨ r > 100000 ∨ y < -100000 ∨ y > 100000)) (h2 : ¬ (y > r ∨ -y > r)) : sHalf r y = (sqr (r * r - y * y), cei (r * r - y * y), 0) := by unfold sHalf; rw [if_neg h, if_neg h2]
theorem sHalf_ok {r y : Int} (h : ¬ (r < 0 ∨ r > 100000 ∨ y < -100000 ∨ y > 100000)) : (sHalf r y).2.2 = 0 := by unfold sHalf; rw [if_neg h]; split <;> rfl
theorem sHalf_neg (r y : Int) : sHalf r (-y) = sHalf r y := by
  have e : -y * -y = y * y := Int.neg_mul_neg y y
  by_cases c : r < 0 ∨ r > 100000 ∨ y < -100000 ∨ y > 100000
  · rw [sHalf_err c, sHalf_err (by omega)]
  · by_cases c2 : y > r ∨ -y > r
    · rw [sHalf_out c c2, sHalf_out (by omega) (by omega)]
    · rw [sHalf_in c c2, sHalf_in (by omega) (by omega), e]
theorem sHalf_zero {r : Int} (h0 : 0 ≤ r) (h1 : r ≤ 100000) : sHalf r 0 = (r, r, 0) := by
  rw [sHalf_in (by omega) (by omega)]
  have e : r * r - 0 * 0 = r * r := by omega
  rw [e, sqr_sq h0, cei_sq h0]
/-- a greater radius, and a place nearer to the centre, has no lesser half chord -/
theorem sHalf_mono {r y r' y' : Int} (h : ¬ (r < 0 ∨ r > 100000 ∨ y < -100000 ∨ y > 100000)) (h' : ¬ (r' < 0 ∨ r' > 100000 ∨ y' < -100000 ∨ y' > 100000))
    (hr : r ≤ r') (hy : (y' ≤ y ∧ -y' ≤ y) ∨ (y' ≤ -y ∧ -y' ≤ -y)) : (sHalf r y).1 ≤ (sHalf r' y').1 ∧ (sHalf r y).2.1 ≤ (sHalf r' y').2.1 := by
  have b' := sHalf_bound r' y'
  by_cases c2 : y > r ∨ -y > r
  · rw [sHalf_out h c2]; exact ⟨by omega, by show (0 : Int) ≤ _; omega⟩
  · rw [sHalf_in h c2, sHalf_in h' (by omega)]
    have ⟨e1, e2, e3, e4⟩ := half_small (r := r) (y := y) (by omega) (by omega) (by omega) (by omega)
    have f1 : r * r ≤ r' * r' := mul_self_le (by omega) hr
    have f2 : y' * y' ≤ y * y := by
      rcases hy with ⟨a, b⟩ | ⟨a, b⟩
      · exact (half_small (r := y) (y := y') (by omega) (by omega) (by omega) (by omega)).2.2.2
      · have := (half_small (r := -y) (y := y') (by omega) (by omega) (by omega) (by omega)).2.2.2
        rwa [Int.neg_mul_neg] at this
    exact ⟨sqr_le (by omega) (by omega), cei_mono (by omega) (by omega)⟩
end Go.Proofs.Ytkhphphfnjmabaa.Sq
