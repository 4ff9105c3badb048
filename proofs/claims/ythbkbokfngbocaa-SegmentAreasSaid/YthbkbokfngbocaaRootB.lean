import Derived.Test.YthbkbokfngbocaaXx7
import Derived.Test.YthbkbokfngbocaaRootA
/-! What the functions of the reference of root come to. -/
namespace Go.Proofs.Ythbkbokfngbocaa.Sq
set_option linter.unusedVariables false
set_option linter.unusedSimpArgs false
open Go.RowKit Go.Proofs.Ythbkbokfngbocaa.X

theorem floor_loop {n : Int} (d : Nat) : ∀ (k : Nat) (q : Int), d ≤ 30 → 0 ≤ q → q * q ≤ n → n < (q + 2 * 2 ^ d) * (q + 2 * 2 ^ d) → q + 2 * 2 ^ d ≤ 2147483648 → d + 1 < k →
    spileref06_Floor.l0 k n q (2 ^ d) = some (sqr n) := by
  induction d with
  | zero =>
    intro k q hd h0 h1 h2 h3 hk
    obtain ⟨k, rfl⟩ : ∃ m, k = m + 1 + 1 := ⟨k - 2, by omega⟩
    simp only [Int.pow_zero] at *
    simp only [spileref06_Floor.l0]
    rw [if_pos (by omega), wid (x := q + 1) (by omega) (by omega)]
    have hq : (q + 1) * (q + 1) ≤ 2147483648 * 2147483648 := mul_self_le (by omega) (by omega)
    have hq0 : 0 ≤ (q + 1) * (q + 1) := Int.mul_nonneg (by omega) (by omega)
    rw [wid (x := (q + 1) * (q + 1)) (by omega) (by omega)]
    have e : wrap64 (Int.tdiv 1 2) = 0 := by decide +kernel
    rw [e, if_neg (c := (0 : Int) > 0) (by omega), if_neg (c := (0 : Int) > 0) (by omega)]
    by_cases c : (q + 1) * (q + 1) ≤ n
    · rw [if_pos c]; congr 1; exact sqr_unique (by omega) c (by simpa [Int.add_assoc] using h2)
    · rw [if_neg c]; congr 1; exact sqr_unique h0 h1 (by omega)
  | succ d ih =>
    intro k q hd h0 h1 h2 h3 hk
    obtain ⟨k, rfl⟩ : ∃ m, k = m + 1 := ⟨k - 1, by omega⟩
    have hp : (2 : Int) ^ (d + 1) = 2 * 2 ^ d := by rw [Int.pow_succ]; omega
    have hp0 : (0 : Int) < 2 ^ d := Int.pow_pos (by omega)
    rw [hp] at h2 h3 ⊢
    have e : Int.tdiv (2 * 2 ^ d) 2 = 2 ^ d := by rw [Int.tdiv_eq_ediv_of_nonneg (by omega)]; omega
    simp only [spileref06_Floor.l0]
    rw [e]
    have ih := ih k
    generalize (2 : Int) ^ d = b at *
    have hq : (q + 2 * b) * (q + 2 * b) ≤ 2147483648 * 2147483648 := mul_self_le (by omega) (by omega)
    have hq0 : 0 ≤ (q + 2 * b) * (q + 2 * b) := Int.mul_nonneg (by omega) (by omega)
    rw [if_pos (by omega), wid (x := q + 2 * b) (by omega) (by omega), wid (x := b) (by omega) (by omega), wid (x := (q + 2 * b) * (q + 2 * b)) (by omega) (by omega)]
    by_cases c : (q + 2 * b) * (q + 2 * b) ≤ n
    · rw [if_pos c]
      exact ih (q + 2 * b) (by omega) (by omega) c (by have e2 : q + 2 * b + 2 * b = q + 2 * (2 * b) := (by omega); rw [e2]; exact h2) (by omega) (by omega)
    · rw [if_neg c]
      exact ih q (by omega) h0 h1 (by omega) (by omega) (by omega)

theorem floor_spec {n : Int} (hn : 0 ≤ n) (hb : n < 4611686018427387904) {k : Nat} (hk : 40 ≤ k) : spileref06_Floor.f k n = some (sqr n) := by
  unfold spileref06_Floor.f
  exact floor_loop 30 k 0 (by omega) (by omega) (by omega) (by simpa using hb) (by decide) (by omega)

theorem ceiling_spec {n : Int} (hn : 0 ≤ n) (hb : n < 4611686018427387904) {k : Nat} (hk : 40 ≤ k) : spileref06_Ceiling.f k n = some (cei n) := by
  unfold spileref06_Ceiling.f
  rw [floor_spec hn hb hk]
  have ⟨a, b, c, d⟩ := sqr_small hn hb
  rw [Option.bind_some]
  rw [wid (x := sqr n * sqr n) (by omega) (by omega), wid (x := sqr n + 1) (by omega) (by omega)]
  rcases cei_cases n with ⟨x, y⟩ | ⟨x, y⟩
  · rw [if_neg (by omega), y]
  · rw [if_pos (by omega), y]

theorem bndj (r y : Int) (b : Bool) (h0 : 0 ≤ r) (h1 : r ≤ 100000) (h2 : -100000 ≤ y) (h3 : y ≤ 100000) (hb : b = true ↔ (y > r ∨ y < -r)) {k : Nat} (hk : 41 ≤ k) : spileref06_Bounds.j0 k r y b = some ((sHalf r y).1, (sHalf r y).2.1) := by
  obtain ⟨k, rfl⟩ : ∃ m, k = m + 1 := ⟨k - 1, by omega⟩
  simp only [spileref06_Bounds.j0]
  unfold sHalf
  rw [if_neg (c := r < 0 ∨ r > 100000 ∨ y < -100000 ∨ y > 100000) (by omega)]
  cases b with
  | true => have := hb.mp rfl; rw [if_pos rfl, if_pos (by omega)]
  | false =>
    have hn : ¬ (y > r ∨ y < -r) := fun h => by have := hb.mpr h; simp at this
    rw [if_neg (by simp), if_neg (c := y > r ∨ -y > r) (by omega)]
    have ⟨e1, e2, e3, e4⟩ := half_small (r := r) (y := y) (by omega) (by omega) (by omega) (by omega)
    rw [wid (x := r * r) (by omega) (by omega), wid (x := y * y) (by omega) (by omega), wid (x := r * r - y * y) (by omega) (by omega), floor_spec (by omega) (by omega) (by omega), ceiling_spec (by omega) (by omega) (by omega), Option.bind_some, Option.bind_some]
theorem Bounds_spec (r y : Int) (h0 : 0 ≤ r) (h1 : r ≤ 100000) (h2 : -100000 ≤ y) (h3 : y ≤ 100000) {k : Nat} (hk : 41 ≤ k) : spileref06_Bounds.f k r y = some ((sHalf r y).1, (sHalf r y).2.1) := by
  unfold spileref06_Bounds.f
  by_cases c : y > r
  · rw [if_pos c, bndj r y true h0 h1 h2 h3 (by simp; omega) hk]
  · rw [if_neg c, wid (by omega) (by omega), bndj r y _ h0 h1 h2 h3 (by simp; omega) hk]
end Go.Proofs.Ythbkbokfngbocaa.Sq
