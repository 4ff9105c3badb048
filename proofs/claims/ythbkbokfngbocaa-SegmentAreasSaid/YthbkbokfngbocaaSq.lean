import Derived.RowKit
/-! Whole roots, in plain numbers. -/
namespace Go.Proofs.Ythbkbokfngbocaa.Sq
set_option linter.unusedVariables false
set_option linter.unusedSimpArgs false
open Go.RowKit

theorem wid {x : Int} (h : -9223372036854775808 ≤ x) (h2 : x < 9223372036854775808) : wrap64 x = x := by unfold wrap64; omega

def isq : Nat → Nat
  | 0 => 0
  | n + 1 => if (isq n + 1) * (isq n + 1) ≤ n + 1 then isq n + 1 else isq n

theorem isq_spec : ∀ n, isq n * isq n ≤ n ∧ n < (isq n + 1) * (isq n + 1)
  | 0 => by simp [isq]
  | n + 1 => by
    have ⟨h1, h2⟩ := isq_spec n
    unfold isq
    split
    · rename_i h
      have e : (isq n + 1 + 1) * (isq n + 1 + 1) = (isq n + 1) * (isq n + 1) + 2 * (isq n + 1) + 1 := by grind
      exact ⟨h, by omega⟩
    · rename_i h; exact ⟨by omega, by omega⟩

/-- the root of a number, rounded down -/
def sqr (n : Int) : Int := (isq n.toNat : Nat)
theorem sqr_nonneg (n : Int) : 0 ≤ sqr n := by unfold sqr; omega
theorem sqr_lo {n : Int} (h : 0 ≤ n) : sqr n * sqr n ≤ n := by
  have ⟨h1, _⟩ := isq_spec n.toNat
  have : ((isq n.toNat * isq n.toNat : Nat) : Int) ≤ (n.toNat : Int) := by omega
  unfold sqr; rw [Int.natCast_mul] at this; omega
theorem sqr_hi {n : Int} (h : 0 ≤ n) : n < (sqr n + 1) * (sqr n + 1) := by
  have ⟨_, h2⟩ := isq_spec n.toNat
  have : (n.toNat : Int) < (((isq n.toNat + 1) * (isq n.toNat + 1) : Nat) : Int) := by omega
  unfold sqr; rw [Int.natCast_mul] at this; simp only [Int.natCast_add] at this; simp at this; omega
theorem mul_self_le {a b : Int} (h : 0 ≤ a) (h2 : a ≤ b) : a * a ≤ b * b := Int.mul_le_mul h2 h2 h (by omega)
theorem le_of_sq {a b n : Int} (h0 : 0 ≤ b) (h2 : a * a ≤ n) (h3 : n < (b + 1) * (b + 1)) : a ≤ b := by
  false_or_by_contra
  have : (b + 1) * (b + 1) ≤ a * a := Int.mul_le_mul (by omega) (by omega) (by omega) (by omega)
  omega
theorem sqr_unique {n r : Int} (hr : 0 ≤ r) (h1 : r * r ≤ n) (h2 : n < (r + 1) * (r + 1)) : r = sqr n := by
  have hn : 0 ≤ n := by have := Int.mul_nonneg hr hr; omega
  have a := le_of_sq (sqr_nonneg n) h1 (sqr_hi hn)
  have b := le_of_sq hr (sqr_lo hn) h2
  omega
theorem sqr_le {n m : Int} (h : 0 ≤ n) (h2 : n ≤ m) : sqr n ≤ sqr m :=
  le_of_sq (sqr_nonneg m) (Int.le_trans (sqr_lo h) h2) (sqr_hi (by omega))
theorem sqr_lt {n b : Int} (h : 0 ≤ n) (hb : 0 ≤ b) (h2 : n < b * b) : sqr n < b := by
  false_or_by_contra
  have h3 : b * b ≤ sqr n * sqr n := mul_self_le hb (by omega)
  have := sqr_lo h
  omega
theorem sqr_sq {r : Int} (hr : 0 ≤ r) : sqr (r * r) = r := (sqr_unique hr (Int.le_refl _) (by have : (r + 1) * (r + 1) = r * r + 2 * r + 1 := (by grind); omega)).symm
/-- the root, rounded up -/
def cei (n : Int) : Int := if sqr n * sqr n = n then sqr n else sqr n + 1
theorem cei_cases (n : Int) : (sqr n * sqr n = n ∧ cei n = sqr n) ∨ (sqr n * sqr n ≠ n ∧ cei n = sqr n + 1) := by
  unfold cei; split <;> simp_all
theorem sqr_le_cei (n : Int) : sqr n ≤ cei n := by have := cei_cases n; omega
theorem cei_le (n : Int) : cei n ≤ sqr n + 1 := by have := cei_cases n; omega
theorem cei_hi {n : Int} (h : 0 ≤ n) : n ≤ cei n * cei n := by
  rcases cei_cases n with ⟨a, b⟩ | ⟨a, b⟩
  · rw [b]; omega
  · rw [b]; have := sqr_hi h; omega
theorem cei_sq {r : Int} (hr : 0 ≤ r) : cei (r * r) = r := by unfold cei; rw [sqr_sq hr]; simp
/-- the least number whose square is not below n -/
theorem cei_least {n r : Int} (hn : 0 ≤ n) (hr : 0 ≤ r) (h : n ≤ r * r) : cei n ≤ r := by
  false_or_by_contra
  rename_i hc
  rcases cei_cases n with ⟨a, b⟩ | ⟨a, b⟩
  · have : (r + 1) * (r + 1) ≤ sqr n * sqr n := mul_self_le (by omega) (by omega)
    have e : (r + 1) * (r + 1) = r * r + 2 * r + 1 := by grind
    omega
  · have h1 : r ≤ sqr n := by omega
    have h2 : r * r ≤ sqr n * sqr n := mul_self_le hr h1
    have := sqr_lo hn
    omega
theorem cei_mono {n m : Int} (h : 0 ≤ n) (h2 : n ≤ m) : cei n ≤ cei m :=
  cei_least h (by have := sqr_nonneg m; have := sqr_le_cei m; omega) (Int.le_trans h2 (cei_hi (by omega)))
theorem cei_nonneg (n : Int) : 0 ≤ cei n := by have := sqr_nonneg n; have := sqr_le_cei n; omega
theorem cei_bound {n b : Int} (h : 0 ≤ n) (hb : 0 ≤ b) (h2 : n ≤ b * b) : cei n ≤ b := cei_least h hb h2
end Go.Proofs.Ythbkbokfngbocaa.Sq
