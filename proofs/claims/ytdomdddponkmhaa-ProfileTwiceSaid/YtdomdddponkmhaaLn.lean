import Derived.RowKit
/-! Fractions rounded down and up, and heights on a straight line, in plain numbers. -/
namespace Go.Proofs.Ytdomdddponkmhaa.Ln
set_option linter.unusedVariables false
set_option linter.unusedSimpArgs false
open Go.RowKit

theorem wid {x : Int} (h : -9223372036854775808 ≤ x) (h2 : x < 9223372036854775808) : wrap64 x = x := by unfold wrap64; omega

/-- rounded down, and up -/
def fl (n h : Int) : Int := n / h
def ce (n h : Int) : Int := (n + h - 1) / h
theorem le_fl {n h m : Int} (hh : 0 < h) : m ≤ fl n h ↔ m * h ≤ n := Int.le_ediv_iff_mul_le hh
theorem ce_le {n h m : Int} (hh : 0 < h) : ce n h ≤ m ↔ n ≤ m * h := by
  unfold ce
  have := @Int.le_ediv_iff_mul_le (m + 1) (n + h - 1) h hh
  rw [show (m + 1) * h = m * h + h by grind] at this
  omega
theorem fl_lt {n h m : Int} (hh : 0 < h) : fl n h < m ↔ n < m * h := by
  have := @le_fl n h m hh
  omega
theorem lt_ce {n h m : Int} (hh : 0 < h) : m < ce n h ↔ m * h < n := by
  have := @ce_le n h m hh
  omega
theorem fl_spec {n h : Int} (hh : 0 < h) : fl n h * h ≤ n := (le_fl hh).1 (Int.le_refl _)
theorem ce_spec {n h : Int} (hh : 0 < h) : n ≤ ce n h * h := (ce_le hh).1 (Int.le_refl _)
theorem fl_le_ce {n h : Int} (hh : 0 < h) : fl n h ≤ ce n h := by
  have a := fl_spec (n := n) hh
  have b := ce_spec (n := n) hh
  exact Int.le_of_mul_le_mul_right (Int.le_trans a b) hh
theorem ce_le_fl {n h : Int} (hh : 0 < h) : ce n h ≤ fl n h + 1 := by
  rw [ce_le hh]
  exact Int.le_of_lt ((fl_lt hh).1 (by omega))
theorem fl_mono {n1 h1 n2 h2 : Int} (p1 : 0 < h1) (p2 : 0 < h2) (h : n1 * h2 ≤ n2 * h1) : fl n1 h1 ≤ fl n2 h2 := by
  rw [le_fl p2]
  have a := Int.mul_le_mul_of_nonneg_right (fl_spec (n := n1) p1) (Int.le_of_lt p2)
  refine Int.le_of_mul_le_mul_right (a := h1) ?_ p1
  have : fl n1 h1 * h2 * h1 = fl n1 h1 * h1 * h2 := by grind
  omega
theorem ce_mono {n1 h1 n2 h2 : Int} (p1 : 0 < h1) (p2 : 0 < h2) (h : n1 * h2 ≤ n2 * h1) : ce n1 h1 ≤ ce n2 h2 := by
  rw [ce_le p1]
  have a := Int.mul_le_mul_of_nonneg_right (ce_spec (n := n2) p2) (Int.le_of_lt p1)
  refine Int.le_of_mul_le_mul_right (a := h2) ?_ p2
  have : ce n2 h2 * h2 * h1 = ce n2 h2 * h1 * h2 := by grind
  omega
theorem fl_same {n1 h1 n2 h2 : Int} (p1 : 0 < h1) (p2 : 0 < h2) (h : n1 * h2 = n2 * h1) : fl n1 h1 = fl n2 h2 :=
  Int.le_antisymm (fl_mono p1 p2 (by omega)) (fl_mono p2 p1 (by omega))
theorem ce_same {n1 h1 n2 h2 : Int} (p1 : 0 < h1) (p2 : 0 < h2) (h : n1 * h2 = n2 * h1) : ce n1 h1 = ce n2 h2 :=
  Int.le_antisymm (ce_mono p1 p2 (by omega)) (ce_mono p2 p1 (by omega))
theorem fl_sub {n h s : Int} (hh : 0 < h) : fl (n - s * h) h = fl n h - s := by
  have a : ∀ m, m ≤ fl (n - s * h) h ↔ m + s ≤ fl n h := fun m => by
    rw [le_fl hh, le_fl hh, show (m + s) * h = m * h + s * h by grind]; omega
  have b := a (fl (n - s * h) h)
  have c := a (fl n h - s)
  omega
theorem ce_sub {n h s : Int} (hh : 0 < h) : ce (n - s * h) h = ce n h - s := by
  have a : ∀ m, ce (n - s * h) h ≤ m ↔ ce n h ≤ m + s := fun m => by
    rw [ce_le hh, ce_le hh, show (m + s) * h = m * h + s * h by grind]; omega
  have b := a (ce (n - s * h) h)
  have c := a (ce n h - s)
  omega
theorem fl_whole {m h : Int} (hh : 0 < h) : fl (m * h) h = m := Int.mul_ediv_cancel _ (by omega)
theorem ce_whole {m h : Int} (hh : 0 < h) : ce (m * h) h = m := by
  have a := @ce_le (m * h) h m hh
  have b := @lt_ce (m * h) h (m - 1) hh
  rw [show (m - 1) * h = m * h - h by grind] at b
  omega
/-- a fraction that is whole -/
theorem fl_eq_ce {n h : Int} (hh : 0 < h) (e : fl n h = ce n h) : n = fl n h * h := by
  have a := fl_spec (n := n) hh
  have b := ce_spec (n := n) hh
  rw [← e] at b
  omega

/-- the numerator on the line from (a, r) to (b, s) at x; its denominator is b - a -/
def nu (a r b s x : Int) : Int := r * (b - x) + s * (x - a)
theorem nu_rev (a r b s x L : Int) : nu (L - b) s (L - a) r (L - x) = nu a r b s x := by unfold nu; grind
theorem nu_ref (a r b s x : Int) : r * (b - a) + (s - r) * (x - a) = nu a r b s x := by unfold nu; grind
theorem nu_left (a r b s : Int) : nu a r b s a = r * (b - a) := by unfold nu; grind
theorem nu_right (a r b s : Int) : nu a r b s b = s * (b - a) := by unfold nu; grind
theorem nu_ge {a r b s x m : Int} (h1 : a ≤ x) (h2 : x ≤ b) (hr : m ≤ r) (hs : m ≤ s) : m * (b - a) ≤ nu a r b s x := by
  have e1 := Int.mul_le_mul_of_nonneg_right hr (show 0 ≤ b - x by omega)
  have e2 := Int.mul_le_mul_of_nonneg_right hs (show 0 ≤ x - a by omega)
  have : m * (b - a) = m * (b - x) + m * (x - a) := by grind
  unfold nu; omega
theorem nu_le {a r b s x m : Int} (h1 : a ≤ x) (h2 : x ≤ b) (hr : r ≤ m) (hs : s ≤ m) : nu a r b s x ≤ m * (b - a) := by
  have e1 := Int.mul_le_mul_of_nonneg_right hr (show 0 ≤ b - x by omega)
  have e2 := Int.mul_le_mul_of_nonneg_right hs (show 0 ≤ x - a by omega)
  have : m * (b - a) = m * (b - x) + m * (x - a) := by grind
  unfold nu; omega
theorem nu_up {a r b s x y : Int} (h : r ≤ s) (hx : x ≤ y) : nu a r b s x ≤ nu a r b s y := by
  have e := Int.mul_nonneg (show 0 ≤ s - r by omega) (show 0 ≤ y - x by omega)
  have : nu a r b s y = nu a r b s x + (s - r) * (y - x) := by unfold nu; grind
  omega
theorem nu_down {a r b s x y : Int} (h : s ≤ r) (hx : x ≤ y) : nu a r b s y ≤ nu a r b s x := by
  have e := Int.mul_nonneg (show 0 ≤ r - s by omega) (show 0 ≤ y - x by omega)
  have : nu a r b s x = nu a r b s y + (r - s) * (y - x) := by unfold nu; grind
  omega
/-- a line within another one that is nowhere lower by less than s0 -/
theorem nu_inner {a r b s x u v p q d : Int} (hab : a < b) (h1 : u ≤ x) (h2 : x ≤ v) (hp : p * (b - a) ≤ nu a r b s u - d * (b - a)) (hq : q * (b - a) ≤ nu a r b s v - d * (b - a)) :
    nu u p v q x * (b - a) ≤ (nu a r b s x - d * (b - a)) * (v - u) := by
  have e1 := Int.mul_le_mul_of_nonneg_right hp (show 0 ≤ v - x by omega)
  have e2 := Int.mul_le_mul_of_nonneg_right hq (show 0 ≤ x - u by omega)
  have l1 : nu u p v q x * (b - a) = p * (b - a) * (v - x) + q * (b - a) * (x - u) := by unfold nu; grind
  have l2 : (nu a r b s x - d * (b - a)) * (v - u) = (nu a r b s u - d * (b - a)) * (v - x) + (nu a r b s v - d * (b - a)) * (x - u) := by unfold nu; grind
  omega
/-- a part of the line -/
theorem nu_part {a r b s x u v p q : Int} (hp : p * (b - a) = nu a r b s u) (hq : q * (b - a) = nu a r b s v) : nu u p v q x * (b - a) = nu a r b s x * (v - u) := by
  have l1 : nu u p v q x * (b - a) = p * (b - a) * (v - x) + q * (b - a) * (x - u) := by unfold nu; grind
  have l2 : nu a r b s x * (v - u) = nu a r b s u * (v - x) + nu a r b s v * (x - u) := by unfold nu; grind
  rw [l1, l2, hp, hq]
end Go.Proofs.Ytdomdddponkmhaa.Ln
