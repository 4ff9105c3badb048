import Derived.Test.YthbkbokfngbocaaSgl
/-! A circle against 2048 cells: sums of strips stand above and below the whole area's bounds. -/
namespace Go.Proofs.Ythbkbokfngbocaa.Sq
set_option linter.unusedVariables false
set_option linter.unusedSimpArgs false
open Go.RowKit Go.Proofs.Ythbkbokfngbocaa.X Go.Proofs.Ythbkbokfngbocaa.It Go.Proofs.YthbkbokfngbocaaW.PrintMore Go.Proofs.YthbkbokfngbocaaW.PrintWords Go.Proofs.YthbkbokfngbocaaW.PrintLast

/-- how much of a cell lies below: between 0 and r -/
def cl (r t : Int) : Int := if t < 0 then 0 else if t > r then r else t
theorem cl_mono {r s t : Int} (hr : 0 ≤ r) (h : s ≤ t) : cl r s ≤ cl r t := by unfold cl; split <;> split <;> (try split) <;> (try split) <;> omega
theorem cl_bound {r t : Int} (hr : 0 ≤ r) : 0 ≤ cl r t ∧ cl r t ≤ r := by unfold cl; split <;> (try split) <;> omega
theorem cl_add {r y : Int} (hr : 0 ≤ r) (m : Nat) : cl ((m : Int) * r) y + cl r (y - (m : Int) * r) = cl (((m + 1 : Nat) : Int) * r) y := by
  have e : ((m + 1 : Nat) : Int) * r = (m : Int) * r + r := by rw [Int.natCast_add, Int.add_mul]; simp
  have p : 0 ≤ (m : Int) * r := Int.mul_nonneg (by omega) hr
  rw [e]
  generalize (m : Int) * r = q at *
  unfold cl
  split <;> split <;> (try split) <;> (try split) <;> (try split) <;> (try split) <;> omega

/-- a weighted sum of cells below y -/
def ws (v : Nat → Int) (r y : Int) : Nat → Int
  | 0 => 0
  | m + 1 => ws v r y m + v m * cl r (y - (m : Int) * r)
def tot (v : Nat → Int) : Nat → Int
  | 0 => 0
  | m + 1 => tot v m + v m

theorem ws_zero (v : Nat → Int) {r y : Int} (hr : 0 ≤ r) (hy : y ≤ 0) : ∀ m, ws v r y m = 0
  | 0 => rfl
  | m + 1 => by
    have p : 0 ≤ (m : Int) * r := Int.mul_nonneg (by omega) hr
    have e : cl r (y - (m : Int) * r) = 0 := by unfold cl; split <;> (try split) <;> omega
    simp only [ws]; rw [ws_zero v hr hy m, e]; simp
theorem ws_full (v : Nat → Int) {r : Int} (hr : 0 ≤ r) (n : Nat) : ∀ m, m ≤ n → ws v r ((n : Int) * r) m = r * tot v m
  | 0, _ => by simp [ws, tot]
  | m + 1, h => by
    have p : ((m : Int) + 1) * r ≤ (n : Int) * r := Int.mul_le_mul_of_nonneg_right (by omega) hr
    have e2 : ((m : Int) + 1) * r = (m : Int) * r + r := by rw [Int.add_mul]; simp
    have e : cl r ((n : Int) * r - (m : Int) * r) = r := by unfold cl; split <;> (try split) <;> omega
    simp only [ws, tot]; rw [ws_full v hr n m (by omega), e]; grind

/-- above: where each cell that the strip meets has a weight of at most H -/
theorem ws_above (v : Nat → Int) {r ya yb H : Int} (hr : 0 ≤ r) (hH : 0 ≤ H) (hy : ya ≤ yb) : ∀ m : Nat, (∀ i : Nat, i < m → (i : Int) * r < yb → ya < (i : Int) * r + r → r * v i ≤ H) →
    r * (ws v r yb m - ws v r ya m) ≤ H * (cl ((m : Int) * r) yb - cl ((m : Int) * r) ya)
  | 0, _ => by
    have z : ∀ y, cl (((0 : Nat) : Int) * r) y = 0 := by intro y; unfold cl; simp; omega
    simp only [ws, z]; simp
  | m + 1, h => by
    have ih := ws_above v hr hH hy m (fun i hi => h i (by omega))
    have a := cl_add (r := r) (y := yb) hr m
    have b := cl_add (r := r) (y := ya) hr m
    have d : cl r (ya - (m : Int) * r) ≤ cl r (yb - (m : Int) * r) := cl_mono hr (by omega)
    have key : r * v m * (cl r (yb - (m : Int) * r) - cl r (ya - (m : Int) * r)) ≤ H * (cl r (yb - (m : Int) * r) - cl r (ya - (m : Int) * r)) := by
      by_cases c : (m : Int) * r < yb ∧ ya < (m : Int) * r + r
      · exact Int.mul_le_mul_of_nonneg_right (h m (by omega) c.1 c.2) (by omega)
      · have e : cl r (yb - (m : Int) * r) - cl r (ya - (m : Int) * r) = 0 := by
          unfold cl; split <;> split <;> (try split) <;> (try split) <;> omega
        rw [e]; simp
    rw [← a, ← b]
    simp only [ws]
    generalize cl r (yb - (m : Int) * r) = x at *
    generalize cl r (ya - (m : Int) * r) = z at *
    have e1 : r * (ws v r yb m + v m * x - (ws v r ya m + v m * z)) = r * (ws v r yb m - ws v r ya m) + r * v m * (x - z) := by grind
    have e2 : H * (cl ((m : Int) * r) yb + x - (cl ((m : Int) * r) ya + z)) = H * (cl ((m : Int) * r) yb - cl ((m : Int) * r) ya) + H * (x - z) := by grind
    rw [e1, e2]; omega
/-- below: where each cell that the strip meets has a weight of at least L -/
theorem ws_below (v : Nat → Int) {r ya yb L : Int} (hr : 0 ≤ r) (hy : ya ≤ yb) : ∀ m : Nat, (∀ i : Nat, i < m → (i : Int) * r < yb → ya < (i : Int) * r + r → L ≤ r * v i) →
    L * (cl ((m : Int) * r) yb - cl ((m : Int) * r) ya) ≤ r * (ws v r yb m - ws v r ya m)
  | 0, _ => by
    have z : ∀ y, cl (((0 : Nat) : Int) * r) y = 0 := by intro y; unfold cl; simp; omega
    simp only [ws, z]; simp
  | m + 1, h => by
    have ih := ws_below v hr hy m (fun i hi => h i (by omega))
    have a := cl_add (r := r) (y := yb) hr m
    have b := cl_add (r := r) (y := ya) hr m
    have d : cl r (ya - (m : Int) * r) ≤ cl r (yb - (m : Int) * r) := cl_mono hr (by omega)
    have key : L * (cl r (yb - (m : Int) * r) - cl r (ya - (m : Int) * r)) ≤ r * v m * (cl r (yb - (m : Int) * r) - cl r (ya - (m : Int) * r)) := by
      by_cases c : (m : Int) * r < yb ∧ ya < (m : Int) * r + r
      · exact Int.mul_le_mul_of_nonneg_right (h m (by omega) c.1 c.2) (by omega)
      · have e : cl r (yb - (m : Int) * r) - cl r (ya - (m : Int) * r) = 0 := by
          unfold cl; split <;> split <;> (try split) <;> (try split) <;> omega
        rw [e]; simp
    rw [← a, ← b]
    simp only [ws]
    generalize cl r (yb - (m : Int) * r) = x at *
    generalize cl r (ya - (m : Int) * r) = z at *
    have e1 : r * (ws v r yb m + v m * x - (ws v r ya m + v m * z)) = r * (ws v r yb m - ws v r ya m) + r * v m * (x - z) := by grind
    have e2 : L * (cl ((m : Int) * r) yb + x - (cl ((m : Int) * r) ya + z)) = L * (cl ((m : Int) * r) yb - cl ((m : Int) * r) ya) + L * (x - z) := by grind
    rw [e1, e2]; omega

/-! ### the weights -/
/-- a root, by bits (for the kernel's reckoning) -/
def rootB (n : Nat) : Nat → Nat → Nat
  | 0, q => q
  | b + 1, q => if (q + 2 ^ b) * (q + 2 ^ b) ≤ n then rootB n b (q + 2 ^ b) else rootB n b q
def rt (n : Nat) : Nat := rootB n 11 0
def rc (n : Nat) : Nat := if rt n * rt n = n then rt n else rt n + 1
/-- the distance from the middle by which the weight below is told; and the weight -/
def dlo (i : Nat) : Nat := if i < 1024 then 1024 - i else if i < 2016 then i - 1023 else 992
def vlo (i : Nat) : Nat := rt (1048576 - dlo i * dlo i)
def dhi (i : Nat) : Nat := if i < 1024 then 1023 - i else i - 1024
def vhi (i : Nat) : Nat := if i < 2016 then rc (1048576 - dhi i * dhi i) else 0
def checkB (f : Nat → Bool) : Nat → Bool
  | 0 => true
  | m + 1 => checkB f m && f m
theorem checkB_spec {f : Nat → Bool} : ∀ {m : Nat}, checkB f m = true → ∀ i, i < m → f i = true
  | 0, _, i, hi => by omega
  | m + 1, h, i, hi => by
    simp only [checkB, Bool.and_eq_true] at h
    rcases Nat.lt_or_ge i m with h' | h'
    · exact checkB_spec h.1 i h'
    · have : i = m := by omega
      subst this; exact h.2
def sumB (f : Nat → Nat) : Nat → Nat
  | 0 => 0
  | m + 1 => sumB f m + f m
theorem lo_ok : checkB (fun i => decide (vlo i * vlo i + dlo i * dlo i ≤ 1048576 ∧ dlo i ≤ 1024 ∧ vlo i ≤ 1024)) 2048 = true := by decide +kernel
theorem hi_ok : checkB (fun i => decide (1048576 ≤ vhi i * vhi i + dhi i * dhi i ∧ dhi i ≤ 1024)) 2016 = true := by decide +kernel
theorem lo_sum : sumB vlo 2048 = 1647812 := by decide +kernel
theorem hi_sum : sumB vhi 2048 = 1643525 := by decide +kernel
theorem tot_cast (f : Nat → Nat) : ∀ m, tot (fun i => (f i : Int)) m = (sumB f m : Nat)
  | 0 => rfl
  | m + 1 => by simp only [tot, sumB]; rw [tot_cast f m]; simp

theorem le_of_sq_le {x y : Int} (hy : 0 ≤ y) (h : x * x ≤ y * y) : x ≤ y := by
  false_or_by_contra
  have : (y + 1) * (y + 1) ≤ x * x := mul_self_le (by omega) (by omega)
  have e : (y + 1) * (y + 1) = y * y + 2 * y + 1 := by grind
  omega
/-- above a cell: its weight is at most that of the half chord rounded up -/
theorem cell_lo {r d v e : Int} (h0 : 0 ≤ r) (h1 : r ≤ 100000) (hv : 0 ≤ v) (he : 0 ≤ e) (hve : v * v + e * e ≤ 1048576) (hd : 0 ≤ d) (hdr : d ≤ r) (hde : 1024 * d ≤ e * r) : r * v ≤ 1024 * (hf r d).2 ∧ r * v ≤ 1024 * (hf r (-d)).2 := by
  have ⟨e1, e2, e3, e4⟩ := half_small (r := r) (y := d) (by omega) (by omega) (by omega) (by omega)
  have main : r * v ≤ 1024 * cei (r * r - d * d) := by
    refine le_of_sq_le (by have := cei_nonneg (r * r - d * d); omega) ?_
    have c := cei_hi (n := r * r - d * d) (by omega)
    have s : 1024 * d * (1024 * d) ≤ e * r * (e * r) := mul_self_le (by omega) hde
    have p : r * r * (v * v + e * e) ≤ r * r * 1048576 := Int.mul_le_mul_of_nonneg_left hve e1
    have x1 : r * v * (r * v) = r * r * (v * v + e * e) - e * r * (e * r) := by grind
    have x2 : 1024 * d * (1024 * d) = 1048576 * (d * d) := by grind
    have x3 : 1024 * cei (r * r - d * d) * (1024 * cei (r * r - d * d)) = 1048576 * (cei (r * r - d * d) * cei (r * r - d * d)) := by grind
    rw [x3, x1]; omega
  have f1 : hf r d = (sqr (r * r - d * d), cei (r * r - d * d)) := by unfold hf; rw [if_neg (by omega)]
  have f2 : hf r (-d) = (sqr (r * r - d * d), cei (r * r - d * d)) := by unfold hf; rw [if_neg (by omega), Int.neg_mul_neg]
  rw [f1, f2]; exact ⟨main, main⟩
/-- below a cell: its weight is at least that of the half chord rounded down -/
theorem cell_hi {r d v e : Int} (h0 : 0 ≤ r) (h1 : r ≤ 100000) (hv : 0 ≤ v) (he : 0 ≤ e) (hve : 1048576 ≤ v * v + e * e) (hd : 0 ≤ d) (hdr : d ≤ r) (hde : e * r ≤ 1024 * d) : 1024 * (hf r d).1 ≤ r * v ∧ 1024 * (hf r (-d)).1 ≤ r * v := by
  have ⟨e1, e2, e3, e4⟩ := half_small (r := r) (y := d) (by omega) (by omega) (by omega) (by omega)
  have main : 1024 * sqr (r * r - d * d) ≤ r * v := by
    refine le_of_sq_le (Int.mul_nonneg h0 hv) ?_
    have c := sqr_lo (n := r * r - d * d) (by omega)
    have s : e * r * (e * r) ≤ 1024 * d * (1024 * d) := mul_self_le (Int.mul_nonneg he h0) hde
    have p : r * r * 1048576 ≤ r * r * (v * v + e * e) := Int.mul_le_mul_of_nonneg_left hve e1
    have x1 : r * v * (r * v) = r * r * (v * v + e * e) - e * r * (e * r) := by grind
    have x2 : 1024 * d * (1024 * d) = 1048576 * (d * d) := by grind
    have x3 : 1024 * sqr (r * r - d * d) * (1024 * sqr (r * r - d * d)) = 1048576 * (sqr (r * r - d * d) * sqr (r * r - d * d)) := by grind
    rw [x3, x1]; omega
  have f1 : hf r d = (sqr (r * r - d * d), cei (r * r - d * d)) := by unfold hf; rw [if_neg (by omega)]
  have f2 : hf r (-d) = (sqr (r * r - d * d), cei (r * r - d * d)) := by unfold hf; rw [if_neg (by omega), Int.neg_mul_neg]
  rw [f1, f2]; exact ⟨main, main⟩

def vl (i : Nat) : Int := (vlo i : Nat)
def vh (i : Nat) : Int := (vhi i : Nat)
theorem vl_ok {i : Nat} (hi : i < 2048) : 0 ≤ vl i ∧ vl i ≤ 1024 ∧ vl i * vl i + (dlo i : Int) * (dlo i : Int) ≤ 1048576 := by
  have h := of_decide_eq_true (checkB_spec lo_ok i hi)
  have e : ((vlo i * vlo i + dlo i * dlo i : Nat) : Int) ≤ 1048576 := by omega
  rw [Int.natCast_add, Int.natCast_mul, Int.natCast_mul] at e
  unfold vl; exact ⟨by omega, by omega, e⟩
theorem vh_ok {i : Nat} (hi : i < 2016) : 0 ≤ vh i ∧ 1048576 ≤ vh i * vh i + (dhi i : Int) * (dhi i : Int) := by
  have h := of_decide_eq_true (checkB_spec hi_ok i hi)
  have e : (1048576 : Int) ≤ ((vhi i * vhi i + dhi i * dhi i : Nat) : Int) := by omega
  rw [Int.natCast_add, Int.natCast_mul, Int.natCast_mul] at e
  unfold vh; exact ⟨by omega, e⟩
theorem vh_nonneg (i : Nat) : 0 ≤ vh i := by unfold vh; omega

/-- where a height stands, in the cells' measure -/
def Y (r c x : Int) : Int := 1024 * (x - c + r)

/-- a strip's upper bound, against the cells: 'last': the strip that goes up to the top, else it ends a thirty-second of the radius below -/
theorem strip_above {r c a b : Int} (h0 : 0 ≤ r) (h1 : r ≤ 100000) (hab : a ≤ b) (hcut : 32 * (b - c) ≤ 31 * r ∨ 32 * (a - c) ≤ 31 * r) :
    2 * r * (ws vl r (Y r c b) 2048 - ws vl r (Y r c a) 2048) ≤ 1048576 * ((b - a) * highS r c a b) := by
  have hH := lowS_bound (r := r) (c := c) (a := a) (b := b) h0 h1
  have key : ∀ i : Nat, i < 2048 → (i : Int) * r < Y r c b → Y r c a < (i : Int) * r + r → r * vl i ≤ 512 * highS r c a b := by
    intro i hi hb ha
    obtain ⟨v0, v1, v2⟩ := vl_ok hi
    unfold Y at ha hb
    by_cases hc : a ≤ c ∧ c ≤ b
    · have e : highS r c a b = 2 * r := by unfold highS; rw [if_pos hc]
      have : r * vl i ≤ r * 1024 := Int.mul_le_mul_of_nonneg_left v1 h0
      rw [e]; omega
    · have e : highS r c a b = mx (2 * (hf r (a - c)).2) (2 * (hf r (b - c)).2) := by unfold highS; rw [if_neg hc]
      have m := mx_spec (2 * (hf r (a - c)).2) (2 * (hf r (b - c)).2)
      have he0 : (0 : Int) ≤ (dlo i : Int) := by omega
      rw [e]
      by_cases hca : c < a
      · -- the right side: by its lower end
        have hi2 : 1024 ≤ i := by
          false_or_by_contra
          have : ((i : Int) + 1) * r ≤ 1024 * r := Int.mul_le_mul_of_nonneg_right (by omega) h0
          have e2 : ((i : Int) + 1) * r = (i : Int) * r + r := by rw [Int.add_mul]; simp
          omega
        have p : ((i : Int) + 1) * r ≤ 2048 * r := Int.mul_le_mul_of_nonneg_right (by omega) h0
        have e2 : ((i : Int) + 1) * r = (i : Int) * r + r := by rw [Int.add_mul]; simp
        have hd : 1024 * (a - c) ≤ (dlo i : Int) * r := by
          by_cases h16 : i < 2016
          · have e3 : (dlo i : Int) = (i : Int) - 1023 := by unfold dlo; rw [if_neg (by omega), if_pos h16]; omega
            have e4 : ((i : Int) - 1023) * r = (i : Int) * r - 1023 * r := by rw [Int.sub_mul]
            rw [e3, e4]; omega
          · have e3 : (dlo i : Int) = 992 := by unfold dlo; rw [if_neg (by omega), if_neg h16]; rfl
            have q : (2016 : Int) * r ≤ (i : Int) * r := Int.mul_le_mul_of_nonneg_right (by omega) h0
            rw [e3]
            rcases hcut with hcut | hcut <;> omega
        have k := (cell_lo h0 h1 v0 he0 v2 (d := a - c) (by omega) (by omega) hd).1
        omega
      · -- the left side: by its upper end
        have hcb : b < c := by omega
        have hi2 : i < 1024 := by
          false_or_by_contra
          have : 1024 * r ≤ (i : Int) * r := Int.mul_le_mul_of_nonneg_right (by omega) h0
          omega
        have e3 : (dlo i : Int) = 1024 - (i : Int) := by unfold dlo; rw [if_pos hi2]; omega
        have e4 : (1024 - (i : Int)) * r = 1024 * r - (i : Int) * r := by rw [Int.sub_mul]
        have q : 0 ≤ (i : Int) * r := Int.mul_nonneg (by omega) h0
        have k := (cell_lo h0 h1 v0 he0 v2 (d := c - b) (by omega) (by omega) (by rw [e3, e4]; omega)).2
        have e5 : -(c - b) = b - c := by omega
        rw [e5] at k
        omega
  have hy : Y r c a ≤ Y r c b := by unfold Y; omega
  have w := ws_above vl (r := r) (ya := Y r c a) (yb := Y r c b) (H := 512 * highS r c a b) h0 (by omega) hy 2048 key
  have hcl : cl (((2048 : Nat) : Int) * r) (Y r c b) - cl (((2048 : Nat) : Int) * r) (Y r c a) ≤ 1024 * (b - a) := by
    have q : 0 ≤ ((2048 : Nat) : Int) * r := Int.mul_nonneg (by omega) h0
    generalize ((2048 : Nat) : Int) * r = R at *
    unfold Y cl; split <;> split <;> (try split) <;> (try split) <;> omega
  have w2 : 512 * highS r c a b * (cl (((2048 : Nat) : Int) * r) (Y r c b) - cl (((2048 : Nat) : Int) * r) (Y r c a)) ≤ 512 * highS r c a b * (1024 * (b - a)) := Int.mul_le_mul_of_nonneg_left hcl (by omega)
  have e6 : 512 * highS r c a b * (1024 * (b - a)) = 524288 * ((b - a) * highS r c a b) := by grind
  have e7 : 2 * r * (ws vl r (Y r c b) 2048 - ws vl r (Y r c a) 2048) = 2 * (r * (ws vl r (Y r c b) 2048 - ws vl r (Y r c a) 2048)) := by grind
  rw [e7]; omega

theorem ws_mono {r a b : Int} (h0 : 0 ≤ r) (h : a ≤ b) : ∀ m, ws vh r a m ≤ ws vh r b m
  | 0 => Int.le_refl _
  | m + 1 => by
    have i := ws_mono h0 h m
    have k : vh m * cl r (a - (m : Int) * r) ≤ vh m * cl r (b - (m : Int) * r) := Int.mul_le_mul_of_nonneg_left (cl_mono h0 (by omega)) (vh_nonneg m)
    simp only [ws]; omega

/-- a strip's lower bound, against the cells -/
theorem strip_below {r c a b : Int} (h0 : 0 ≤ r) (h1 : r ≤ 100000) (hab : a ≤ b) (hcut : 32 * (b - c) ≤ 31 * r ∨ r ≤ b - c) :
    1048576 * ((b - a) * lowS r c a b) ≤ 2 * r * (ws vh r (Y r c b) 2048 - ws vh r (Y r c a) 2048) := by
  have hy : Y r c a ≤ Y r c b := by unfold Y; omega
  have hw := ws_mono (r := r) h0 hy 2048
  have hpos : 0 ≤ 2 * r * (ws vh r (Y r c b) 2048 - ws vh r (Y r c a) 2048) := Int.mul_nonneg (by omega) (by omega)
  have m := mn_spec (2 * (hf r (a - c)).1) (2 * (hf r (b - c)).1)
  have ba := hf_bound (r := r) (d := a - c) h0 h1
  have bb := hf_bound (r := r) (d := b - c) h0 h1
  by_cases z : lowS r c a b = 0
  · rw [z]; simpa using hpos
  · have hlow : lowS r c a b = mn (2 * (hf r (a - c)).1) (2 * (hf r (b - c)).1) := rfl
    have ina : ¬ (a - c > r ∨ -(a - c) > r) := by
      intro h
      have : hf r (a - c) = (0, 0) := by unfold hf; rw [if_pos h]
      have e : (hf r (a - c)).1 = 0 := by rw [this]
      omega
    have inb : ¬ (b - c ≥ r ∨ -(b - c) > r) := by
      intro h
      have e : (hf r (b - c)).1 = 0 := by
        by_cases h2 : b - c > r ∨ -(b - c) > r
        · have : hf r (b - c) = (0, 0) := by unfold hf; rw [if_pos h2]
          rw [this]
        · have e3 : b - c = r := by omega
          have : hf r r = (sqr (r * r - r * r), cei (r * r - r * r)) := by unfold hf; rw [if_neg (by omega)]
          rw [e3, this]
          show sqr (r * r - r * r) = 0
          rw [Int.sub_self]; rfl
      omega
    have key : ∀ i : Nat, i < 2048 → (i : Int) * r < Y r c b → Y r c a < (i : Int) * r + r → 512 * lowS r c a b ≤ r * vh i := by
      intro i hi hb ha
      unfold Y at ha hb
      have hi16 : i < 2016 := by
        false_or_by_contra
        have q : (2016 : Int) * r ≤ (i : Int) * r := Int.mul_le_mul_of_nonneg_right (by omega) h0
        omega
      obtain ⟨v0, v2⟩ := vh_ok hi16
      have he0 : (0 : Int) ≤ (dhi i : Int) := by omega
      by_cases hi2 : i < 1024
      · have e3 : (dhi i : Int) = 1023 - (i : Int) := by unfold dhi; rw [if_pos hi2]; omega
        have e4 : (1023 - (i : Int)) * r = 1023 * r - (i : Int) * r := by rw [Int.sub_mul]
        have q : (i : Int) * r ≤ 1023 * r := Int.mul_le_mul_of_nonneg_right (by omega) h0
        have k := (cell_hi h0 h1 v0 he0 v2 (d := c - a) (by omega) (by omega) (by rw [e3, e4]; omega)).2
        have e5 : -(c - a) = a - c := by omega
        rw [e5] at k
        omega
      · have e3 : (dhi i : Int) = (i : Int) - 1024 := by unfold dhi; rw [if_neg hi2]; omega
        have e4 : ((i : Int) - 1024) * r = (i : Int) * r - 1024 * r := by rw [Int.sub_mul]
        have q : 1024 * r ≤ (i : Int) * r := Int.mul_le_mul_of_nonneg_right (by omega) h0
        have k := (cell_hi h0 h1 v0 he0 v2 (d := b - c) (by omega) (by omega) (by rw [e3, e4]; omega)).1
        omega
    have w := ws_below vh (r := r) (ya := Y r c a) (yb := Y r c b) (L := 512 * lowS r c a b) h0 hy 2048 key
    have hcl : cl (((2048 : Nat) : Int) * r) (Y r c b) - cl (((2048 : Nat) : Int) * r) (Y r c a) = 1024 * (b - a) := by
      have q : ((2048 : Nat) : Int) * r = 2048 * r := rfl
      rw [q]
      unfold Y cl
      rw [if_neg (by omega), if_neg (by omega), if_neg (by omega), if_neg (by omega)]
      omega
    rw [hcl] at w
    have e6 : 512 * lowS r c a b * (1024 * (b - a)) = 524288 * ((b - a) * lowS r c a b) := by grind
    have e7 : 2 * r * (ws vh r (Y r c b) 2048 - ws vh r (Y r c a) 2048) = 2 * (r * (ws vh r (Y r c b) 2048 - ws vh r (Y r c a) 2048)) := by grind
    rw [e7]; omega

/-- heights from below the circle up to its top: all strips together -/
theorem chain_above {r c : Int} (h0 : 0 ≤ r) (h1 : r ≤ 100000) (h : Nat → Int) (up : ∀ j, h j ≤ h (j + 1)) : ∀ n, (∀ j, j < n → 32 * (h (j + 1) - c) ≤ 31 * r ∨ 32 * (h j - c) ≤ 31 * r) →
    2 * r * (ws vl r (Y r c (h n)) 2048 - ws vl r (Y r c (h 0)) 2048) ≤ 1048576 * highT r c (upto (fun j => (h j, h (j + 1))) n)
  | 0, _ => by simp [upto, highT]
  | n + 1, hc => by
    have ih := chain_above h0 h1 h up n (fun j hj => hc j (by omega))
    have s := strip_above (c := c) h0 h1 (up n) (hc n (by omega))
    rw [upto_succ, highT_app]
    have e1 : highT r c [(h n, h (n + 1))] = (h (n + 1) - h n) * highS r c (h n) (h (n + 1)) := by simp [highT, highP]
    rw [e1]
    have e2 : 2 * r * (ws vl r (Y r c (h (n + 1))) 2048 - ws vl r (Y r c (h 0)) 2048) = 2 * r * (ws vl r (Y r c (h (n + 1))) 2048 - ws vl r (Y r c (h n)) 2048) + 2 * r * (ws vl r (Y r c (h n)) 2048 - ws vl r (Y r c (h 0)) 2048) := by grind
    rw [e2]; omega
theorem chain_below {r c : Int} (h0 : 0 ≤ r) (h1 : r ≤ 100000) (h : Nat → Int) (up : ∀ j, h j ≤ h (j + 1)) : ∀ n, (∀ j, j < n → 32 * (h (j + 1) - c) ≤ 31 * r ∨ r ≤ h (j + 1) - c) →
    1048576 * lowT r c (upto (fun j => (h j, h (j + 1))) n) ≤ 2 * r * (ws vh r (Y r c (h n)) 2048 - ws vh r (Y r c (h 0)) 2048)
  | 0, _ => by simp [upto, lowT]
  | n + 1, hc => by
    have ih := chain_below h0 h1 h up n (fun j hj => hc j (by omega))
    have s := strip_below (c := c) h0 h1 (up n) (hc n (by omega))
    rw [upto_succ, lowT_app]
    have e1 : lowT r c [(h n, h (n + 1))] = (h (n + 1) - h n) * lowS r c (h n) (h (n + 1)) := by simp [lowT, lowP]
    rw [e1]
    have e2 : 2 * r * (ws vh r (Y r c (h (n + 1))) 2048 - ws vh r (Y r c (h 0)) 2048) = 2 * r * (ws vh r (Y r c (h (n + 1))) 2048 - ws vh r (Y r c (h n)) 2048) + 2 * r * (ws vh r (Y r c (h n)) 2048 - ws vh r (Y r c (h 0)) 2048) := by grind
    rw [e2]; omega
theorem ends {r c top bot : Int} (v : Nat → Int) (h0 : 0 ≤ r) (ht : top = c + r) (hb : bot ≤ c - r) : ws v r (Y r c top) 2048 = r * tot v 2048 ∧ ws v r (Y r c bot) 2048 = 0 := by
  constructor
  · have e : Y r c top = ((2048 : Nat) : Int) * r := by unfold Y; rw [ht]; omega
    rw [e]; exact ws_full v h0 2048 2048 (Nat.le_refl _)
  · exact ws_zero v h0 (by unfold Y; omega) 2048
theorem whole_above {r c : Int} (h0 : 0 ≤ r) (h1 : r ≤ 100000) (h : Nat → Int) (n : Nat) (up : ∀ j, h j ≤ h (j + 1)) (hb : h 0 ≤ c - r) (ht : h n = c + r) (hc : ∀ j, j < n → 32 * (h (j + 1) - c) ≤ 31 * r ∨ 32 * (h j - c) ≤ 31 * r) :
    333 * (r * r) ≤ 106 * highT r c (upto (fun j => (h j, h (j + 1))) n) := by
  have k := chain_above (c := c) h0 h1 h up n hc
  obtain ⟨e1, e2⟩ := ends vl h0 ht hb
  have e3 : tot vl 2048 = 1647812 := by have := tot_cast vlo 2048; rw [lo_sum] at this; exact this
  rw [e1, e2, e3] at k
  have e4 : 2 * r * (r * 1647812 - 0) = 3295624 * (r * r) := by grind
  rw [e4] at k
  have p : 0 ≤ r * r := Int.mul_nonneg h0 h0
  omega
theorem whole_below {r c : Int} (h0 : 0 ≤ r) (h1 : r ≤ 100000) (h : Nat → Int) (n : Nat) (up : ∀ j, h j ≤ h (j + 1)) (hb : h 0 ≤ c - r) (ht : h n = c + r) (hc : ∀ j, j < n → 32 * (h (j + 1) - c) ≤ 31 * r ∨ r ≤ h (j + 1) - c) :
    113 * lowT r c (upto (fun j => (h j, h (j + 1))) n) ≤ 355 * (r * r) := by
  have k := chain_below (c := c) h0 h1 h up n hc
  obtain ⟨e1, e2⟩ := ends vh h0 ht hb
  have e3 : tot vh 2048 = 1643525 := by have := tot_cast vhi 2048; rw [hi_sum] at this; exact this
  rw [e1, e2, e3] at k
  have e4 : 2 * r * (r * 1643525 - 0) = 3287050 * (r * r) := by grind
  rw [e4] at k
  have p : 0 ≤ r * r := Int.mul_nonneg h0 h0
  omega
end Go.Proofs.Ythbkbokfngbocaa.Sq
