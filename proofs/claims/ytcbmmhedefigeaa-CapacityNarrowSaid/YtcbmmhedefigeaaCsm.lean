import Derived.Test.YtcbmmhedefigeaaReq
import Derived.Test.YtcbmmhedefigeaaFru
import Derived.Test.YtcbmmhedefigeaaXx2
/-! Sums of frustums, in plain numbers. -/
namespace Go.Proofs.Ytcbmmhedefigeaa.Prf
set_option linter.unusedVariables false
set_option linter.unusedSimpArgs false
open Go.RowKit Go.Proofs.Ytcbmmhedefigeaa.X Go.Proofs.Ytcbmmhedefigeaa.It Go.Proofs.Ytcbmmhedefigeaa.Ln

/-- a frustum -/
def fq (h a b : Int) : Int := h * (a * a + a * b + b * b)
def fr (l : List S30) (i : Nat) : Int := fq (X l (i + 1) - X l i) (R l i) (R l (i + 1))
/-- the sum of the first m -/
def sm (l : List S30) : Nat → Int
  | 0 => 0
  | m + 1 => sm l m + fr l m
def sum (l : List S30) : Int := sm l (l.length - 1)
theorem sq_bound {a b M : Int} (a0 : 0 ≤ a) (a1 : a ≤ M) (b0 : 0 ≤ b) (b1 : b ≤ M) : 0 ≤ a * a + a * b + b * b ∧ a * a + a * b + b * b ≤ 3 * (M * M) := by
  have m1 := mul_bound a0 a1 a0 a1
  have m2 := mul_bound a0 a1 b0 b1
  have m3 := mul_bound b0 b1 b0 b1
  omega
theorem fq_bound {h a b M : Int} (h0 : 0 ≤ h) (a0 : 0 ≤ a) (a1 : a ≤ M) (b0 : 0 ≤ b) (b1 : b ≤ M) : 0 ≤ fq h a b ∧ fq h a b ≤ h * (3 * (M * M)) := by
  have q := sq_bound a0 a1 b0 b1
  exact ⟨Int.mul_nonneg h0 q.1, Int.mul_le_mul_of_nonneg_left q.2 h0⟩
theorem sq_least {a b M : Int} (M0 : 0 ≤ M) (a0 : M ≤ a) (b0 : M ≤ b) : 3 * (M * M) ≤ a * a + a * b + b * b := by
  have m1 := Int.mul_le_mul a0 a0 M0 (by omega)
  have m2 := Int.mul_le_mul a0 b0 M0 (by omega)
  have m3 := Int.mul_le_mul b0 b0 M0 (by omega)
  omega
theorem fq_least {h a b M : Int} (h0 : 0 ≤ h) (M0 : 0 ≤ M) (a0 : M ≤ a) (b0 : M ≤ b) : h * (3 * (M * M)) ≤ fq h a b :=
  Int.mul_le_mul_of_nonneg_left (sq_least M0 a0 b0) h0
theorem sm_bound {l : List S30} (h : Ok l) {M : Int} (hM : ∀ i, i < l.length → R l i ≤ M) : ∀ m, m < l.length → 0 ≤ sm l m ∧ sm l m ≤ X l m * (3 * (M * M))
  | 0, _ => by
    show (0 : Int) ≤ 0 ∧ (0 : Int) ≤ _
    rw [h.zero]; simp
  | m + 1, hm => by
    have ih := sm_bound h hM m (by omega)
    have hx := h.inc m hm
    have q := fq_bound (h := X l (m + 1) - X l m) (a := R l m) (b := R l (m + 1)) (M := M) (by omega) (by have := h.r0 m (by omega); omega) (hM m (by omega)) (by have := h.r0 (m + 1) hm; omega) (hM (m + 1) hm)
    have e : X l (m + 1) * (3 * (M * M)) = X l m * (3 * (M * M)) + (X l (m + 1) - X l m) * (3 * (M * M)) := by grind
    have e2 : sm l (m + 1) = sm l m + fq (X l (m + 1) - X l m) (R l m) (R l (m + 1)) := rfl
    omega
theorem sm_least {l : List S30} (h : Ok l) {M : Int} (M0 : 0 ≤ M) (hM : ∀ i, i < l.length → M ≤ R l i) : ∀ m, m < l.length → X l m * (3 * (M * M)) ≤ sm l m
  | 0, _ => by
    show _ ≤ (0 : Int)
    rw [h.zero]; simp
  | m + 1, hm => by
    have ih := sm_least h M0 hM m (by omega)
    have hx := h.inc m hm
    have q := fq_least (h := X l (m + 1) - X l m) (a := R l m) (b := R l (m + 1)) (M := M) (by omega) M0 (hM m (by omega)) (hM (m + 1) hm)
    have e : X l (m + 1) * (3 * (M * M)) = X l m * (3 * (M * M)) + (X l (m + 1) - X l m) * (3 * (M * M)) := by grind
    have e2 : sm l (m + 1) = sm l m + fq (X l (m + 1) - X l m) (R l m) (R l (m + 1)) := rfl
    omega
theorem Ok.sm_top {l : List S30} (h : Ok l) {m : Nat} (hm : m < l.length) : 0 ≤ sm l m ∧ sm l m ≤ 3000000000000000 := by
  have := sm_bound h (M := 100000) h.r1 m hm
  have := h.x1 m hm
  have := h.x0 m hm
  have e : X l m * (3 * (100000 * 100000)) ≤ 100000 * (3 * (100000 * 100000)) := Int.mul_le_mul_of_nonneg_right (by omega) (by decide)
  omega
theorem Ok.sum_top {l : List S30} (h : Ok l) : 0 ≤ sum l ∧ sum l ≤ 3000000000000000 := h.sm_top (by have := h.len2; omega)
theorem fru_eq {l : List S30} (h : Ok l) {i : Nat} (hi : i + 1 < l.length) : fru (sm l i) (wrap64 (X l (i + 1) - X l i)) (R l i) (R l (i + 1)) = sm l (i + 1) := by
  have t0 := h.sm_top (m := i) (by omega)
  have t1 := h.sm_top hi
  have hx := h.inc i hi
  have p0 := h.x0 i (by omega)
  have p1 := h.x1 (i + 1) hi
  have a0 := h.r0 i (by omega); have a1 := h.r1 i (by omega); have b0 := h.r0 (i + 1) hi; have b1 := h.r1 (i + 1) hi
  have m1 := mul_bound (a := R l i) (b := R l i) (A := 100000) (B := 100000) (by omega) a1 (by omega) a1
  have m2 := mul_bound (a := R l i) (b := R l (i + 1)) (A := 100000) (B := 100000) (by omega) a1 (by omega) b1
  have m3 := mul_bound (a := R l (i + 1)) (b := R l (i + 1)) (A := 100000) (B := 100000) (by omega) b1 (by omega) b1
  have q := fq_bound (h := X l (i + 1) - X l i) (a := R l i) (b := R l (i + 1)) (M := 100000) (by omega) (by omega) a1 (by omega) b1
  have e : sm l (i + 1) = sm l i + (X l (i + 1) - X l i) * (R l i * R l i + R l i * R l (i + 1) + R l (i + 1) * R l (i + 1)) := rfl
  have q1 : fq (X l (i + 1) - X l i) (R l i) (R l (i + 1)) = (X l (i + 1) - X l i) * (R l i * R l i + R l i * R l (i + 1) + R l (i + 1) * R l (i + 1)) := rfl
  rw [q1] at q
  unfold fru
  rw [wid (x := X l (i + 1) - X l i) (by omega) (by omega), wid (x := R l i * R l i) (by omega) (by omega), wid (x := R l i * R l (i + 1)) (by omega) (by omega), wid (x := R l (i + 1) * R l (i + 1)) (by omega) (by omega),
    wid (x := R l i * R l i + R l i * R l (i + 1)) (by omega) (by omega), wid (x := R l i * R l i + R l i * R l (i + 1) + R l (i + 1) * R l (i + 1)) (by omega) (by omega)]
  rw [wid (x := (X l (i + 1) - X l i) * (R l i * R l i + R l i * R l (i + 1) + R l (i + 1) * R l (i + 1))) (by omega) (by omega), wid (by omega) (by omega), e]
theorem fru_loop {l : List S30} (h : Ok l) : ∀ d i k, i + d = l.length → d < k → 1 ≤ i → capacity_Frustums.l0 k l (i : Int) (sm l (i - 1)) = some (sum l, 0)
  | 0, i, k, hd, hk, h1 => by
    obtain ⟨k, rfl⟩ : ∃ m, k = m + 1 := ⟨k - 1, by omega⟩
    simp only [capacity_Frustums.l0]
    rw [if_neg (by omega), show i - 1 = l.length - 1 by omega]; rfl
  | d + 1, i, k, hd, hk, h1 => by
    obtain ⟨k, rfl⟩ : ∃ m, k = m + 1 := ⟨k - 1, by omega⟩
    have l32 := h.len32
    simp only [capacity_Frustums.l0]
    rw [if_pos (by omega), if_pos (by omega), wpred h1 (by omega), if_pos (by omega), if_pos (by omega), rdX, rdX, rdR, rdR, wsucc (by omega)]
    have e := fru_eq h (i := i - 1) (by omega)
    rw [show i - 1 + 1 = i by omega] at e
    rw [e]
    exact fru_loop h d (i + 1) k (by omega) (by omega) (by omega)
theorem Fru_ok {l : List S30} (h : Ok l) {k : Nat} (hk : 50 ≤ k) : capacity_Frustums.f k l = some (sum l, 0) := by
  have := h.len2; have := h.len32
  unfold capacity_Frustums.f
  rw [check_f, Option.bind_some, if_pos (ok_sCheck h)]
  exact fru_loop h (l.length - 1) 1 k (by omega) (by omega) (by omega)
theorem Fru_bad {l : List S30} (h : sCheck l ≠ 0) (k : Nat) : capacity_Frustums.f k l = some (0, sCheck l) := by
  unfold capacity_Frustums.f
  rw [check_f, Option.bind_some, if_neg h]
/-- the bounds of a space -/
def lowS (s : Int) : Int := s * 333 / 318
def highS (s : Int) : Int := (s * 355 + 338) / 339
theorem Space_ok {l : List S30} (h : Ok l) {k : Nat} (hk : 50 ≤ k) : capacity_Space.f k l = some (lowS (sum l), highS (sum l), 0) := by
  have := h.sum_top
  unfold capacity_Space.f
  rw [Fru_ok h hk, Option.bind_some, if_pos rfl]
  simp only []
  rw [wid (x := sum l * 333) (by omega) (by omega), wid (x := sum l * 355) (by omega) (by omega), wid (x := sum l * 355 + 338) (by omega) (by omega), tdivE (by omega), tdivE (by omega), wid (x := sum l * 333 / 318) (by omega) (by omega), wid (x := (sum l * 355 + 338) / 339) (by omega) (by omega)]
  rfl
theorem Space_bad {l : List S30} (h : sCheck l ≠ 0) (k : Nat) : capacity_Space.f k l = some (0, 0, sCheck l) := by
  unfold capacity_Space.f
  rw [Fru_bad h, Option.bind_some, if_neg h]
theorem low_high {s : Int} (h : 0 ≤ s) : lowS s ≤ highS s := by unfold lowS highS; omega
theorem low_mono {s t : Int} (h : s ≤ t) : lowS s ≤ lowS t := by unfold lowS; omega
theorem high_mono {s t : Int} (h : s ≤ t) : highS s ≤ highS t := by unfold highS; omega

/-! ### turning -/
theorem fq_swap (h a b : Int) : fq h a b = fq h b a := by unfold fq; grind
theorem fr_turn {l : List S30} {i : Nat} (hi : i + 1 < l.length) : fr (sTurn l) i = fr l (l.length - 2 - i) := by
  unfold fr
  rw [X_turn l hi, X_turn l (by omega), R_turn l hi, R_turn l (by omega), fq_swap]
  rw [show l.length - 1 - (i + 1) = l.length - 2 - i by omega, show l.length - 1 - i = l.length - 2 - i + 1 by omega]
  congr 1
  omega
theorem sm_turn {l : List S30} (h : Ok l) : ∀ m, m + 1 ≤ l.length → sm (sTurn l) m + sm l (l.length - 1 - m) = sum l
  | 0, _ => by show 0 + sm l (l.length - 1) = sum l; simp [sum]
  | m + 1, hm => by
    have ih := sm_turn h m (by omega)
    have e : sm (sTurn l) (m + 1) = sm (sTurn l) m + fr (sTurn l) m := rfl
    rw [e, fr_turn (by omega)]
    have e2 : sm l (l.length - 1 - m) = sm l (l.length - 2 - m) + fr l (l.length - 2 - m) := by
      rw [show l.length - 1 - m = l.length - 2 - m + 1 by omega]; rfl
    rw [show l.length - 1 - (m + 1) = l.length - 2 - m by omega]
    omega
theorem sum_turn {l : List S30} (h : Ok l) : sum (sTurn l) = sum l := by
  have := h.len2
  have e := sm_turn h (l.length - 1) (by omega)
  rw [show l.length - 1 - (l.length - 1) = 0 by omega] at e
  have z : sm l 0 = 0 := rfl
  unfold sum at *
  rw [sTurn_len]
  omega

/-! ### inserting -/
theorem fq_part {p r q d1 d2 : Int} (h : r * (d1 + d2) = p * d2 + q * d1) : fq d1 p r + fq d2 r q = fq (d1 + d2) p q := by
  have e : fq d1 p r + fq d2 r q - fq (d1 + d2) p q = (p + q + r) * (r * (d1 + d2) - (p * d2 + q * d1)) := by unfold fq; grind
  rw [h] at e
  simp at e
  omega
theorem fr_left {l : List S30} {i : Nat} {z : S30} (hi : i ≤ l.length) {j : Nat} (hj : j + 1 < i) : fr (sIns l i z) j = fr l j := by
  unfold fr; rw [X_ins l z hi, X_ins l z hi, R_ins l z hi, R_ins l z hi, if_pos hj, if_pos (by omega), if_pos hj, if_pos (by omega)]
theorem fr_right {l : List S30} {i : Nat} {z : S30} (hi : i ≤ l.length) {j : Nat} (hj : i ≤ j) : fr (sIns l i z) (j + 1) = fr l j := by
  unfold fr; rw [X_ins l z hi, X_ins l z hi, R_ins l z hi, R_ins l z hi, if_neg (by omega), if_neg (by omega), if_neg (by omega), if_neg (by omega), if_neg (by omega), if_neg (by omega), if_neg (by omega), if_neg (by omega)]
  simp
theorem fr_mid {l : List S30} (h : Ok l) {i : Nat} {z : S30} (g : Lies l i z) : fr (sIns l i z) (i - 1) + fr (sIns l i z) i = fr l (i - 1) := by
  obtain ⟨g1, g2, g3, g4, g5⟩ := g
  have hi : i ≤ l.length := by omega
  have e : i - 1 + 1 = i := by omega
  have x0 : X (sIns l i z) (i - 1) = X l (i - 1) := by rw [X_ins l z hi, if_pos (by omega)]
  have x1 : X (sIns l i z) i = z.f0 := by rw [X_ins l z hi, if_neg (by omega), if_pos rfl]
  have x2 : X (sIns l i z) (i + 1) = X l i := by rw [X_ins l z hi, if_neg (by omega), if_neg (by omega), Nat.add_sub_cancel]
  have r0 : R (sIns l i z) (i - 1) = R l (i - 1) := by rw [R_ins l z hi, if_pos (by omega)]
  have r1 : R (sIns l i z) i = z.f1 := by rw [R_ins l z hi, if_neg (by omega), if_pos rfl]
  have r2 : R (sIns l i z) (i + 1) = R l i := by rw [R_ins l z hi, if_neg (by omega), if_neg (by omega), Nat.add_sub_cancel]
  unfold fr
  rw [e, x0, x1, x2, r0, r1, r2]
  unfold dn nm nu at g5
  rw [e] at g5
  have := fq_part (p := R l (i - 1)) (r := z.f1) (q := R l i) (d1 := z.f0 - X l (i - 1)) (d2 := X l i - z.f0) (by rw [show z.f0 - X l (i - 1) + (X l i - z.f0) = X l i - X l (i - 1) by omega]; exact g5)
  rw [show z.f0 - X l (i - 1) + (X l i - z.f0) = X l i - X l (i - 1) by omega] at this
  exact this
theorem sm_ins {l : List S30} (h : Ok l) {i : Nat} {z : S30} (g : Lies l i z) : ∀ m, (m + 1 ≤ i → sm (sIns l i z) m = sm l m) ∧ (i ≤ m → sm (sIns l i z) (m + 1) = sm l m)
  | 0 => ⟨fun _ => rfl, fun hm => by have := g.pos; omega⟩
  | m + 1 => by
    obtain ⟨ih1, ih2⟩ := sm_ins h g m
    have g2 := g.lt
    constructor
    · intro hm
      show sm (sIns l i z) m + fr (sIns l i z) m = sm l m + fr l m
      rw [ih1 (by omega), fr_left (by omega) hm]
    · intro hm
      show sm (sIns l i z) (m + 1) + fr (sIns l i z) (m + 1) = sm l m + fr l m
      by_cases c : i = m + 1
      · have e1 : sm (sIns l i z) (m + 1) = sm l m + fr (sIns l i z) m := by
          show sm (sIns l i z) m + fr (sIns l i z) m = _; rw [ih1 (by omega)]
        have e2 := fr_mid h g
        rw [c, Nat.add_sub_cancel] at e2
        rw [c] at e1
        rw [c, e1]; omega
      · rw [ih2 (by omega), fr_right (by omega) (by omega)]
theorem sum_ins {l : List S30} (h : Ok l) {i : Nat} {z : S30} (g : Lies l i z) : sum (sIns l i z) = sum l := by
  have g2 := g.lt
  have := h.len2
  unfold sum
  rw [sIns_len l z (by omega), show l.length + 1 - 1 = l.length - 1 + 1 by omega]
  exact (sm_ins h g (l.length - 1)).2 (by omega)
end Go.Proofs.Ytcbmmhedefigeaa.Prf
