import Derived.Test.YtdomdddponkmhaaRfq
import Derived.Test.YtdomdddponkmhaaXx12
import Derived.Test.YtdomdddponkmhaaXx13
/-! What the reference's radius and inserting come to: the same. -/
namespace Go.Proofs.Ytdomdddponkmhaa.Prf
set_option linter.unusedVariables false
set_option linter.unusedSimpArgs false
open Go.RowKit Go.Proofs.Ytdomdddponkmhaa.X Go.Proofs.Ytdomdddponkmhaa.It Go.Proofs.Ytdomdddponkmhaa.Ln

theorem ready_bad {l : List S30} (h : sCheck l ≠ 0) (x : Int) {k : Nat} (hk : 140 ≤ k) : spileref08_ready.f k l x = some 1 := by
  unfold spileref08_ready.f
  rw [refCheck_f l hk, Option.bind_some, if_neg h]
theorem ready_ok {l : List S30} (h : Ok l) (x : Int) {k : Nat} (hk : 140 ≤ k) : spileref08_ready.f k l x = some (if x < 0 ∨ last l < x then 2 else 0) := by
  have := h.len2; have := h.len32
  unfold spileref08_ready.f
  rw [refCheck_f l hk, Option.bind_some, if_pos (ok_sCheck h)]
  by_cases c : x < 0
  · rw [if_pos c, if_pos (.inl c)]
  · rw [if_neg c, wpred (by omega) (by omega), if_pos (by omega), if_pos (by omega)]
    by_cases c2 : x > last l
    · rw [if_pos (show x > (rd_T30 l ((l.length - 1 : Nat) : Int)).f0 from c2), if_pos (.inr c2)]
    · rw [if_neg (show ¬ x > (rd_T30 l ((l.length - 1 : Nat) : Int)).f0 from c2), if_neg (by omega)]
theorem rad_loop {l : List S30} (h : Ok l) {x : Int} {i : Nat} (ho : on l i x) (hf : ∀ j, j < i → X l (j + 1) < x) : ∀ d j k, j + d = i + 1 → d < k → 1 ≤ j →
    spileref08_radius.l0 k l x (j : Int) = some (nm l i x, dn l i)
  | 0, j, k, hd, hk, hj => by
    obtain ⟨k, rfl⟩ : ∃ m, k = m + 1 := ⟨k - 1, by omega⟩
    obtain rfl : j = i + 1 := by omega
    have h1 := ho.1
    have l32 := h.len32
    simp only [spileref08_radius.l0]
    rw [if_pos (by omega), wpred (by omega) (by omega), Nat.add_sub_cancel, if_pos (by omega), if_pos (by omega), if_pos (by omega), rdX, rdX, rdR, rdR, if_pos ho.2.2]
    have := h.inc i (by omega)
    have p0 := h.x0 i (by omega)
    have p1 := h.x1 (i + 1) (by omega)
    have q0 := h.r0 i (by omega)
    have q1 := h.r1 i (by omega)
    have q2 := h.r0 (i + 1) (by omega)
    have q3 := h.r1 (i + 1) (by omega)
    have g1 := ho.2.1; have g2 := ho.2.2
    have m1 := mul_bound (a := R l i) (b := X l (i + 1) - X l i) (A := 100000) (B := 100000) (by omega) (by omega) (by omega) (by omega)
    have m2 := mul_bound (a := R l (i + 1)) (b := x - X l i) (A := 100000) (B := 100000) (by omega) (by omega) (by omega) (by omega)
    have m3 := mul_bound (a := R l i) (b := x - X l i) (A := 100000) (B := 100000) (by omega) (by omega) (by omega) (by omega)
    have e := Int.sub_mul (R l (i + 1)) (R l i) (x - X l i)
    rw [wid (x := X l (i + 1) - X l i) (by omega) (by omega), wid (x := R l (i + 1) - R l i) (by omega) (by omega), wid (x := x - X l i) (by omega) (by omega), wid (x := R l i * (X l (i + 1) - X l i)) (by omega) (by omega),
      wid (x := (R l (i + 1) - R l i) * (x - X l i)) (by omega) (by omega), wid (by omega) (by omega)]
    have := nu_ref (X l i) (R l i) (X l (i + 1)) (R l (i + 1)) x
    unfold nm dn
    rw [this]
  | d + 1, j, k, hd, hk, hj => by
    obtain ⟨k, rfl⟩ : ∃ m, k = m + 1 := ⟨k - 1, by omega⟩
    have h1 := ho.1
    have l32 := h.len32
    have h3 := hf (j - 1) (by omega)
    rw [show j - 1 + 1 = j by omega] at h3
    simp only [spileref08_radius.l0]
    rw [if_pos (by omega), wpred (by omega) (by omega), if_pos (by omega), if_pos (by omega), if_pos (by omega), rdX, if_neg (by omega), wsucc (by omega)]
    exact rad_loop h ho hf d (j + 1) k (by omega) (by omega) (by omega)
theorem Radius_f {l : List S30} (h : Ok l) {x : Int} (h0 : 0 ≤ x) (h1 : x ≤ last l) {k : Nat} (hk : 140 ≤ k) : spileref08_Radius.f k l x = some (sAt l x) := by
  have l2 := h.len2; have l32 := h.len32
  obtain ⟨i, ho, hf⟩ := h.stave h0 h1
  have hi := ho.1
  unfold spileref08_Radius.f spileref08_radius.f
  have e := rad_loop h ho hf i 1 k (by omega) (by omega) (by omega)
  rw [show (((1 : Nat) : Int)) = 1 from rfl] at e
  rw [e, Option.bind_some]
  have hd := h.dn_pos hi
  rw [if_neg (by show ¬ dn l i = 0; omega), h.sAt_on ho]
  have p0 := h.x0 i (by omega)
  have p1 := h.x1 (i + 1) (by omega)
  have q0 := h.r0 i (by omega)
  have q1 := h.r1 i (by omega)
  have q2 := h.r0 (i + 1) (by omega)
  have q3 := h.r1 (i + 1) (by omega)
  have hdn : dn l i ≤ 100000 := by unfold dn; omega
  have n0 := nu_ge (m := 0) ho.2.1 ho.2.2 (show 0 ≤ R l i by omega) (show 0 ≤ R l (i + 1) by omega)
  have n1 := nu_le (m := 100000) ho.2.1 ho.2.2 q1 q3
  change 0 * dn l i ≤ nm l i x at n0
  change nm l i x ≤ 100000 * dn l i at n1
  have c1 : fl (nm l i x) (dn l i) < 100001 := (fl_lt hd).2 (by omega)
  have c0 := fl_nonneg (n := nm l i x) hd (by omega)
  have c2 := ce_le_fl (n := nm l i x) hd
  have c3 := fl_le_ce (n := nm l i x) hd
  simp only []
  rw [tdivE (by omega), wid (x := nm l i x + dn l i) (by omega) (by omega), wid (x := nm l i x + dn l i - 1) (by omega) (by omega), tdivE (by omega)]
  change some (wrap64 (fl (nm l i x) (dn l i)), wrap64 (ce (nm l i x) (dn l i))) = _
  rw [wid (by omega) (by omega), wid (by omega) (by omega)]
theorem refAt_bad {l : List S30} (h : sCheck l ≠ 0) (x : Int) {k : Nat} (hk : 140 ≤ k) : spileref08_At.f k l x = some (0, 0, 1) := by
  unfold spileref08_At.f
  rw [ready_bad h x hk, Option.bind_some, if_neg (by decide)]
theorem refAt_out {l : List S30} (h : Ok l) {x : Int} (hx : x < 0 ∨ last l < x) {k : Nat} (hk : 140 ≤ k) : spileref08_At.f k l x = some (0, 0, 2) := by
  unfold spileref08_At.f
  rw [ready_ok h x hk, if_pos hx, Option.bind_some, if_neg (by decide)]
theorem refAt_ok {l : List S30} (h : Ok l) {x : Int} (h0 : 0 ≤ x) (h1 : x ≤ last l) {k : Nat} (hk : 140 ≤ k) : spileref08_At.f k l x = some ((sAt l x).1, (sAt l x).2, 0) := by
  unfold spileref08_At.f
  rw [ready_ok h x hk, if_neg (by omega), Option.bind_some, if_pos rfl, Radius_f h h0 h1 hk, Option.bind_some]
theorem refIns_loop {l : List S30} (h : Ok l) {x : Int} (h0 : 0 ≤ x) (h1 : x ≤ last l) {i : Nat} (hf : First l x i) : ∀ d j k, j + d = i → d + 140 < k → spileref08_Insert.l0 k l x (j : Int) = some (insRes l x i)
  | 0, j, k, hd, hk => by
    obtain ⟨k, rfl⟩ : ∃ m, k = m + 1 := ⟨k - 1, by omega⟩
    obtain rfl : j = i := by omega
    have g1 := hf.1
    have g2 := hf.2.1
    have hl := h.len32
    simp only [spileref08_Insert.l0]
    rw [if_pos (by omega), if_pos (by omega), rdX, if_neg (by omega)]
    unfold insRes
    by_cases c : X l j = x
    · rw [if_pos c, if_pos c]
    · rw [if_neg c, if_neg c, Radius_f h h0 h1 (by omega), Option.bind_some]
      by_cases c2 : (sAt l x).1 = (sAt l x).2
      · rw [if_pos c2, if_pos c2]
        by_cases c3 : l.length = 32
        · rw [if_pos c3, if_pos (by omega)]
        · rw [if_neg c3, if_neg (by omega), Option.bind_some, if_pos (by omega), Option.bind_some, if_pos (by simp; omega), Option.bind_some, Option.bind_some, if_pos (by simp; omega), Option.bind_some, Option.bind_some, if_pos (by simp; omega)]
          unfold sIns
          simp
      · rw [if_neg c2, if_neg c2]
  | d + 1, j, k, hd, hk => by
    obtain ⟨k, rfl⟩ : ∃ m, k = m + 1 := ⟨k - 1, by omega⟩
    have g1 := hf.1
    have hl := h.len32
    have h3 := hf.2.2 j (by omega)
    simp only [spileref08_Insert.l0]
    rw [if_pos (by omega), if_pos (by omega), rdX, if_pos h3, wsucc (by omega)]
    exact refIns_loop h h0 h1 hf d (j + 1) k (by omega) (by omega)
theorem refInsert_ok {l : List S30} (h : Ok l) {x : Int} (h0 : 0 ≤ x) (h1 : x ≤ last l) {i : Nat} (hf : First l x i) {k : Nat} (hk : 200 ≤ k) : spileref08_Insert.f k l x = some (insRes l x i) := by
  have := hf.1; have := h.len32
  unfold spileref08_Insert.f
  rw [ready_ok h x (by omega), if_neg (by omega), Option.bind_some, if_pos rfl]
  exact refIns_loop h h0 h1 hf i 0 k (by omega) (by omega)
theorem refInsert_out {l : List S30} (h : Ok l) {x : Int} (hx : x < 0 ∨ last l < x) {k : Nat} (hk : 200 ≤ k) : spileref08_Insert.f k l x = some ([], 2) := by
  unfold spileref08_Insert.f
  rw [ready_ok h x (by omega), if_pos hx, Option.bind_some, if_neg (by decide)]
theorem refInsert_bad {l : List S30} (h : sCheck l ≠ 0) (x : Int) {k : Nat} (hk : 200 ≤ k) : spileref08_Insert.f k l x = some ([], 1) := by
  unfold spileref08_Insert.f
  rw [ready_bad h x (by omega), Option.bind_some, if_neg (by decide)]
end Go.Proofs.Ytdomdddponkmhaa.Prf
