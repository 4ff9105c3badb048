import Derived.Test.YtdomdddponkmhaaReq
import Derived.Test.YtdomdddponkmhaaXx10
import Derived.Test.YtdomdddponkmhaaXx11
/-! What the reference's check, length and bung come to: the same. -/
namespace Go.Proofs.Ytdomdddponkmhaa.Prf
set_option linter.unusedVariables false
set_option linter.unusedSimpArgs false
open Go.RowKit Go.Proofs.Ytdomdddponkmhaa.X Go.Proofs.Ytdomdddponkmhaa.It Go.Proofs.Ytdomdddponkmhaa.Ln

theorem isLength_f (n : Int) : spileref08_isLength.f n = some (meas n) := by
  unfold spileref08_isLength.f meas
  by_cases h : n ≥ 0
  · rw [if_pos h]; simp [show 0 ≤ n from h]
  · rw [if_neg h]; simp; omega
theorem ref3 {l : List S30} (hl : l.length ≤ 32) : ∀ d i k (x6 : Bool), i + d = l.length → d < k → 1 ≤ i → st (upto (nb l) (i - 1)) = (false, x6) →
    spileref08_Check.l3 k l x6 (i : Int) = some (if (st (upto (nb l) (l.length - 1))).1 = true then 10 else 0)
  | 0, i, k, x6, hd, hk, h1, hs => by
    obtain ⟨k, rfl⟩ : ∃ m, k = m + 1 := ⟨k - 1, by omega⟩
    simp only [spileref08_Check.l3]
    rw [if_neg (by omega), show l.length - 1 = i - 1 by omega, hs, if_neg (by simp)]
  | d + 1, i, k, x6, hd, hk, h1, hs => by
    obtain ⟨k, rfl⟩ : ∃ m, k = m + 1 := ⟨k - 1, by omega⟩
    have e : st (upto (nb l) i) = Go.Proofs.Ytdomdddponkmhaa.X.step (false, x6) (nb l (i - 1)) := by
      have := st_snoc (upto (nb l) (i - 1)) (nb l (i - 1))
      rw [← upto_succ, show i - 1 + 1 = i by omega, hs] at this
      exact this
    have e1 : (nb l (i - 1)).1.f1 = R l (i - 1) := rfl
    have e2 : (nb l (i - 1)).2.f1 = R l i := by show R l (i - 1 + 1) = _; rw [show i - 1 + 1 = i by omega]
    unfold Go.Proofs.Ytdomdddponkmhaa.X.step at e
    rw [e1, e2] at e
    simp only [spileref08_Check.l3]
    rw [if_pos (by omega), wpred (by omega) (by omega), rdR, rdR, wsucc (by omega)]
    cases x6 with
    | true =>
      rw [if_pos rfl, if_pos (by omega), if_pos (by omega), if_pos (by omega)]
      by_cases c : R l i > R l (i - 1)
      · rw [if_pos c]
        have hb : (st (upto (nb l) i)).1 = true := by rw [e]; simpa using c
        obtain ⟨r, hr⟩ := upto_prefix (nb l) i (l.length - 1) (by omega)
        rw [hr, if_pos (st_bad _ _ hb)]
      · rw [if_neg c]
        refine ref3 hl d (i + 1) k true (by omega) (by omega) (by omega) ?_
        rw [Nat.add_sub_cancel, e]
        simp; omega
    | false =>
      rw [if_neg (by simp), if_pos (by omega), if_pos (by omega), if_pos (by omega)]
      refine ref3 hl d (i + 1) k _ (by omega) (by omega) (by omega) ?_
      rw [Nat.add_sub_cancel, e]
      simp
theorem ref2 {l : List S30} (h2 : 2 ≤ l.length) (hl : l.length ≤ 32) : ∀ d i k, i + d = l.length → d + l.length < k → (∀ j, j < i → R l j ≠ 0) →
    spileref08_Check.l2 k l (i : Int) = some (if l.any flat = true then 16 else if (st (upto (nb l) (l.length - 1))).1 = true then 10 else 0)
  | 0, i, k, hd, hk, hz => by
    obtain ⟨k, rfl⟩ : ∃ m, k = m + 1 := ⟨k - 1, by omega⟩
    simp only [spileref08_Check.l2]
    rw [if_neg (by omega), if_neg]
    · exact ref3 hl (l.length - 1) 1 k false (by omega) (by omega) (by omega) rfl
    · rw [any_idx]
      rintro ⟨j, hj, c⟩
      exact hz j (by omega) (by simpa [flat, R] using c)
  | d + 1, i, k, hd, hk, hz => by
    obtain ⟨k, rfl⟩ : ∃ m, k = m + 1 := ⟨k - 1, by omega⟩
    simp only [spileref08_Check.l2]
    rw [if_pos (by omega), if_pos (by omega), rdR, wsucc (by omega)]
    by_cases c : R l i = 0
    · rw [if_pos c, if_pos]
      rw [any_idx]
      exact ⟨i, by omega, by simpa [flat, R] using c⟩
    · rw [if_neg c]
      refine ref2 h2 hl d (i + 1) k (by omega) (by omega) fun j hj => ?_
      by_cases e : j = i
      · subst e; exact c
      · exact hz j (by omega)
def rest1 (l : List S30) : Int := if X l 0 ≠ 0 then 5 else if (upto (nb l) (l.length - 1)).all along = false then 5 else if l.any flat = true then 16 else if (st (upto (nb l) (l.length - 1))).1 = true then 10 else 0
theorem ref1 {l : List S30} (h2 : 2 ≤ l.length) (hl : l.length ≤ 32) : ∀ d i k, i + d = l.length → d + 2 * l.length + 1 < k → (0 < i → X l 0 = 0) → (∀ j, j + 1 < i → X l j < X l (j + 1)) →
    spileref08_Check.l1 k l (i : Int) = some (rest1 l)
  | 0, i, k, hd, hk, hz, ha => by
    obtain ⟨k, rfl⟩ : ∃ m, k = m + 1 := ⟨k - 1, by omega⟩
    simp only [spileref08_Check.l1]
    unfold rest1
    rw [if_neg (by omega), if_neg (by rw [hz (by omega)]; simp), if_neg]
    · exact ref2 h2 hl l.length 0 k (by omega) (by omega) (fun j hj => by omega)
    · rw [Bool.not_eq_false, all_idx]
      intro j hj
      exact decide_eq_true (ha j (by omega))
  | d + 1, i, k, hd, hk, hz, ha => by
    obtain ⟨k, rfl⟩ : ∃ m, k = m + 1 := ⟨k - 1, by omega⟩
    simp only [spileref08_Check.l1]
    rw [if_pos (by omega)]
    by_cases c0 : i = 0
    · subst c0
      rw [if_pos (show ((0 : Nat) : Int) = 0 from rfl), if_pos (by omega)]
      by_cases c : X l 0 = 0
      · rw [if_pos (show (rd_T30 l ((0 : Nat) : Int)).f0 = 0 from c), if_neg (by omega), wsucc (by omega)]
        exact ref1 h2 hl d 1 k (by omega) (by omega) (fun _ => c) (fun j hj => by omega)
      · rw [if_neg (show ¬ (rd_T30 l ((0 : Nat) : Int)).f0 = 0 from c)]
        unfold rest1
        rw [if_pos c]
    · have hz0 := hz (by omega)
      rw [if_neg (by omega), if_pos (by omega), wpred (by omega) (by omega), rdX, rdX, if_pos (by omega), if_pos (by omega), if_pos (by omega), wsucc (by omega)]
      by_cases c : X l (i - 1) ≥ X l i
      · rw [if_pos c]
        unfold rest1
        rw [if_neg (by rw [hz0]; simp), if_pos]
        cases q : (upto (nb l) (l.length - 1)).all along with
        | false => rfl
        | true =>
          have := of_decide_eq_true ((all_idx along l (l.length - 1)).1 q (i - 1) (by omega))
          have : X l (i - 1) < X l (i - 1 + 1) := this
          rw [show i - 1 + 1 = i by omega] at this
          omega
      · rw [if_neg c]
        refine ref1 h2 hl d (i + 1) k (by omega) (by omega) (fun _ => hz0) fun j hj => ?_
        by_cases e : j + 1 = i
        · rw [e, show j = i - 1 by omega]; omega
        · exact ha j (by omega)
theorem ref0 {l : List S30} (h2 : 2 ≤ l.length) (hl : l.length ≤ 32) : ∀ d i k, i + d = l.length → d + 3 * l.length + 2 < k → (∀ j, j < i → far (l[j]?.getD z30) = false) →
    spileref08_Check.l0 k l (i : Int) = some (if l.any far = true then 2 else rest1 l)
  | 0, i, k, hd, hk, hz => by
    obtain ⟨k, rfl⟩ : ∃ m, k = m + 1 := ⟨k - 1, by omega⟩
    simp only [spileref08_Check.l0]
    rw [if_neg (by omega), if_neg]
    · exact ref1 h2 hl l.length 0 k (by omega) (by omega) (fun h => by omega) (fun j hj => by omega)
    · rw [any_idx]
      rintro ⟨j, hj, c⟩
      rw [hz j (by omega)] at c
      cases c
  | d + 1, i, k, hd, hk, hz => by
    obtain ⟨k, rfl⟩ : ∃ m, k = m + 1 := ⟨k - 1, by omega⟩
    simp only [spileref08_Check.l0]
    rw [if_pos (by omega), if_pos (by omega), isLength_f, Option.bind_some, isLength_f, Option.bind_some, wsucc (by omega), rdX, rdR]
    have hfar : far (l[i]?.getD z30) = !(meas (X l i) && meas (R l i)) := rfl
    have bad : far (l[i]?.getD z30) = true → l.any far = true := fun c => (any_idx far l).2 ⟨i, by omega, c⟩
    cases c1 : meas (X l i) with
    | false => rw [if_neg (by simp), if_pos (bad (by rw [hfar, c1]; rfl))]
    | true =>
      rw [if_pos rfl]
      cases c2 : meas (R l i) with
      | false => rw [if_neg (by simp), if_pos (bad (by rw [hfar, c1, c2]; rfl))]
      | true =>
        rw [if_pos rfl]
        refine ref0 h2 hl d (i + 1) k (by omega) (by omega) fun j hj => ?_
        by_cases e : j = i
        · subst e; rw [hfar, c1, c2]; rfl
        · exact hz j (by omega)
theorem refCheck_f (l : List S30) {k : Nat} (hk : 140 ≤ k) : spileref08_Check.f k l = some (sCheck l) := by
  unfold spileref08_Check.f sCheck
  by_cases h1 : l.length < 2
  · rw [if_pos (by omega), if_pos h1]
  · rw [if_neg (by omega), if_neg h1]
    by_cases h2 : 32 < l.length
    · rw [if_pos (by omega), if_pos h2]
    · rw [if_neg (by omega), if_neg h2]
      exact ref0 (by omega) (by omega) l.length 0 k (by omega) (by omega) (fun j hj => by omega)
theorem refLength_ok {l : List S30} (h : Ok l) {k : Nat} (hk : 140 ≤ k) : spileref08_Length.f k l = some (last l, 0) := by
  unfold spileref08_Length.f
  have := h.len2; have := h.len32
  rw [refCheck_f l hk, Option.bind_some, if_pos (ok_sCheck h), wpred (by omega) (by omega), if_pos (by omega), if_pos (by omega)]
  rfl
theorem refLength_bad {l : List S30} (h : sCheck l ≠ 0) {k : Nat} (hk : 140 ≤ k) : spileref08_Length.f k l = some (0, sCheck l) := by
  unfold spileref08_Length.f
  rw [refCheck_f l hk, Option.bind_some, if_neg h]
theorem refBung_loop {l : List S30} (hl : l.length ≤ 32) : ∀ d i b k, i + d = l.length → d < k → b < l.length → (∀ j, j < b → R l j < R l b) → (∀ j, j < i → R l j ≤ R l b) →
    ∃ b' : Nat, IsBung l b' ∧ spileref08_Bung.l0 k l (b : Int) (i : Int) = some ((b' : Int), 0)
  | 0, i, b, k, hd, hk, hb, h1, h2 => by
    obtain ⟨k, rfl⟩ : ∃ m, k = m + 1 := ⟨k - 1, by omega⟩
    refine ⟨b, ⟨hb, h1, fun j hj => h2 j (by omega)⟩, ?_⟩
    simp only [spileref08_Bung.l0]
    rw [if_neg (by omega)]
  | d + 1, i, b, k, hd, hk, hb, h1, h2 => by
    obtain ⟨k, rfl⟩ : ∃ m, k = m + 1 := ⟨k - 1, by omega⟩
    simp only [spileref08_Bung.l0]
    rw [if_pos (by omega), if_pos (by omega), if_pos (by omega), if_pos (by omega), rdR, rdR, wsucc (by omega)]
    by_cases c : R l i > R l b
    · rw [if_pos c]
      refine refBung_loop hl d (i + 1) i k (by omega) (by omega) (by omega) (fun j hj => ?_) (fun j hj => ?_)
      · have := h2 j hj; omega
      · by_cases e : j = i
        · subst e; exact Int.le_refl _
        · have := h2 j (by omega); omega
    · rw [if_neg c]
      refine refBung_loop hl d (i + 1) b k (by omega) (by omega) hb h1 (fun j hj => ?_)
      by_cases e : j = i
      · subst e; omega
      · exact h2 j (by omega)
theorem refBung_ok {l : List S30} (h : Ok l) {k : Nat} (hk : 140 ≤ k) : ∃ b : Nat, IsBung l b ∧ spileref08_Bung.f k l = some ((b : Int), 0) := by
  have := h.len2; have := h.len32
  unfold spileref08_Bung.f
  rw [refCheck_f l hk, Option.bind_some, if_pos (ok_sCheck h)]
  exact refBung_loop (by omega) l.length 0 0 k (by omega) (by omega) (by omega) (fun j hj => by omega) (fun j hj => by omega)
theorem refBung_bad {l : List S30} (h : sCheck l ≠ 0) {k : Nat} (hk : 140 ≤ k) : spileref08_Bung.f k l = some (0, sCheck l) := by
  unfold spileref08_Bung.f
  rw [refCheck_f l hk, Option.bind_some, if_neg h]
end Go.Proofs.Ytdomdddponkmhaa.Prf
