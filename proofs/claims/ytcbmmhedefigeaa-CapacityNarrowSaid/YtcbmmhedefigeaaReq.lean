import Derived.Test.YtcbmmhedefigeaaPri
import Derived.Test.YtcbmmhedefigeaaXx6
import Derived.Test.YtcbmmhedefigeaaXx5
import Derived.Test.YtcbmmhedefigeaaTu8
import Derived.Test.YtcbmmhedefigeaaCl8
import Derived.Test.YtcbmmhedefigeaaIns8
/-! What the functions of a profile come to, in plain numbers. -/
namespace Go.Proofs.Ytcbmmhedefigeaa.Prf
set_option linter.unusedVariables false
set_option linter.unusedSimpArgs false
open Go.RowKit Go.Proofs.Ytcbmmhedefigeaa.X Go.Proofs.Ytcbmmhedefigeaa.It Go.Proofs.Ytcbmmhedefigeaa.Ln

theorem rdX (l : List S30) (i : Nat) : (rd_T30 l (i : Int)).f0 = X l i := rfl
theorem rdR (l : List S30) (i : Nat) : (rd_T30 l (i : Int)).f1 = R l i := rfl
theorem rdP (l : List S30) (i : Nat) : rd_T30 l (i : Int) = l[i]?.getD z30 := rfl
theorem wsucc {i : Nat} (h : i ≤ 100) : wrap64 ((i : Int) + 1) = ((i + 1 : Nat) : Int) := by rw [wid (by omega) (by omega)]; omega
theorem wpred {i : Nat} (h0 : 1 ≤ i) (h : i ≤ 100) : wrap64 ((i : Int) - 1) = ((i - 1 : Nat) : Int) := by rw [wid (by omega) (by omega)]; omega
theorem ext_getD {a b : List S30} (h : a.length = b.length) (g : ∀ j, j < a.length → a[j]?.getD z30 = b[j]?.getD z30) : a = b := by
  refine List.ext_getElem h fun j h1 h2 => ?_
  have := g j h1
  rw [List.getElem?_eq_getElem h1, List.getElem?_eq_getElem h2] at this
  exact this
theorem set_getD (l : List S30) (i : Nat) (z : S30) (hi : i < l.length) (j : Nat) : (l.set i z)[j]?.getD z30 = if j = i then z else l[j]?.getD z30 := by
  rw [List.getElem?_set]
  by_cases c : i = j
  · subst c; simp [hi]
  · rw [if_neg c, if_neg (fun e => c e.symm)]

theorem clone_f (l : List S30) (h : l.length ≤ 40) : api_Point_13.f l = some l := by unfold api_Point_13.f; rw [if_pos (by omega)]
theorem check_f (l : List S30) : profile_Check.f l = some (sCheck l) := rfl
theorem length_f {l : List S30} (h1 : 1 ≤ l.length) (h : l.length ≤ 100) : profile_length.f l = some (last l) := by
  unfold profile_length.f
  rw [wpred h1 h, if_pos (by omega), if_pos (by omega)]
  rfl
theorem At_bad {l : List S30} (h : sCheck l ≠ 0) (x : Int) : profile_At.f l x = some (0, 0, 1) := by
  unfold profile_At.f
  rw [check_f, Option.bind_some, if_neg h]
theorem At_out {l : List S30} (h : Ok l) {x : Int} (hx : x < 0 ∨ last l < x) : profile_At.f l x = some (0, 0, 2) := by
  have := h.len2; have := h.len32
  unfold profile_At.f
  rw [check_f, Option.bind_some, if_pos (ok_sCheck h)]
  by_cases c : x < 0
  · rw [if_pos c]
  · rw [if_neg c, length_f (by omega) (by omega), Option.bind_some, if_pos (by omega)]
theorem At_ok {l : List S30} (h : Ok l) {x : Int} (h0 : 0 ≤ x) (h1 : x ≤ last l) : profile_At.f l x = some ((sAt l x).1, (sAt l x).2, 0) := by
  have := h.len2; have := h.len32
  unfold profile_At.f
  rw [check_f, Option.bind_some, if_pos (ok_sCheck h), if_neg (by omega), length_f (by omega) (by omega), Option.bind_some, if_neg (by omega), h.at_f, Option.bind_some]

/-! ### turning -/
theorem rev_loop {l : List S30} (hl : l.length ≤ 40) : ∀ c i k (m : List S30), i + c + 1 = l.length → c < k → m.length = l.length →
    (∀ j, j < l.length → m[j]?.getD z30 = if j < i ∨ l.length - 1 - j < i then l[l.length - 1 - j]?.getD z30 else l[j]?.getD z30) → api_Point_34.l0 k m (i : Int) (c : Int) = some l.reverse := by
  intro c
  induction c using Nat.strongRecOn with
  | ind c ih =>
    intro i k m hd hk hm hj
    obtain ⟨k, rfl⟩ : ∃ m, k = m + 1 := ⟨k - 1, by omega⟩
    simp only [api_Point_34.l0]
    by_cases q : i < c
    · rw [if_pos (by omega), if_pos (by omega), if_pos (by omega), if_pos (by omega), if_pos (by omega), wsucc (by omega), wpred (by omega) (by omega)]
      refine ih (c - 1) (by omega) (i + 1) k _ (by omega) (by omega) (by simp [hm]) fun j hjl => ?_
      rw [Int.toNat_natCast, Int.toNat_natCast, set_getD _ _ _ (by simp; omega), set_getD _ _ _ (by omega)]
      have a1 := hj i (by omega)
      have a2 := hj c (by omega)
      rw [if_neg (by omega)] at a1 a2
      by_cases e1 : j = c
      · rw [if_pos e1, if_pos (by omega), e1, show l.length - 1 - c = i by omega, ← a1]; rfl
      · rw [if_neg e1]
        by_cases e2 : j = i
        · rw [if_pos e2, if_pos (by omega), e2, show l.length - 1 - i = c by omega, ← a2]; rfl
        · rw [if_neg e2, hj j hjl]
          by_cases e3 : j < i ∨ l.length - 1 - j < i
          · rw [if_pos e3, if_pos (by omega)]
          · rw [if_neg e3, if_neg (by omega)]
    · rw [if_neg (by omega)]
      congr 1
      refine ext_getD (by simp [hm]) fun j hjl => ?_
      rw [hm] at hjl
      rw [hj j hjl, List.getElem?_reverse hjl]
      by_cases e3 : j < i ∨ l.length - 1 - j < i
      · rw [if_pos e3]
      · rw [if_neg e3, show l.length - 1 - j = j by omega]
theorem rev_f {l : List S30} (h1 : 1 ≤ l.length) (hl : l.length ≤ 40) {k : Nat} (hk : 50 ≤ k) : api_Point_34.f k l = some l.reverse := by
  unfold api_Point_34.f
  rw [wpred h1 (by omega)]
  exact rev_loop hl (l.length - 1) 0 k l (by omega) (by omega) rfl (fun j hj => by rw [if_neg (by omega)])
theorem turn_loop {l r : List S30} (hr : ∀ i, i < r.length → 0 ≤ X r i ∧ X r i ≤ 100000) (hrl : r.length = l.length) (h1 : 1 ≤ l.length) (hl : l.length ≤ 40) (hb : 0 ≤ last l ∧ last l ≤ 100000) : ∀ d i k (m : List S30), i + d = l.length → d < k → m.length = l.length →
    (∀ j, j < l.length → m[j]?.getD z30 = if j < i then ⟨last l - X r j, R r j⟩ else r[j]?.getD z30) → profile_Turn.l0 k l m (l.length : Int) (i : Int) = some (r.map fun z => ⟨last l - z.f0, z.f1⟩, 0)
  | 0, i, k, m, hd, hk, hm, hj => by
    obtain ⟨k, rfl⟩ : ∃ m, k = m + 1 := ⟨k - 1, by omega⟩
    simp only [profile_Turn.l0]
    rw [if_neg (by omega)]
    congr 2
    refine ext_getD (by simp [hm, hrl]) fun j hjl => ?_
    rw [hm] at hjl
    rw [hj j hjl, if_pos (by omega), List.getElem?_map]
    unfold X R
    rw [List.getElem?_eq_getElem (by omega)]
    rfl
  | d + 1, i, k, m, hd, hk, hm, hj => by
    obtain ⟨k, rfl⟩ : ∃ m, k = m + 1 := ⟨k - 1, by omega⟩
    simp only [profile_Turn.l0]
    rw [if_pos (by omega), length_f h1 (by omega), Option.bind_some, if_pos (by omega), if_pos (by omega), wsucc (by omega)]
    have e := hj i (by omega)
    rw [if_neg (by omega)] at e
    have hx := hr i (by omega)
    refine turn_loop hr hrl h1 hl hb d (i + 1) k _ (by omega) (by omega) (by simp [hm]) fun j hjl => ?_
    rw [Int.toNat_natCast, set_getD _ _ _ (by omega), rdP, e]
    by_cases e1 : j = i
    · rw [if_pos e1, if_pos (by omega), e1]
      show (⟨wrap64 (last l - X r i), R r i⟩ : S30) = _
      rw [wid (by omega) (by omega)]
    · rw [if_neg e1, hj j hjl]
      by_cases e2 : j < i
      · rw [if_pos e2, if_pos (by omega)]
      · rw [if_neg e2, if_neg (by omega)]
theorem Turn_ok {l : List S30} (h : Ok l) {k : Nat} (hk : 60 ≤ k) : profile_Turn.f k l = some (sTurn l, 0) := by
  have l2 := h.len2; have l32 := h.len32
  unfold profile_Turn.f
  rw [check_f, Option.bind_some, if_pos (ok_sCheck h), Option.bind_some, if_pos (by simp; omega), List.nil_append, Option.bind_some, rev_f (by omega) (by omega) (by omega), Option.bind_some]
  refine turn_loop (r := l.reverse) (fun i hi => ?_) (by simp) (by omega) (by omega) ⟨h.x0 _ (by omega), h.x1 _ (by omega)⟩ l.length 0 k _ (by omega) (by omega) (by simp) (fun j hj => by rw [if_neg (by omega)])
  have hi' : i < l.length := by simpa using hi
  have e : X l.reverse i = X l (l.length - 1 - i) := by unfold X; rw [List.getElem?_reverse hi']
  rw [e]
  exact ⟨h.x0 _ (by omega), h.x1 _ (by omega)⟩
theorem Turn_bad {l : List S30} (h : sCheck l ≠ 0) (k : Nat) : profile_Turn.f k l = some ([], sCheck l) := by
  unfold profile_Turn.f
  rw [check_f, Option.bind_some, if_neg h]

/-! ### inserting -/
/-- the first point at x or behind it -/
def First (l : List S30) (x : Int) (i : Nat) : Prop := i < l.length ∧ x ≤ X l i ∧ ∀ j, j < i → X l j < x
theorem first_one {l : List S30} {x : Int} {i j : Nat} (hi : First l x i) (hj : First l x j) : i = j := by
  rcases Nat.lt_trichotomy i j with q | q | q
  · have := hj.2.2 i q; have := hi.2.1; omega
  · exact q
  · have := hi.2.2 j q; have := hj.2.1; omega
theorem Ok.first {l : List S30} (h : Ok l) {x : Int} (h1 : x ≤ last l) : ∃ i, First l x i := by
  have := h.len2
  obtain ⟨i, h1, h2, h3⟩ := least (fun i => x ≤ X l i) (l.length - 1) h1
  exact ⟨i, by omega, h2, fun j hj => by have := h3 j hj; omega⟩
def insRes (l : List S30) (x : Int) (i : Nat) : List S30 × Int :=
  if X l i = x then ([], 6) else if (sAt l x).1 = (sAt l x).2 then (if l.length = 32 then ([], 12) else (sIns l i ⟨x, (sAt l x).1⟩, 0)) else ([], 10)
theorem ins_loop {l : List S30} (hl : l.length ≤ 32) {x : Int} {i : Nat} (hf : First l x i) : ∀ d j k, j + d = i → d + 3 < k → profile_Insert.l0 k l x (j : Int) (sAt l x).1 (sAt l x).2 = some (insRes l x i)
  | 0, j, k, hd, hk => by
    obtain ⟨k, rfl⟩ : ∃ m, k = m + 1 + 1 + 1 := ⟨k - 3, by omega⟩
    obtain rfl : j = i := by omega
    have h1 := hf.1
    have h2 := hf.2.1
    simp only [profile_Insert.l0]
    rw [if_pos (by omega), if_pos (by omega), rdX, if_neg (by omega)]
    simp only [profile_Insert.j1]
    rw [if_pos (by omega), if_pos (by omega), rdX]
    simp only [profile_Insert.j2]
    unfold insRes
    by_cases c : X l j = x
    · rw [if_pos c, if_pos (by simpa using c)]
    · rw [if_neg c, if_neg (by simpa using c)]
      by_cases c2 : (sAt l x).1 = (sAt l x).2
      · rw [if_pos c2, if_pos c2]
        by_cases c3 : l.length = 32
        · rw [if_pos c3, if_pos (by omega)]
        · rw [if_neg c3, if_neg (by omega), Option.bind_some, Option.bind_some, if_pos (by simp; omega), Option.bind_some, if_pos (by omega), if_pos (by omega), Option.bind_some, if_pos (by simp; omega)]
          unfold sIns
          simp
      · rw [if_neg c2, if_neg c2]
  | d + 1, j, k, hd, hk => by
    obtain ⟨k, rfl⟩ : ∃ m, k = m + 1 := ⟨k - 1, by omega⟩
    have h1 := hf.1
    have h3 := hf.2.2 j (by omega)
    simp only [profile_Insert.l0]
    rw [if_pos (by omega), if_pos (by omega), rdX, if_pos h3, wsucc (by omega)]
    exact ins_loop hl hf d (j + 1) k (by omega) (by omega)
theorem Insert_ok {l : List S30} (h : Ok l) {x : Int} (h0 : 0 ≤ x) (h1 : x ≤ last l) {i : Nat} (hf : First l x i) {k : Nat} (hk : 50 ≤ k) : profile_Insert.f k l x = some (insRes l x i) := by
  have := hf.1; have := h.len32
  unfold profile_Insert.f
  rw [At_ok h h0 h1, Option.bind_some, if_pos rfl]
  exact ins_loop h.len32 hf i 0 k (by omega) (by omega)
theorem Insert_out {l : List S30} (h : Ok l) {x : Int} (hx : x < 0 ∨ last l < x) (k : Nat) : profile_Insert.f k l x = some ([], 2) := by
  unfold profile_Insert.f
  rw [At_out h hx, Option.bind_some, if_neg (by decide)]
theorem Insert_bad {l : List S30} (h : sCheck l ≠ 0) (x : Int) (k : Nat) : profile_Insert.f k l x = some ([], 1) := by
  unfold profile_Insert.f
  rw [At_bad h, Option.bind_some, if_neg (by decide)]
theorem First.lies {l : List S30} (h : Ok l) {x : Int} (h0 : 0 ≤ x) {i : Nat} (hf : First l x i) (hx : X l i ≠ x) (he : (sAt l x).1 = (sAt l x).2) : Lies l i ⟨x, (sAt l x).1⟩ := by
  obtain ⟨h1, h2, h3⟩ := hf
  have hi : 0 < i := by
    rcases Nat.eq_zero_or_pos i with e | e
    · subst e; rw [h.zero] at h2 hx; omega
    · exact e
  have ho : on l (i - 1) x := ⟨by omega, Int.le_of_lt (h3 (i - 1) (by omega)), by rw [show i - 1 + 1 = i by omega]; exact h2⟩
  refine ⟨hi, h1, h3 (i - 1) (by omega), by show x < X l i; omega, ?_⟩
  rw [h.sAt_on ho] at he ⊢
  exact (fl_eq_ce (h.dn_pos ho.1) he).symm

theorem few_f (l : List S30) : spileref08_Few.f l = some (decide ((l.length : Int) ≤ 33)) := rfl
end Go.Proofs.Ytcbmmhedefigeaa.Prf
