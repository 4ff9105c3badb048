import Derived.Test.YtdomdddponkmhaaPri
import Derived.Test.YtdomdddponkmhaaAwk8
import Derived.Test.YtdomdddponkmhaaXx4
import Derived.Test.YtdomdddponkmhaaXx5
import Derived.Test.YtdomdddponkmhaaXx6
import Derived.Test.YtdomdddponkmhaaXx7
import Derived.Test.YtdomdddponkmhaaXx8
import Derived.Test.YtdomdddponkmhaaTu8
import Derived.Test.YtdomdddponkmhaaCl8
import Derived.Test.YtdomdddponkmhaaIns8
/-! What the functions of a profile come to, in plain numbers. -/
namespace Go.Proofs.Ytdomdddponkmhaa.Prf
set_option linter.unusedVariables false
set_option linter.unusedSimpArgs false
open Go.RowKit Go.Proofs.Ytdomdddponkmhaa.X Go.Proofs.Ytdomdddponkmhaa.It Go.Proofs.Ytdomdddponkmhaa.Ln

theorem rdX (l : List S30) (i : Nat) : (rd_T30 l (i : Int)).f0 = X l i := rfl
theorem rdR (l : List S30) (i : Nat) : (rd_T30 l (i : Int)).f1 = R l i := rfl
theorem rdP (l : List S30) (i : Nat) : rd_T30 l (i : Int) = l[i]?.getD z30 := rfl
theorem wsucc {i : Nat} (h : i ≤ 100) : wrap64 ((i : Int) + 1) = ((i + 1 : Nat) : Int) := by rw [wid (by omega) (by omega)]; omega
theorem wpred {i : Nat} (h0 : 1 ≤ i) (h : i ≤ 100) : wrap64 ((i : Int) - 1) = ((i - 1 : Nat) : Int) := by rw [wid (by omega) (by omega)]; omega
theorem ext_getD {a b : List S30} (h : a.length = b.length) (g : ∀ j, j < a.length → a[j]?.getD z30 = b[j]?.getD z30) : a = b := by
  refine List.ext_getElem h fun j h1 h2 => ?_
  have := g j h1
  rw [List.getElem?_eq_getElem h1, List.getElem?_eq_getElem h2] at this
  exact this
theorem set_getD (l : List S30) (i : Nat) (z : S30) (hi : i < l.length) (j : Nat) : (l.set i z)[j]?.getD z30 = if j = i then z else l[j]?.getD z30 := by
  rw [List.getElem?_set]
  by_cases c : i = j
  · subst c; simp [hi]
  · rw [if_neg c, if_neg (fun e => c e.symm)]

theorem clone_f (l : List S30) (h : l.length ≤ 40) : api_Point_12.f l = some l := by unfold api_Point_12.f; rw [if_pos (by omega)]
theorem check_f (l : List S30) : profile_Check.f l = some (sCheck l) := rfl
theorem length_f {l : List S30} (h1 : 1 ≤ l.length) (h : l.length ≤ 100) : profile_length.f l = some (last l) := by
  unfold profile_length.f
  rw [wpred h1 h, if_pos (by omega), if_pos (by omega)]
  rfl
theorem Length_ok {l : List S30} (h : Ok l) : profile_Length.f l = some (last l, 0) := by
  unfold profile_Length.f
  have := h.len2; have := h.len32
  rw [check_f, Option.bind_some, ok_sCheck h, if_pos rfl, length_f (by omega) (by omega), Option.bind_some]
theorem Length_bad {l : List S30} (h : sCheck l ≠ 0) : profile_Length.f l = some (0, sCheck l) := by
  unfold profile_Length.f
  rw [check_f, Option.bind_some, if_neg h]

theorem bung_loop {l : List S30} (hl : l.length ≤ 32) : ∀ d i b k, i + d = l.length → d < k → b < l.length → (∀ j, j < b → R l j < R l b) → (∀ j, j < i → R l j ≤ R l b) →
    ∃ b' : Nat, IsBung l b' ∧ profile_Bung.l0 k l (b : Int) l (l.length : Int) (i : Int) = some ((b' : Int), 0)
  | 0, i, b, k, hd, hk, hb, h1, h2 => by
    obtain ⟨k, rfl⟩ : ∃ m, k = m + 1 := ⟨k - 1, by omega⟩
    refine ⟨b, ⟨hb, h1, fun j hj => h2 j (by omega)⟩, ?_⟩
    simp only [profile_Bung.l0]
    rw [if_neg (by omega)]
  | d + 1, i, b, k, hd, hk, hb, h1, h2 => by
    obtain ⟨k, rfl⟩ : ∃ m, k = m + 1 := ⟨k - 1, by omega⟩
    simp only [profile_Bung.l0]
    rw [if_pos (by omega), if_pos (by omega), if_pos (by omega), if_pos (by omega), if_pos (by omega), rdR, rdR, wsucc (by omega)]
    by_cases c : R l i > R l b
    · rw [if_pos c]
      refine bung_loop hl d (i + 1) i k (by omega) (by omega) (by omega) (fun j hj => ?_) (fun j hj => ?_)
      · have := h2 j hj; omega
      · by_cases e : j = i
        · subst e; exact Int.le_refl _
        · have := h2 j (by omega); omega
    · rw [if_neg c]
      refine bung_loop hl d (i + 1) b k (by omega) (by omega) hb h1 (fun j hj => ?_)
      by_cases e : j = i
      · subst e; omega
      · exact h2 j (by omega)
theorem Bung_ok {l : List S30} (h : Ok l) {k : Nat} (hk : 40 ≤ k) : ∃ b : Nat, IsBung l b ∧ profile_Bung.f k l = some ((b : Int), 0) := by
  have := h.len2; have := h.len32
  unfold profile_Bung.f
  rw [check_f, Option.bind_some, ok_sCheck h, if_pos rfl]
  exact bung_loop (by omega) l.length 0 0 k (by omega) (by omega) (by omega) (fun j hj => by omega) (fun j hj => by omega)
theorem Bung_bad {l : List S30} (h : sCheck l ≠ 0) (k : Nat) : profile_Bung.f k l = some (0, sCheck l) := by
  unfold profile_Bung.f
  rw [check_f, Option.bind_some, if_neg h]
theorem bung_one {l : List S30} {b c : Nat} (hb : IsBung l b) (hc : IsBung l c) : b = c := by
  rcases Nat.lt_trichotomy b c with q | q | q
  · have := hc.before b q; have := hb.most c hc.lt; omega
  · exact q
  · have := hb.before c q; have := hc.most b hb.lt; omega

theorem At_bad {l : List S30} (h : sCheck l ≠ 0) (x : Int) : profile_At.f l x = some (0, 0, 1) := by
  unfold profile_At.f
  rw [check_f, Option.bind_some, if_neg h]
theorem At_out {l : List S30} (h : Ok l) {x : Int} (hx : x < 0 ∨ last l < x) : profile_At.f l x = some (0, 0, 2) := by
  have := h.len2; have := h.len32
  unfold profile_At.f
  rw [check_f, Option.bind_some, if_pos (ok_sCheck h)]
  by_cases c : x < 0
  · rw [if_pos c]
  · rw [if_neg c, length_f (by omega) (by omega), Option.bind_some, if_pos (by omega)]
theorem At_ok {l : List S30} (h : Ok l) {x : Int} (h0 : 0 ≤ x) (h1 : x ≤ last l) : profile_At.f l x = some ((sAt l x).1, (sAt l x).2, 0) := by
  have := h.len2; have := h.len32
  unfold profile_At.f
  rw [check_f, Option.bind_some, if_pos (ok_sCheck h), if_neg (by omega), length_f (by omega) (by omega), Option.bind_some, if_neg (by omega), h.at_f, Option.bind_some]

theorem same_loop {l : List S30} (hl : l.length ≤ 40) : ∀ d i k, i + d = l.length → d < k → spileref08_Same.l0 k l l (i : Int) = some true
  | 0, i, k, hd, hk => by
    obtain ⟨k, rfl⟩ : ∃ m, k = m + 1 := ⟨k - 1, by omega⟩
    simp only [spileref08_Same.l0]
    rw [if_neg (by omega)]
  | d + 1, i, k, hd, hk => by
    obtain ⟨k, rfl⟩ : ∃ m, k = m + 1 := ⟨k - 1, by omega⟩
    simp only [spileref08_Same.l0]
    rw [if_pos (by omega), if_pos (by omega), if_pos (by omega), if_neg (by simp), wsucc (by omega)]
    exact same_loop hl d (i + 1) k (by omega) (by omega)
theorem same_f (l : List S30) (hl : l.length ≤ 40) {k : Nat} (hk : 50 ≤ k) : spileref08_Same.f k l l = some true := by
  unfold spileref08_Same.f
  rw [if_pos rfl]
  exact same_loop hl l.length 0 k (by omega) (by omega)

/-! ### turning -/
theorem rev_loop {l : List S30} (hl : l.length ≤ 40) : ∀ c i k (m : List S30), i + c + 1 = l.length → c < k → m.length = l.length →
    (∀ j, j < l.length → m[j]?.getD z30 = if j < i ∨ l.length - 1 - j < i then l[l.length - 1 - j]?.getD z30 else l[j]?.getD z30) → api_Point_38.l0 k m (i : Int) (c : Int) = some l.reverse := by
  intro c
  induction c using Nat.strongRecOn with
  | ind c ih =>
    intro i k m hd hk hm hj
    obtain ⟨k, rfl⟩ : ∃ m, k = m + 1 := ⟨k - 1, by omega⟩
    simp only [api_Point_38.l0]
    by_cases q : i < c
    · rw [if_pos (by omega), if_pos (by omega), if_pos (by omega), if_pos (by omega), if_pos (by omega), wsucc (by omega), wpred (by omega) (by omega)]
      refine ih (c - 1) (by omega) (i + 1) k _ (by omega) (by omega) (by simp [hm]) fun j hjl => ?_
      rw [Int.toNat_natCast, Int.toNat_natCast, set_getD _ _ _ (by simp; omega), set_getD _ _ _ (by omega)]
      have a1 := hj i (by omega)
      have a2 := hj c (by omega)
      rw [if_neg (by omega)] at a1 a2
      by_cases e1 : j = c
      · rw [if_pos e1, if_pos (by omega), e1, show l.length - 1 - c = i by omega, ← a1]; rfl
      · rw [if_neg e1]
        by_cases e2 : j = i
        · rw [if_pos e2, if_pos (by omega), e2, show l.length - 1 - i = c by omega, ← a2]; rfl
        · rw [if_neg e2, hj j hjl]
          by_cases e3 : j < i ∨ l.length - 1 - j < i
          · rw [if_pos e3, if_pos (by omega)]
          · rw [if_neg e3, if_neg (by omega)]
    · rw [if_neg (by omega)]
      congr 1
      refine ext_getD (by simp [hm]) fun j hjl => ?_
      rw [hm] at hjl
      rw [hj j hjl, List.getElem?_reverse hjl]
      by_cases e3 : j < i ∨ l.length - 1 - j < i
      · rw [if_pos e3]
      · rw [if_neg e3, show l.length - 1 - j = j by omega]
theorem rev_f {l : List S30} (h1 : 1 ≤ l.length) (hl : l.length ≤ 40) {k : Nat} (hk : 50 ≤ k) : api_Point_38.f k l = some l.reverse := by
  unfold api_Point_38.f
  rw [wpred h1 (by omega)]
  exact rev_loop hl (l.length - 1) 0 k l (by omega) (by omega) rfl (fun j hj => by rw [if_neg (by omega)])
theorem turn_loop {l r : List S30} (hr : ∀ i, i < r.length → 0 ≤ X r i ∧ X r i ≤ 100000) (hrl : r.length = l.length) (h1 : 1 ≤ l.length) (hl : l.length ≤ 40) (hb : 0 ≤ last l ∧ last l ≤ 100000) : ∀ d i k (m : List S30), i + d = l.length → d < k → m.length = l.length →
    (∀ j, j < l.length → m[j]?.getD z30 = if j < i then ⟨last l - X r j, R r j⟩ else r[j]?.getD z30) → profile_Turn.l0 k l m (l.length : Int) (i : Int) = some (r.map fun z => ⟨last l - z.f0, z.f1⟩, 0)
  | 0, i, k, m, hd, hk, hm, hj => by
    obtain ⟨k, rfl⟩ : ∃ m, k = m + 1 := ⟨k - 1, by omega⟩
    simp only [profile_Turn.l0]
    rw [if_neg (by omega)]
    congr 2
    refine ext_getD (by simp [hm, hrl]) fun j hjl => ?_
    rw [hm] at hjl
    rw [hj j hjl, if_pos (by omega), List.getElem?_map]
    unfold X R
    rw [List.getElem?_eq_getElem (by omega)]
    rfl
  | d + 1, i, k, m, hd, hk, hm, hj => by
    obtain ⟨k, rfl⟩ : ∃ m, k = m + 1 := ⟨k - 1, by omega⟩
    simp only [profile_Turn.l0]
    rw [if_pos (by omega), length_f h1 (by omega), Option.bind_some, if_pos (by omega), if_pos (by omega), wsucc (by omega)]
    have e := hj i (by omega)
    rw [if_neg (by omega)] at e
    have hx := hr i (by omega)
    refine turn_loop hr hrl h1 hl hb d (i + 1) k _ (by omega) (by omega) (by simp [hm]) fun j hjl => ?_
    rw [Int.toNat_natCast, set_getD _ _ _ (by omega), rdP, e]
    by_cases e1 : j = i
    · rw [if_pos e1, if_pos (by omega), e1]
      show (⟨wrap64 (last l - X r i), R r i⟩ : S30) = _
      rw [wid (by omega) (by omega)]
    · rw [if_neg e1, hj j hjl]
      by_cases e2 : j < i
      · rw [if_pos e2, if_pos (by omega)]
      · rw [if_neg e2, if_neg (by omega)]
theorem Turn_ok {l : List S30} (h : Ok l) {k : Nat} (hk : 60 ≤ k) : profile_Turn.f k l = some (sTurn l, 0) := by
  have l2 := h.len2; have l32 := h.len32
  unfold profile_Turn.f
  rw [check_f, Option.bind_some, if_pos (ok_sCheck h), Option.bind_some, if_pos (by simp; omega), List.nil_append, Option.bind_some, rev_f (by omega) (by omega) (by omega), Option.bind_some]
  refine turn_loop (r := l.reverse) (fun i hi => ?_) (by simp) (by omega) (by omega) ⟨h.x0 _ (by omega), h.x1 _ (by omega)⟩ l.length 0 k _ (by omega) (by omega) (by simp) (fun j hj => by rw [if_neg (by omega)])
  have hi' : i < l.length := by simpa using hi
  have e : X l.reverse i = X l (l.length - 1 - i) := by unfold X; rw [List.getElem?_reverse hi']
  rw [e]
  exact ⟨h.x0 _ (by omega), h.x1 _ (by omega)⟩
theorem Turn_bad {l : List S30} (h : sCheck l ≠ 0) (k : Nat) : profile_Turn.f k l = some ([], sCheck l) := by
  unfold profile_Turn.f
  rw [check_f, Option.bind_some, if_neg h]

/-! ### inserting -/
/-- the first point at x or behind it -/
def First (l : List S30) (x : Int) (i : Nat) : Prop := i < l.length ∧ x ≤ X l i ∧ ∀ j, j < i → X l j < x
theorem first_one {l : List S30} {x : Int} {i j : Nat} (hi : First l x i) (hj : First l x j) : i = j := by
  rcases Nat.lt_trichotomy i j with q | q | q
  · have := hj.2.2 i q; have := hi.2.1; omega
  · exact q
  · have := hi.2.2 j q; have := hj.2.1; omega
theorem Ok.first {l : List S30} (h : Ok l) {x : Int} (h1 : x ≤ last l) : ∃ i, First l x i := by
  have := h.len2
  obtain ⟨i, h1, h2, h3⟩ := least (fun i => x ≤ X l i) (l.length - 1) h1
  exact ⟨i, by omega, h2, fun j hj => by have := h3 j hj; omega⟩
def insRes (l : List S30) (x : Int) (i : Nat) : List S30 × Int :=
  if X l i = x then ([], 6) else if (sAt l x).1 = (sAt l x).2 then (if l.length = 32 then ([], 12) else (sIns l i ⟨x, (sAt l x).1⟩, 0)) else ([], 10)
theorem ins_loop {l : List S30} (hl : l.length ≤ 32) {x : Int} {i : Nat} (hf : First l x i) : ∀ d j k, j + d = i → d + 3 < k → profile_Insert.l0 k l x (j : Int) (sAt l x).1 (sAt l x).2 = some (insRes l x i)
  | 0, j, k, hd, hk => by
    obtain ⟨k, rfl⟩ : ∃ m, k = m + 1 + 1 + 1 := ⟨k - 3, by omega⟩
    obtain rfl : j = i := by omega
    have h1 := hf.1
    have h2 := hf.2.1
    simp only [profile_Insert.l0]
    rw [if_pos (by omega), if_pos (by omega), rdX, if_neg (by omega)]
    simp only [profile_Insert.j1]
    rw [if_pos (by omega), if_pos (by omega), rdX]
    simp only [profile_Insert.j2]
    unfold insRes
    by_cases c : X l j = x
    · rw [if_pos c, if_pos (by simpa using c)]
    · rw [if_neg c, if_neg (by simpa using c)]
      by_cases c2 : (sAt l x).1 = (sAt l x).2
      · rw [if_pos c2, if_pos c2]
        by_cases c3 : l.length = 32
        · rw [if_pos c3, if_pos (by omega)]
        · rw [if_neg c3, if_neg (by omega), Option.bind_some, Option.bind_some, if_pos (by simp; omega), Option.bind_some, if_pos (by omega), if_pos (by omega), Option.bind_some, if_pos (by simp; omega)]
          unfold sIns
          simp
      · rw [if_neg c2, if_neg c2]
  | d + 1, j, k, hd, hk => by
    obtain ⟨k, rfl⟩ : ∃ m, k = m + 1 := ⟨k - 1, by omega⟩
    have h1 := hf.1
    have h3 := hf.2.2 j (by omega)
    simp only [profile_Insert.l0]
    rw [if_pos (by omega), if_pos (by omega), rdX, if_pos h3, wsucc (by omega)]
    exact ins_loop hl hf d (j + 1) k (by omega) (by omega)
theorem Insert_ok {l : List S30} (h : Ok l) {x : Int} (h0 : 0 ≤ x) (h1 : x ≤ last l) {i : Nat} (hf : First l x i) {k : Nat} (hk : 50 ≤ k) : profile_Insert.f k l x = some (insRes l x i) := by
  have := hf.1; have := h.len32
  unfold profile_Insert.f
  rw [At_ok h h0 h1, Option.bind_some, if_pos rfl]
  exact ins_loop h.len32 hf i 0 k (by omega) (by omega)
theorem Insert_out {l : List S30} (h : Ok l) {x : Int} (hx : x < 0 ∨ last l < x) (k : Nat) : profile_Insert.f k l x = some ([], 2) := by
  unfold profile_Insert.f
  rw [At_out h hx, Option.bind_some, if_neg (by decide)]
theorem Insert_bad {l : List S30} (h : sCheck l ≠ 0) (x : Int) (k : Nat) : profile_Insert.f k l x = some ([], 1) := by
  unfold profile_Insert.f
  rw [At_bad h, Option.bind_some, if_neg (by decide)]
theorem First.lies {l : List S30} (h : Ok l) {x : Int} (h0 : 0 ≤ x) {i : Nat} (hf : First l x i) (hx : X l i ≠ x) (he : (sAt l x).1 = (sAt l x).2) : Lies l i ⟨x, (sAt l x).1⟩ := by
  obtain ⟨h1, h2, h3⟩ := hf
  have hi : 0 < i := by
    rcases Nat.eq_zero_or_pos i with e | e
    · subst e; rw [h.zero] at h2 hx; omega
    · exact e
  have ho : on l (i - 1) x := ⟨by omega, Int.le_of_lt (h3 (i - 1) (by omega)), by rw [show i - 1 + 1 = i by omega]; exact h2⟩
  refine ⟨hi, h1, h3 (i - 1) (by omega), by show x < X l i; omega, ?_⟩
  rw [h.sAt_on ho] at he ⊢
  exact (fl_eq_ce (h.dn_pos ho.1) he).symm

/-! ### the inner profile -/
theorem measure_f (n : Int) : profile_measure.f n = some (meas n) := measure_spec n
theorem in_loop {l : List S30} (h : Ok l) {f g t : Int} (ht : 0 ≤ t ∧ t ≤ 100000) (hf : 0 ≤ f) (hg : g ≤ 100000) (hfg : f < g) : ∀ d i k, i + d = l.length → d < k →
    profile_Inside.l0 k l t f g ((⟨0, (sAt l f).1 - t⟩ : S30) :: mids (l.take i) f g t) l (l.length : Int) (i : Int) = some (if sCheck (sIn l f g t) = 0 then (sIn l f g t, 0) else ([], sCheck (sIn l f g t)))
  | 0, i, k, hd, hk => by
    obtain ⟨k, rfl⟩ : ∃ m, k = m + 1 := ⟨k - 1, by omega⟩
    have l32 := h.len32
    have e : l.take i = l := List.take_of_length_le (by omega)
    have hml : (mids l f g t).length ≤ l.length := by unfold mids; rw [List.length_map]; exact List.length_filter_le _ _
    have hlo : 0 ≤ (sAt l g).1 ∧ (sAt l g).1 ≤ 100001 := by
      by_cases c : g ≤ last l
      · obtain ⟨j, hj, _⟩ := h.stave (x := g) (by omega) c
        have a1 := h.ge_on hj (m := 0) (by have := h.r0 j (by have := hj.1; omega); omega) (by have := h.r0 (j + 1) hj.1; omega)
        have a2 := h.le_on hj (h.r1 j (by have := hj.1; omega)) (h.r1 (j + 1) hj.1)
        have a3 := h.lo_hi (x := g) (by omega) c
        omega
      · unfold sAt
        have : (upto (nb l) (l.length - 1)).find? (fun p => decide (g ≤ p.2.f0)) = none := by
          rw [List.find?_eq_none]
          intro p hp
          obtain ⟨j, hj, rfl⟩ := List.mem_map.1 hp
          have hj := List.mem_range.1 hj
          have := h.le (i := j + 1) (j := l.length - 1) (by omega) (by omega)
          simp only [decide_eq_true_eq]
          show ¬ g ≤ X l (j + 1)
          have : X l (l.length - 1) = last l := rfl
          omega
        rw [this]; simp
    simp only [profile_Inside.l0]
    rw [if_neg (by omega), e, h.at_f, Option.bind_some, if_pos (by simp only [List.length_cons]; omega), Option.bind_some, wid (x := g - f) (by omega) (by omega), wid (x := (sAt l g).1 - t) (by omega) (by omega)]
    change ((profile_Check.f (sIn l f g t)).bind _) = _
    rw [check_f, Option.bind_some]
    by_cases c : sCheck (sIn l f g t) = 0
    · rw [if_pos c, if_pos c]; rfl
    · rw [if_neg c, if_neg c]
  | d + 1, i, k, hd, hk => by
    obtain ⟨k, rfl⟩ : ∃ m, k = m + 1 := ⟨k - 1, by omega⟩
    have l32 := h.len32
    have hi : i < l.length := by omega
    have e : l.take (i + 1) = l.take i ++ [l[i]?.getD z30] := by
      rw [List.take_add_one, List.getElem?_eq_getElem hi]; rfl
    have hml : (mids (l.take i) f g t).length ≤ i := by
      unfold mids; rw [List.length_map]
      refine Nat.le_trans (List.length_filter_le _ _) ?_
      rw [List.length_take]; omega
    have x0 := h.x0 i hi; have x1 := h.x1 i hi; have r0 := h.r0 i hi; have r1 := h.r1 i hi
    have key : mids (l.take (i + 1)) f g t = if f < X l i ∧ X l i < g then mids (l.take i) f g t ++ [⟨X l i - f, R l i - t⟩] else mids (l.take i) f g t := by
      unfold mids
      rw [e, List.filter_append, List.map_append]
      by_cases c : f < X l i ∧ X l i < g
      · rw [if_pos c]
        have : decide (f < (l[i]?.getD z30).f0 ∧ (l[i]?.getD z30).f0 < g) = true := decide_eq_true c
        simp only [List.filter_cons, List.filter_nil, this, if_true, List.map_cons, List.map_nil]
        rfl
      · rw [if_neg c]
        have : decide (f < (l[i]?.getD z30).f0 ∧ (l[i]?.getD z30).f0 < g) = false := decide_eq_false c
        have e2 : ([l[i]?.getD z30].filter fun z => decide (f < z.f0 ∧ z.f0 < g)) = [] := List.filter_cons_of_neg (by rw [this]; exact Bool.false_ne_true)
        rw [e2, List.map_nil, List.append_nil]
    have ih := in_loop h ht hf hg hfg d (i + 1) k (by omega) (by omega)
    rw [key] at ih
    simp only [profile_Inside.l0]
    rw [if_pos (by omega), if_pos (by omega), if_pos (by omega), rdX, rdR, wsucc (by omega)]
    by_cases c1 : X l i > f
    · rw [if_pos c1]
      by_cases c2 : X l i < g
      · rw [if_pos c2, if_pos (by simp only [List.length_cons]; omega), wid (x := X l i - f) (by omega) (by omega), wid (x := R l i - t) (by omega) (by omega)]
        rw [if_pos ⟨by omega, c2⟩] at ih
        exact ih
      · rw [if_neg c2]
        rw [if_neg (by omega)] at ih
        exact ih
    · rw [if_neg c1]
      rw [if_neg (by omega)] at ih
      exact ih
/-- Inside answers no error only where all is right, and then so -/
theorem Inside_f (l : List S30) (t h : Int) {k : Nat} (hk : 50 ≤ k) : ∃ r : List S30 × Int, profile_Inside.f k l t h = some r ∧ (r.2 ≠ 0 → r.1 = []) ∧ (r.2 = 0 → Ok l ∧ 0 ≤ t ∧ t ≤ 100000 ∧ 0 ≤ h ∧ h < last l - h ∧ r.1 = sIn l h (last l - h) t ∧ Ok r.1) := by
  unfold profile_Inside.f
  rw [check_f, Option.bind_some]
  by_cases c : sCheck l = 0
  · have ho := sCheck_ok c
    have l2 := ho.len2; have l32 := ho.len32
    have b0 := ho.x0 (l.length - 1) (by omega)
    have b1 := ho.x1 (l.length - 1) (by omega)
    change 0 ≤ last l at b0
    change last l ≤ 100000 at b1
    obtain ⟨k, rfl⟩ : ∃ m, k = m + 1 := ⟨k - 1, by omega⟩
    rw [if_pos c, measure_f, Option.bind_some]
    by_cases c1 : meas t = true
    · rw [if_pos c1, measure_f, Option.bind_some]
      have t1 : 0 ≤ t ∧ t ≤ 100000 := of_decide_eq_true c1
      simp only [profile_Inside.j0]
      by_cases c2 : meas h = true
      · have h1 : 0 ≤ h ∧ h ≤ 100000 := of_decide_eq_true c2
        rw [if_neg (by simp [c2]), length_f (by omega) (by omega), Option.bind_some, wid (x := last l - h) (by omega) (by omega)]
        by_cases c3 : h ≥ last l - h
        · rw [if_pos c3]
          exact ⟨_, rfl, fun _ => rfl, fun e => by simp at e⟩
        · rw [if_neg c3, ho.at_f, Option.bind_some]
          obtain ⟨j, hj, _⟩ := ho.stave (x := h) h1.1 (by show h ≤ last l; omega)
          have a1 := ho.ge_on hj (m := 0) (by have := ho.r0 j (by have := hj.1; omega); omega) (by have := ho.r0 (j + 1) hj.1; omega)
          have a2 := ho.le_on hj (ho.r1 j (by have := hj.1; omega)) (ho.r1 (j + 1) hj.1)
          have a3 := ho.lo_hi (x := h) (by omega) (by show h ≤ last l; omega)
          rw [wid (x := (sAt l h).1 - t) (by omega) (by omega)]
          have := in_loop ho t1 h1.1 (g := last l - h) (by omega) (by omega) l.length 0 k (by omega) (by omega)
          rw [show mids (l.take 0) h (last l - h) t = [] from rfl] at this
          refine ⟨_, this, ?_, ?_⟩
          · intro e
            by_cases c4 : sCheck (sIn l h (last l - h) t) = 0
            · rw [if_pos c4] at e; exact absurd rfl e
            · rw [if_neg c4]
          · intro e
            by_cases c4 : sCheck (sIn l h (last l - h) t) = 0
            · rw [if_pos c4]
              exact ⟨ho, t1.1, t1.2, h1.1, by omega, rfl, sCheck_ok c4⟩
            · rw [if_neg c4] at e; exact absurd e c4
      · rw [if_pos (by simp [c2])]
        exact ⟨_, rfl, fun _ => rfl, fun e => by simp at e⟩
    · rw [if_neg c1]
      simp only [profile_Inside.j0]
      rw [if_pos trivial]
      exact ⟨_, rfl, fun _ => rfl, fun e => by simp at e⟩
  · rw [if_neg c]
    exact ⟨_, rfl, fun _ => rfl, fun e => by simp at e⟩

theorem few_f (l : List S30) : spileref08_Few.f l = some (decide ((l.length : Int) ≤ 33)) := rfl
end Go.Proofs.Ytdomdddponkmhaa.Prf
