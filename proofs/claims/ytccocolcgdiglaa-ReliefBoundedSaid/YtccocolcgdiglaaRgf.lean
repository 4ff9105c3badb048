import Derived.Test.YtccocolcgdiglaaRgb
/-! What Grant's answers are, item by item: for prefixes, for parts, and for one item more. -/
namespace Go.Proofs.Ytccocolcgdiglaa.Rel
set_option linter.unusedVariables false
set_option linter.unusedSimpArgs false
open Go.RowKit Go.Proofs.Ytccocolcgdiglaa.X Go.Proofs.Ytccocolcgdiglaa.It Go.Proofs.YtccocolcgdiglaaW.PrintWords Go.Proofs.YtccocolcgdiglaaW.PrintLast Go.Proofs.YtccocolcgdiglaaW.PrintMore

theorem I_get {xs : List S25} {i : Nat} (h : i < xs.length) : I xs i = xs[i] := by unfold I; rw [List.getD_eq_getElem?_getD, List.getElem?_eq_getElem h]; rfl
theorem R_get {l : List S33} {i : Nat} (h : i < l.length) : R l i = l[i] := by unfold R; rw [List.getD_eq_getElem?_getD, List.getElem?_eq_getElem h]; rfl

/-! ### which items are right -/
/-- comes ahead of, and is another one -/
def ahead (a b : S25) : Prop := (a.f2 < b.f2 ∨ (a.f2 = b.f2 ∧ a.f0 < b.f0)) ∧ a.f0 ≠ b.f0
def late (xs : List S25) (i : Nat) : Bool := if 0 < i then behind (I xs i) (I xs (i - 1)) else false
theorem errI_eq (xs : List S25) (i : Nat) : errI xs i = (if okI (I xs i) = true then (if late xs i = true then some ((i : Int), 5) else if twice xs i = true then some ((i : Int), 6) else none) else some ((i : Int), 2)) := rfl
theorem late_false {xs : List S25} {i : Nat} : late xs i = false ↔ (0 < i → behind (I xs i) (I xs (i - 1)) = false) := by
  unfold late
  by_cases h : 0 < i
  · rw [if_pos h]; exact ⟨fun e _ => e, fun e => e h⟩
  · rw [if_neg h]; exact ⟨fun _ e => absurd e h, fun _ => rfl⟩
theorem itmF_zero (xs : List S25) : ∀ d, d ≤ xs.length → ((itmF xs d).2 = 0 ↔ ∀ i, xs.length - d ≤ i → i < xs.length → errI xs i = none)
  | 0, _ => ⟨fun _ i h1 h2 => by omega, fun _ => rfl⟩
  | d + 1, hd => by
    rw [itmF_succ]
    have hnz : ∀ e, errI xs (xs.length - (d + 1)) = some e → e.2 ≠ 0 := by
      intro e he
      rw [errI_eq] at he
      split at he
      · split at he
        · obtain rfl := Option.some.inj he; exact (by decide : (5 : Int) ≠ 0)
        · split at he
          · obtain rfl := Option.some.inj he; exact (by decide : (6 : Int) ≠ 0)
          · cases he
      · obtain rfl := Option.some.inj he; exact (by decide : (2 : Int) ≠ 0)
    constructor
    · intro h i h1 h2
      cases e : errI xs (xs.length - (d + 1)) with
      | some x => rw [e] at h; exact absurd h (hnz x e)
      | none =>
        rw [e] at h
        by_cases c : i = xs.length - (d + 1)
        · rw [c]; exact e
        · exact ((itmF_zero xs d (by omega)).1 h) i (by omega) h2
    · intro h
      rw [h (xs.length - (d + 1)) (Nat.le_refl _) (by omega)]
      exact (itmF_zero xs d (by omega)).2 (fun i h1 h2 => h i (by omega) h2)
theorem twice_false {xs : List S25} {i : Nat} (hi : i < xs.length) : twice xs i = false ↔ ∀ j, j < i → (I xs j).f0 ≠ (I xs i).f0 := by
  unfold twice
  rw [List.any_eq_false]
  constructor
  · intro h j hj e
    refine h (I xs j) ?_ (by simp [e])
    rw [I_get (by omega)]
    exact List.mem_take_iff_getElem.2 ⟨j, by omega, rfl⟩
  · intro h y hy
    obtain ⟨j, hj, rfl⟩ := List.mem_take_iff_getElem.1 hy
    have := h j (by omega)
    rw [I_get (show j < xs.length by omega)] at this
    simpa using this
theorem errI_none {xs : List S25} {i : Nat} (hi : i < xs.length) : errI xs i = none ↔ okI (I xs i) = true ∧ (0 < i → behind (I xs i) (I xs (i - 1)) = false) ∧ ∀ j, j < i → (I xs j).f0 ≠ (I xs i).f0 := by
  rw [← twice_false hi, ← late_false, errI_eq]
  cases okI (I xs i) <;> cases late xs i <;> cases twice xs i <;> simp
theorem behind_false {x p : S25} : behind x p = false ↔ (p.f2 < x.f2 ∨ (p.f2 = x.f2 ∧ p.f0 < x.f0)) := by
  unfold behind
  by_cases h1 : x.f2 < p.f2
  · rw [if_pos h1]; simp; omega
  · rw [if_neg h1]
    by_cases h2 : x.f2 = p.f2
    · rw [if_pos h2, decide_eq_false_iff_not]; omega
    · rw [if_neg h2]; simp; omega
/-- the items are right -/
def Vi (xs : List S25) : Prop := xs.length ≤ 64 ∧ (∀ x ∈ xs, okI x = true) ∧ xs.Pairwise ahead
theorem itmS_iff (xs : List S25) : (itmS xs).2 = 0 ↔ Vi xs := by
  unfold itmS Vi
  by_cases hl : 64 < xs.length
  · rw [if_pos hl]
    exact ⟨fun h => absurd h (by decide), fun h => by omega⟩
  · rw [if_neg hl, itmF_zero xs xs.length (Nat.le_refl _)]
    constructor
    · intro h
      have hall : ∀ i, i < xs.length → _ := fun i hi => (errI_none hi).1 (h i (by omega) hi)
      have hlt : ∀ j i, i < xs.length → j < i → ((I xs j).f2 < (I xs i).f2 ∨ ((I xs j).f2 = (I xs i).f2 ∧ (I xs j).f0 < (I xs i).f0)) := by
        intro j i
        induction i with
        | zero => intro _ hj; omega
        | succ i ih =>
          intro hi hj
          have h1 := behind_false.1 ((hall (i + 1) hi).2.1 (by omega))
          rw [show i + 1 - 1 = i by omega] at h1
          by_cases c : j = i
          · subst c; exact h1
          · have h2 := ih (by omega) (by omega)
            omega
      refine ⟨by omega, fun x hx => ?_, ?_⟩
      · obtain ⟨i, hi, rfl⟩ := List.mem_iff_getElem.1 hx
        have := (hall i hi).1
        rwa [I_get hi] at this
      · rw [List.pairwise_iff_getElem]
        intro i j hi hj hij
        have h1 := hlt i j hj hij
        have h2 := (hall j hj).2.2 i hij
        rw [I_get hi, I_get hj] at h1 h2
        exact ⟨h1, h2⟩
    · rintro ⟨_, h1, h2⟩ i _ hi
      rw [List.pairwise_iff_getElem] at h2
      refine (errI_none hi).2 ⟨by rw [I_get hi]; exact h1 _ (List.getElem_mem hi), fun h0 => ?_, fun j hj => ?_⟩
      · have := h2 (i - 1) i (by omega) hi (by omega)
        rw [behind_false, I_get hi, I_get (show i - 1 < xs.length by omega)]
        exact this.1
      · have := h2 j i (by omega) hi hj
        rw [I_get hi, I_get (show j < xs.length by omega)]
        exact this.2
theorem Vi.sub {xs ys : List S25} (h : Vi xs) (hs : ys.Sublist xs) : Vi ys := ⟨Nat.le_trans hs.length_le h.1, fun y hy => h.2.1 y (hs.subset hy), h.2.2.sublist hs⟩
/-- another relief is asked for by the last item -/
theorem Vi.last {xs : List S25} {x y : S25} (h : Vi (xs ++ [x])) (h0 : y.f0 = x.f0) (h1 : y.f1 = x.f1) (h2 : y.f2 = x.f2) (h3 : y.f3 = x.f3) (h4 : 0 ≤ y.f4 ∧ y.f4 ≤ 1073741824) : Vi (xs ++ [y]) := by
  obtain ⟨a, b, c⟩ := h
  refine ⟨by simpa using a, fun z hz => ?_, ?_⟩
  · rcases List.mem_append.1 hz with hz | hz
    · exact b z (List.mem_append.2 (.inl hz))
    · obtain rfl := List.mem_singleton.1 hz
      have hx := b x (List.mem_append.2 (.inr (List.mem_singleton.2 rfl)))
      unfold okI at hx ⊢
      rw [h0, h1, h2, h3]
      simp only [Bool.and_eq_true, btw_true] at hx ⊢
      omega
  · rw [List.pairwise_append] at c ⊢
    refine ⟨c.1, List.pairwise_singleton _ _, fun p hp q hq => ?_⟩
    obtain rfl := List.mem_singleton.1 hq
    have := c.2.2 p hp x (List.mem_singleton.2 rfl)
    unfold ahead at this ⊢
    rw [h0, h2]
    exact this

/-! ### the reliefs' IDs -/
def Asc (l : List S33) : Prop := ∀ i, 0 < i → i < l.length → (R l (i - 1)).f0 < (R l i).f0
theorem asc_lt {l : List S33} (h : Asc l) : ∀ j i, i < l.length → j < i → (R l j).f0 < (R l i).f0 := by
  intro j i
  induction i with
  | zero => intro _ hj; omega
  | succ i ih =>
    intro hi hj
    have h1 := h (i + 1) (by omega) hi
    rw [show i + 1 - 1 = i by omega] at h1
    by_cases c : j = i
    · subst c; exact h1
    · have h2 := ih (by omega) (by omega)
      omega
theorem idx_self {l : List S33} (h : Asc l) {j : Nat} (hj : j < l.length) : idxR l (R l j).f0 = (j : Int) := by
  rcases idx_spec l (R l j).f0 with ⟨_, h2⟩ | ⟨i, h1, h2, h3, _⟩
  · exact absurd rfl (h2 j hj)
  · rcases Nat.lt_trichotomy i j with c | c | c
    · have := asc_lt h i j hj c; omega
    · rw [h2, c]
    · have := asc_lt h j i h1 c; omega

/-! ### item by item -/
/-- what an item gets, or none -/
def val (l : List S33) (x : S25) (g : Int) : Option Int := if x.f4 = 0 then some 0 else if idxR l x.f4 < 0 then none else if appl (R l (idxR l x.f4).toNat) x = true then some (getsN (R l (idxR l x.f4).toNat) x.f3 g) else none
/-- the first items got that -/
def Ups (l : List S33) (xs : List S25) (out : List Int) : Prop := ∀ k, k < out.length → val l (I xs k) (Mpi.gv xs (out.take k) (I xs k).f4) = some (out.getD k 0)
theorem grS_val {l : List S33} {xs : List S25} {d : Nat} {out : List Int} {i : Nat} (hi : xs.length - (d + 1) = i) {v : Int} (h : val l (I xs i) (Mpi.gv xs out (I xs i).f4) = some v) : grS l xs (d + 1) out = grS l xs d (out ++ [v]) := by
  rw [grS_succ, hi]
  unfold val at h
  split at h
  · rename_i c; cases h; rw [if_pos c]
  · rename_i c
    rw [if_neg c]
    split at h
    · cases h
    · rename_i c2
      rw [if_neg c2]
      split at h
      · rename_i c3; cases h; rw [if_pos c3]
      · cases h
theorem take_snoc {out : List Int} {i : Nat} (h : i < out.length) : out.take (i + 1) = out.take i ++ [out.getD i 0] := by
  rw [List.take_add_one, List.getElem?_eq_getElem h, List.getD_eq_getElem?_getD, List.getElem?_eq_getElem h]; rfl
theorem grS_ups {l : List S33} {xs : List S25} {out : List Int} (h : Ups l xs out) (hl : out.length ≤ xs.length) : ∀ i, i ≤ out.length → grS l xs xs.length [] = grS l xs (xs.length - i) (out.take i)
  | 0, _ => by simp
  | i + 1, hi => by
    rw [grS_ups h hl i (by omega)]
    obtain ⟨d, hd⟩ : ∃ d, xs.length - i = d + 1 := ⟨xs.length - i - 1, by omega⟩
    rw [hd, grS_val (i := i) (by omega) (h i (by omega)), ← take_snoc (by omega), show xs.length - (i + 1) = d by omega]
theorem ups_grS {l : List S33} {xs : List S25} : ∀ d out, d ≤ xs.length → out.length + d = xs.length → Ups l xs out → (grS l xs d out).2.2 = 0 → Ups l xs (grS l xs d out).1 ∧ grS l xs d out = ((grS l xs d out).1, -1, 0)
  | 0, out, _, _, h, _ => ⟨h, rfl⟩
  | d + 1, out, hd, hl, h, e => by
    have hi : xs.length - (d + 1) = out.length := by omega
    have key : ∀ v, val l (I xs out.length) (Mpi.gv xs out (I xs out.length).f4) = some v → Ups l xs (out ++ [v]) := by
      intro v hv k hk
      rw [List.length_append] at hk
      simp only [List.length_cons, List.length_nil] at hk
      by_cases c : k < out.length
      · rw [List.take_append_of_le_length (by omega)]
        have := h k c
        rw [this]
        congr 1
        rw [List.getD_eq_getElem?_getD, List.getD_eq_getElem?_getD, List.getElem?_append_left c]
      · obtain rfl : k = out.length := by omega
        rw [List.take_append_of_le_length (Nat.le_refl _), List.take_length, hv]
        simp [List.getD]
    cases hv : val l (I xs out.length) (Mpi.gv xs out (I xs out.length).f4) with
    | some v =>
      rw [grS_val hi hv] at e ⊢
      exact ups_grS d _ (by omega) (by simp; omega) (key v hv) e
    | none =>
      exfalso
      rw [grS_succ, hi] at e
      unfold val at hv
      split at hv
      · cases hv
      · rename_i c
        rw [if_neg c] at e
        split at hv
        · rename_i c2; rw [if_pos c2] at e; cases e
        · rename_i c2
          rw [if_neg c2] at e
          split at hv
          · cases hv
          · rename_i c3; rw [if_neg c3] at e; cases e
/-- Grant's answer is out -/
def Got (l : List S33) (xs : List S25) (out : List Int) : Prop := (chkS l).2 = 0 ∧ Vi xs ∧ out.length = xs.length ∧ Ups l xs out
theorem got_of {l : List S33} {xs : List S25} (h : (grantS l xs).2.2 = 0) : Got l xs (grantS l xs).1 ∧ grantS l xs = ((grantS l xs).1, -1, 0) := by
  obtain ⟨h1, h2, h3, h4⟩ := grantS_ok h
  rw [h3] at h
  have k := ups_grS (l := l) (xs := xs) xs.length [] (Nat.le_refl _) (by simp) (fun k hk => by simp at hk) h
  rw [← h3] at k
  exact ⟨⟨h1, (itmS_iff xs).1 h2, h4, k.1⟩, k.2⟩
theorem Got.grant {l : List S33} {xs : List S25} {out : List Int} (h : Got l xs out) : grantS l xs = (out, -1, 0) := by
  obtain ⟨h1, h2, h3, h4⟩ := h
  unfold grantS
  rw [if_pos ⟨h1, (itmS_iff xs).2 h2⟩, grS_ups h4 (by omega) out.length (Nat.le_refl _), List.take_length, show xs.length - out.length = 0 by omega]
  rfl
theorem gv_congr {xs ys : List S25} (ns : List Int) (id : Int) (h : ∀ j, j < ns.length → I xs j = I ys j) : Mpi.gv xs ns id = Mpi.gv ys ns id := gvU_congr ns id ns.length h
theorem I_take {xs : List S25} {n j : Nat} (h : j < n) : I (xs.take n) j = I xs j := by
  unfold I
  rw [List.getD_eq_getElem?_getD, List.getD_eq_getElem?_getD, List.getElem?_take_of_lt h]
theorem I_append {xs ys : List S25} {j : Nat} (h : j < xs.length) : I (xs ++ ys) j = I xs j := by
  unfold I
  rw [List.getD_eq_getElem?_getD, List.getD_eq_getElem?_getD, List.getElem?_append_left h]
theorem I_last (xs : List S25) (x : S25) : I (xs ++ [x]) xs.length = x := by unfold I; simp [List.getD]
/-- later items do not matter -/
theorem Got.take {l : List S33} {xs : List S25} {out : List Int} (h : Got l xs out) (n : Nat) : Got l (xs.take n) (out.take n) := by
  obtain ⟨h1, h2, h3, h4⟩ := h
  refine ⟨h1, h2.sub (List.take_sublist _ _), by simp [h3], fun k hk => ?_⟩
  rw [List.length_take] at hk
  have hkn : k < n := by omega
  have := h4 k (by omega)
  rw [I_take hkn, List.take_take, Nat.min_eq_left (by omega), gv_congr (ys := xs) _ _ (fun j hj => I_take (by rw [List.length_take] at hj; omega)), this]
  congr 1
  rw [List.getD_eq_getElem?_getD, List.getD_eq_getElem?_getD, List.getElem?_take_of_lt hkn]
/-- one item more -/
theorem Got.snoc {l : List S33} {xs : List S25} {out : List Int} (h : Got l xs out) {x : S25} {v : Int} (hv : Vi (xs ++ [x])) (hx : val l x (Mpi.gv xs out x.f4) = some v) : Got l (xs ++ [x]) (out ++ [v]) := by
  obtain ⟨h1, h2, h3, h4⟩ := h
  refine ⟨h1, hv, by simp [h3], fun k hk => ?_⟩
  rw [List.length_append] at hk
  simp only [List.length_cons, List.length_nil] at hk
  by_cases c : k < out.length
  · have := h4 k c
    rw [List.take_append_of_le_length (by omega), I_append (by omega), gv_congr (ys := xs) _ _ (fun j hj => I_append (by rw [List.length_take] at hj; omega)), this]
    congr 1
    rw [List.getD_eq_getElem?_getD, List.getD_eq_getElem?_getD, List.getElem?_append_left c]
  · obtain rfl : k = out.length := by omega
    rw [List.take_append_of_le_length (Nat.le_refl _), List.take_length, h3, I_last, gv_congr (ys := xs) _ _ (fun j hj => I_append (by omega)), hx]
    simp [List.getD, ← h3]
/-- .. that is denied -/
theorem Got.denied {l : List S33} {xs : List S25} {out : List Int} (h : Got l xs out) {x : S25} (hv : Vi (xs ++ [x])) (h0 : x.f4 ≠ 0) (hi : ¬ idxR l x.f4 < 0) (ha : appl (R l (idxR l x.f4).toNat) x = false) : grantS l (xs ++ [x]) = ([], (xs.length : Int), 19) := by
  obtain ⟨h1, h2, h3, h4⟩ := h
  have hu : Ups l (xs ++ [x]) out := by
    intro k hk
    have := h4 k hk
    rw [I_append (by omega), gv_congr (ys := xs) _ _ (fun j hj => I_append (by rw [List.length_take] at hj; omega)), this]
  unfold grantS
  rw [if_pos ⟨h1, (itmS_iff _).2 hv⟩, grS_ups hu (by simp; omega) out.length (Nat.le_refl _), List.take_length, show (xs ++ [x]).length - out.length = 0 + 1 by simp; omega, grS_succ,
    show (xs ++ [x]).length - (0 + 1) = xs.length by simp, I_last, if_neg h0, if_neg hi, if_neg (by simp [ha])]
end Go.Proofs.Ytccocolcgdiglaa.Rel
