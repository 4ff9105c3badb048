import Derived.Test.YtccocolcgdiglaaRga
import Derived.Test.YtccocolcgdiglaaBst
import Derived.Test.YtccocolcgdiglaaGrl
import Derived.Test.YtccocolcgdiglaaClr
import Derived.Test.YtccocolcgdiglaaCli
import Derived.Test.YtccocolcgdiglaaXx2
/-! What Grant comes to, in plain numbers; the reference's is the same. -/
namespace Go.Proofs.Ytccocolcgdiglaa.Rel
set_option linter.unusedVariables false
set_option linter.unusedSimpArgs false
open Go.RowKit Go.Proofs.Ytccocolcgdiglaa.X Go.Proofs.Ytccocolcgdiglaa.It Go.Proofs.YtccocolcgdiglaaW.PrintWords Go.Proofs.YtccocolcgdiglaaW.PrintLast Go.Proofs.YtccocolcgdiglaaW.PrintMore

theorem cloneR_f {l : List S33} (h : l.length ≤ 1000) : api_Relief_13.f l = some l := by unfold api_Relief_13.f; rw [if_pos (by omega)]
theorem cloneI_f {l : List S25} (h : l.length ≤ 1000) : api_Item_14.f l = some l := by unfold api_Item_14.f; rw [if_pos (by omega)]

/-! ### slices.Equal -/
theorem equal_l0 {a b : List Int} (hl : a.length = b.length) (hb : a.length ≤ 1000) : ∀ d i k, i + d = a.length → d < k → slices_Equal_int_int.l0 k a b (a.length : Int) (i : Int) = some (decide (a.drop i = b.drop i))
  | 0, i, k, hd, hk => by
    obtain ⟨k, rfl⟩ : ∃ m, k = m + 1 := ⟨k - 1, by omega⟩
    simp only [slices_Equal_int_int.l0]
    rw [if_neg (by omega), List.drop_eq_nil_of_le (by omega), List.drop_eq_nil_of_le (by omega)]
    rfl
  | d + 1, i, k, hd, hk => by
    obtain ⟨k, rfl⟩ : ∃ m, k = m + 1 := ⟨k - 1, by omega⟩
    have ih := equal_l0 hl hb d (i + 1) k (by omega) (by omega)
    simp only [slices_Equal_int_int.l0]
    rw [if_pos (by omega), if_pos (by omega), if_pos (by omega), if_pos (by omega), wsucc (by omega), ih]
    have ha : i < a.length := by omega
    have hb' : i < b.length := by omega
    rw [List.drop_eq_getElem_cons ha, List.drop_eq_getElem_cons hb']
    have e1 : rd a (i : Int) = a[i] := by unfold rd; simp [List.getD, ha]
    have e2 : rd b (i : Int) = b[i] := by unfold rd; simp [List.getD, hb']
    rw [e1, e2]
    by_cases c : a[i] = b[i]
    · rw [if_pos c, c]; exact congrArg some (decide_eq_decide.2 ⟨fun e => by rw [e], fun e => (List.cons.inj e).2⟩)
    · rw [if_neg c, decide_eq_false (fun e => c (List.cons.inj e).1)]
theorem equal_f {a b : List Int} (hb : a.length ≤ 1000) {k : Nat} (hk : 2000 ≤ k) : slices_Equal_int_int.f k a b = some (decide (a = b)) := by
  unfold slices_Equal_int_int.f
  by_cases c : a.length = b.length
  · rw [if_pos (by omega)]
    have := equal_l0 c hb a.length 0 k (by omega) (by omega)
    rwa [List.drop_zero, List.drop_zero] at this
  · rw [if_neg (by omega), decide_eq_false (fun e => c (by rw [e]))]

/-! ### find -/
theorem fidx_succ (l : List S33) (a : Int) (n : Nat) : fidx l a (n + 1) = (if (l.getD (l.length - (n + 1)) z33).f0 = a then ((l.length - (n + 1) : Nat) : Int) else fidx l a n) := rfl
/-- there is none, or the first one -/
theorem fidx_spec (l : List S33) (a : Int) : ∀ d, d ≤ l.length → (fidx l a d = -1 ∧ ∀ i, l.length - d ≤ i → i < l.length → (R l i).f0 ≠ a) ∨ (∃ i, i < l.length ∧ l.length - d ≤ i ∧ fidx l a d = (i : Int) ∧ (R l i).f0 = a ∧ ∀ j, l.length - d ≤ j → j < i → (R l j).f0 ≠ a)
  | 0, _ => .inl ⟨rfl, fun i h1 h2 => by omega⟩
  | d + 1, hd => by
    rw [fidx_succ]
    by_cases c : (R l (l.length - (d + 1))).f0 = a
    · rw [if_pos (show (l.getD (l.length - (d + 1)) z33).f0 = a from c)]
      exact .inr ⟨l.length - (d + 1), by omega, Nat.le_refl _, rfl, c, fun j h1 h2 => by omega⟩
    · rw [if_neg (show ¬ (l.getD (l.length - (d + 1)) z33).f0 = a from c)]
      rcases fidx_spec l a d (by omega) with ⟨h1, h2⟩ | ⟨i, h1, h2, h3, h4, h5⟩
      · refine .inl ⟨h1, fun i h3 h4 => ?_⟩
        by_cases e : i = l.length - (d + 1)
        · rw [e]; exact c
        · exact h2 i (by omega) h4
      · refine .inr ⟨i, h1, by omega, h3, h4, fun j h6 h7 => ?_⟩
        by_cases e : j = l.length - (d + 1)
        · rw [e]; exact c
        · exact h5 j (by omega) h7
theorem idx_spec (l : List S33) (a : Int) : (idxR l a = -1 ∧ ∀ i, i < l.length → (R l i).f0 ≠ a) ∨ (∃ i, i < l.length ∧ idxR l a = (i : Int) ∧ (R l i).f0 = a ∧ ∀ j, j < i → (R l j).f0 ≠ a) := by
  rcases fidx_spec l a l.length (Nat.le_refl _) with ⟨h1, h2⟩ | ⟨i, h1, h2, h3, h4, h5⟩
  · exact .inl ⟨h1, fun i hi => h2 i (by omega) hi⟩
  · exact .inr ⟨i, h1, h3, h4, fun j hj => h5 j (by omega) hj⟩

/-! ### given -/
theorem gvU_succ (xs : List S25) (ns : List Int) (id : Int) (i : Nat) : Mpi.gvU xs ns id (i + 1) = (if (I xs i).f4 = id then wrap64 (Mpi.gvU xs ns id i + ns.getD i 0) else Mpi.gvU xs ns id i) := rfl
/-- what is given does not depend on later items -/
theorem gvU_congr {xs ys : List S25} (ns : List Int) (id : Int) : ∀ i, (∀ j, j < i → I xs j = I ys j) → Mpi.gvU xs ns id i = Mpi.gvU ys ns id i
  | 0, _ => rfl
  | i + 1, h => by
    rw [gvU_succ, gvU_succ, gvU_congr ns id i (fun j hj => h j (by omega)), h i (by omega)]

/-! ### gets and applies -/
/-! ### grant -/
/-- what d more items get -/
def grS (l : List S33) (xs : List S25) : Nat → List Int → List Int × Int × Int
  | 0, out => (out, -1, 0)
  | d + 1, out =>
    if (I xs (xs.length - (d + 1))).f4 = 0 then grS l xs d (out ++ [0])
    else if idxR l (I xs (xs.length - (d + 1))).f4 < 0 then ([], ((xs.length - (d + 1) : Nat) : Int), 7)
    else if appl (R l (idxR l (I xs (xs.length - (d + 1))).f4).toNat) (I xs (xs.length - (d + 1))) = true then
      grS l xs d (out ++ [getsN (R l (idxR l (I xs (xs.length - (d + 1))).f4).toNat) (I xs (xs.length - (d + 1))).f3 (Mpi.gv xs out (I xs (xs.length - (d + 1))).f4)])
    else ([], ((xs.length - (d + 1) : Nat) : Int), 19)
def grantS (l : List S33) (xs : List S25) : List Int × Int × Int := if (chkS l).2 = 0 ∧ (itmS xs).2 = 0 then grS l xs xs.length [] else ([], -1, 1)
/-- the reliefs are all in range -/
def okAll (l : List S33) : Prop := ∀ i, i < l.length → okR (R l i) = true
theorem chkF_zero (l : List S33) : ∀ d, d ≤ l.length → (chkF l d).2 = 0 → ∀ i, l.length - d ≤ i → i < l.length → errR l i = none
  | 0, _, _, i, h1, h2 => by omega
  | d + 1, hd, h, i, h1, h2 => by
    rw [chkF_succ] at h
    cases e : errR l (l.length - (d + 1)) with
    | some x =>
      rw [e] at h
      exfalso
      unfold errR at e
      split at e
      · split at e
        · split at e
          · cases e; cases h
          · cases e
        · cases e; cases h
      · cases e; cases h
    | none =>
      rw [e] at h
      by_cases c : i = l.length - (d + 1)
      · rw [c]; exact e
      · exact chkF_zero l d (by omega) h i (by omega) h2
theorem errR_none {l : List S33} {i : Nat} (h : errR l i = none) : okR (R l i) = true ∧ (0 < i → (R l (i - 1)).f0 < (R l i).f0) := by
  unfold errR at h
  split at h
  · rename_i h1
    split at h
    · split at h
      · cases h
      · rename_i h2; exact ⟨h1, fun hi => by have : ¬ (R l i).f0 ≤ (R l (i - 1)).f0 := fun h3 => h2 ⟨hi, h3⟩; omega⟩
    · cases h
  · cases h
theorem chkS_zero {l : List S33} (h : (chkS l).2 = 0) : l.length ≤ 16 ∧ okAll l ∧ ∀ i, 0 < i → i < l.length → (R l (i - 1)).f0 < (R l i).f0 := by
  unfold chkS at h
  by_cases c : 16 < l.length
  · rw [if_pos c] at h; cases h
  · rw [if_neg c] at h
    have k := chkF_zero l l.length (Nat.le_refl _) h
    exact ⟨by omega, fun i hi => (errR_none (k i (by omega) hi)).1, fun i h0 hi => (errR_none (k i (by omega) hi)).2 h0⟩
theorem itmS_len {xs : List S25} (h : (itmS xs).2 = 0) : xs.length ≤ 64 := by
  unfold itmS at h
  by_cases c : 64 < xs.length
  · rw [if_pos c] at h; cases h
  · omega
theorem okR_spec {r : S33} (h : okR r = true) : (1 ≤ r.f0 ∧ r.f0 ≤ 1073741824) ∧ (0 ≤ r.f2 ∧ r.f2 ≤ 9) ∧ (0 ≤ r.f3 ∧ r.f3 ≤ 100000) ∧ (r.f3 ≤ r.f4 ∧ r.f4 ≤ 100000) ∧ (1 ≤ r.f5 ∧ r.f5 ≤ 10000) ∧ (0 ≤ r.f6 ∧ r.f6 ≤ 10737418240000) := by
  unfold okR at h
  simpa only [Bool.and_eq_true, btw_true] using h
/-- find, where there is one, and where there is none -/
theorem find_none {l : List S33} {a : Int} (hl : l.length ≤ 1000) (h : idxR l a < 0) : relief_find.f l a = some (0, (⟨#[]⟩ : ByteArray), 0, 0, 0, 0, 0, false) := by
  unfold relief_find.f api_Relief_42.f
  rw [if_pos (by omega), Option.bind_some, if_pos h]
theorem find_some {l : List S33} {a : Int} (hl : l.length ≤ 1000) (h : ¬ idxR l a < 0) : idxR l a < (l.length : Int) ∧ relief_find.f l a = some ((R l (idxR l a).toNat).f0, (R l (idxR l a).toNat).f1, (R l (idxR l a).toNat).f2, (R l (idxR l a).toNat).f3, (R l (idxR l a).toNat).f4, (R l (idxR l a).toNat).f5, (R l (idxR l a).toNat).f6, true) ∧ (R l (idxR l a).toNat).f0 = a := by
  rcases idx_spec l a with ⟨h1, _⟩ | ⟨i, h1, h2, h3, _⟩
  · omega
  · have hlt : idxR l a < (l.length : Int) := by omega
    refine ⟨hlt, ?_, ?_⟩
    · unfold relief_find.f api_Relief_42.f
      rw [if_pos (by omega), Option.bind_some, if_neg h, if_pos (by omega), if_pos hlt]
      rfl
    · rw [h2, show ((i : Int)).toNat = i by simp]; exact h3
theorem grS_succ (l : List S33) (xs : List S25) (d : Nat) (out : List Int) : grS l xs (d + 1) out = (if (I xs (xs.length - (d + 1))).f4 = 0 then grS l xs d (out ++ [0])
    else if idxR l (I xs (xs.length - (d + 1))).f4 < 0 then ([], ((xs.length - (d + 1) : Nat) : Int), 7)
    else if appl (R l (idxR l (I xs (xs.length - (d + 1))).f4).toNat) (I xs (xs.length - (d + 1))) = true then
      grS l xs d (out ++ [getsN (R l (idxR l (I xs (xs.length - (d + 1))).f4).toNat) (I xs (xs.length - (d + 1))).f3 (Mpi.gv xs out (I xs (xs.length - (d + 1))).f4)])
    else ([], ((xs.length - (d + 1) : Nat) : Int), 19)) := rfl
theorem grant_l0 {l : List S33} {xs : List S25} (hl : l.length ≤ 16) (hx : xs.length ≤ 64) (hk : okAll l) : ∀ d i k out, i + d = xs.length → out.length = i → d < k →
    relief_grant.l0 k l 0 out xs (xs.length : Int) (i : Int) = some ((grS l xs d out).1, 0, (grS l xs d out).2.1, (grS l xs d out).2.2)
  | 0, i, k, out, hd, ho, hk' => by
    obtain ⟨k, rfl⟩ : ∃ m, k = m + 1 := ⟨k - 1, by omega⟩
    simp only [relief_grant.l0]
    rw [if_neg (by omega)]
    rfl
  | d + 1, i, k, out, hd, ho, hk' => by
    obtain ⟨k, rfl⟩ : ∃ m, k = m + 1 := ⟨k - 1, by omega⟩
    simp only [relief_grant.l0]
    rw [if_pos (by omega), if_pos (by omega), if_pos (by omega), rdI, grS_succ, show xs.length - (d + 1) = i by omega]
    by_cases c : (I xs i).f4 = 0
    · rw [if_pos c, if_pos c, if_pos (by omega), wsucc (by omega)]
      exact grant_l0 hl hx hk d (i + 1) k _ (by omega) (by simp [ho]) (by omega)
    · rw [if_neg c, if_neg c]
      by_cases c2 : idxR l (I xs i).f4 < 0
      · rw [find_none (by omega) c2, Option.bind_some, if_pos c2]
        simp
      · obtain ⟨f1, f2, f3⟩ := find_some (by omega) c2
        rw [f2, Option.bind_some, if_neg c2]
        dsimp only
        rw [if_pos rfl]
        simp only [appl_f]
        rw [Option.bind_some]
        cases c3 : appl (R l (idxR l (I xs i).f4).toNat) (I xs i) with
        | false => simp
        | true =>
          have hok := okR_spec (hk (idxR l (I xs i).f4).toNat (by omega))
          rw [if_pos rfl, if_pos rfl]
          simp only [gets_f]
          rw [Option.bind_some, if_pos (by refine ⟨f3, ?_, ?_, ?_⟩ <;> omega), wsucc (by omega), f3]
          exact grant_l0 hl hx hk d (i + 1) k _ (by omega) (by simp [ho]) (by omega)
theorem grant_f {l : List S33} (hs : small l) (xs : List S25) {k : Nat} (hk : 1000 ≤ k) : relief_grant.f k l xs = some ((grantS l xs).1, 0, (grantS l xs).2.1, (grantS l xs).2.2) := by
  obtain ⟨m, rfl⟩ : ∃ m, k = m + 1 := ⟨k - 1, by omega⟩
  unfold relief_grant.f grantS
  rw [check_f hs (by omega), Option.bind_some, items_f xs (by omega), Option.bind_some]
  by_cases h1 : (chkS l).2 = 0
  · rw [if_pos h1]
    by_cases h2 : (itmS xs).2 = 0
    · rw [if_pos ⟨h1, h2⟩]
      simp only [relief_grant.j0]
      rw [if_neg (by simp [h2])]
      obtain ⟨g1, g2, _⟩ := chkS_zero h1
      exact grant_l0 g1 (itmS_len h2) g2 xs.length 0 m [] (by omega) rfl (by have := itmS_len h2; omega)
    · rw [if_neg (fun h => h2 h.2)]
      simp only [relief_grant.j0]
      rw [if_pos (by simp [h2])]
  · rw [if_neg h1, if_neg (fun h => h1 h.1)]
    simp only [relief_grant.j0]
    rw [if_pos trivial]
theorem Grant_f {l : List S33} (hs : small l) (xs : List S25) {k : Nat} (hk : 1000 ≤ k) : relief_Grant.f k l xs = some (grantS l xs) := by
  unfold relief_Grant.f
  rw [grant_f hs xs hk]
  rfl
theorem grS_len {l : List S33} {xs : List S25} : ∀ d out, d ≤ xs.length → out.length + d = xs.length → (grS l xs d out).2.2 = 0 → (grS l xs d out).1.length = xs.length
  | 0, out, _, h, _ => by unfold grS; omega
  | d + 1, out, hd, h, e => by
    rw [grS_succ] at e ⊢
    split at e
    · rename_i c; rw [if_pos c]; exact grS_len d _ (by omega) (by simp; omega) e
    · rename_i c
      rw [if_neg c]
      split at e
      · cases e
      · rename_i c2
        rw [if_neg c2]
        split at e
        · rename_i c3; rw [if_pos c3]; exact grS_len d _ (by omega) (by simp; omega) e
        · cases e
theorem grantS_ok {l : List S33} {xs : List S25} (h : (grantS l xs).2.2 = 0) : (chkS l).2 = 0 ∧ (itmS xs).2 = 0 ∧ grantS l xs = grS l xs xs.length [] ∧ (grantS l xs).1.length = xs.length := by
  unfold grantS at h ⊢
  by_cases c : (chkS l).2 = 0 ∧ (itmS xs).2 = 0
  · rw [if_pos c] at h ⊢
    exact ⟨c.1, c.2, rfl, grS_len xs.length [] (Nat.le_refl _) (by simp) h⟩
  · rw [if_neg c] at h; cases h
theorem grantS_len {l : List S33} {xs : List S25} : (grantS l xs).1.length ≤ 64 := by
  by_cases h : (grantS l xs).2.2 = 0
  · obtain ⟨_, h2, _, h4⟩ := grantS_ok h
    have := itmS_len h2
    omega
  · have key : ∀ d out, d ≤ xs.length → (grS l xs d out).2.2 ≠ 0 → (grS l xs d out).1 = [] := by
      intro d
      induction d with
      | zero => intro out _ e; exact absurd rfl e
      | succ d ih =>
        intro out hd e
        rw [grS_succ] at e ⊢
        split at e
        · rename_i c; rw [if_pos c]; exact ih _ (by omega) e
        · rename_i c
          rw [if_neg c]
          split at e
          · rename_i c2; rw [if_pos c2]
          · rename_i c2
            rw [if_neg c2]
            split at e
            · rename_i c3; rw [if_pos c3]; exact ih _ (by omega) e
            · rename_i c3; rw [if_neg c3]
    unfold grantS at h ⊢
    by_cases c : (chkS l).2 = 0 ∧ (itmS xs).2 = 0
    · rw [if_pos c] at h ⊢
      rw [key xs.length [] (Nat.le_refl _) h]; simp
    · rw [if_neg c]; simp
end Go.Proofs.Ytccocolcgdiglaa.Rel
