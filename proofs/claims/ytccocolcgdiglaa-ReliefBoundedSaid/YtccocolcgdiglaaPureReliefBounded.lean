/- ReliefBounded: for all reliefs and items (those that are many or have long names are let by) no item gets more than its alcohol or less than nothing, one that asks for no relief gets nothing, and what is left of a relief is its Most less what its items got; no condition. -/
import Derived.Test.YtccocolcgdiglaaRgf
import Derived.Test.YtccocolcgdiglaaRgc
import Derived.Test.YtccocolcgdiglaaRle
import Derived.Test.YtccocolcgdiglaaLbo
namespace Go.Proofs.Ytccocolcgdiglaa.Pure
set_option linter.unusedVariables false
set_option linter.unusedSimpArgs false
open Go.RowKit Go.Proofs.Ytccocolcgdiglaa.X Go.Proofs.Ytccocolcgdiglaa.Rel Go.Proofs.Ytccocolcgdiglaa.It Go.Proofs.YtccocolcgdiglaaW.PrintWords Go.Proofs.YtccocolcgdiglaaW.PrintLast Go.Proofs.YtccocolcgdiglaaW.PrintMore
theorem grant_err {l : List S33} {xs : List S25} (h : (grantS l xs).2.2 ≠ 0) : (grantS l xs).1 = [] ∧ ((grantS l xs).2.2 = 1 ↔ (grantS l xs).2.1 = -1) := by
  have key : ∀ d out, (grS l xs d out).2.2 ≠ 0 → (grS l xs d out).1 = [] ∧ (grS l xs d out).2.2 ≠ 1 ∧ (grS l xs d out).2.1 ≠ -1 := by
    intro d
    induction d with
    | zero => intro out e; exact absurd rfl e
    | succ d ih =>
      intro out e
      rw [grS_succ] at e ⊢
      split at e
      · rename_i c; rw [if_pos c]; exact ih _ e
      · rename_i c
        rw [if_neg c]
        split at e
        · rename_i c2; rw [if_pos c2]; exact ⟨rfl, (by decide : (7 : Int) ≠ 1), by dsimp only; omega⟩
        · rename_i c2
          rw [if_neg c2]
          split at e
          · rename_i c3; rw [if_pos c3]; exact ih _ e
          · rename_i c3; rw [if_neg c3]; exact ⟨rfl, (by decide : (19 : Int) ≠ 1), by dsimp only; omega⟩
  unfold grantS at h ⊢
  by_cases c : (chkS l).2 = 0 ∧ (itmS xs).2 = 0
  · rw [if_pos c] at h ⊢
    obtain ⟨h1, h2, h3⟩ := key xs.length [] h
    exact ⟨h1, ⟨fun e => absurd e h2, fun e => absurd e h3⟩⟩
  · rw [if_neg c]; exact ⟨rfl, Iff.intro (fun _ => rfl) (fun _ => rfl)⟩
/-- what one item gets -/
theorem gets_bound {r : S33} {a g : Int} (hr : okR r = true) (h0 : 0 ≤ a) (h1 : a ≤ 10737418240000) (hg : r.f6 ≠ 0 → 0 ≤ g ∧ g ≤ r.f6) : 0 ≤ getsN r a g ∧ getsN r a g ≤ a ∧ (r.f6 ≠ 0 → getsN r a g ≤ r.f6 - g) := by
  have hk := okR_spec hr
  have m0 : 0 ≤ a * r.f5 := Int.mul_nonneg h0 (by omega)
  have m1 : a * r.f5 ≤ 10737418240000 * 10000 := Int.mul_le_mul h1 (by omega) (by omega) (by omega)
  have m2 : a * r.f5 ≤ a * 10000 := Int.mul_le_mul_of_nonneg_left (by omega) h0
  have e : wrap64 (a * r.f5) = a * r.f5 := wid (by omega) (by omega)
  have d0 : 0 ≤ a * r.f5 / 10000 := Int.ediv_nonneg m0 (by omega)
  have d1 : a * r.f5 / 10000 ≤ a := by omega
  have e2 : wrap64 (Int.tdiv (wrap64 (a * r.f5)) 10000) = a * r.f5 / 10000 := by
    rw [e, Int.tdiv_eq_ediv_of_nonneg m0, wid (by omega) (by omega)]
  unfold getsN
  rw [e2]
  by_cases c : r.f6 = 0
  · rw [if_pos c]; exact ⟨d0, d1, fun h => absurd c h⟩
  · rw [if_neg c]
    obtain ⟨g0, g1⟩ := hg c
    rw [show wrap64 (r.f6 - g) = r.f6 - g from wid (by omega) (by omega)]
    unfold mn
    split
    · exact ⟨by omega, by omega, fun _ => by omega⟩
    · exact ⟨d0, d1, fun _ => by omega⟩
/-- the first i items, and what a limited relief has given to them -/
theorem got_bound {l : List S33} {xs : List S25} {out : List Int} (h : Got l xs out) : ∀ i, i ≤ xs.length →
    (∀ k, k < i → 0 ≤ out.getD k 0 ∧ out.getD k 0 ≤ (I xs k).f3 ∧ ((I xs k).f4 = 0 → out.getD k 0 = 0)) ∧ ∀ j, j < l.length → (R l j).f6 ≠ 0 → 0 ≤ Mpi.gv xs (out.take i) (R l j).f0 ∧ Mpi.gv xs (out.take i) (R l j).f0 ≤ (R l j).f6
  | 0, _ => by
    refine ⟨fun k hk => by omega, fun j hj _ => ?_⟩
    obtain ⟨_, g2, _⟩ := chkS_zero h.1
    have hok := okR_spec (g2 j hj)
    have e : Mpi.gv xs (out.take 0) (R l j).f0 = 0 := rfl
    rw [e]; omega
  | i + 1, hi => by
    obtain ⟨ih1, ih2⟩ := got_bound h i (by omega)
    obtain ⟨g1, g2, g3⟩ := chkS_zero h.1
    have hlo : i < out.length := by have := h.2.2.1; omega
    have hv := h.2.2.2 i hlo
    have hx := h.2.1.2.1 (I xs i) (by rw [I_get (by omega)]; exact List.getElem_mem (by omega))
    unfold okI at hx
    simp only [Bool.and_eq_true, btw_true] at hx
    -- what the i-th item gets
    have hval : (0 ≤ out.getD i 0 ∧ out.getD i 0 ≤ (I xs i).f3 ∧ ((I xs i).f4 = 0 → out.getD i 0 = 0)) ∧ ∀ j, j < l.length → (R l j).f6 ≠ 0 → (I xs i).f4 = (R l j).f0 → out.getD i 0 ≤ (R l j).f6 - Mpi.gv xs (out.take i) (R l j).f0 := by
      unfold val at hv
      split at hv
      · rename_i c
        have e : out.getD i 0 = 0 := (Option.some.inj hv).symm
        rw [e]
        refine ⟨⟨Int.le_refl _, by omega, fun _ => rfl⟩, fun j hj h6 _ => ?_⟩
        have := ih2 j hj h6
        omega
      · rename_i c
        split at hv
        · cases hv
        · rename_i c2
          split at hv
          · rename_i c3
            obtain ⟨f1, _, f3⟩ := find_some (l := l) (a := (I xs i).f4) (by omega) c2
            have hj0 : (idxR l (I xs i).f4).toNat < l.length := by omega
            have e : out.getD i 0 = getsN (R l (idxR l (I xs i).f4).toNat) (I xs i).f3 (Mpi.gv xs (out.take i) (I xs i).f4) := (Option.some.inj hv).symm
            have hb := gets_bound (r := R l (idxR l (I xs i).f4).toNat) (a := (I xs i).f3) (g := Mpi.gv xs (out.take i) (I xs i).f4) (g2 _ hj0) (by omega) (by omega) (fun h6 => by have := ih2 _ hj0 h6; rw [f3] at this; exact this)
            rw [e]
            refine ⟨⟨hb.1, hb.2.1, fun z => absurd z c⟩, fun j hj h6 hij => ?_⟩
            have hjj : (idxR l (I xs i).f4).toNat = j := by rw [hij, idx_self g3 hj]; simp
            rw [hjj] at hb ⊢
            rw [← hij]
            exact hb.2.2 h6
          · cases hv
    refine ⟨fun k hk => ?_, fun j hj h6 => ?_⟩
    · by_cases c : k = i
      · rw [c]; exact hval.1
      · exact ih1 k (by omega)
    · have hp := ih2 j hj h6
      have hok := okR_spec (g2 j hj)
      rw [take_snoc hlo, Mpi.gv_snoc]
      have hti : (out.take i).length = i := by rw [List.length_take]; omega
      have e1 : (xs.getD (out.take i).length z25).f4 = (I xs i).f4 := by rw [hti]; rfl
      rw [e1]
      by_cases c : (I xs i).f4 = (R l j).f0
      · rw [if_pos c]
        have h1 := hval.2 j hj h6 c
        have h2 := hval.1.1
        rw [wid (by omega) (by omega)]
        omega
      · rw [if_neg c]; exact hp
theorem bounded_l1 {l : List S33} {xs : List S25} {out : List Int} (hs : small l) (h : Got l xs out) : ∀ d i k, i + d = l.length → d + 5000 < k →
    spilelaw47_ReliefBounded.l1 k l xs out l (l.length : Int) (i : Int) = some true
  | 0, i, k, hd, hk => by
    obtain ⟨k, rfl⟩ : ∃ m, k = m + 1 := ⟨k - 1, by omega⟩
    simp only [spilelaw47_ReliefBounded.l1]
    rw [if_neg (by omega)]
  | d + 1, i, k, hd, hk => by
    obtain ⟨k, rfl⟩ : ∃ m, k = m + 1 := ⟨k - 1, by omega⟩
    have ih := bounded_l1 hs h d (i + 1) k (by omega) (by omega)
    obtain ⟨g1, g2, g3⟩ := chkS_zero h.1
    have hx := h.2.1.1
    have hi : i < l.length := by omega
    have hok := okR_spec (g2 i hi)
    have hleft : leftS l xs (R l i).f0 = if (R l i).f6 = 0 then (0, 15) else (wrap64 ((R l i).f6 - Mpi.gv xs out (R l i).f0), 0) := by
      unfold leftS
      rw [h.grant]
      dsimp only
      rw [if_pos rfl, idx_self g3 hi, if_neg (by omega), show ((i : Int)).toNat = i by simp]
    simp only [spilelaw47_ReliefBounded.l1]
    rw [if_pos (by omega), if_pos (by omega), if_pos (by omega), cloneR_f (by omega), Option.bind_some, cloneI_f (by omega), Option.bind_some, rdR, Left_f hs xs _ (by omega), Option.bind_some, hleft, wsucc (by omega), ih]
    by_cases c : (R l i).f6 = 0
    · rw [if_pos c, if_pos c]; rfl
    · have hb := (got_bound h xs.length (Nat.le_refl _)).2 i hi c
      have ht : out.take xs.length = out := List.take_of_length_le (by have := h.2.2.1; omega)
      rw [ht] at hb
      have e1 : wrap64 ((R l i).f6 - Mpi.gv xs out (R l i).f0) = (R l i).f6 - Mpi.gv xs out (R l i).f0 := wid (by omega) (by omega)
      have e2 : wrap64 ((R l i).f6 - Mpi.gv xs out (R l i).f0 + Mpi.gv xs out (R l i).f0) = (R l i).f6 := by rw [wid (by omega) (by omega)]; omega
      rw [if_neg c, if_neg c]
      dsimp only
      rw [if_pos rfl, e1, if_neg (by omega), if_pos (by omega), e2, if_pos rfl]
theorem bounded_l0 {l : List S33} {xs : List S25} {out : List Int} {x8 : Int} (hs : small l) (h : Got l xs out) : ∀ d i k, i + d = xs.length → d + 6000 < k →
    spilelaw47_ReliefBounded.l0 k l xs out x8 xs (xs.length : Int) (i : Int) = some true
  | 0, i, k, hd, hk => by
    obtain ⟨k, rfl⟩ : ∃ m, k = m + 1 := ⟨k - 1, by omega⟩
    have g1 := (chkS_zero h.1).1
    simp only [spilelaw47_ReliefBounded.l0]
    rw [if_neg (by omega), List.take_of_length_le (by have := h.2.2.1; omega)]
    exact bounded_l1 hs h l.length 0 k (by omega) (by omega)
  | d + 1, i, k, hd, hk => by
    obtain ⟨k, rfl⟩ : ∃ m, k = m + 1 := ⟨k - 1, by omega⟩
    have ih := bounded_l0 (x8 := x8) hs h d (i + 1) k (by omega) (by omega)
    have hx := h.2.1.2.1 (I xs i) (by rw [I_get (by omega)]; exact List.getElem_mem (by omega))
    unfold okI at hx
    simp only [Bool.and_eq_true, btw_true] at hx
    have hxl := h.2.1.1
    have hol := h.2.2.1
    have hb := (got_bound h (i + 1) (by omega)).1 i (by omega)
    have e1 : rd out (i : Int) = out.getD i 0 := rfl
    simp only [spilelaw47_ReliefBounded.l0]
    rw [if_pos (by omega), if_pos (by omega), if_pos (by omega), if_pos (by omega), rdI, e1, if_neg (by omega), if_neg (by omega), wsucc (by omega), ih, if_pos (show 0 ≤ (I xs i).f4 ∧ (I xs i).f4 ≤ 1073741824 by omega)]
    by_cases c : (I xs i).f4 = 0
    · rw [if_pos c, if_pos (hb.2.2 c)]
    · rw [if_neg c]
theorem reliefBounded (l : List S33) (xs : List S25) (hl : l.length ≤ 9223372036854775807) : ∃ k, spilelaw47_ReliefBounded.f k l xs = some true := by
  obtain ⟨K, hK1, hK2⟩ : ∃ K : Nat, l.length < K ∧ 10000 ≤ K := ⟨l.length + 10001, by omega, by omega⟩
  refine ⟨K + 2, ?_⟩
  unfold spilelaw47_ReliefBounded.f
  rw [awake_f (by omega), Option.bind_some, if_pos rfl, few_f hl (by omega), Option.bind_some]
  cases h : (smallB l l.length && fewS l xs) with
  | false =>
    simp only [spilelaw47_ReliefBounded.j0]
    rw [if_pos (show (!false) = true from rfl), awake_f (by omega)]; rfl
  | true =>
    obtain ⟨hs, h1, h2⟩ := few_true h
    simp only [spilelaw47_ReliefBounded.j0]
    rw [if_neg (by simp), cloneR_f (by omega), Option.bind_some, cloneI_f (by omega), Option.bind_some, Grant_f hs xs (by omega), Option.bind_some]
    by_cases c : (grantS l xs).2.2 = 0
    · obtain ⟨hg, he⟩ := got_of c
      have hlen := hg.2.2.1
      have e1 : ((grantS l xs).2.1 != (-1)) = false := by rw [he]; rfl
      rw [if_pos c, if_pos (by omega), e1]
      simp only [spilelaw47_ReliefBounded.j1]
      rw [if_neg (by simp)]
      exact bounded_l0 hs hg xs.length 0 K (by omega) (by omega)
    · obtain ⟨e1, e2⟩ := grant_err c
      rw [if_neg c, e1, if_pos (show (([] : List Int).length : Int) = 0 from rfl)]
      congr 1
      rw [beq_iff_eq]
      by_cases q : (grantS l xs).2.2 = 1
      · rw [e2.1 q, q]; rfl
      · rw [beq_eq_false_iff_ne.mpr q, beq_eq_false_iff_ne.mpr (fun e => q (e2.2 e))]
end Go.Proofs.Ytccocolcgdiglaa.Pure
