/- ReliefWhole: for all reliefs and items (those that are many or have long names are let by) a relief for the whole without a limit gives the first item, if it applies, everything; no condition. -/
import Derived.Test.YtccocolcgdiglaaRlf
import Derived.Test.YtccocolcgdiglaaRle
import Derived.Test.YtccocolcgdiglaaLwh
import Derived.OpenShut
namespace Go.Proofs.Ytccocolcgdiglaa.Pure
set_option linter.unusedVariables false
set_option linter.unusedSimpArgs false
open Go.RowKit Go.Proofs.Ytccocolcgdiglaa.X Go.Proofs.Ytccocolcgdiglaa.Rel Go.Proofs.Ytccocolcgdiglaa.It Go.Proofs.YtccocolcgdiglaaW.PrintWords Go.Proofs.YtccocolcgdiglaaW.PrintLast Go.Proofs.YtccocolcgdiglaaW.PrintMore
theorem set_R {l : List S33} {j : Nat} (hj : j < l.length) (z : S33) (i : Nat) : R (l.set j z) i = if i = j then z else R l i := by
  unfold R
  rw [List.getD_eq_getElem?_getD, List.getD_eq_getElem?_getD, List.getElem?_set]
  by_cases c : j = i
  · subst c; simp [hj]
  · rw [if_neg c, if_neg (fun e => c e.symm)]
theorem whole_gets {r : S33} {a g : Int} (h5 : r.f5 = 10000) (h6 : r.f6 = 0) (h0 : 0 ≤ a) (h1 : a ≤ 10737418240000) : getsN r a g = a := by
  unfold getsN
  have e : wrap64 (a * 10000) = a * 10000 := wid (by omega) (by omega)
  rw [if_pos h6, h5, e, Int.tdiv_eq_ediv_of_nonneg (by omega), wid (by omega) (by omega)]
  omega
/-- what is granted to one item -/
theorem whole_grant {l : List S33} {x : S25} {j : Nat} (hj : j < l.length) (h4 : x.f4 = (R l j).f0) (h5 : (R l j).f5 = 10000) (h6 : (R l j).f6 = 0) (h1 : (chkS l).2 = 0) (h2 : (itmS [x]).2 = 0) :
    grantS l [x] = if appl (R l j) x = true then ([x.f3], -1, 0) else ([], 0, 19) := by
  obtain ⟨g1, g2, g3⟩ := chkS_zero h1
  have hv := (itmS_iff [x]).1 h2
  have hok := okR_spec (g2 j hj)
  have hx := hv.2.1 x (List.mem_singleton.2 rfl)
  unfold okI at hx
  simp only [Bool.and_eq_true, btw_true] at hx
  have hidx : idxR l x.f4 = (j : Int) := by rw [h4]; exact idx_self g3 hj
  have hgot : Got l ([] : List S25) ([] : List Int) := ⟨h1, ⟨by simp, fun z hz => by simp at hz, List.Pairwise.nil⟩, rfl, fun k hk => by simp at hk⟩
  have hjt : (j : Int).toNat = j := by simp
  cases ha : appl (R l j) x with
  | true =>
    rw [if_pos rfl]
    have := hgot.snoc (x := x) (v := x.f3) hv (by
      unfold val
      rw [if_neg (by omega), hidx, if_neg (by omega), hjt, if_pos ha, whole_gets h5 h6 (by omega) (by omega)])
    exact this.grant
  | false =>
    rw [if_neg (by simp)]
    exact hgot.denied (x := x) hv (by omega) (by rw [hidx]; omega) (by rw [hidx, hjt]; exact ha)
theorem reliefWhole (l : List S33) (xs : List S25) (a : Int) (hl : l.length ≤ 9223372036854775807) (wa : (Lit.int .u8 a).wf = true) : ∃ k, spilelaw47_ReliefWhole.f k l xs a = some true := by
  obtain ⟨K, hK1, hK2⟩ : ∃ K : Nat, l.length < K ∧ 10000 ≤ K := ⟨l.length + 10001, by omega, by omega⟩
  refine ⟨K + 2, ?_⟩
  have hj0 : ∀ b, b = true → spilelaw47_ReliefWhole.j0 (K + 2) l xs a b = some true := by
    rintro b rfl
    simp only [spilelaw47_ReliefWhole.j0]
    rw [if_pos trivial, awake_f (by omega)]; rfl
  unfold spilelaw47_ReliefWhole.f
  rw [awake_f (by omega), Option.bind_some, if_pos rfl, few_f hl (by omega), Option.bind_some]
  cases h : (smallB l l.length && fewS l xs) with
  | false => rw [if_neg (by simp)]; exact hj0 _ rfl
  | true =>
    obtain ⟨hs, h1, h2⟩ := few_true h
    rw [if_pos rfl]
    by_cases c0 : l.length = 0
    · rw [if_pos (by omega)]; exact hj0 _ rfl
    · rw [if_neg (by omega)]
      by_cases c1 : xs.length = 0
      · exact hj0 _ (by simp [c1])
      · have e1 : ((xs.length : Int) == 0) = false := beq_eq_false_iff_ne.mpr (by omega)
        rw [e1]
        simp only [spilelaw47_ReliefWhole.j0]
        have ha : 0 ≤ a ∧ a ≤ 255 := Go.bounds_u8 wa
        obtain ⟨j, hJ, hj⟩ : ∃ j : Nat, Int.tmod (wrap64 a) (l.length : Int) = (j : Int) ∧ j < l.length := by
          rw [wid (by omega) (by omega), Int.tmod_eq_emod_of_nonneg (by omega)]
          have m1 := Int.emod_nonneg a (show (l.length : Int) ≠ 0 by omega)
          have m2 := Int.emod_lt_of_pos a (show (0 : Int) < (l.length : Int) by omega)
          exact ⟨(a % (l.length : Int)).toNat, by omega, by omega⟩
        have hjt : (j : Int).toNat = j := by simp
        rw [if_neg (by simp), cloneR_f (by omega), Option.bind_some, if_pos (by omega), cloneI_f (by rw [List.length_take]; omega), Option.bind_some, if_neg (by omega), hJ, if_pos (by omega), if_pos (by omega), Option.bind_some, Option.bind_some, hjt]
        simp only [rdR]
        obtain ⟨z1, hz1⟩ : ∃ z1 : S33, z1 = ⟨(R l j).f0, (R l j).f1, (R l j).f2, (R l j).f3, (R l j).f4, 10000, (R l j).f6⟩ := ⟨_, rfl⟩
        rw [← hz1]
        have hr1 : R (l.set j z1) j = z1 := by rw [set_R hj, if_pos rfl]
        rw [hr1]
        obtain ⟨z2, hz2⟩ : ∃ z2 : S33, z2 = ⟨z1.f0, z1.f1, z1.f2, z1.f3, z1.f4, z1.f5, 0⟩ := ⟨_, rfl⟩
        rw [← hz2]
        obtain ⟨L, hL⟩ : ∃ L, L = (l.set j z1).set j z2 := ⟨_, rfl⟩
        have hlen : L.length = l.length := by rw [hL]; simp
        have hR : ∀ i, R L i = if i = j then z2 else R l i := by
          intro i
          rw [hL, set_R (by simpa using hj), set_R hj]
          by_cases c : i = j
          · rw [if_pos c, if_pos c]
          · rw [if_neg c, if_neg c, if_neg c]
        have hRj : R L j = z2 := by rw [hR, if_pos rfl]
        have hsL : small L := by
          intro i hi
          rw [hR]
          by_cases c : i = j
          · rw [if_pos c, hz2, hz1]; exact hs j hj
          · rw [if_neg c]; exact hs i (by omega)
        rw [← hL, hRj, if_pos (by rw [List.length_take]; omega), Option.bind_some]
        obtain ⟨x, rest, hxs⟩ : ∃ x rest, xs = x :: rest := by
          cases xs with
          | nil => exact absurd rfl c1
          | cons x rest => exact ⟨x, rest, rfl⟩
        subst hxs
        have e0 : rd_T25 (List.take 1 (x :: rest)) 0 = x := rfl
        rw [e0]
        obtain ⟨x', hx'⟩ : ∃ x' : S25, x' = ⟨x.f0, x.f1, x.f2, x.f3, z2.f0⟩ := ⟨_, rfl⟩
        have e2 : (List.take 1 (x :: rest)).set (0 : Int).toNat ⟨x.f0, x.f1, x.f2, x.f3, z2.f0⟩ = [x'] := by rw [hx']; rfl
        rw [e2, cloneR_f (by omega), Option.bind_some, check_f hsL (by omega), Option.bind_some, cloneI_f (by simp), Option.bind_some, items_f _ (by omega), Option.bind_some, Option.bind_some, Option.bind_some, Grant_f hsL _ (by omega), Option.bind_some]
        have hf5 : (R L j).f5 = 10000 := by rw [hRj, hz2, hz1]
        have hf6 : (R L j).f6 = 0 := by rw [hRj, hz2]
        have hf4 : x'.f4 = (R L j).f0 := by rw [hRj, hx']
        have hbad : ¬ ((chkS L).2 = 0 ∧ (itmS [x']).2 = 0) → spilelaw47_ReliefWhole.j1 (K + 1) L [x'] (j : Int) (grantS L [x']).1 (grantS L [x']).2.1 (grantS L [x']).2.2 true = some true := by
          intro hn
          have : grantS L [x'] = ([], -1, 1) := by unfold grantS; rw [if_neg hn]
          rw [this]
          simp only [spilelaw47_ReliefWhole.j1]
          rfl
        by_cases c3 : (chkS L).2 = 0
        · rw [if_pos c3]
          by_cases c4 : (itmS [x']).2 = 0
          · have e5 : ((itmS [x']).2 != 0) = false := bne_eq_false_iff_eq.mpr c4
            rw [e5, whole_grant (by omega) hf4 hf5 hf6 c3 c4]
            simp only [spilelaw47_ReliefWhole.j1]
            have e6 : rd_T25 [x'] 0 = x' := rfl
            rw [if_neg (by simp), if_pos (by omega), if_pos (by omega), if_pos (by simp), rdR, e6]
            simp only [appl_f]
            rw [Option.bind_some]
            cases appl (R L j) x' with
            | true =>
              rw [if_pos rfl, if_pos rfl]
              have e7 : rd [x'.f3] 0 = x'.f3 := rfl
              dsimp only
              rw [if_pos rfl, if_pos (by simp), if_pos (by simp), e7]
              simp
            | false => rfl
          · have e5 : ((itmS [x']).2 != 0) = true := bne_iff_ne.mpr c4
            rw [e5]
            exact hbad (fun h => c4 h.2)
        · rw [if_neg c3]
          exact hbad (fun h => c3 h.1)
end Go.Proofs.Ytccocolcgdiglaa.Pure
