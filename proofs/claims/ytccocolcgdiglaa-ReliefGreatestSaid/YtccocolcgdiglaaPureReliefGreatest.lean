/- ReliefGreatest: for all reliefs, items and every item (those that are many or have long names are let by) the relief that Best returns gives the item just that much, and no other one gives more; no condition. -/
import Derived.Test.YtccocolcgdiglaaRgf
import Derived.Test.YtccocolcgdiglaaRgd
import Derived.Test.YtccocolcgdiglaaRle
import Derived.Test.YtccocolcgdiglaaLgt
namespace Go.Proofs.Ytccocolcgdiglaa.Pure
set_option linter.unusedVariables false
set_option linter.unusedSimpArgs false
open Go.RowKit Go.Proofs.Ytccocolcgdiglaa.X Go.Proofs.Ytccocolcgdiglaa.Rel Go.Proofs.Ytccocolcgdiglaa.It Go.Proofs.YtccocolcgdiglaaW.PrintWords Go.Proofs.YtccocolcgdiglaaW.PrintLast Go.Proofs.YtccocolcgdiglaaW.PrintMore
/-- the best of an order: none is better, and it is one of them, or nothing -/
theorem best_fold (xs : List S25) (t : List Int) (x : S25) : ∀ (rs : List S33) (s : Int × Int),
    s.2 ≤ (rs.foldl (bestStep xs t x) s).2 ∧ (∀ r ∈ rs, getsN r x.f3 (Mpi.gv xs t r.f0) ≤ (rs.foldl (bestStep xs t x) s).2) ∧ (rs.foldl (bestStep xs t x) s = s ∨ ∃ r ∈ rs, rs.foldl (bestStep xs t x) s = (r.f0, getsN r x.f3 (Mpi.gv xs t r.f0)))
  | [], s => ⟨Int.le_refl _, fun r hr => by simp at hr, .inl rfl⟩
  | r :: rs, s => by
    rw [List.foldl_cons]
    obtain ⟨h1, h2, h3⟩ := best_fold xs t x rs (bestStep xs t x s r)
    have h4 : s.2 ≤ (bestStep xs t x s r).2 ∧ getsN r x.f3 (Mpi.gv xs t r.f0) ≤ (bestStep xs t x s r).2 ∧ (bestStep xs t x s r = s ∨ bestStep xs t x s r = (r.f0, getsN r x.f3 (Mpi.gv xs t r.f0))) := by
      unfold bestStep
      by_cases c : s.2 < getsN r x.f3 (Mpi.gv xs t r.f0)
      · rw [if_pos c]; exact ⟨Int.le_of_lt c, Int.le_refl _, .inr rfl⟩
      · rw [if_neg c]; exact ⟨Int.le_refl _, by omega, .inl rfl⟩
    refine ⟨Int.le_trans h4.1 h1, fun r' hr' => ?_, ?_⟩
    · rcases List.mem_cons.1 hr' with rfl | hr'
      · exact Int.le_trans h4.2.1 h1
      · exact h2 r' hr'
    · rcases h3 with h3 | ⟨r', hr', h3⟩
      · rcases h4.2.2 with h5 | h5
        · exact .inl (h3.trans h5)
        · exact .inr ⟨r, List.mem_cons_self, h3.trans h5⟩
      · exact .inr ⟨r', List.mem_cons_of_mem _ hr', h3⟩
/-- one relief that the item asks for -/
theorem grant_one {l : List S33} {xs : List S25} {out : List Int} (h : Got l xs out) {x : S25} (hv : Vi (xs ++ [x])) {j : Nat} (hj : j < l.length) {y : S25} (hy : y = ⟨x.f0, x.f1, x.f2, x.f3, (R l j).f0⟩) :
    grantS l (xs ++ [y]) = if appl (R l j) x = true then (out ++ [getsN (R l j) x.f3 (Mpi.gv xs out (R l j).f0)], -1, 0) else ([], (xs.length : Int), 19) := by
  obtain ⟨g1, g2, g3⟩ := chkS_zero h.1
  have hok := okR_spec (g2 j hj)
  have hidx : idxR l y.f4 = (j : Int) := by rw [hy]; exact idx_self g3 hj
  have hjt : (j : Int).toNat = j := by simp
  have hvy : Vi (xs ++ [y]) := hv.last (by rw [hy]) (by rw [hy]) (by rw [hy]) (by rw [hy]) (by rw [hy]; show 0 ≤ (R l j).f0 ∧ (R l j).f0 ≤ 1073741824; omega)
  have ha : appl (R l j) y = appl (R l j) x := by rw [hy]; rfl
  have h4 : y.f4 ≠ 0 := by rw [hy]; show (R l j).f0 ≠ 0; omega
  cases c : appl (R l j) x with
  | true =>
    rw [if_pos rfl]
    refine (h.snoc (x := y) (v := getsN (R l j) x.f3 (Mpi.gv xs out (R l j).f0)) hvy ?_).grant
    unfold val
    rw [if_neg h4, hidx, if_neg (by omega), hjt, ha, if_pos c, hy]
  | false =>
    rw [if_neg (by simp)]
    exact h.denied (x := y) hvy h4 (by rw [hidx]; omega) (by rw [hidx, hjt, ha]; exact c)
theorem greatest_l0 {l : List S33} {xs : List S25} {out : List Int} {x : S25} {id n : Int} (hs : small l) (h : Got l xs out) (hv : Vi (xs ++ [x])) (hle : ∀ j, j < l.length → appl (R l j) x = true → getsN (R l j) x.f3 (Mpi.gv xs out (R l j).f0) ≤ n) :
    ∀ d i k b f4, i + d = l.length → d + 5000 < k → (b = true ∨ ∃ j, i ≤ j ∧ j < l.length ∧ appl (R l j) x = true ∧ (R l j).f0 = id ∧ getsN (R l j) x.f3 (Mpi.gv xs out (R l j).f0) = n) →
    spilelaw47_ReliefGreatest.l0 k l xs id n b l (l.length : Int) (i : Int) x.f0 x.f1 x.f2 x.f3 f4 = some true
  | 0, i, k, b, f4, hd, hk, hb => by
    obtain ⟨k, rfl⟩ : ∃ m, k = m + 1 := ⟨k - 1, by omega⟩
    simp only [spilelaw47_ReliefGreatest.l0]
    rw [if_neg (by omega)]
    rcases hb with hb | ⟨j, h1, h2, _⟩
    · rw [hb]
    · omega
  | d + 1, i, k, b, f4, hd, hk, hb => by
    obtain ⟨k, rfl⟩ : ∃ m, k = m + 1 := ⟨k - 1, by omega⟩
    have hll := (chkS_zero h.1).1
    have hx := h.2.1.1
    have hol := h.2.2.1
    have hi : i < l.length := by omega
    have hg := grant_one h hv hi rfl
    simp only [spilelaw47_ReliefGreatest.l0]
    rw [if_pos (by omega), if_pos (by omega), if_pos (by omega), cloneR_f (by omega), Option.bind_some, cloneI_f (by omega), Option.bind_some, Option.bind_some, if_pos (by simp; omega), rdR, Grant_f hs _ (by omega), Option.bind_some]
    cases c : appl (R l i) x with
    | false =>
      rw [c, if_neg (by simp)] at hg
      rw [hg, wsucc (by omega)]
      dsimp only
      rw [if_pos rfl]
      refine greatest_l0 hs h hv hle d (i + 1) k b _ (by omega) (by omega) ?_
      rcases hb with hb | ⟨j, h1, h2, h3, h4, h5⟩
      · exact .inl hb
      · refine .inr ⟨j, ?_, h2, h3, h4, h5⟩
        rcases Nat.lt_or_ge i j with q | q
        · omega
        · obtain rfl : j = i := by omega
          rw [c] at h3; cases h3
    | true =>
      have hn := hle i hi c
      have hrd : rd (out ++ [getsN (R l i) x.f3 (Mpi.gv xs out (R l i).f0)]) (xs.length : Int) = getsN (R l i) x.f3 (Mpi.gv xs out (R l i).f0) := by
        unfold rd
        rw [show ((xs.length : Int)).toNat = out.length by omega]
        simp [List.getD]
      rw [c, if_pos rfl] at hg
      rw [hg, wsucc (by omega), wsucc (by omega)]
      dsimp only
      rw [if_neg (by decide), if_pos rfl, if_pos (by simp; omega), if_pos (by omega), if_pos (by simp; omega), hrd, if_neg (by omega)]
      have ih := fun b f4 => greatest_l0 (id := id) hs h hv hle d (i + 1) k b f4 (by omega) (by omega)
      cases b with
      | true => rw [if_pos rfl]; exact ih _ _ (.inl rfl)
      | false =>
        rw [if_neg (by simp)]
        have hb' : ∃ j, i ≤ j ∧ j < l.length ∧ appl (R l j) x = true ∧ (R l j).f0 = id ∧ getsN (R l j) x.f3 (Mpi.gv xs out (R l j).f0) = n := by
          rcases hb with hb | hb
          · cases hb
          · exact hb
        obtain ⟨j, h1, h2, h3, h4, h5⟩ := hb'
        by_cases q : j = i
        · subst q
          rw [if_pos h4]
          exact ih _ _ (.inl (beq_iff_eq.mpr h5))
        · have hj : ∃ j, i + 1 ≤ j ∧ j < l.length ∧ appl (R l j) x = true ∧ (R l j).f0 = id ∧ getsN (R l j) x.f3 (Mpi.gv xs out (R l j).f0) = n := ⟨j, by omega, h2, h3, h4, h5⟩
          by_cases c2 : (R l i).f0 = id
          · rw [if_pos c2]; exact ih _ _ (.inr hj)
          · rw [if_neg c2]; exact ih _ _ (.inr hj)
theorem reliefGreatest (l : List S33) (xs : List S25) (x : S25) (hl : l.length ≤ 9223372036854775807) : ∃ k, spilelaw47_ReliefGreatest.f k l xs x.f0 x.f1 x.f2 x.f3 x.f4 = some true := by
  obtain ⟨K, hK1, hK2⟩ : ∃ K : Nat, l.length < K ∧ 10000 ≤ K := ⟨l.length + 10001, by omega, by omega⟩
  refine ⟨K + 2, ?_⟩
  have hj0 : ∀ b, b = true → spilelaw47_ReliefGreatest.j0 (K + 2) l xs b x.f0 x.f1 x.f2 x.f3 x.f4 = some true := by
    rintro b rfl
    simp only [spilelaw47_ReliefGreatest.j0]
    rw [if_pos trivial, awake_f (by omega)]; rfl
  unfold spilelaw47_ReliefGreatest.f
  rw [awake_f (by omega), Option.bind_some, if_pos rfl, few_f hl (by omega), Option.bind_some]
  cases h : (smallB l l.length && fewS l xs) with
  | false => rw [if_neg (by simp)]; exact hj0 _ rfl
  | true =>
    obtain ⟨hs, h1, h2⟩ := few_true h
    rw [if_pos rfl]
    by_cases c12 : (xs.length : Int) > 12
    · exact hj0 _ (decide_eq_true c12)
    · rw [decide_eq_false c12]
      simp only [spilelaw47_ReliefGreatest.j0]
      rw [if_neg (by simp), cloneR_f (by omega), Option.bind_some, cloneI_f (by omega), Option.bind_some, Best_f hs xs h2 x (by omega), Option.bind_some]
      unfold bestS
      by_cases c : (grantS l xs).2.2 = 0
      · rw [if_pos c]
        obtain ⟨hg, _⟩ := got_of c
        by_cases c5 : (itmS (xs ++ [x])).2 = 0
        · rw [if_pos c5]
          dsimp only
          rw [if_pos rfl]
          have hv := (itmS_iff _).1 c5
          obtain ⟨out, ho⟩ : ∃ out, (grantS l xs).1 = out := ⟨_, rfl⟩
          rw [ho] at hg ⊢
          obtain ⟨f1, f2, f3⟩ := best_fold xs out x (l.filter (fun r => appl r x)) (0, 0)
          obtain ⟨s, hS⟩ : ∃ s, bestOf l xs out x = s := ⟨_, rfl⟩
          have hS' : (l.filter (fun r => appl r x)).foldl (bestStep xs out x) (0, 0) = s := hS
          rw [hS'] at f1 f2 f3
          rw [hS]
          have hle : ∀ j, j < l.length → appl (R l j) x = true → getsN (R l j) x.f3 (Mpi.gv xs out (R l j).f0) ≤ s.2 := by
            intro j hj ha
            rw [R_get hj] at ha ⊢
            exact f2 _ (List.mem_filter.2 ⟨List.getElem_mem hj, ha⟩)
          have hex : (s.1 = 0 ∧ s.2 = 0) ∨ ∃ j, 0 ≤ j ∧ j < l.length ∧ appl (R l j) x = true ∧ (R l j).f0 = s.1 ∧ getsN (R l j) x.f3 (Mpi.gv xs out (R l j).f0) = s.2 := by
            rcases f3 with e | ⟨r, hr, e⟩
            · exact .inl ⟨by rw [e], by rw [e]⟩
            · obtain ⟨hm, ha⟩ := List.mem_filter.1 hr
              obtain ⟨j, hj, rfl⟩ := List.mem_iff_getElem.1 hm
              refine .inr ⟨j, Nat.zero_le _, hj, ?_, ?_, ?_⟩
              · rw [R_get hj]; exact ha
              · rw [R_get hj, e]
              · rw [R_get hj, e]
          have fin : ∀ b, (b = true ∨ ∃ j, 0 ≤ j ∧ j < l.length ∧ appl (R l j) x = true ∧ (R l j).f0 = s.1 ∧ getsN (R l j) x.f3 (Mpi.gv xs out (R l j).f0) = s.2) → spilelaw47_ReliefGreatest.j1 (K + 1) l xs s.1 s.2 b x.f0 x.f1 x.f2 x.f3 x.f4 = some true := by
            intro b hb
            simp only [spilelaw47_ReliefGreatest.j1]
            exact greatest_l0 hs hg hv hle l.length 0 K b x.f4 (by omega) (by omega) hb
          by_cases z : s.1 = 0
          · rw [if_pos z]
            refine fin _ ?_
            rcases hex with ⟨_, e⟩ | e
            · exact .inl (beq_iff_eq.mpr e)
            · exact .inr e
          · rw [if_neg z]
            refine fin _ ?_
            rcases hex with ⟨e, _⟩ | e
            · exact absurd e z
            · exact .inr e
        · rw [if_neg c5]; rfl
      · rw [if_neg c]
        dsimp only
        rw [if_neg c, if_pos rfl]; rfl
end Go.Proofs.Ytccocolcgdiglaa.Pure
