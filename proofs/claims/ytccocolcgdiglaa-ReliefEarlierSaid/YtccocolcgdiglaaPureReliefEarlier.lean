/- ReliefEarlier: for all reliefs and items (those that are many or have long names are let by) what an item gets does not depend on later items, nor on those that ask for other reliefs; no condition. -/
import Derived.Test.YtccocolcgdiglaaRlf
import Derived.Test.YtccocolcgdiglaaRle
import Derived.Test.YtccocolcgdiglaaLea
import Derived.OpenShut
namespace Go.Proofs.Ytccocolcgdiglaa.Pure
set_option linter.unusedVariables false
set_option linter.unusedSimpArgs false
open Go.RowKit Go.Proofs.Ytccocolcgdiglaa.X Go.Proofs.Ytccocolcgdiglaa.Rel Go.Proofs.Ytccocolcgdiglaa.It Go.Proofs.YtccocolcgdiglaaW.PrintWords Go.Proofs.YtccocolcgdiglaaW.PrintLast Go.Proofs.YtccocolcgdiglaaW.PrintMore
/-- the items that ask for a relief, and what they get -/
def own (id : Int) : List S25 → List S25 := fun xs => xs.filter fun x => x.f4 == id
def wantF (id : Int) : List S25 → List Int → List Int
  | x :: xs, n :: ns => if x.f4 = id then n :: wantF id xs ns else wantF id xs ns
  | _, _ => []
theorem own_snoc (id : Int) (xs : List S25) (x : S25) : own id (xs ++ [x]) = own id xs ++ (if x.f4 = id then [x] else []) := by
  unfold own
  rw [List.filter_append]
  by_cases c : x.f4 = id <;> simp [c]
theorem want_snoc (id : Int) : ∀ (xs : List S25) (ns : List Int) (x : S25) (n : Int), xs.length = ns.length → wantF id (xs ++ [x]) (ns ++ [n]) = wantF id xs ns ++ (if x.f4 = id then [n] else [])
  | [], [], x, n, _ => by
    show (if x.f4 = id then _ else _) = _
    by_cases c : x.f4 = id
    · rw [if_pos c, if_pos c]; rfl
    · rw [if_neg c, if_neg c]; rfl
  | y :: xs, m :: ns, x, n, h => by
    show (if y.f4 = id then m :: wantF id (xs ++ [x]) (ns ++ [n]) else wantF id (xs ++ [x]) (ns ++ [n])) = (if y.f4 = id then m :: wantF id xs ns else wantF id xs ns) ++ _
    rw [want_snoc id xs ns x n (by simpa using h)]
    by_cases c : y.f4 = id
    · rw [if_pos c, if_pos c]; rfl
    · rw [if_neg c, if_neg c]
  | [], m :: ns, x, n, h => by simp at h
  | y :: xs, [], x, n, h => by simp at h
theorem grant_nil {l : List S33} {xs : List S25} (h : (grantS l xs).2.2 ≠ 0) : (grantS l xs).1 = [] := by
  have key : ∀ d out, (grS l xs d out).2.2 ≠ 0 → (grS l xs d out).1 = [] := by
    intro d
    induction d with
    | zero => intro out e; exact absurd rfl e
    | succ d ih =>
      intro out e
      rw [grS_succ] at e ⊢
      split at e
      · rename_i c; rw [if_pos c]; exact ih _ e
      · rename_i c
        rw [if_neg c]
        split at e
        · rename_i c2; rw [if_pos c2]
        · rename_i c2
          rw [if_neg c2]
          split at e
          · rename_i c3; rw [if_pos c3]; exact ih _ e
          · rename_i c3; rw [if_neg c3]
  unfold grantS at h ⊢
  by_cases c : (chkS l).2 = 0 ∧ (itmS xs).2 = 0
  · rw [if_pos c] at h ⊢
    exact key xs.length [] h
  · rw [if_neg c]
theorem take_succ_I {xs : List S25} {i : Nat} (h : i < xs.length) : xs.take (i + 1) = xs.take i ++ [I xs i] := by
  rw [List.take_add_one, List.getElem?_eq_getElem h, I_get h]; rfl
/-- the first i: what those get that ask for the relief -/
theorem got_own {l : List S33} {xs : List S25} {out : List Int} (id : Int) (h : Got l xs out) : ∀ i, i ≤ xs.length →
    Got l (own id (xs.take i)) (wantF id (xs.take i) (out.take i)) ∧ Mpi.gv (own id (xs.take i)) (wantF id (xs.take i) (out.take i)) id = Mpi.gv xs (out.take i) id
  | 0, _ => ⟨⟨h.1, ⟨by simp [own], fun z hz => by simp [own] at hz, by simp [own]⟩, rfl, fun k hk => by simp [wantF] at hk⟩, rfl⟩
  | i + 1, hi => by
    obtain ⟨ih1, ih2⟩ := got_own id h i (by omega)
    have hlo : i < out.length := by have := h.2.2.1; omega
    have hv := h.2.2.2 i hlo
    have hsub : (own id (xs.take (i + 1))).Sublist xs := by
      unfold own
      exact List.filter_sublist.trans (List.take_sublist _ _)
    have hvi := h.2.1.sub hsub
    rw [take_succ_I (by omega), own_snoc] at hvi
    rw [take_succ_I (by omega), take_snoc hlo, own_snoc, want_snoc id _ _ _ _ (by simp [h.2.2.1])]
    by_cases c : (I xs i).f4 = id
    · rw [if_pos c] at hvi
      rw [if_pos c, if_pos c]
      have hx : val l (I xs i) (Mpi.gv (own id (xs.take i)) (wantF id (xs.take i) (out.take i)) (I xs i).f4) = some (out.getD i 0) := by rw [c, ih2, ← c]; exact hv
      refine ⟨ih1.snoc hvi hx, ?_⟩
      have hl1 := ih1.2.2.1
      rw [Mpi.gv_snoc, Mpi.gv_snoc, gv_congr (ys := own id (xs.take i)) _ _ (fun j hj => I_append (by omega)), ih2]
      have e1 : ((own id (xs.take i) ++ [I xs i]).getD (wantF id (xs.take i) (out.take i)).length z25).f4 = id := by
        have : (own id (xs.take i) ++ [I xs i]).getD (wantF id (xs.take i) (out.take i)).length z25 = I xs i := by rw [hl1]; exact I_last _ _
        rw [this]; exact c
      have e2 : (xs.getD (out.take i).length z25).f4 = id := by
        have : (out.take i).length = i := by rw [List.length_take]; omega
        rw [this]; exact c
      rw [if_pos e1, if_pos e2]
    · rw [if_neg c] at hvi
      rw [if_neg c, if_neg c, List.append_nil, List.append_nil]
      refine ⟨ih1, ?_⟩
      rw [ih2, Mpi.gv_snoc]
      have e2 : ¬ (xs.getD (out.take i).length z25).f4 = id := by
        have : (out.take i).length = i := by rw [List.length_take]; omega
        rw [this]; exact c
      rw [if_neg e2]
theorem earlier_l0 {l : List S33} {xs : List S25} {out : List Int} {id : Int} {n : Nat} (hs : small l) (h : Got l xs out) (hn : n ≤ xs.length) : ∀ d i k, i + d = xs.length → d + 5000 < k →
    spilelaw47_ReliefEarlier.l0 k l id out (n : Int) (out.take n) 0 (own id (xs.take i)) (wantF id (xs.take i) (out.take i)) xs (xs.length : Int) (i : Int) = some true
  | 0, i, k, hd, hk => by
    obtain ⟨k, rfl⟩ : ∃ m, k = m + 1 := ⟨k - 1, by omega⟩
    have hl := (chkS_zero h.1).1
    have hx := h.2.1.1
    have hol := h.2.2.1
    obtain ⟨g1, _⟩ := got_own id h i (by omega)
    have g2 := g1.2.2.1
    have g3 := g1.2.1.1
    simp only [spilelaw47_ReliefEarlier.l0]
    rw [if_neg (by omega), cloneR_f (by omega), Option.bind_some, Grant_f hs _ (by omega), Option.bind_some, g1.grant]
    dsimp only
    rw [if_pos rfl, if_pos trivial, if_pos (by omega), if_pos (by omega), show ((n : Int)).toNat = n by simp, equal_f (by rw [List.length_take]; omega) (by omega), Option.bind_some, decide_eq_true rfl, if_pos rfl, equal_f (by omega) (by omega), decide_eq_true rfl]
    rfl
  | d + 1, i, k, hd, hk => by
    obtain ⟨k, rfl⟩ : ∃ m, k = m + 1 := ⟨k - 1, by omega⟩
    have ih := earlier_l0 (id := id) hs h hn d (i + 1) k (by omega) (by omega)
    have hx := h.2.1.1
    have hol := h.2.2.1
    have hlo : i < out.length := by omega
    rw [take_succ_I (by omega), take_snoc hlo, own_snoc, want_snoc id _ _ _ _ (by simp [hol])] at ih
    have o1 : (own id (xs.take i)).length ≤ 64 := by
      refine Nat.le_trans (List.length_filter_le _ _) ?_
      rw [List.length_take]; omega
    have o2 : (wantF id (xs.take i) (out.take i)).length ≤ 64 := by rw [(got_own id h i (by omega)).1.2.2.1]; exact o1
    have e1 : rd out (i : Int) = out.getD i 0 := rfl
    simp only [spilelaw47_ReliefEarlier.l0]
    rw [if_pos (by omega), if_pos (by omega), if_pos (by omega), rdI, e1, wsucc (by omega)]
    by_cases c : (I xs i).f4 = id
    · rw [if_pos c, if_pos c] at ih
      rw [if_pos c, if_pos (by omega), if_pos (by omega), if_pos (by omega)]
      exact ih
    · rw [if_neg c, if_neg c, List.append_nil, List.append_nil] at ih
      rw [if_neg c]
      exact ih
theorem reliefEarlier (l : List S33) (xs : List S25) (a id : Int) (hl : l.length ≤ 9223372036854775807) (wa : (Lit.int .u8 a).wf = true) : ∃ k, spilelaw47_ReliefEarlier.f k l xs a id = some true := by
  obtain ⟨K, hK1, hK2⟩ : ∃ K : Nat, l.length < K ∧ 10000 ≤ K := ⟨l.length + 10001, by omega, by omega⟩
  refine ⟨K + 2, ?_⟩
  unfold spilelaw47_ReliefEarlier.f
  rw [awake_f (by omega), Option.bind_some, if_pos rfl, few_f hl (by omega), Option.bind_some]
  cases h : (smallB l l.length && fewS l xs) with
  | false =>
    simp only [spilelaw47_ReliefEarlier.j0]
    rw [if_pos (show (!false) = true from rfl), awake_f (by omega)]; rfl
  | true =>
    obtain ⟨hs, h1, h2⟩ := few_true h
    simp only [spilelaw47_ReliefEarlier.j0]
    rw [if_neg (by simp), cloneR_f (by omega), Option.bind_some, cloneI_f (by omega), Option.bind_some, Grant_f hs xs (by omega), Option.bind_some]
    by_cases c : (grantS l xs).2.2 = 0
    · obtain ⟨hg, _⟩ := got_of c
      have hlen := hg.2.2.1
      have e1 : (((grantS l xs).1.length : Int) != (xs.length : Int)) = false := bne_eq_false_iff_eq.mpr (by omega)
      rw [if_pos c, e1]
      simp only [spilelaw47_ReliefEarlier.j1]
      have ha : 0 ≤ a ∧ a ≤ 255 := Go.bounds_u8 wa
      have hw : wrap64 ((xs.length : Int) + 1) = ((xs.length + 1 : Nat) : Int) := wsucc (by omega)
      obtain ⟨n, hN, hn⟩ : ∃ n : Nat, Int.tmod (wrap64 a) ((xs.length + 1 : Nat) : Int) = (n : Int) ∧ n ≤ xs.length := by
        rw [wid (by omega) (by omega), Int.tmod_eq_emod_of_nonneg (by omega)]
        have m1 := Int.emod_nonneg a (show ((xs.length + 1 : Nat) : Int) ≠ 0 by omega)
        have m2 := Int.emod_lt_of_pos a (show (0 : Int) < ((xs.length + 1 : Nat) : Int) by omega)
        exact ⟨(a % ((xs.length + 1 : Nat) : Int)).toNat, by omega, by omega⟩
      rw [if_neg (by simp), hw, if_neg (by omega), cloneR_f (by omega), Option.bind_some, hN, if_pos (by omega), if_pos (by omega), show ((n : Int)).toNat = n by simp, cloneI_f (by rw [List.length_take]; omega), Option.bind_some, Grant_f hs _ (by omega), Option.bind_some, (hg.take n).grant]
      exact earlier_l0 (id := id) hs hg hn xs.length 0 K (by omega) (by omega)
    · rw [if_neg c]
      simp only [spilelaw47_ReliefEarlier.j1]
      rw [if_pos trivial, grant_nil c]
      rfl
end Go.Proofs.Ytccocolcgdiglaa.Pure
