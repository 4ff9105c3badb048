import Derived.Test.YtcbmmhedefigeaaXx0
import Derived.ArgAppend
/-! append onto a full slice that came in: a new row. -/
namespace Go.Proofs.Ytcbmmhedefigeaa.X
set_option linter.unusedVariables false
set_option linter.unusedSimpArgs false
open Go.RowKit Go.Proofs.YtcbmmhedefigeaaW.PrintWords Go.Proofs.YtcbmmhedefigeaaW.PrintLast

section
variable {ops : Array Oper} {rest : List Oper} {o : Oper} {a : Act} {Q : Exit → Act → World → Prop}
theorem inner30 {W : World} {A : Option Addr} {n : Nat} {xs : List S30} (h : Kd.C k30 W A n xs) : ∃ inner : List Value, Reps (fun x cs => cs = [.int .i64 x.f0, .int .i64 x.f1]) 2 xs inner ∧ (∀ ad, A = some ad → ∀ j u, inner[j]? = some u → W.cell? (ad.add j) = some u) := by
  rcases A with _ | ad
  · have hn : n = 0 := by
      rcases Nat.eq_zero_or_pos n with h0 | h0
      · exact h0
      · obtain ⟨ad, e, _⟩ := h.2.2 h0; cases e
    subst hn
    obtain rfl : xs = [] := List.eq_nil_of_length_eq_zero h.1
    exact ⟨[], Reps.none _ _, fun ad e => by cases e⟩
  · obtain ⟨inner, h1, h2⟩ := ReadsRow.inner_ h
    exact ⟨inner, h1.imp_ (fun p c hp => k30_open hp), fun ad' e => by cases e; exact h2⟩
theorem grow30 {w0 W : World} (base : Nat) (hgd : o.guard = none) (s x : Operand) (ho : o.op = .call { callee := .builtin .append, args := #[s, x], argTypes := #[22, 22] })
    (A : Option Addr) (n cap : Nat) (ad : Addr) (m c : Nat) (xs ys : List S30) (hs : a.eval s = .slice A n cap) (hnone : A = none → n = 0 ∧ cap = 0) (hx : a.eval x = .slice (some ad) m c) (HR1 : Kd.C k30 W A n xs) (HR2 : Kd.C k30 W (some ad) m ys)
    (hfull : cap < n + m) (hl : (n + m) * 16 ≤ 140737488355328) (HB : Below base w0 W) (hbase : base ≤ W.heap.size)
    (h : ∀ v1 w1, Kd.R k30 30 w1 base (fun _ => True) v1 (xs ++ ys) → Below base w0 w1 → W.grownBy w1 none → wpList Try.prog ops Q rest (a.put o.dst v1) w1) : wpList Try.prog ops Q (o :: rest) a W := by
  obtain ⟨i0, hi, hz0, hz1, hz2⟩ := info_parts info30
  obtain ⟨olds, ho1, ho2⟩ := inner30 HR1
  obtain ⟨news, hn1, hn2⟩ := inner30 HR2
  have l1 : olds.length = n * 2 := by rw [ho1.1, HR1.1]
  have l2 : news.length = m * 2 := by rw [hn1.1, HR2.1]
  have rep : Reps (fun x cs => cs = [.int .i64 x.f0, .int .i64 x.f1]) 2 (xs ++ ys) (olds ++ news) := Kd.reps_append ho1 hn1
  have hone : ∀ u ∈ news, u.oneCell' = true := by
    intro u hu
    obtain ⟨q, hq, rfl⟩ := List.mem_iff_getElem.1 hu
    have hql : q / 2 < ys.length := by have := hn1.1; omega
    have hc := hn1.2 (q / 2) _ (List.getElem?_eq_getElem hql)
    have hmem : news[q] ∈ (news.drop (q / 2 * 2)).take 2 := by
      rw [List.mem_iff_getElem?]
      refine ⟨q % 2, ?_⟩
      rw [List.getElem?_take, if_pos (Nat.mod_lt _ (by omega)), List.getElem?_drop, Nat.mul_comm, Nat.div_add_mod, List.getElem?_eq_getElem hq]
    rw [hc] at hmem
    simp only [List.mem_cons, List.not_mem_nil, or_false] at hmem
    rcases hmem with e | e <;> rw [e] <;> rfl
  refine wpList_append_grows W hgd s x 22 ho 30 i0 (.agg #[(.int .i64 0), (.int .i64 0)]) 2 16 Try.underlying22 hi hz0 hz1 hz2 rfl (by omega) A n cap olds hs hnone l1 (fun b hb => ho2 b hb) ad m c news hx l2 (hn2 ad rfl) hone hfull (by simp only [maxLen]; omega) hl ?_
  intro v1 w1 hown hg
  refine h v1 w1 ⟨fun _ _ => trivial, olds ++ news, ?_, ?_⟩ (HB.grown hg hbase (fun k e => by cases e)) hg
  · have e : (xs ++ ys).length = n + m := by rw [List.length_append, HR1.1, HR2.1]
    rw [e]; exact own_weaken hown hbase
  · exact rep.imp_ (fun p c hp => by rw [hp]; exact k30_mkM _ _ _ _)
/-- .. the same in a region that draws its order -/
theorem grow30_step {w0 W : World} {Kc : Act → World → Prop} (base : Nat) (hw : Region.wanted o (yielded ops a.tmps) = true) (s x : Operand) (ho : o.op = .call { callee := .builtin .append, args := #[s, x], argTypes := #[22, 22] })
    (b : Addr) (n cap : Nat) (ad : Addr) (m c : Nat) (xs ys : List S30) (hs : a.eval s = .slice (some b) n cap) (hx : a.eval x = .slice (some ad) m c) (HR1 : Kd.C k30 W (some b) n xs) (HR2 : Kd.C k30 W (some ad) m ys)
    (hfull : cap < n + m) (hl : (n + m) * 16 ≤ 140737488355328) (HB : Below base w0 W) (hbase : base ≤ W.heap.size) (ok : Nat → Prop) (hok : ∀ k, W.heap.size ≤ k → ok k)
    (h : ∀ v1 w1, Kd.R k30 30 w1 base ok v1 (xs ++ ys) → Below base w0 w1 → W.grownBy w1 none → (∃ g, v1.ownBlock = some g ∧ W.heap.size ≤ g) → Kc (a.put o.dst v1) w1) :
    if Region.wanted o (yielded ops a.tmps) = true then Oper.wp Try.prog o a W Kc Q else Kc (a.put o.dst undef) W := by
  obtain ⟨i0, hi, hz0, hz1, hz2⟩ := info_parts info30
  obtain ⟨olds, ho1, ho2⟩ := inner30 HR1
  obtain ⟨news, hn1, hn2⟩ := inner30 HR2
  have l1 : olds.length = n * 2 := by rw [ho1.1, HR1.1]
  have l2 : news.length = m * 2 := by rw [hn1.1, HR2.1]
  have rep : Reps (fun x cs => cs = [.int .i64 x.f0, .int .i64 x.f1]) 2 (xs ++ ys) (olds ++ news) := Kd.reps_append ho1 hn1
  obtain ⟨v1, w1, hrun, hown, hg⟩ := run_append_arg_grows (P := Try.prog) W 22 o.type 30 i0 (.agg #[(.int .i64 0), (.int .i64 0)]) 2 16 Try.underlying22 hi hz0 hz1 hz2 rfl (by omega) b n cap olds l1 (ho2 b rfl) ad m c news l2 (hn2 ad rfl) hfull (by simp only [maxLen]; omega) hl
  have e : (xs ++ ys).length = n + m := by rw [List.length_append, HR1.1, HR2.1]
  have hpos : 0 < n + m := by omega
  have hblk : ∃ g, v1.ownBlock = some g ∧ W.heap.size ≤ g := by
    rcases hown.2 with ⟨_, h0⟩ | ⟨g, cp, cur, rfl, hge, _⟩
    · omega
    · exact ⟨g, by simp [Value.ownBlock], hge⟩
  have hR : Kd.R k30 30 w1 base ok v1 (xs ++ ys) := by
    refine ⟨fun k hk => ?_, olds ++ news, ?_, ?_⟩
    · obtain ⟨g, hg1, hg2⟩ := hblk
      rw [hg1] at hk
      cases hk
      exact hok _ hg2
    · rw [e]; exact own_weaken hown hbase
    · exact rep.imp_ (fun p c hp => by rw [hp]; exact k30_mkM _ _ _ _)
  rw [if_pos hw]
  unfold Oper.wp
  simp [execOp, ho, resolve, invoke, builtin, hs, hx, hrun, Result.andThen]
  exact h _ _ hR (HB.grown hg hbase (fun k e => by cases e)) hg hblk
theorem take30 {W : World} {A : Option Addr} {n : Nat} {xs : List S30} (h : Kd.C k30 W A n xs) {k : Nat} (hk : k ≤ n) : Kd.C k30 W A k (xs.take k) := by
  refine ⟨by rw [List.length_take, h.1]; omega, by have := h.2.1; omega, fun h0 => ?_⟩
  obtain ⟨ad, e, hc⟩ := h.2.2 (by omega)
  refine ⟨ad, e, fun j p hj => hc j p ?_⟩
  rw [List.getElem?_take] at hj
  split at hj
  · exact hj
  · cases hj
end
end Go.Proofs.Ytcbmmhedefigeaa.X
