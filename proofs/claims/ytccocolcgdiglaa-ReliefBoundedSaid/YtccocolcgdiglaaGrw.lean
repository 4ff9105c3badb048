import Derived.Test.YtccocolcgdiglaaXx0
/-! slices.Grow of nil: an empty slice. -/
namespace Go.Proofs.Ytccocolcgdiglaa.X
set_option linter.unusedVariables false
set_option linter.unusedSimpArgs false
open Go.RowKit Go.Proofs.YtccocolcgdiglaaW.PrintWords Go.Proofs.YtccocolcgdiglaaW.PrintLast Go.Proofs.YtccocolcgdiglaaW.PrintMore

set_option maxRecDepth 100000 in
set_option maxHeartbeats 400000 in
theorem grow_nil (n : Int) (w : World) (h0 : 0 ≤ n) (h1 : n ≤ 1000000) :
    Calls Try.prog 40 #[.slice none 0 0, .int .i64 n] w fun e w' => ∃ v0_ : Value, e = .returned v0_ ∧ Kd.R k25 25 w' w.heap.size (fun _ => True) v0_ ([] : List S25) ∧ Below w.heap.size w w' := by
  have hw0 : wrap64 n = n := by unfold wrap64; omega
  have hd0 : decide (n < 0) = false := decide_eq_false (by omega)
  by_cases hn : 0 < n
  · have hd1 : decide (0 < n) = true := decide_eq_true hn
    have HB := Aside0.mk (Below.refl w.heap.size w)
    have HO := Aside0.mk (Kd.R_nil k25 25 w w.heap.size (fun _ => True))
    have HN := Aside0.mk h0
    have HN1 := Aside0.mk h1
    clear h0 h1 hn
    go_enter Try.func40, Try.ntmps40
    go_wp2_with (first | ((with_reducible refine gate_dst (N := 22) rfl ?_); refine Kd.R_append_zeros k25 (w0 := w) w.heap.size rfl (.tmp 20) (.tmp 21) 23 3 25 (.agg #[(.int .i64 0), (.int .i64 0), (.int .i64 0), (.int .i64 0), (.int .i64 0)]) 40 rfl Try.underlying23 Try.underlying3 info25 rfl (by decide) (by decide) (.slice none 0 0) ([] : List S25) z25 (wrap64 n) (fun _ => True) rfl rfl (k25_mkM _ _ _ z25) (fun _ _ => trivial) HO.out (by rw [hw0]; exact HN.out) HB.out (Nat.le_refl _) (by rw [hw0]; have := HN1.out; simp; omega) ?_; intro v1 w1 hR hb hg hat; have HR1 := Aside0.mk hR; have HB1 := Aside0.mk hb; obtain ⟨Ao, co, eo⟩ := Kd.R_slice HR1.out; subst eo; have HT := Aside0.mk (Kd.R_take (m := 0) HR1.out (Nat.zero_le _)); clear hR hb hg hat))
    go_ret
    exact ⟨_, rfl, HT.out, HB1.out⟩
  · have hd1 : decide (0 < n) = false := decide_eq_false hn
    go_enter Try.func40, Try.ntmps40
    go_wp2
    go_ret
    exact ⟨_, rfl, Kd.R_nil _ _ _ _ _, Below.refl _ _⟩
def api_Item_40.f (l0 : List S25) (a1 : Int) : Option (List S25) := if l0.length = 0 ∧ 0 ≤ a1 ∧ a1 ≤ 1000000 then some [] else none
theorem api_Item_40.calls (A0 : Option Addr) (c0 : Nat) (l0 : List S25) (a1 : Int) (r : List S25) (w : World) (hr0 : Kd.C k25 w A0 l0.length l0) (hc0 : l0.length ≤ c0) (h : api_Item_40.f l0 a1 = some r) (hA : A0 = none) (hc : c0 = 0) :
    Calls Try.prog 40 #[.slice A0 l0.length c0, .int .i64 a1] w fun e w' => ∃ v0_ : Value, e = .returned (v0_) ∧ Kd.R k25 25 w' w.heap.size (fun _ => True) v0_ r ∧ Below w.heap.size w w' := by
  unfold api_Item_40.f at h
  by_cases c : l0.length = 0 ∧ 0 ≤ a1 ∧ a1 ≤ 1000000
  · rw [if_pos c] at h
    obtain rfl := Option.some.inj h
    subst hA hc
    rw [c.1]
    exact grow_nil a1 w c.2.1 c.2.2
  · rw [if_neg c] at h; cases h
end Go.Proofs.Ytccocolcgdiglaa.X
