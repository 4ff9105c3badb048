import Derived.Test.YtcbmmhedefigeaaXx0
/-! slices.Clone of a profile. -/
namespace Go.Proofs.Ytcbmmhedefigeaa.X
set_option linter.unusedVariables false
set_option linter.unusedSimpArgs false
open Go.RowKit Go.Proofs.YtcbmmhedefigeaaW.PrintWords Go.Proofs.YtcbmmhedefigeaaW.PrintLast

theorem eq_nil_some22 (ad : Addr) (n c : Nat) (w : World) : (binOp .eql 22 (.slice (some ad) n c) (.slice none 0 0)).run Try.prog w = .ok (.bool false) w := by kernel_rfl
theorem eq_nil_none22 (n c : Nat) (w : World) : (binOp .eql 22 (.slice none n c) (.slice none 0 0)).run Try.prog w = .ok (.bool true) w := by kernel_rfl
attribute [local go_sem] eq_nil_some22 eq_nil_none22

def api_Point_13.f (l0 : List S30) : Option (List S30) := if l0.length < 8796093022208 then some l0 else none

set_option maxRecDepth 100000 in
set_option maxHeartbeats 400000 in
theorem api_Point_13.calls (A0 : Option Addr) (c0 : Nat) (l0 : List S30) (r : List S30) (w : World) (hr0 : Kd.C k30 w A0 l0.length l0) (hc0 : l0.length ≤ c0) (h : api_Point_13.f l0 = some r) :
    Calls Try.prog 13 #[.slice A0 l0.length c0] w fun e w' => ∃ v0_ : Value, e = .returned (v0_) ∧ Kd.R k30 30 w' w.heap.size (fun _ => True) v0_ r ∧ Below w.heap.size w w' := by
  unfold api_Point_13.f at h
  by_cases hb : l0.length < 8796093022208
  · rw [if_pos hb] at h
    obtain rfl := Option.some.inj h
    clear h
    have HB := Aside0.mk hb
    clear hb
    have HR0 := Aside0.mk hr0
    clear hr0
    cases A0 with
    | none =>
      have hnil : l0 = [] := by
        cases l0 with
        | nil => rfl
        | cons z zs => obtain ⟨_, e, _⟩ := HR0.out.2.2 (by simp); cases e
      subst hnil
      go_enter Try.func13, Try.ntmps13
      go_wp2
      go_ret
      exact ⟨_, rfl, Kd.R_nil _ _ _ _ _, Below.refl _ _⟩
    | some ad =>
      go_enter Try.func13, Try.ntmps13
      go_wp2_with (first | ((with_reducible refine gate_dst (N := 5) rfl ?_); refine Kd.R_lit k30 _ 30 ?hg (N := 5) ?hd (xs := ([] : List S30)) (inner := []) (ok := fun _ => True) (okp := fun _ => True) ?hr ?hp (fun _ hk => hk) trivial (Below.refl _ _) (Nat.le_refl _) (by simp) ?_; (case hd => rfl); (case hg => rfl); (case hr => first | (go_simp; done) | (go_simp; rfl)); (case hp => exact (Reps.none _ _)); intro v190 w15 ho16 hb15 hg_ hnew_; have HY := Aside0.mk ho16; have HB15 := Aside0.mk hb15; clear hg_ hnew_ ho16 hb15) | ((with_reducible refine gate_dst (N := 7) rfl ?_); refine Kd.R_append_rows k30 (w0 := w) w.heap.size (by rfl) (.tmp 5) (.tmp 6) 22 30 (.agg #[(.int .i64 0), (.int .i64 0)]) 16 rfl Try.underlying22 info30 rfl (by decide) (by omega) v190 [] l0 _ _ _ (fun _ => True) (fun _ => False) rfl rfl HY.out (Kd.C_below HR0.out HB15.out) (fun _ _ h => h) (fun _ h => h.elim) (fun k_ hk => trivial) HB15.out HB15.out.size (by have := HB.out; simp; omega) ?_; intro v2 w3 hO3 hB3 hg3 hat3; have HO3 := Aside0.mk hO3; have HB3 := Aside0.mk hB3; clear hO3 hB3 hg3 hat3))
      go_ret
      exact ⟨_, rfl, HO3.out, HB3.out⟩
  · rw [if_neg hb] at h; cases h
end Go.Proofs.Ytcbmmhedefigeaa.X
