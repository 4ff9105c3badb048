import Derived.Test.YtcbmmhedefigeaaXx0
/-! slices.ContainsFunc over a profile. -/
namespace Go.Proofs.Ytcbmmhedefigeaa.X
set_option linter.unusedVariables false
set_option linter.unusedSimpArgs false
open Go.RowKit Go.Proofs.YtcbmmhedefigeaaW.PrintWords Go.Proofs.YtcbmmhedefigeaaW.PrintLast

theorem any_at {l : List S30} {p : S30 → Bool} {j : Nat} (hj : j < l.length) (h : p (l.getD j z30) = true) : l.any p = true := by
  rw [List.any_eq_true]
  refine ⟨l[j], List.getElem_mem hj, ?_⟩
  have e : l.getD j z30 = l[j] := by simp [List.getD, hj]
  rwa [e] at h
theorem any_none {l : List S30} {p : S30 → Bool} (h : ∀ j, j < l.length → p (l.getD j z30) = false) : l.any p = false := by
  rw [List.any_eq_false]
  intro x hx
  obtain ⟨j, hj, rfl⟩ := List.mem_iff_getElem.1 hx
  have := h j hj
  have e : l.getD j z30 = l[j] := by simp [List.getD, hj]
  rw [e] at this
  simp [this]

set_option maxRecDepth 100000 in
set_option maxHeartbeats 400000 in
theorem index_calls (g : Nat) (lb : Array Value) (p : S30 → Bool) (A0 : Option Addr) (c0 : Nat) (l0 : List S30) (w : World) (hr0 : Kd.C k30 w A0 l0.length l0) (hc0 : l0.length ≤ c0) (hlen : l0.length < 1000000000000) (heg : ∀ args w, (callFunc g args).run Try.prog w = .ok (.enter g args) w)
    (hp : ∀ (x : S30) (w' : World), Below w.heap.size w w' → Calls Try.prog g (#[.agg #[.int .i64 x.f0, .int .i64 x.f1]] ++ lb) w' fun e w'' => e = .returned (.bool (p x)) ∧ Below w'.heap.size w' w'') :
    Calls Try.prog 55 #[.slice A0 l0.length c0, .func (.func g) #[] lb] w fun e w' => (∃ r : Int, e = .returned (.int .i64 r) ∧ ((0 ≤ r ∧ l0.any p = true) ∨ (r = -1 ∧ l0.any p = false))) ∧ Below w.heap.size w w' := by
  have hu30 := Try.underlying30
  have HR0 := Aside0.mk hr0
  have HC0 := Aside0.mk hc0
  have HP := Aside0.mk hp
  clear hr0 hc0 hp
  go_enter Try.func55, Try.ntmps55
  go_wp2
  go_loopg [8] (l0.length + 1) (fun kq v8 w' => ∃ j : Nat, v8 = .int .i64 (j : Int) ∧ j + kq = l0.length + 1 ∧ j ≤ l0.length ∧ Aside0 (∀ i, i < j → p (l0.getD i z30) = false) ∧ Below w.heap.size w w')
  case atStart => exact ⟨0, rfl, by omega, by omega, ⟨fun i hi => by omega⟩, Below.refl _ _⟩
  case round =>
    obtain ⟨j, rfl, hk, hj, HF, hb⟩ := hrel
    by_cases c : j < l0.length
    · have c4b0 : decide ((j : Int) < (l0.length : Int)) = true := decide_eq_true (by omega)
      obtain ⟨ad108, e108, hx0, hx1⟩ := at_T30 HR0.out (j : Int) (by omega) (by omega)
      cases e108
      replace hx0 := (hb.cell (World.block_lt_of_cell? w _ hx0)).trans hx0
      replace hx1 := (hb.cell (World.block_lt_of_cell? w _ hx1)).trans hx1
      have ej : ((j : Int).toNat) = j := by simp
      rw [ej] at hx0 hx1
      have q1 : (0 ≤ (j : Int)) = True := eq_true (by omega)
      have q2 : ((j : Int) < (l0.length : Int)) = True := eq_true (by omega)
      obtain ⟨x, hx⟩ : ∃ x, rd_T30 l0 (j : Int) = x := ⟨_, rfl⟩
      rw [hx] at hx0 hx1
      have hge := heg (#[.agg #[.int .i64 x.f0, .int .i64 x.f1]] ++ lb) wr
      have hw1 : IntKind.i64.wrap ((j : Int) + 1) = (j : Int) + 1 := IntWalk.i64_in _ (by omega)
      have hxg : l0.getD j z30 = x := by rw [← hx]; unfold rd_T30; rw [ej]
      cases hpx : p x with
      | true =>
        go_wp2_with (refine (HP.out x wr hb).mono ?_; rintro e w2 ⟨rfl, hb2⟩; rw [hpx])
        go_ret
        exact ⟨⟨_, rfl, .inl ⟨by omega, any_at c (by rw [hxg]; exact hpx)⟩⟩, hb.trans (hb2.mono hb.size)⟩
      | false =>
        go_wp2_with (refine (HP.out x wr hb).mono ?_; rintro e w2 ⟨rfl, hb2⟩; rw [hpx])
        obtain ⟨gk, rfl⟩ : ∃ m, gk = m + 1 := ⟨gk - 1, by omega⟩
        go_roundg gk
        case measure => omega
        case rel =>
          refine ⟨j + 1, by first | rfl | simp, by omega, by omega, ⟨fun i hi => ?_⟩, hb.trans (hb2.mono hb.size)⟩
          rcases Nat.lt_or_eq_of_le (Nat.le_of_lt_succ hi) with hi | rfl
          · exact HF.out i hi
          · rw [hxg]; exact hpx
    · have c4b0 : decide ((j : Int) < (l0.length : Int)) = false := decide_eq_false (by omega)
      go_wp2
      go_ret
      exact ⟨⟨_, rfl, .inr ⟨rfl, any_none (fun i hi => HF.out i (by omega))⟩⟩, hb⟩

set_option maxRecDepth 100000 in
set_option maxHeartbeats 400000 in
theorem contains_calls (g : Nat) (lb : Array Value) (p : S30 → Bool) (A0 : Option Addr) (c0 : Nat) (l0 : List S30) (w : World) (hr0 : Kd.C k30 w A0 l0.length l0) (hc0 : l0.length ≤ c0) (hlen : l0.length < 1000000000000) (heg : ∀ args w, (callFunc g args).run Try.prog w = .ok (.enter g args) w)
    (hp : ∀ (x : S30) (w' : World), Below w.heap.size w w' → Calls Try.prog g (#[.agg #[.int .i64 x.f0, .int .i64 x.f1]] ++ lb) w' fun e w'' => e = .returned (.bool (p x)) ∧ Below w'.heap.size w' w'') :
    Calls Try.prog 46 #[.slice A0 l0.length c0, .func (.func g) #[] lb] w fun e w' => e = .returned (.bool (l0.any p)) ∧ Below w.heap.size w w' := by
  have K := index_calls g lb p A0 c0 l0 w hr0 hc0 hlen heg hp
  go_enter Try.func46, Try.ntmps46
  go_wp2_with (go_at_call 55; refine K.mono ?_; rintro e w2 ⟨⟨r, rfl, hr⟩, hb2⟩)
  go_ret
  refine ⟨?_, hb2⟩
  rcases hr with ⟨h1, h2⟩ | ⟨rfl, h2⟩
  · rw [h2, decide_eq_true h1]; rfl
  · rw [h2]; rfl
end Go.Proofs.Ytcbmmhedefigeaa.X
