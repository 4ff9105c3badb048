-- Written by a program of this work, over the kit's print of the translation. Not trusted: Lean checks it.
import Derived.Test.YtcbmmhedefigeaaXx0
import Derived.Test.YtcbmmhedefigeaaFru
namespace Go.Proofs.Ytcbmmhedefigeaa.X
open Go.RowKit Go.Proofs.YtcbmmhedefigeaaW.PrintWords Go.Proofs.YtcbmmhedefigeaaW.PrintLast Go.Proofs.YtcbmmhedefigeaaW.PrintMore
attribute [local go_sem] max2_int min2_int max_two min_two max_three min_three max_four min_four   -- for this text's walks alone
set_option linter.unusedVariables false
set_option linter.unusedSimpArgs false
/-! ### capacity_Space: function 14 -/
def capacity_Space.f (k : Nat) (l0 : List (S30)) : Option (Int × Int × Int) := (capacity_Frustums.f k l0).bind fun bt102 => (if bt102.2 = 0 then (some (wrap64 (Int.tdiv (wrap64 (bt102.1 * 333)) 318), wrap64 (Int.tdiv (wrap64 ((wrap64 (bt102.1 * 355)) + 338)) 339), 0)) else (some (0, 0, bt102.2)))
theorem capacity_Space.mono : ∀ a0 k, LeO (capacity_Space.f k a0) (capacity_Space.f (k + 1) a0) := by
 intro a0 k
 unfold capacity_Space.f
 repeat' first
   | (with_reducible exact capacity_Frustums.mono _ _)
   | (with_reducible exact LeO.refl _)
   | (with_reducible exact LeO.none _)
   | (with_reducible refine LeO.ite ?_ ?_)
   | (with_reducible refine LeO.bind ?_ (fun _ => ?_))
   | exact capacity_Frustums.mono _ _
   | exact LeO.none _
   | refine LeO.ite ?_ ?_
   | refine LeO.bind ?_ (fun _ => ?_)
set_option maxHeartbeats 8000000 in
set_option maxRecDepth 100000 in
theorem capacity_Space.calls (k : Nat) (A0 : Option Addr) (c0 : Nat) (l0 : List (S30)) (r1 : Int) (r2 : Int) (r3 : Int) (w : World) (hr0 : Kd.C k30 w A0 l0.length l0) (hc0 : l0.length ≤ c0) (h : capacity_Space.f k l0 = some (r1, r2, r3)) :
  Calls Try.prog 14 #[.slice A0 l0.length c0] w fun e w' => e = .returned (.tuple #[.agg #[.int .i64 r1, .int .i64 r2], .int .i64 r3]) ∧ Below w.heap.size w w' := by
 have hu32 := Try.underlying32
 have HR0 := Aside0.mk hr0
 have HC0 := Aside0.mk hc0
 clear hr0 hc0; have HB := Aside0.mk (Below.refl w.heap.size w)
 have H : ((capacity_Frustums.f k l0).bind fun bt102 => (if bt102.2 = 0 then (some (wrap64 (Int.tdiv (wrap64 (bt102.1 * 333)) 318), wrap64 (Int.tdiv (wrap64 ((wrap64 (bt102.1 * 355)) + 338)) 339), 0)) else (some (0, 0, bt102.2)))) = some (r1, r2, r3) := h
 clear h
 replace H := Option.bind_eq_some_iff.mp H
 obtain ⟨⟨t102, t103⟩, A20, H⟩ := H
 replace H : (if t103 = 0 then (some (wrap64 (Int.tdiv (wrap64 (t102 * 333)) 318), wrap64 (Int.tdiv (wrap64 ((wrap64 (t102 * 355)) + 338)) 339), 0)) else (some (0, 0, t103))) = some (r1, r2, r3) := H
 have A2 := Aside0.mk A20
 clear A20
 by_cases c3 : t103 = 0
 ·rw [if_pos c3] at H
  have c3b0 : (t103 == 0) = true := beq_iff_eq.mpr c3
  have c3b1 : (t103 != 0) = false := bne_eq_false_iff_eq.mpr c3
  clear c3
  simp only [Option.some.injEq, Prod.mk.injEq] at H
  obtain ⟨rfl, rfl, rfl⟩ := H
  go_enter Try.func14, Try.ntmps14
  go_wp2_with (first | ((with_reducible refine gate_dst (N := 2) rfl ?_); refine box_event ?hg (N := 2) ?hd (cs := #[.int .i64 0, .int .i64 0]) (t := 32) ?hr ?_; (case hd => rfl); (case hg => rfl); (case hr => first | (go_simp; done) | (go_simp; rfl)); intro gb101 hg w4 hbox hb; have n0_ := Aside0.mk (below_step (by repeat (first | (with_reducible first | exact HB.out | apply below_alloc | apply pw_below_drewN | apply below_drew1) | exact HB.out)) hb); have n1_ := Aside0.mk (hbox); have n2_ := Aside0.mk ((by rw [hg]; exact (below_size (by repeat (first | (with_reducible first | exact HB.out | apply below_alloc | apply pw_below_drewN | apply below_drew1) | exact HB.out))) : w.heap.size ≤ gb101)); have n3_ := Aside0.mk ((by rw [hg]; exact (below_size (by repeat (first | (with_reducible first | exact HB.out | apply below_alloc | apply pw_below_drewN | apply below_drew1) | exact HB.out))) : w.heap.size ≤ gb101)); clear HB; have HB := n0_; have BK101 := n1_; have GW101 := n2_; have GE101 := n3_; clear n0_ n1_ n2_ n3_; clear hb hbox hg) | ((with_reducible refine gate_callee (f := 12) rfl ?_); refine goesL_ (some 8) rfl rfl Try.func12 (by kernel_rfl) rfl #[.slice A0 l0.length c0] rfl (by (try simp only [List.map_toArray, List.map_cons, List.map_nil]); first | done | rfl | (simp only [List.length_drop, List.length_take]; rfl)) ?_; (with_reducible refine (capacity_Frustums.calls k _ _ l0 t102 t103 _ ?side1 ?side2 A2.out).mono ?_); (case side1 => repeat (first | exact (Kd.C_below HR0.out HB.out) | (with_reducible refine Kd.C_alloc ?_ _) | (with_reducible refine Kd.C_drewN ?_ _) | (with_reducible refine Kd.C_drew ?_))); (case side2 => exact HC0.out); rintro e w5 ⟨rfl, hb⟩; refine ⟨_, rfl, ?_⟩; have n0_ := Aside0.mk (blk_below (g := gb101) (o := .cells #[.int .i64 0, .int .i64 0] 32 (0, 0)) (by (with_reducible repeat (first | refine blk_drewN ?_ _ | refine blk_drew ?_ | refine blk_alloc ?_ _)); exact BK101.out) hb); have n1_ := Aside0.mk (below_step (by repeat (first | (with_reducible first | exact HB.out | apply below_alloc | apply pw_below_drewN | apply below_drew1 | refine below_set ?_ GE101.out) | exact HB.out)) hb); clear BK101; clear HB; have BK101 := n0_; have HB := n1_; clear n0_ n1_; (try clear hb); (try clear hb2); (try clear hk); (try clear hi); have hcz6_0 : w5.cell? ⟨gb101, 0, none⟩ = some (.int .i64 0) := (blk_cell BK101.out 0).trans rfl; have hcz6_1 : w5.cell? ⟨gb101, 1, none⟩ = some (.int .i64 0) := (blk_cell BK101.out 1).trans rfl; have hfz6_0 := blk_frozen BK101.out 0; have hfz6_1 := blk_frozen BK101.out 1))
  refine bodyPost_ret (results_ct rfl _ _ gb101 32 #[.int .i64 (wrap64 (Int.tdiv (wrap64 (t102 * 333)) 318)), .int .i64 (wrap64 (Int.tdiv (wrap64 ((wrap64 (t102 * 355)) + 338)) 339))] (0, 0) _ rfl (by (with_reducible repeat (first | refine blk_drewN ?_ _ | refine blk_drew ?_ | refine blk_alloc ?_ _)); refine blk_put (cs := #[.int .i64 (wrap64 (Int.tdiv (wrap64 (t102 * 333)) 318)), .int .i64 0]) ?_ 1 _ rfl; (with_reducible repeat (first | refine blk_drewN ?_ _ | refine blk_drew ?_ | refine blk_alloc ?_ _)); refine blk_put (cs := #[.int .i64 0, .int .i64 0]) ?_ 0 _ rfl; (with_reducible repeat (first | refine blk_drewN ?_ _ | refine blk_drew ?_ | refine blk_alloc ?_ _)); exact BK101.out) Try.underlying32 rfl (by kernel_rfl)) rfl ?_
  exact ⟨by first | rfl | (simp [errW_none, errW_some] <;> rfl) | (simp [*, errW_none, errW_some] <;> rfl), by repeat (first | (with_reducible first | exact HB.out | apply below_alloc | apply pw_below_drewN | apply below_drew1 | refine below_set ?_ GE101.out) | exact HB.out)⟩
 ·rw [if_neg c3] at H
  have c3b0 : (t103 == 0) = false := beq_eq_false_iff_ne.mpr c3
  have c3b1 : (t103 != 0) = true := bne_iff_ne.mpr c3
  simp only [Option.some.injEq, Prod.mk.injEq] at H
  obtain ⟨rfl, rfl, rfl⟩ := H
  go_enter Try.func14, Try.ntmps14
  go_wp2_with (first | ((with_reducible refine gate_dst (N := 2) rfl ?_); refine box_event ?hg (N := 2) ?hd (cs := #[.int .i64 0, .int .i64 0]) (t := 32) ?hr ?_; (case hd => rfl); (case hg => rfl); (case hr => first | (go_simp; done) | (go_simp; rfl)); intro gb101 hg w7 hbox hb; have n0_ := Aside0.mk (below_step (by repeat (first | (with_reducible first | exact HB.out | apply below_alloc | apply pw_below_drewN | apply below_drew1) | exact HB.out)) hb); have n1_ := Aside0.mk (hbox); have n2_ := Aside0.mk ((by rw [hg]; exact (below_size (by repeat (first | (with_reducible first | exact HB.out | apply below_alloc | apply pw_below_drewN | apply below_drew1) | exact HB.out))) : w.heap.size ≤ gb101)); have n3_ := Aside0.mk ((by rw [hg]; exact (below_size (by repeat (first | (with_reducible first | exact HB.out | apply below_alloc | apply pw_below_drewN | apply below_drew1) | exact HB.out))) : w.heap.size ≤ gb101)); clear HB; have HB := n0_; have BK101 := n1_; have GW101 := n2_; have GE101 := n3_; clear n0_ n1_ n2_ n3_; clear hb hbox hg) | ((with_reducible refine gate_callee (f := 12) rfl ?_); refine goesL_ (some 8) rfl rfl Try.func12 (by kernel_rfl) rfl #[.slice A0 l0.length c0] rfl (by (try simp only [List.map_toArray, List.map_cons, List.map_nil]); first | done | rfl | (simp only [List.length_drop, List.length_take]; rfl)) ?_; (with_reducible refine (capacity_Frustums.calls k _ _ l0 t102 t103 _ ?side1 ?side2 A2.out).mono ?_); (case side1 => repeat (first | exact (Kd.C_below HR0.out HB.out) | (with_reducible refine Kd.C_alloc ?_ _) | (with_reducible refine Kd.C_drewN ?_ _) | (with_reducible refine Kd.C_drew ?_))); (case side2 => exact HC0.out); rintro e w8 ⟨rfl, hb⟩; refine ⟨_, rfl, ?_⟩; have n0_ := Aside0.mk (blk_below (g := gb101) (o := .cells #[.int .i64 0, .int .i64 0] 32 (0, 0)) (by (with_reducible repeat (first | refine blk_drewN ?_ _ | refine blk_drew ?_ | refine blk_alloc ?_ _)); exact BK101.out) hb); have n1_ := Aside0.mk (below_step (by repeat (first | (with_reducible first | exact HB.out | apply below_alloc | apply pw_below_drewN | apply below_drew1 | refine below_set ?_ GE101.out) | exact HB.out)) hb); clear BK101; clear HB; have BK101 := n0_; have HB := n1_; clear n0_ n1_; (try clear hb); (try clear hb2); (try clear hk); (try clear hi); have hcz9_0 : w8.cell? ⟨gb101, 0, none⟩ = some (.int .i64 0) := (blk_cell BK101.out 0).trans rfl; have hcz9_1 : w8.cell? ⟨gb101, 1, none⟩ = some (.int .i64 0) := (blk_cell BK101.out 1).trans rfl; have hfz9_0 := blk_frozen BK101.out 0; have hfz9_1 := blk_frozen BK101.out 1))
  refine bodyPost_ret (results_ct rfl _ _ gb101 32 #[.int .i64 0, .int .i64 0] (0, 0) _ rfl (by (with_reducible repeat (first | refine blk_drewN ?_ _ | refine blk_drew ?_ | refine blk_alloc ?_ _)); refine blk_put (cs := #[.int .i64 0, .int .i64 0]) ?_ 1 _ rfl; (with_reducible repeat (first | refine blk_drewN ?_ _ | refine blk_drew ?_ | refine blk_alloc ?_ _)); refine blk_put (cs := #[.int .i64 0, .int .i64 0]) ?_ 0 _ rfl; (with_reducible repeat (first | refine blk_drewN ?_ _ | refine blk_drew ?_ | refine blk_alloc ?_ _)); exact BK101.out) Try.underlying32 rfl (by kernel_rfl)) rfl ?_
  exact ⟨by first | rfl | (simp [errW_none, errW_some] <;> rfl) | (simp [*, errW_none, errW_some] <;> rfl), by repeat (first | (with_reducible first | exact HB.out | apply below_alloc | apply pw_below_drewN | apply below_drew1 | refine below_set ?_ GE101.out) | exact HB.out)⟩
/-! ### cask_named: function 52 -/
mutual
def cask_named.j0 : Nat → ByteArray → Bool → Option (Bool)
 | 0, _, _ => none
 | k + 1, x0, x12 => if x12 = true then (some false) else (cask_named.l0 k x0 (x0.size : Int) 0)
def cask_named.l0 : Nat → ByteArray → Int → Int → Option (Bool)
 | 0, _, _, _ => none
 | k + 1, x0, x14, x15 => if x15 < x14 then (if 0 ≤ x15 then (if x15 < (x0.size : Int) then (if (bt x0 x15) ≥ 97 then (if (bt x0 x15) ≤ 122 then (cask_named.l0 k x0 x14 (wrap64 (x15 + 1))) else (if (bt x0 x15) ≥ 65 then (if (bt x0 x15) ≤ 90 then (cask_named.l0 k x0 x14 (wrap64 (x15 + 1))) else (if (bt x0 x15) ≥ 48 then (if (bt x0 x15) ≤ 57 then (cask_named.l0 k x0 x14 (wrap64 (x15 + 1))) else (if (bt x0 x15) = 45 then (cask_named.l0 k x0 x14 (wrap64 (x15 + 1))) else (if ((bt x0 x15) = 46) then (cask_named.l0 k x0 x14 (wrap64 (x15 + 1))) else (some false)))) else (if (bt x0 x15) = 45 then (cask_named.l0 k x0 x14 (wrap64 (x15 + 1))) else (if ((bt x0 x15) = 46) then (cask_named.l0 k x0 x14 (wrap64 (x15 + 1))) else (some false))))) else (if (bt x0 x15) ≥ 48 then (if (bt x0 x15) ≤ 57 then (cask_named.l0 k x0 x14 (wrap64 (x15 + 1))) else (if (bt x0 x15) = 45 then (cask_named.l0 k x0 x14 (wrap64 (x15 + 1))) else (if ((bt x0 x15) = 46) then (cask_named.l0 k x0 x14 (wrap64 (x15 + 1))) else (some false)))) else (if (bt x0 x15) = 45 then (cask_named.l0 k x0 x14 (wrap64 (x15 + 1))) else (if ((bt x0 x15) = 46) then (cask_named.l0 k x0 x14 (wrap64 (x15 + 1))) else (some false)))))) else (if (bt x0 x15) ≥ 65 then (if (bt x0 x15) ≤ 90 then (cask_named.l0 k x0 x14 (wrap64 (x15 + 1))) else (if (bt x0 x15) ≥ 48 then (if (bt x0 x15) ≤ 57 then (cask_named.l0 k x0 x14 (wrap64 (x15 + 1))) else (if (bt x0 x15) = 45 then (cask_named.l0 k x0 x14 (wrap64 (x15 + 1))) else (if ((bt x0 x15) = 46) then (cask_named.l0 k x0 x14 (wrap64 (x15 + 1))) else (some false)))) else (if (bt x0 x15) = 45 then (cask_named.l0 k x0 x14 (wrap64 (x15 + 1))) else (if ((bt x0 x15) = 46) then (cask_named.l0 k x0 x14 (wrap64 (x15 + 1))) else (some false))))) else (if (bt x0 x15) ≥ 48 then (if (bt x0 x15) ≤ 57 then (cask_named.l0 k x0 x14 (wrap64 (x15 + 1))) else (if (bt x0 x15) = 45 then (cask_named.l0 k x0 x14 (wrap64 (x15 + 1))) else (if ((bt x0 x15) = 46) then (cask_named.l0 k x0 x14 (wrap64 (x15 + 1))) else (some false)))) else (if (bt x0 x15) = 45 then (cask_named.l0 k x0 x14 (wrap64 (x15 + 1))) else (if ((bt x0 x15) = 46) then (cask_named.l0 k x0 x14 (wrap64 (x15 + 1))) else (some false)))))) else (none)) else (none)) else (some true)
end
def cask_named.f (k : Nat) (a0 : ByteArray) : Option (Bool) := if (a0.size : Int) < 1 then (cask_named.j0 k a0 true) else (cask_named.j0 k a0 (decide ((a0.size : Int) > 64)))
theorem cask_named.mono_l : ∀ k, (∀ y0 y1, LeO (cask_named.j0 k y0 y1) (cask_named.j0 (k + 1) y0 y1)) ∧ (∀ y0 y1 y2, LeO (cask_named.l0 k y0 y1 y2) (cask_named.l0 (k + 1) y0 y1 y2))
 | 0 => ⟨fun _ _ r h => by simp [cask_named.j0] at h, fun _ _ _ r h => by simp [cask_named.l0] at h⟩
 | k + 1 => by
  obtain ⟨ih0, ih1⟩ := cask_named.mono_l k
  refine ⟨?_, ?_⟩
  ·intro y0 y1
   unfold cask_named.j0
   repeat' first
   | (with_reducible exact ih0 _ _)
   | (with_reducible exact ih1 _ _ _)
   | (with_reducible exact LeO.refl _)
   | (with_reducible exact LeO.none _)
   | (with_reducible refine LeO.ite ?_ ?_)
   | (with_reducible refine LeO.bind ?_ (fun _ => ?_))
   | exact ih0 _ _
   | exact ih1 _ _ _
   | exact LeO.none _
   | refine LeO.ite ?_ ?_
   | refine LeO.bind ?_ (fun _ => ?_)
  ·intro y0 y1 y2
   unfold cask_named.l0
   repeat' first
   | (with_reducible exact ih0 _ _)
   | (with_reducible exact ih1 _ _ _)
   | (with_reducible exact LeO.refl _)
   | (with_reducible exact LeO.none _)
   | (with_reducible refine LeO.ite ?_ ?_)
   | (with_reducible refine LeO.bind ?_ (fun _ => ?_))
   | exact ih0 _ _
   | exact ih1 _ _ _
   | exact LeO.none _
   | refine LeO.ite ?_ ?_
   | refine LeO.bind ?_ (fun _ => ?_)
theorem cask_named.mono : ∀ a0 k, LeO (cask_named.f k a0) (cask_named.f (k + 1) a0) := by
 intro a0 k
 obtain ⟨ih0, ih1⟩ := cask_named.mono_l k
 unfold cask_named.f
 repeat' first
   | (with_reducible exact ih0 _ _)
   | (with_reducible exact ih1 _ _ _)
   | (with_reducible exact LeO.refl _)
   | (with_reducible exact LeO.none _)
   | (with_reducible refine LeO.ite ?_ ?_)
   | (with_reducible refine LeO.bind ?_ (fun _ => ?_))
   | exact ih0 _ _
   | exact ih1 _ _ _
   | exact LeO.none _
   | refine LeO.ite ?_ ?_
   | refine LeO.bind ?_ (fun _ => ?_)
set_option maxHeartbeats 8000000 in
set_option maxRecDepth 100000 in
theorem cask_named.calls (k : Nat) (a0 : ByteArray) (r : Bool) (w : World) (h : cask_named.f k a0 = some r) :
  Calls Try.prog 52 #[.string a0] w fun e w' => e = .returned (.bool r) ∧ Drawn0 w w' := by
 have H : (if (a0.size : Int) < 1 then (cask_named.j0 k a0 true) else (cask_named.j0 k a0 (decide ((a0.size : Int) > 64)))) = some r := h
 clear h
 have HC2 := Aside0.mk H
 clear H
 go_enter Try.func52, Try.ntmps52
 go_upto_region 1 with (fail)
 go_cut [12] (fun v12 wc => ∃ (kq : Nat) (x12_1 : Bool), v12 = .bool x12_1 ∧ Aside0 (cask_named.j0 kq a0 x12_1 = some r) ∧ Aside0 (kq ≤ k) ∧ Drawn0 w wc)
 case first =>
  have H := HC2.out; clear HC2
  by_cases c3 : (a0.size : Int) < 1
  ·rw [if_pos c3] at H
   have c3b0 : decide ((a0.size : Int) < 1) = true := decide_eq_true c3
   have c3b1 : decide (a0.size < 1) = true := decide_eq_true (by omega)
   clear c3
   (first | rw [c3b0] | (simp only [i64_w, i32_w]; rw [c3b0]) | skip)
   have H' := Aside0.mk H
   clear H
   go_wp2
   go_meet
   case rel => exact ⟨_, (true), (by first | rfl | (simp; done) | (simp [*]; done)), H', ⟨by first | omega | exact Nat.le_refl _⟩, by repeat (first | exact Drawn0.refl _ | apply Drawn0.step)⟩
  ·rw [if_neg c3] at H
   have c3b0 : decide ((a0.size : Int) < 1) = false := decide_eq_false c3
   have c3b1 : decide (a0.size < 1) = false := decide_eq_false (by omega)
   clear c3
   (first | rw [c3b0] | (simp only [i64_w, i32_w]; rw [c3b0]) | skip)
   have H' := Aside0.mk H
   clear H
   go_wp2
   go_meet
   case rel => exact ⟨_, (decide ((a0.size : Int) > 64)), (by first | rfl | (simp; done) | (simp [*]; done)), H', ⟨by first | omega | exact Nat.le_refl _⟩, by repeat (first | exact Drawn0.refl _ | apply Drawn0.step)⟩
 case rest =>
  clear HC2
  obtain ⟨kq, x12_1, rfl, HA, HJ1, ⟨mc1, rfl⟩⟩ := hcut
  cases kq with
  | zero => exact absurd HA.out (by simp [cask_named.j0])
  | succ kj1 =>
   have H := HA.out; clear HA
   simp only [cask_named.j0] at H
   by_cases c4 : x12_1 = true
   ·subst c4
    have H1 : (some false) = some r := by rw [if_pos rfl] at H; exact H
    clear H; have H := H1; clear H1
    obtain rfl := Option.some.inj H
    go_wp2
    go_ret
    exact ⟨by first | rfl | (simp; done) | (simp [*]; done), by repeat (first | exact Drawn0.refl _ | apply Drawn0.step)⟩
   ·replace c4 := Bool.eq_false_iff.mpr c4
    subst c4
    have H1 : (cask_named.l0 kj1 a0 (a0.size : Int) 0) = some r := by rw [if_neg (show ¬ (false = true) by decide)] at H; exact H
    clear H; have H := H1; clear H1
    have H' := Aside0.mk H
    clear H
    go_wp2
    go_loopg [15] kj1 (fun kq v15 w' => ∃ (x15_2 : Int), v15 = .int .i64 x15_2 ∧ Aside0 (cask_named.l0 kq a0 (a0.size : Int) x15_2 = some r) ∧ Aside0 (kq ≤ kj1) ∧ Drawn0 w w')
    case atStart => exact ⟨(0), (by first | rfl | (simp; done) | (simp [*]; done)), H', ⟨Nat.le_refl _⟩, by repeat (first | exact Drawn0.refl _ | apply Drawn0.step)⟩
    case round =>
     clear H'
     obtain ⟨x15_2, rfl, HA, HK2, ⟨m2, rfl⟩⟩ := hrel
     cases gk with
     | zero => exact absurd HA.out (by simp [cask_named.l0])
     | succ k2 =>
      have H := HA.out; clear HA
      simp only [cask_named.l0] at H
      by_cases c5 : x15_2 < (a0.size : Int)
      ·rw [if_pos c5] at H
       have c5b0 : decide (x15_2 < (a0.size : Int)) = true := decide_eq_true c5
       clear c5
       by_cases c6 : 0 ≤ x15_2
       ·rw [if_pos c6] at H
        have c6b0 : decide (0 ≤ x15_2) = true := decide_eq_true c6
        clear c6
        by_cases c7 : x15_2 < (a0.size : Int)
        ·rw [if_pos c7] at H
         have c7b0 : decide (x15_2 < (a0.size : Int)) = true := decide_eq_true c7
         clear c7
         by_cases c9 : (bt a0 x15_2) ≥ 97
         ·rw [if_pos c9] at H
          have c9b0 : decide (97 ≤ (bt a0 x15_2)) = true := decide_eq_true c9
          clear c9
          by_cases c10 : (bt a0 x15_2) ≤ 122
          ·rw [if_pos c10] at H
           have c10b0 : decide ((bt a0 x15_2) ≤ 122) = true := decide_eq_true c10
           clear c10
           have H' := Aside0.mk H
           clear H
           have p8 : 0 ≤ (x15_2 : Int) := of_decide_eq_true (by first | (with_reducible assumption) | assumption)
           have q8 : x15_2 < (a0.size : Int) := of_decide_eq_true (by first | (with_reducible assumption) | assumption)
           have hx8 := bt_at a0 x15_2
           replace p8 := eq_true p8
           replace q8 := eq_true q8
           go_wp2
           go_roundg k2
           case measure => have := HJ1.out; have := HK2.out; omega
           case rel => exact ⟨(wrap64 (x15_2 + 1)), (by first | rfl | (simp; done) | (simp [*]; done)), H', ⟨by have := HJ1.out; have := HK2.out; omega⟩, by repeat (first | exact Drawn0.refl _ | apply Drawn0.step)⟩
          ·rw [if_neg c10] at H
           have c10b0 : decide ((bt a0 x15_2) ≤ 122) = false := decide_eq_false c10
           clear c10
           by_cases c11 : (bt a0 x15_2) ≥ 65
           ·rw [if_pos c11] at H
            have c11b0 : decide (65 ≤ (bt a0 x15_2)) = true := decide_eq_true c11
            clear c11
            by_cases c12 : (bt a0 x15_2) ≤ 90
            ·rw [if_pos c12] at H
             have c12b0 : decide ((bt a0 x15_2) ≤ 90) = true := decide_eq_true c12
             clear c12
             have H' := Aside0.mk H
             clear H
             have p8 : 0 ≤ (x15_2 : Int) := of_decide_eq_true (by first | (with_reducible assumption) | assumption)
             have q8 : x15_2 < (a0.size : Int) := of_decide_eq_true (by first | (with_reducible assumption) | assumption)
             have hx8 := bt_at a0 x15_2
             replace p8 := eq_true p8
             replace q8 := eq_true q8
             go_wp2
             go_roundg k2
             case measure => have := HJ1.out; have := HK2.out; omega
             case rel => exact ⟨(wrap64 (x15_2 + 1)), (by first | rfl | (simp; done) | (simp [*]; done)), H', ⟨by have := HJ1.out; have := HK2.out; omega⟩, by repeat (first | exact Drawn0.refl _ | apply Drawn0.step)⟩
            ·rw [if_neg c12] at H
             have c12b0 : decide ((bt a0 x15_2) ≤ 90) = false := decide_eq_false c12
             clear c12
             by_cases c13 : (bt a0 x15_2) ≥ 48
             ·rw [if_pos c13] at H
              have c13b0 : decide (48 ≤ (bt a0 x15_2)) = true := decide_eq_true c13
              clear c13
              by_cases c14 : (bt a0 x15_2) ≤ 57
              ·rw [if_pos c14] at H
               have c14b0 : decide ((bt a0 x15_2) ≤ 57) = true := decide_eq_true c14
               clear c14
               have H' := Aside0.mk H
               clear H
               have p8 : 0 ≤ (x15_2 : Int) := of_decide_eq_true (by first | (with_reducible assumption) | assumption)
               have q8 : x15_2 < (a0.size : Int) := of_decide_eq_true (by first | (with_reducible assumption) | assumption)
               have hx8 := bt_at a0 x15_2
               replace p8 := eq_true p8
               replace q8 := eq_true q8
               go_wp2
               go_roundg k2
               case measure => have := HJ1.out; have := HK2.out; omega
               case rel => exact ⟨(wrap64 (x15_2 + 1)), (by first | rfl | (simp; done) | (simp [*]; done)), H', ⟨by have := HJ1.out; have := HK2.out; omega⟩, by repeat (first | exact Drawn0.refl _ | apply Drawn0.step)⟩
              ·rw [if_neg c14] at H
               have c14b0 : decide ((bt a0 x15_2) ≤ 57) = false := decide_eq_false c14
               clear c14
               by_cases c15 : (bt a0 x15_2) = 45
               ·rw [if_pos c15] at H
                have c15b0 : ((bt a0 x15_2) == 45) = true := beq_iff_eq.mpr c15
                have c15b1 : ((bt a0 x15_2) != 45) = false := bne_eq_false_iff_eq.mpr c15
                clear c15
                have H' := Aside0.mk H
                clear H
                have p8 : 0 ≤ (x15_2 : Int) := of_decide_eq_true (by first | (with_reducible assumption) | assumption)
                have q8 : x15_2 < (a0.size : Int) := of_decide_eq_true (by first | (with_reducible assumption) | assumption)
                have hx8 := bt_at a0 x15_2
                replace p8 := eq_true p8
                replace q8 := eq_true q8
                go_wp2
                go_roundg k2
                case measure => have := HJ1.out; have := HK2.out; omega
                case rel => exact ⟨(wrap64 (x15_2 + 1)), (by first | rfl | (simp; done) | (simp [*]; done)), H', ⟨by have := HJ1.out; have := HK2.out; omega⟩, by repeat (first | exact Drawn0.refl _ | apply Drawn0.step)⟩
               ·rw [if_neg c15] at H
                have c15b0 : ((bt a0 x15_2) == 45) = false := beq_eq_false_iff_ne.mpr c15
                have c15b1 : ((bt a0 x15_2) != 45) = true := bne_iff_ne.mpr c15
                by_cases c16 : ((bt a0 x15_2) = 46)
                ·rw [if_pos c16] at H
                 have c16b0 : ((bt a0 x15_2) == 46) = true := beq_iff_eq.mpr c16
                 have c16b1 : ((bt a0 x15_2) != 46) = false := bne_eq_false_iff_eq.mpr c16
                 clear c16
                 have H' := Aside0.mk H
                 clear H
                 have p8 : 0 ≤ (x15_2 : Int) := of_decide_eq_true (by first | (with_reducible assumption) | assumption)
                 have q8 : x15_2 < (a0.size : Int) := of_decide_eq_true (by first | (with_reducible assumption) | assumption)
                 have hx8 := bt_at a0 x15_2
                 replace p8 := eq_true p8
                 replace q8 := eq_true q8
                 go_wp2
                 go_roundg k2
                 case measure => have := HJ1.out; have := HK2.out; omega
                 case rel => exact ⟨(wrap64 (x15_2 + 1)), (by first | rfl | (simp; done) | (simp [*]; done)), H', ⟨by have := HJ1.out; have := HK2.out; omega⟩, by repeat (first | exact Drawn0.refl _ | apply Drawn0.step)⟩
                ·rw [if_neg c16] at H
                 have c16b0 : ((bt a0 x15_2) == 46) = false := beq_eq_false_iff_ne.mpr c16
                 have c16b1 : ((bt a0 x15_2) != 46) = true := bne_iff_ne.mpr c16
                 obtain rfl := Option.some.inj H
                 have p8 : 0 ≤ (x15_2 : Int) := of_decide_eq_true (by first | (with_reducible assumption) | assumption)
                 have q8 : x15_2 < (a0.size : Int) := of_decide_eq_true (by first | (with_reducible assumption) | assumption)
                 have hx8 := bt_at a0 x15_2
                 replace p8 := eq_true p8
                 replace q8 := eq_true q8
                 go_wp2
                 go_ret
                 exact ⟨by first | rfl | (simp; done) | (simp [*]; done), by repeat (first | exact Drawn0.refl _ | apply Drawn0.step)⟩
             ·rw [if_neg c13] at H
              have c13b0 : decide (48 ≤ (bt a0 x15_2)) = false := decide_eq_false c13
              clear c13
              by_cases c17 : (bt a0 x15_2) = 45
              ·rw [if_pos c17] at H
               have c17b0 : ((bt a0 x15_2) == 45) = true := beq_iff_eq.mpr c17
               have c17b1 : ((bt a0 x15_2) != 45) = false := bne_eq_false_iff_eq.mpr c17
               clear c17
               have H' := Aside0.mk H
               clear H
               have p8 : 0 ≤ (x15_2 : Int) := of_decide_eq_true (by first | (with_reducible assumption) | assumption)
               have q8 : x15_2 < (a0.size : Int) := of_decide_eq_true (by first | (with_reducible assumption) | assumption)
               have hx8 := bt_at a0 x15_2
               replace p8 := eq_true p8
               replace q8 := eq_true q8
               go_wp2
               go_roundg k2
               case measure => have := HJ1.out; have := HK2.out; omega
               case rel => exact ⟨(wrap64 (x15_2 + 1)), (by first | rfl | (simp; done) | (simp [*]; done)), H', ⟨by have := HJ1.out; have := HK2.out; omega⟩, by repeat (first | exact Drawn0.refl _ | apply Drawn0.step)⟩
              ·rw [if_neg c17] at H
               have c17b0 : ((bt a0 x15_2) == 45) = false := beq_eq_false_iff_ne.mpr c17
               have c17b1 : ((bt a0 x15_2) != 45) = true := bne_iff_ne.mpr c17
               by_cases c18 : ((bt a0 x15_2) = 46)
               ·rw [if_pos c18] at H
                have c18b0 : ((bt a0 x15_2) == 46) = true := beq_iff_eq.mpr c18
                have c18b1 : ((bt a0 x15_2) != 46) = false := bne_eq_false_iff_eq.mpr c18
                clear c18
                have H' := Aside0.mk H
                clear H
                have p8 : 0 ≤ (x15_2 : Int) := of_decide_eq_true (by first | (with_reducible assumption) | assumption)
                have q8 : x15_2 < (a0.size : Int) := of_decide_eq_true (by first | (with_reducible assumption) | assumption)
                have hx8 := bt_at a0 x15_2
                replace p8 := eq_true p8
                replace q8 := eq_true q8
                go_wp2
                go_roundg k2
                case measure => have := HJ1.out; have := HK2.out; omega
                case rel => exact ⟨(wrap64 (x15_2 + 1)), (by first | rfl | (simp; done) | (simp [*]; done)), H', ⟨by have := HJ1.out; have := HK2.out; omega⟩, by repeat (first | exact Drawn0.refl _ | apply Drawn0.step)⟩
               ·rw [if_neg c18] at H
                have c18b0 : ((bt a0 x15_2) == 46) = false := beq_eq_false_iff_ne.mpr c18
                have c18b1 : ((bt a0 x15_2) != 46) = true := bne_iff_ne.mpr c18
                obtain rfl := Option.some.inj H
                have p8 : 0 ≤ (x15_2 : Int) := of_decide_eq_true (by first | (with_reducible assumption) | assumption)
                have q8 : x15_2 < (a0.size : Int) := of_decide_eq_true (by first | (with_reducible assumption) | assumption)
                have hx8 := bt_at a0 x15_2
                replace p8 := eq_true p8
                replace q8 := eq_true q8
                go_wp2
                go_ret
                exact ⟨by first | rfl | (simp; done) | (simp [*]; done), by repeat (first | exact Drawn0.refl _ | apply Drawn0.step)⟩
           ·rw [if_neg c11] at H
            have c11b0 : decide (65 ≤ (bt a0 x15_2)) = false := decide_eq_false c11
            clear c11
            by_cases c19 : (bt a0 x15_2) ≥ 48
            ·rw [if_pos c19] at H
             have c19b0 : decide (48 ≤ (bt a0 x15_2)) = true := decide_eq_true c19
             clear c19
             by_cases c20 : (bt a0 x15_2) ≤ 57
             ·rw [if_pos c20] at H
              have c20b0 : decide ((bt a0 x15_2) ≤ 57) = true := decide_eq_true c20
              clear c20
              have H' := Aside0.mk H
              clear H
              have p8 : 0 ≤ (x15_2 : Int) := of_decide_eq_true (by first | (with_reducible assumption) | assumption)
              have q8 : x15_2 < (a0.size : Int) := of_decide_eq_true (by first | (with_reducible assumption) | assumption)
              have hx8 := bt_at a0 x15_2
              replace p8 := eq_true p8
              replace q8 := eq_true q8
              go_wp2
              go_roundg k2
              case measure => have := HJ1.out; have := HK2.out; omega
              case rel => exact ⟨(wrap64 (x15_2 + 1)), (by first | rfl | (simp; done) | (simp [*]; done)), H', ⟨by have := HJ1.out; have := HK2.out; omega⟩, by repeat (first | exact Drawn0.refl _ | apply Drawn0.step)⟩
             ·rw [if_neg c20] at H
              have c20b0 : decide ((bt a0 x15_2) ≤ 57) = false := decide_eq_false c20
              clear c20
              by_cases c21 : (bt a0 x15_2) = 45
              ·rw [if_pos c21] at H
               have c21b0 : ((bt a0 x15_2) == 45) = true := beq_iff_eq.mpr c21
               have c21b1 : ((bt a0 x15_2) != 45) = false := bne_eq_false_iff_eq.mpr c21
               clear c21
               have H' := Aside0.mk H
               clear H
               have p8 : 0 ≤ (x15_2 : Int) := of_decide_eq_true (by first | (with_reducible assumption) | assumption)
               have q8 : x15_2 < (a0.size : Int) := of_decide_eq_true (by first | (with_reducible assumption) | assumption)
               have hx8 := bt_at a0 x15_2
               replace p8 := eq_true p8
               replace q8 := eq_true q8
               go_wp2
               go_roundg k2
               case measure => have := HJ1.out; have := HK2.out; omega
               case rel => exact ⟨(wrap64 (x15_2 + 1)), (by first | rfl | (simp; done) | (simp [*]; done)), H', ⟨by have := HJ1.out; have := HK2.out; omega⟩, by repeat (first | exact Drawn0.refl _ | apply Drawn0.step)⟩
              ·rw [if_neg c21] at H
               have c21b0 : ((bt a0 x15_2) == 45) = false := beq_eq_false_iff_ne.mpr c21
               have c21b1 : ((bt a0 x15_2) != 45) = true := bne_iff_ne.mpr c21
               by_cases c22 : ((bt a0 x15_2) = 46)
               ·rw [if_pos c22] at H
                have c22b0 : ((bt a0 x15_2) == 46) = true := beq_iff_eq.mpr c22
                have c22b1 : ((bt a0 x15_2) != 46) = false := bne_eq_false_iff_eq.mpr c22
                clear c22
                have H' := Aside0.mk H
                clear H
                have p8 : 0 ≤ (x15_2 : Int) := of_decide_eq_true (by first | (with_reducible assumption) | assumption)
                have q8 : x15_2 < (a0.size : Int) := of_decide_eq_true (by first | (with_reducible assumption) | assumption)
                have hx8 := bt_at a0 x15_2
                replace p8 := eq_true p8
                replace q8 := eq_true q8
                go_wp2
                go_roundg k2
                case measure => have := HJ1.out; have := HK2.out; omega
                case rel => exact ⟨(wrap64 (x15_2 + 1)), (by first | rfl | (simp; done) | (simp [*]; done)), H', ⟨by have := HJ1.out; have := HK2.out; omega⟩, by repeat (first | exact Drawn0.refl _ | apply Drawn0.step)⟩
               ·rw [if_neg c22] at H
                have c22b0 : ((bt a0 x15_2) == 46) = false := beq_eq_false_iff_ne.mpr c22
                have c22b1 : ((bt a0 x15_2) != 46) = true := bne_iff_ne.mpr c22
                obtain rfl := Option.some.inj H
                have p8 : 0 ≤ (x15_2 : Int) := of_decide_eq_true (by first | (with_reducible assumption) | assumption)
                have q8 : x15_2 < (a0.size : Int) := of_decide_eq_true (by first | (with_reducible assumption) | assumption)
                have hx8 := bt_at a0 x15_2
                replace p8 := eq_true p8
                replace q8 := eq_true q8
                go_wp2
                go_ret
                exact ⟨by first | rfl | (simp; done) | (simp [*]; done), by repeat (first | exact Drawn0.refl _ | apply Drawn0.step)⟩
            ·rw [if_neg c19] at H
             have c19b0 : decide (48 ≤ (bt a0 x15_2)) = false := decide_eq_false c19
             clear c19
             by_cases c23 : (bt a0 x15_2) = 45
             ·rw [if_pos c23] at H
              have c23b0 : ((bt a0 x15_2) == 45) = true := beq_iff_eq.mpr c23
              have c23b1 : ((bt a0 x15_2) != 45) = false := bne_eq_false_iff_eq.mpr c23
              clear c23
              have H' := Aside0.mk H
              clear H
              have p8 : 0 ≤ (x15_2 : Int) := of_decide_eq_true (by first | (with_reducible assumption) | assumption)
              have q8 : x15_2 < (a0.size : Int) := of_decide_eq_true (by first | (with_reducible assumption) | assumption)
              have hx8 := bt_at a0 x15_2
              replace p8 := eq_true p8
              replace q8 := eq_true q8
              go_wp2
              go_roundg k2
              case measure => have := HJ1.out; have := HK2.out; omega
              case rel => exact ⟨(wrap64 (x15_2 + 1)), (by first | rfl | (simp; done) | (simp [*]; done)), H', ⟨by have := HJ1.out; have := HK2.out; omega⟩, by repeat (first | exact Drawn0.refl _ | apply Drawn0.step)⟩
             ·rw [if_neg c23] at H
              have c23b0 : ((bt a0 x15_2) == 45) = false := beq_eq_false_iff_ne.mpr c23
              have c23b1 : ((bt a0 x15_2) != 45) = true := bne_iff_ne.mpr c23
              by_cases c24 : ((bt a0 x15_2) = 46)
              ·rw [if_pos c24] at H
               have c24b0 : ((bt a0 x15_2) == 46) = true := beq_iff_eq.mpr c24
               have c24b1 : ((bt a0 x15_2) != 46) = false := bne_eq_false_iff_eq.mpr c24
               clear c24
               have H' := Aside0.mk H
               clear H
               have p8 : 0 ≤ (x15_2 : Int) := of_decide_eq_true (by first | (with_reducible assumption) | assumption)
               have q8 : x15_2 < (a0.size : Int) := of_decide_eq_true (by first | (with_reducible assumption) | assumption)
               have hx8 := bt_at a0 x15_2
               replace p8 := eq_true p8
               replace q8 := eq_true q8
               go_wp2
               go_roundg k2
               case measure => have := HJ1.out; have := HK2.out; omega
               case rel => exact ⟨(wrap64 (x15_2 + 1)), (by first | rfl | (simp; done) | (simp [*]; done)), H', ⟨by have := HJ1.out; have := HK2.out; omega⟩, by repeat (first | exact Drawn0.refl _ | apply Drawn0.step)⟩
              ·rw [if_neg c24] at H
               have c24b0 : ((bt a0 x15_2) == 46) = false := beq_eq_false_iff_ne.mpr c24
               have c24b1 : ((bt a0 x15_2) != 46) = true := bne_iff_ne.mpr c24
               obtain rfl := Option.some.inj H
               have p8 : 0 ≤ (x15_2 : Int) := of_decide_eq_true (by first | (with_reducible assumption) | assumption)
               have q8 : x15_2 < (a0.size : Int) := of_decide_eq_true (by first | (with_reducible assumption) | assumption)
               have hx8 := bt_at a0 x15_2
               replace p8 := eq_true p8
               replace q8 := eq_true q8
               go_wp2
               go_ret
               exact ⟨by first | rfl | (simp; done) | (simp [*]; done), by repeat (first | exact Drawn0.refl _ | apply Drawn0.step)⟩
         ·rw [if_neg c9] at H
          have c9b0 : decide (97 ≤ (bt a0 x15_2)) = false := decide_eq_false c9
          clear c9
          by_cases c25 : (bt a0 x15_2) ≥ 65
          ·rw [if_pos c25] at H
           have c25b0 : decide (65 ≤ (bt a0 x15_2)) = true := decide_eq_true c25
           clear c25
           by_cases c26 : (bt a0 x15_2) ≤ 90
           ·rw [if_pos c26] at H
            have c26b0 : decide ((bt a0 x15_2) ≤ 90) = true := decide_eq_true c26
            clear c26
            have H' := Aside0.mk H
            clear H
            have p8 : 0 ≤ (x15_2 : Int) := of_decide_eq_true (by first | (with_reducible assumption) | assumption)
            have q8 : x15_2 < (a0.size : Int) := of_decide_eq_true (by first | (with_reducible assumption) | assumption)
            have hx8 := bt_at a0 x15_2
            replace p8 := eq_true p8
            replace q8 := eq_true q8
            go_wp2
            go_roundg k2
            case measure => have := HJ1.out; have := HK2.out; omega
            case rel => exact ⟨(wrap64 (x15_2 + 1)), (by first | rfl | (simp; done) | (simp [*]; done)), H', ⟨by have := HJ1.out; have := HK2.out; omega⟩, by repeat (first | exact Drawn0.refl _ | apply Drawn0.step)⟩
           ·rw [if_neg c26] at H
            have c26b0 : decide ((bt a0 x15_2) ≤ 90) = false := decide_eq_false c26
            clear c26
            by_cases c27 : (bt a0 x15_2) ≥ 48
            ·rw [if_pos c27] at H
             have c27b0 : decide (48 ≤ (bt a0 x15_2)) = true := decide_eq_true c27
             clear c27
             by_cases c28 : (bt a0 x15_2) ≤ 57
             ·rw [if_pos c28] at H
              have c28b0 : decide ((bt a0 x15_2) ≤ 57) = true := decide_eq_true c28
              clear c28
              have H' := Aside0.mk H
              clear H
              have p8 : 0 ≤ (x15_2 : Int) := of_decide_eq_true (by first | (with_reducible assumption) | assumption)
              have q8 : x15_2 < (a0.size : Int) := of_decide_eq_true (by first | (with_reducible assumption) | assumption)
              have hx8 := bt_at a0 x15_2
              replace p8 := eq_true p8
              replace q8 := eq_true q8
              go_wp2
              go_roundg k2
              case measure => have := HJ1.out; have := HK2.out; omega
              case rel => exact ⟨(wrap64 (x15_2 + 1)), (by first | rfl | (simp; done) | (simp [*]; done)), H', ⟨by have := HJ1.out; have := HK2.out; omega⟩, by repeat (first | exact Drawn0.refl _ | apply Drawn0.step)⟩
             ·rw [if_neg c28] at H
              have c28b0 : decide ((bt a0 x15_2) ≤ 57) = false := decide_eq_false c28
              clear c28
              by_cases c29 : (bt a0 x15_2) = 45
              ·rw [if_pos c29] at H
               have c29b0 : ((bt a0 x15_2) == 45) = true := beq_iff_eq.mpr c29
               have c29b1 : ((bt a0 x15_2) != 45) = false := bne_eq_false_iff_eq.mpr c29
               clear c29
               have H' := Aside0.mk H
               clear H
               have p8 : 0 ≤ (x15_2 : Int) := of_decide_eq_true (by first | (with_reducible assumption) | assumption)
               have q8 : x15_2 < (a0.size : Int) := of_decide_eq_true (by first | (with_reducible assumption) | assumption)
               have hx8 := bt_at a0 x15_2
               replace p8 := eq_true p8
               replace q8 := eq_true q8
               go_wp2
               go_roundg k2
               case measure => have := HJ1.out; have := HK2.out; omega
               case rel => exact ⟨(wrap64 (x15_2 + 1)), (by first | rfl | (simp; done) | (simp [*]; done)), H', ⟨by have := HJ1.out; have := HK2.out; omega⟩, by repeat (first | exact Drawn0.refl _ | apply Drawn0.step)⟩
              ·rw [if_neg c29] at H
               have c29b0 : ((bt a0 x15_2) == 45) = false := beq_eq_false_iff_ne.mpr c29
               have c29b1 : ((bt a0 x15_2) != 45) = true := bne_iff_ne.mpr c29
               by_cases c30 : ((bt a0 x15_2) = 46)
               ·rw [if_pos c30] at H
                have c30b0 : ((bt a0 x15_2) == 46) = true := beq_iff_eq.mpr c30
                have c30b1 : ((bt a0 x15_2) != 46) = false := bne_eq_false_iff_eq.mpr c30
                clear c30
                have H' := Aside0.mk H
                clear H
                have p8 : 0 ≤ (x15_2 : Int) := of_decide_eq_true (by first | (with_reducible assumption) | assumption)
                have q8 : x15_2 < (a0.size : Int) := of_decide_eq_true (by first | (with_reducible assumption) | assumption)
                have hx8 := bt_at a0 x15_2
                replace p8 := eq_true p8
                replace q8 := eq_true q8
                go_wp2
                go_roundg k2
                case measure => have := HJ1.out; have := HK2.out; omega
                case rel => exact ⟨(wrap64 (x15_2 + 1)), (by first | rfl | (simp; done) | (simp [*]; done)), H', ⟨by have := HJ1.out; have := HK2.out; omega⟩, by repeat (first | exact Drawn0.refl _ | apply Drawn0.step)⟩
               ·rw [if_neg c30] at H
                have c30b0 : ((bt a0 x15_2) == 46) = false := beq_eq_false_iff_ne.mpr c30
                have c30b1 : ((bt a0 x15_2) != 46) = true := bne_iff_ne.mpr c30
                obtain rfl := Option.some.inj H
                have p8 : 0 ≤ (x15_2 : Int) := of_decide_eq_true (by first | (with_reducible assumption) | assumption)
                have q8 : x15_2 < (a0.size : Int) := of_decide_eq_true (by first | (with_reducible assumption) | assumption)
                have hx8 := bt_at a0 x15_2
                replace p8 := eq_true p8
                replace q8 := eq_true q8
                go_wp2
                go_ret
                exact ⟨by first | rfl | (simp; done) | (simp [*]; done), by repeat (first | exact Drawn0.refl _ | apply Drawn0.step)⟩
            ·rw [if_neg c27] at H
             have c27b0 : decide (48 ≤ (bt a0 x15_2)) = false := decide_eq_false c27
             clear c27
             by_cases c31 : (bt a0 x15_2) = 45
             ·rw [if_pos c31] at H
              have c31b0 : ((bt a0 x15_2) == 45) = true := beq_iff_eq.mpr c31
              have c31b1 : ((bt a0 x15_2) != 45) = false := bne_eq_false_iff_eq.mpr c31
              clear c31
              have H' := Aside0.mk H
              clear H
              have p8 : 0 ≤ (x15_2 : Int) := of_decide_eq_true (by first | (with_reducible assumption) | assumption)
              have q8 : x15_2 < (a0.size : Int) := of_decide_eq_true (by first | (with_reducible assumption) | assumption)
              have hx8 := bt_at a0 x15_2
              replace p8 := eq_true p8
              replace q8 := eq_true q8
              go_wp2
              go_roundg k2
              case measure => have := HJ1.out; have := HK2.out; omega
              case rel => exact ⟨(wrap64 (x15_2 + 1)), (by first | rfl | (simp; done) | (simp [*]; done)), H', ⟨by have := HJ1.out; have := HK2.out; omega⟩, by repeat (first | exact Drawn0.refl _ | apply Drawn0.step)⟩
             ·rw [if_neg c31] at H
              have c31b0 : ((bt a0 x15_2) == 45) = false := beq_eq_false_iff_ne.mpr c31
              have c31b1 : ((bt a0 x15_2) != 45) = true := bne_iff_ne.mpr c31
              by_cases c32 : ((bt a0 x15_2) = 46)
              ·rw [if_pos c32] at H
               have c32b0 : ((bt a0 x15_2) == 46) = true := beq_iff_eq.mpr c32
               have c32b1 : ((bt a0 x15_2) != 46) = false := bne_eq_false_iff_eq.mpr c32
               clear c32
               have H' := Aside0.mk H
               clear H
               have p8 : 0 ≤ (x15_2 : Int) := of_decide_eq_true (by first | (with_reducible assumption) | assumption)
               have q8 : x15_2 < (a0.size : Int) := of_decide_eq_true (by first | (with_reducible assumption) | assumption)
               have hx8 := bt_at a0 x15_2
               replace p8 := eq_true p8
               replace q8 := eq_true q8
               go_wp2
               go_roundg k2
               case measure => have := HJ1.out; have := HK2.out; omega
               case rel => exact ⟨(wrap64 (x15_2 + 1)), (by first | rfl | (simp; done) | (simp [*]; done)), H', ⟨by have := HJ1.out; have := HK2.out; omega⟩, by repeat (first | exact Drawn0.refl _ | apply Drawn0.step)⟩
              ·rw [if_neg c32] at H
               have c32b0 : ((bt a0 x15_2) == 46) = false := beq_eq_false_iff_ne.mpr c32
               have c32b1 : ((bt a0 x15_2) != 46) = true := bne_iff_ne.mpr c32
               obtain rfl := Option.some.inj H
               have p8 : 0 ≤ (x15_2 : Int) := of_decide_eq_true (by first | (with_reducible assumption) | assumption)
               have q8 : x15_2 < (a0.size : Int) := of_decide_eq_true (by first | (with_reducible assumption) | assumption)
               have hx8 := bt_at a0 x15_2
               replace p8 := eq_true p8
               replace q8 := eq_true q8
               go_wp2
               go_ret
               exact ⟨by first | rfl | (simp; done) | (simp [*]; done), by repeat (first | exact Drawn0.refl _ | apply Drawn0.step)⟩
          ·rw [if_neg c25] at H
           have c25b0 : decide (65 ≤ (bt a0 x15_2)) = false := decide_eq_false c25
           clear c25
           by_cases c33 : (bt a0 x15_2) ≥ 48
           ·rw [if_pos c33] at H
            have c33b0 : decide (48 ≤ (bt a0 x15_2)) = true := decide_eq_true c33
            clear c33
            by_cases c34 : (bt a0 x15_2) ≤ 57
            ·rw [if_pos c34] at H
             have c34b0 : decide ((bt a0 x15_2) ≤ 57) = true := decide_eq_true c34
             clear c34
             have H' := Aside0.mk H
             clear H
             have p8 : 0 ≤ (x15_2 : Int) := of_decide_eq_true (by first | (with_reducible assumption) | assumption)
             have q8 : x15_2 < (a0.size : Int) := of_decide_eq_true (by first | (with_reducible assumption) | assumption)
             have hx8 := bt_at a0 x15_2
             replace p8 := eq_true p8
             replace q8 := eq_true q8
             go_wp2
             go_roundg k2
             case measure => have := HJ1.out; have := HK2.out; omega
             case rel => exact ⟨(wrap64 (x15_2 + 1)), (by first | rfl | (simp; done) | (simp [*]; done)), H', ⟨by have := HJ1.out; have := HK2.out; omega⟩, by repeat (first | exact Drawn0.refl _ | apply Drawn0.step)⟩
            ·rw [if_neg c34] at H
             have c34b0 : decide ((bt a0 x15_2) ≤ 57) = false := decide_eq_false c34
             clear c34
             by_cases c35 : (bt a0 x15_2) = 45
             ·rw [if_pos c35] at H
              have c35b0 : ((bt a0 x15_2) == 45) = true := beq_iff_eq.mpr c35
              have c35b1 : ((bt a0 x15_2) != 45) = false := bne_eq_false_iff_eq.mpr c35
              clear c35
              have H' := Aside0.mk H
              clear H
              have p8 : 0 ≤ (x15_2 : Int) := of_decide_eq_true (by first | (with_reducible assumption) | assumption)
              have q8 : x15_2 < (a0.size : Int) := of_decide_eq_true (by first | (with_reducible assumption) | assumption)
              have hx8 := bt_at a0 x15_2
              replace p8 := eq_true p8
              replace q8 := eq_true q8
              go_wp2
              go_roundg k2
              case measure => have := HJ1.out; have := HK2.out; omega
              case rel => exact ⟨(wrap64 (x15_2 + 1)), (by first | rfl | (simp; done) | (simp [*]; done)), H', ⟨by have := HJ1.out; have := HK2.out; omega⟩, by repeat (first | exact Drawn0.refl _ | apply Drawn0.step)⟩
             ·rw [if_neg c35] at H
              have c35b0 : ((bt a0 x15_2) == 45) = false := beq_eq_false_iff_ne.mpr c35
              have c35b1 : ((bt a0 x15_2) != 45) = true := bne_iff_ne.mpr c35
              by_cases c36 : ((bt a0 x15_2) = 46)
              ·rw [if_pos c36] at H
               have c36b0 : ((bt a0 x15_2) == 46) = true := beq_iff_eq.mpr c36
               have c36b1 : ((bt a0 x15_2) != 46) = false := bne_eq_false_iff_eq.mpr c36
               clear c36
               have H' := Aside0.mk H
               clear H
               have p8 : 0 ≤ (x15_2 : Int) := of_decide_eq_true (by first | (with_reducible assumption) | assumption)
               have q8 : x15_2 < (a0.size : Int) := of_decide_eq_true (by first | (with_reducible assumption) | assumption)
               have hx8 := bt_at a0 x15_2
               replace p8 := eq_true p8
               replace q8 := eq_true q8
               go_wp2
               go_roundg k2
               case measure => have := HJ1.out; have := HK2.out; omega
               case rel => exact ⟨(wrap64 (x15_2 + 1)), (by first | rfl | (simp; done) | (simp [*]; done)), H', ⟨by have := HJ1.out; have := HK2.out; omega⟩, by repeat (first | exact Drawn0.refl _ | apply Drawn0.step)⟩
              ·rw [if_neg c36] at H
               have c36b0 : ((bt a0 x15_2) == 46) = false := beq_eq_false_iff_ne.mpr c36
               have c36b1 : ((bt a0 x15_2) != 46) = true := bne_iff_ne.mpr c36
               obtain rfl := Option.some.inj H
               have p8 : 0 ≤ (x15_2 : Int) := of_decide_eq_true (by first | (with_reducible assumption) | assumption)
               have q8 : x15_2 < (a0.size : Int) := of_decide_eq_true (by first | (with_reducible assumption) | assumption)
               have hx8 := bt_at a0 x15_2
               replace p8 := eq_true p8
               replace q8 := eq_true q8
               go_wp2
               go_ret
               exact ⟨by first | rfl | (simp; done) | (simp [*]; done), by repeat (first | exact Drawn0.refl _ | apply Drawn0.step)⟩
           ·rw [if_neg c33] at H
            have c33b0 : decide (48 ≤ (bt a0 x15_2)) = false := decide_eq_false c33
            clear c33
            by_cases c37 : (bt a0 x15_2) = 45
            ·rw [if_pos c37] at H
             have c37b0 : ((bt a0 x15_2) == 45) = true := beq_iff_eq.mpr c37
             have c37b1 : ((bt a0 x15_2) != 45) = false := bne_eq_false_iff_eq.mpr c37
             clear c37
             have H' := Aside0.mk H
             clear H
             have p8 : 0 ≤ (x15_2 : Int) := of_decide_eq_true (by first | (with_reducible assumption) | assumption)
             have q8 : x15_2 < (a0.size : Int) := of_decide_eq_true (by first | (with_reducible assumption) | assumption)
             have hx8 := bt_at a0 x15_2
             replace p8 := eq_true p8
             replace q8 := eq_true q8
             go_wp2
             go_roundg k2
             case measure => have := HJ1.out; have := HK2.out; omega
             case rel => exact ⟨(wrap64 (x15_2 + 1)), (by first | rfl | (simp; done) | (simp [*]; done)), H', ⟨by have := HJ1.out; have := HK2.out; omega⟩, by repeat (first | exact Drawn0.refl _ | apply Drawn0.step)⟩
            ·rw [if_neg c37] at H
             have c37b0 : ((bt a0 x15_2) == 45) = false := beq_eq_false_iff_ne.mpr c37
             have c37b1 : ((bt a0 x15_2) != 45) = true := bne_iff_ne.mpr c37
             by_cases c38 : ((bt a0 x15_2) = 46)
             ·rw [if_pos c38] at H
              have c38b0 : ((bt a0 x15_2) == 46) = true := beq_iff_eq.mpr c38
              have c38b1 : ((bt a0 x15_2) != 46) = false := bne_eq_false_iff_eq.mpr c38
              clear c38
              have H' := Aside0.mk H
              clear H
              have p8 : 0 ≤ (x15_2 : Int) := of_decide_eq_true (by first | (with_reducible assumption) | assumption)
              have q8 : x15_2 < (a0.size : Int) := of_decide_eq_true (by first | (with_reducible assumption) | assumption)
              have hx8 := bt_at a0 x15_2
              replace p8 := eq_true p8
              replace q8 := eq_true q8
              go_wp2
              go_roundg k2
              case measure => have := HJ1.out; have := HK2.out; omega
              case rel => exact ⟨(wrap64 (x15_2 + 1)), (by first | rfl | (simp; done) | (simp [*]; done)), H', ⟨by have := HJ1.out; have := HK2.out; omega⟩, by repeat (first | exact Drawn0.refl _ | apply Drawn0.step)⟩
             ·rw [if_neg c38] at H
              have c38b0 : ((bt a0 x15_2) == 46) = false := beq_eq_false_iff_ne.mpr c38
              have c38b1 : ((bt a0 x15_2) != 46) = true := bne_iff_ne.mpr c38
              obtain rfl := Option.some.inj H
              have p8 : 0 ≤ (x15_2 : Int) := of_decide_eq_true (by first | (with_reducible assumption) | assumption)
              have q8 : x15_2 < (a0.size : Int) := of_decide_eq_true (by first | (with_reducible assumption) | assumption)
              have hx8 := bt_at a0 x15_2
              replace p8 := eq_true p8
              replace q8 := eq_true q8
              go_wp2
              go_ret
              exact ⟨by first | rfl | (simp; done) | (simp [*]; done), by repeat (first | exact Drawn0.refl _ | apply Drawn0.step)⟩
        ·rw [if_neg c7] at H
         exact absurd H (by simp)
       ·rw [if_neg c6] at H
        exact absurd H (by simp)
      ·rw [if_neg c5] at H
       have c5b0 : decide (x15_2 < (a0.size : Int)) = false := decide_eq_false c5
       clear c5
       obtain rfl := Option.some.inj H
       go_wp2
       go_ret
       exact ⟨by first | rfl | (simp; done) | (simp [*]; done), by repeat (first | exact Drawn0.refl _ | apply Drawn0.step)⟩
end Go.Proofs.Ytcbmmhedefigeaa.X
