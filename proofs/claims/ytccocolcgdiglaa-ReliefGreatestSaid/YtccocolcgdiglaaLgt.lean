-- Written by a program of this work, over the kit's print of the translation. Not trusted: Lean checks it.
import Derived.Test.YtccocolcgdiglaaXx0
import Derived.Test.YtccocolcgdiglaaXx3
import Derived.Test.YtccocolcgdiglaaAwk
import Derived.Test.YtccocolcgdiglaaBst
import Derived.Test.YtccocolcgdiglaaCli
import Derived.Test.YtccocolcgdiglaaClr
import Derived.Test.YtccocolcgdiglaaGrl
namespace Go.Proofs.Ytccocolcgdiglaa.X
open Go.RowKit Go.Proofs.YtccocolcgdiglaaW.PrintWords Go.Proofs.YtccocolcgdiglaaW.PrintLast Go.Proofs.YtccocolcgdiglaaW.PrintMore
attribute [local go_sem] max2_int min2_int max_two min_two max_three min_three max_four min_four   -- for this text's walks alone
set_option linter.unusedVariables false
set_option linter.unusedSimpArgs false
/-! ### spilelaw47_ReliefGreatest: function 3 -/
mutual
def spilelaw47_ReliefGreatest.j0 : Nat → List (S33) → List (S25) → Bool → Int → Int → Int → Int → Int → Option (Bool)
 | 0, _, _, _, _, _, _, _, _ => none
 | k + 1, x0, x1, x28, x179000, x179001, x179002, x179003, x179004 => if x28 = true then ((spilelaw47_awake.f k).bind fun t181 => (some t181)) else ((api_Relief_13.f x0).bind fun t182 => ((api_Item_14.f x1).bind fun t185 => ((relief_Best.f k t182 t185 x179000 x179001 x179002 x179003 x179004).bind fun bt188 => (if bt188.2.2 = 0 then (if bt188.1 = 0 then (spilelaw47_ReliefGreatest.j1 k x0 x1 bt188.1 bt188.2.1 (bt188.2.1 == 0) x179000 x179001 x179002 x179003 x179004) else (spilelaw47_ReliefGreatest.j1 k x0 x1 bt188.1 bt188.2.1 false x179000 x179001 x179002 x179003 x179004)) else (if bt188.1 = 0 then (some (bt188.2.1 == 0)) else (some false))))))
def spilelaw47_ReliefGreatest.j1 : Nat → List (S33) → List (S25) → Int → Int → Bool → Int → Int → Int → Int → Int → Option (Bool)
 | 0, _, _, _, _, _, _, _, _, _, _ => none
 | k + 1, x0, x1, x7, x8, x10, x179000, x179001, x179002, x179003, x179004 => spilelaw47_ReliefGreatest.l0 k x0 x1 x7 x8 x10 x0 (x0.length : Int) 0 x179000 x179001 x179002 x179003 x179004
def spilelaw47_ReliefGreatest.l0 : Nat → List (S33) → List (S25) → Int → Int → Bool → List (S33) → Int → Int → Int → Int → Int → Int → Int → Option (Bool)
 | 0, _, _, _, _, _, _, _, _, _, _, _, _, _ => none
 | k + 1, x0, x1, x7, x8, x10, x54, x55, x56, x179000, x179001, x179002, x179003, x179004 => if x56 < x55 then (if 0 ≤ x56 then (if x56 < (x54.length : Int) then ((api_Relief_13.f x0).bind fun t193 => ((api_Item_14.f x1).bind fun t196 => ((some (([(⟨x179000, x179001, x179002, x179003, (rd_T33 x54 x56).f0⟩ : S25)] : List (S25)) : List (S25))).bind fun y199 => (if t196.length + y199.length < 3518437208883 then ((relief_Grant.f k t193 (t196 ++ y199)).bind fun bt205 => (if bt205.2.2 = 19 then (spilelaw47_ReliefGreatest.l0 k x0 x1 x7 x8 x10 x54 x55 (wrap64 (x56 + 1)) x179000 x179001 x179002 x179003 ((rd_T33 x54 x56).f0)) else (if bt205.2.2 = 0 then (if (bt205.1.length : Int) = (wrap64 ((x1.length : Int) + 1)) then (if 0 ≤ (x1.length : Int) then (if (x1.length : Int) < (bt205.1.length : Int) then (if (rd bt205.1 (x1.length : Int)) > x8 then (some false) else (if x10 = true then (spilelaw47_ReliefGreatest.l0 k x0 x1 x7 x8 true x54 x55 (wrap64 (x56 + 1)) x179000 x179001 x179002 x179003 ((rd_T33 x54 x56).f0)) else (if ((rd_T33 x54 x56).f0) = x7 then (spilelaw47_ReliefGreatest.l0 k x0 x1 x7 x8 ((rd bt205.1 (x1.length : Int)) == x8) x54 x55 (wrap64 (x56 + 1)) x179000 x179001 x179002 x179003 ((rd_T33 x54 x56).f0)) else (spilelaw47_ReliefGreatest.l0 k x0 x1 x7 x8 false x54 x55 (wrap64 (x56 + 1)) x179000 x179001 x179002 x179003 ((rd_T33 x54 x56).f0))))) else (none)) else (none)) else (some false)) else (some false)))) else (none))))) else (none)) else (none)) else (some x10)
end
def spilelaw47_ReliefGreatest.f (k : Nat) (l0 : List (S33)) (l1 : List (S25)) (a2_0 : Int) (a2_1 : Int) (a2_2 : Int) (a2_3 : Int) (a2_4 : Int) : Option (Bool) := (spilelaw47_awake.f k).bind fun t179 => (if t179 = true then ((spileref47_Few.f k l0 l1).bind fun t180 => (if t180 = true then (spilelaw47_ReliefGreatest.j0 k l0 l1 (decide ((l1.length : Int) > 12)) a2_0 a2_1 a2_2 a2_3 a2_4) else (spilelaw47_ReliefGreatest.j0 k l0 l1 true a2_0 a2_1 a2_2 a2_3 a2_4))) else (spilelaw47_ReliefGreatest.j0 k l0 l1 true a2_0 a2_1 a2_2 a2_3 a2_4))
theorem spilelaw47_ReliefGreatest.mono_l : ∀ k, (∀ y0 y1 y2 y3 y4 y5 y6 y7, LeO (spilelaw47_ReliefGreatest.j0 k y0 y1 y2 y3 y4 y5 y6 y7) (spilelaw47_ReliefGreatest.j0 (k + 1) y0 y1 y2 y3 y4 y5 y6 y7)) ∧ (∀ y0 y1 y2 y3 y4 y5 y6 y7 y8 y9, LeO (spilelaw47_ReliefGreatest.j1 k y0 y1 y2 y3 y4 y5 y6 y7 y8 y9) (spilelaw47_ReliefGreatest.j1 (k + 1) y0 y1 y2 y3 y4 y5 y6 y7 y8 y9)) ∧ (∀ y0 y1 y2 y3 y4 y5 y6 y7 y8 y9 y10 y11 y12, LeO (spilelaw47_ReliefGreatest.l0 k y0 y1 y2 y3 y4 y5 y6 y7 y8 y9 y10 y11 y12) (spilelaw47_ReliefGreatest.l0 (k + 1) y0 y1 y2 y3 y4 y5 y6 y7 y8 y9 y10 y11 y12))
 | 0 => ⟨fun _ _ _ _ _ _ _ _ r h => by simp [spilelaw47_ReliefGreatest.j0] at h, fun _ _ _ _ _ _ _ _ _ _ r h => by simp [spilelaw47_ReliefGreatest.j1] at h, fun _ _ _ _ _ _ _ _ _ _ _ _ _ r h => by simp [spilelaw47_ReliefGreatest.l0] at h⟩
 | k + 1 => by
  obtain ⟨ih0, ih1, ih2⟩ := spilelaw47_ReliefGreatest.mono_l k
  refine ⟨?_, ?_, ?_⟩
  ·intro y0 y1 y2 y3 y4 y5 y6 y7
   unfold spilelaw47_ReliefGreatest.j0
   repeat' first
   | (with_reducible exact ih0 _ _ _ _ _ _ _ _)
   | (with_reducible exact ih1 _ _ _ _ _ _ _ _ _ _)
   | (with_reducible exact ih2 _ _ _ _ _ _ _ _ _ _ _ _ _)
   | (with_reducible exact relief_Best.mono _ _ _ _ _ _ _ _)
   | (with_reducible exact relief_Grant.mono _ _ _)
   | (with_reducible exact spilelaw47_awake.mono _)
   | (with_reducible exact spileref47_Few.mono _ _ _)
   | (with_reducible exact LeO.refl _)
   | (with_reducible exact LeO.none _)
   | (with_reducible refine LeO.ite ?_ ?_)
   | (with_reducible refine LeO.bind ?_ (fun _ => ?_))
   | exact ih0 _ _ _ _ _ _ _ _
   | exact ih1 _ _ _ _ _ _ _ _ _ _
   | exact ih2 _ _ _ _ _ _ _ _ _ _ _ _ _
   | exact relief_Best.mono _ _ _ _ _ _ _ _
   | exact relief_Grant.mono _ _ _
   | exact spilelaw47_awake.mono _
   | exact spileref47_Few.mono _ _ _
   | exact LeO.none _
   | refine LeO.ite ?_ ?_
   | refine LeO.bind ?_ (fun _ => ?_)
  ·intro y0 y1 y2 y3 y4 y5 y6 y7 y8 y9
   unfold spilelaw47_ReliefGreatest.j1
   repeat' first
   | (with_reducible exact ih0 _ _ _ _ _ _ _ _)
   | (with_reducible exact ih1 _ _ _ _ _ _ _ _ _ _)
   | (with_reducible exact ih2 _ _ _ _ _ _ _ _ _ _ _ _ _)
   | (with_reducible exact relief_Best.mono _ _ _ _ _ _ _ _)
   | (with_reducible exact relief_Grant.mono _ _ _)
   | (with_reducible exact spilelaw47_awake.mono _)
   | (with_reducible exact spileref47_Few.mono _ _ _)
   | (with_reducible exact LeO.refl _)
   | (with_reducible exact LeO.none _)
   | (with_reducible refine LeO.ite ?_ ?_)
   | (with_reducible refine LeO.bind ?_ (fun _ => ?_))
   | exact ih0 _ _ _ _ _ _ _ _
   | exact ih1 _ _ _ _ _ _ _ _ _ _
   | exact ih2 _ _ _ _ _ _ _ _ _ _ _ _ _
   | exact relief_Best.mono _ _ _ _ _ _ _ _
   | exact relief_Grant.mono _ _ _
   | exact spilelaw47_awake.mono _
   | exact spileref47_Few.mono _ _ _
   | exact LeO.none _
   | refine LeO.ite ?_ ?_
   | refine LeO.bind ?_ (fun _ => ?_)
  ·intro y0 y1 y2 y3 y4 y5 y6 y7 y8 y9 y10 y11 y12
   unfold spilelaw47_ReliefGreatest.l0
   repeat' first
   | (with_reducible exact ih0 _ _ _ _ _ _ _ _)
   | (with_reducible exact ih1 _ _ _ _ _ _ _ _ _ _)
   | (with_reducible exact ih2 _ _ _ _ _ _ _ _ _ _ _ _ _)
   | (with_reducible exact relief_Best.mono _ _ _ _ _ _ _ _)
   | (with_reducible exact relief_Grant.mono _ _ _)
   | (with_reducible exact spilelaw47_awake.mono _)
   | (with_reducible exact spileref47_Few.mono _ _ _)
   | (with_reducible exact LeO.refl _)
   | (with_reducible exact LeO.none _)
   | (with_reducible refine LeO.ite ?_ ?_)
   | (with_reducible refine LeO.bind ?_ (fun _ => ?_))
   | exact ih0 _ _ _ _ _ _ _ _
   | exact ih1 _ _ _ _ _ _ _ _ _ _
   | exact ih2 _ _ _ _ _ _ _ _ _ _ _ _ _
   | exact relief_Best.mono _ _ _ _ _ _ _ _
   | exact relief_Grant.mono _ _ _
   | exact spilelaw47_awake.mono _
   | exact spileref47_Few.mono _ _ _
   | exact LeO.none _
   | refine LeO.ite ?_ ?_
   | refine LeO.bind ?_ (fun _ => ?_)
theorem spilelaw47_ReliefGreatest.mono : ∀ a0 a1 a2 a3 a4 a5 a6 k, LeO (spilelaw47_ReliefGreatest.f k a0 a1 a2 a3 a4 a5 a6) (spilelaw47_ReliefGreatest.f (k + 1) a0 a1 a2 a3 a4 a5 a6) := by
 intro a0 a1 a2 a3 a4 a5 a6 k
 obtain ⟨ih0, ih1, ih2⟩ := spilelaw47_ReliefGreatest.mono_l k
 unfold spilelaw47_ReliefGreatest.f
 repeat' first
   | (with_reducible exact ih0 _ _ _ _ _ _ _ _)
   | (with_reducible exact ih1 _ _ _ _ _ _ _ _ _ _)
   | (with_reducible exact ih2 _ _ _ _ _ _ _ _ _ _ _ _ _)
   | (with_reducible exact relief_Best.mono _ _ _ _ _ _ _ _)
   | (with_reducible exact relief_Grant.mono _ _ _)
   | (with_reducible exact spilelaw47_awake.mono _)
   | (with_reducible exact spileref47_Few.mono _ _ _)
   | (with_reducible exact LeO.refl _)
   | (with_reducible exact LeO.none _)
   | (with_reducible refine LeO.ite ?_ ?_)
   | (with_reducible refine LeO.bind ?_ (fun _ => ?_))
   | exact ih0 _ _ _ _ _ _ _ _
   | exact ih1 _ _ _ _ _ _ _ _ _ _
   | exact ih2 _ _ _ _ _ _ _ _ _ _ _ _ _
   | exact relief_Best.mono _ _ _ _ _ _ _ _
   | exact relief_Grant.mono _ _ _
   | exact spilelaw47_awake.mono _
   | exact spileref47_Few.mono _ _ _
   | exact LeO.none _
   | refine LeO.ite ?_ ?_
   | refine LeO.bind ?_ (fun _ => ?_)
def spilelaw47_ReliefGreatest.T3 : Bool × List (List Nat × List Nat) := (true, [([], []), ([0], [0]), ([], []), ([2, 1], [2]), ([], []), ([1, 3, 4, 3], [1, 3, 4]), ([5], [5]), ([6], [6]), ([6], [6]), ([6], [6]), ([7, 5, 0, 1, 2, 3, 4, 5, 6, 7], [7]), ([8, 10, 0, 1, 2, 3, 4, 5, 6, 7, 8, 10], [8]), ([9, 11, 0, 1, 2, 3, 4, 5, 6, 7, 8, 9, 10, 11], [9])])
def spilelaw47_ReliefGreatest.B3 : List Nat := [0, 1, 0, 7, 0, 31, 63, 127, 127, 127, 255, 1535, 4095]
theorem spilelaw47_ReliefGreatest.tab3 : rtab .any (opsOf Try.f3 3) = spilelaw47_ReliefGreatest.T3 := by kernel_rfl
theorem spilelaw47_ReliefGreatest.bits3 : waitsOk spilelaw47_ReliefGreatest.T3.2 spilelaw47_ReliefGreatest.B3 = true := by kernel_rfl
def spilelaw47_ReliefGreatest.T11 : Bool × List (List Nat × List Nat) := (true, [([], []), ([0], [0]), ([], []), ([2, 1], [2]), ([], []), ([4], [4]), ([3, 5, 3], [3, 5]), ([1, 6, 6], [1, 6]), ([7], [7]), ([8], [8]), ([8], [8]), ([8], [8]), ([9, 7, 0, 1, 2, 3, 4, 5, 6, 7, 8, 9], [9]), ([10, 12, 0, 1, 2, 3, 4, 5, 6, 7, 8, 9, 10, 12], [10]), ([11, 13, 0, 1, 2, 3, 4, 5, 6, 7, 8, 9, 10, 11, 12, 13], [11])])
def spilelaw47_ReliefGreatest.B11 : List Nat := [0, 1, 0, 7, 0, 16, 63, 127, 255, 511, 511, 511, 1023, 6143, 16383]
theorem spilelaw47_ReliefGreatest.tab11 : rtab .any (opsOf Try.f3 11) = spilelaw47_ReliefGreatest.T11 := by kernel_rfl
theorem spilelaw47_ReliefGreatest.bits11 : waitsOk spilelaw47_ReliefGreatest.T11.2 spilelaw47_ReliefGreatest.B11 = true := by kernel_rfl
set_option maxHeartbeats 8000000 in
set_option maxRecDepth 100000 in
theorem spilelaw47_ReliefGreatest.calls (k : Nat) (A0 : Option Addr) (c0 : Nat) (l0 : List (S33)) (A1 : Option Addr) (c1 : Nat) (l1 : List (S25)) (a2_0 : Int) (a2_1 : Int) (a2_2 : Int) (a2_3 : Int) (a2_4 : Int) (r : Bool) (w : World) (hr0 : Kd.C k33 w A0 l0.length l0) (hc0 : l0.length ≤ c0) (hr1 : Kd.C k25 w A1 l1.length l1) (hc1 : l1.length ≤ c1) (h : spilelaw47_ReliefGreatest.f k l0 l1 a2_0 a2_1 a2_2 a2_3 a2_4 = some r) (hr_ : r = true) :
  Calls Try.prog 3 #[.slice A0 l0.length c0, .slice A1 l1.length c1, .agg #[.int .i64 a2_0, .int .i64 a2_1, .int .i64 a2_2, .int .i64 a2_3, .int .i64 a2_4]] w fun e w' => e = .returned (.bool r) ∧ Below w.heap.size w w' := by
 have hu25 := Try.underlying25; have hu33 := Try.underlying33
 have HR0 := Aside0.mk hr0
 have HC0 := Aside0.mk hc0
 clear hr0 hc0
 have HR1 := Aside0.mk hr1
 have HC1 := Aside0.mk hc1
 clear hr1 hc1; have HB := Aside0.mk (Below.refl w.heap.size w)
 have H : ((spilelaw47_awake.f k).bind fun t179 => (if t179 = true then ((spileref47_Few.f k l0 l1).bind fun t180 => (if t180 = true then (spilelaw47_ReliefGreatest.j0 k l0 l1 (decide ((l1.length : Int) > 12)) a2_0 a2_1 a2_2 a2_3 a2_4) else (spilelaw47_ReliefGreatest.j0 k l0 l1 true a2_0 a2_1 a2_2 a2_3 a2_4))) else (spilelaw47_ReliefGreatest.j0 k l0 l1 true a2_0 a2_1 a2_2 a2_3 a2_4))) = some r := h
 clear h
 have HC4 := Aside0.mk H
 clear H
 go_enter Try.func3, Try.ntmps3
 go_upto_region 1 with (first | ((with_reducible refine gate_dst (N := 5) rfl ?_); (try (refine gate_guard (by rfl) ?_; dsimp only)); refine box_event ?hg (N := 5) ?hd (cs := #[.int .i64 a2_0, .int .i64 a2_1, .int .i64 a2_2, .int .i64 a2_3, .int .i64 a2_4]) (t := 25) ?hr ?_; (case hd => rfl); (case hg => rfl); (case hr => first | (go_simp; done) | (go_simp; rfl)); intro gb178 hg w5 hbox hb; have n0_ := Aside0.mk (below_step (by repeat (first | (with_reducible first | exact HB.out | apply below_alloc | apply pw_below_drewN | apply below_drew1) | exact HB.out)) hb); have n1_ := Aside0.mk (hbox); have n2_ := Aside0.mk ((by rw [hg]; exact (below_size (by repeat (first | (with_reducible first | exact HB.out | apply below_alloc | apply pw_below_drewN | apply below_drew1) | exact HB.out))) : w.heap.size ≤ gb178)); have n3_ := Aside0.mk ((by rw [hg]; exact (below_size (by repeat (first | (with_reducible first | exact HB.out | apply below_alloc | apply pw_below_drewN | apply below_drew1) | exact HB.out))) : w.heap.size ≤ gb178)); clear HB; have HB := n0_; have BK178 := n1_; have GW178 := n2_; have GE178 := n3_; clear n0_ n1_ n2_ n3_; clear hb hbox hg))
 (try simp only [Act.put, List.setIfInBounds_toArray, List.set_cons_zero, List.set_cons_succ])
 go_cut [28] (fun v28 wc => ∃ (kq : Nat) (x28_3 : Bool), v28 = .bool x28_3 ∧ Aside0 (spilelaw47_ReliefGreatest.j0 kq l0 l1 x28_3 a2_0 a2_1 a2_2 a2_3 a2_4 = some r) ∧ Aside0 (kq ≤ k) ∧ Aside0 (wc.heap[gb178]? = some (.cells #[.int .i64 a2_0, .int .i64 a2_1, .int .i64 a2_2, .int .i64 a2_3, .int .i64 a2_4] 25 (0, 0))) ∧ Aside0 (Below w.heap.size w wc))
 case first =>
  have H := HC4.out; clear HC4
  replace H := Option.bind_eq_some_iff.mp H
  obtain ⟨t179, A60, H⟩ := H
  try dsimp only at H
  have A6 := Aside0.mk A60
  clear A60
  by_cases c7 : t179 = true
  ·subst c7
   have H1 : ((spileref47_Few.f k l0 l1).bind fun t180 => (if t180 = true then (spilelaw47_ReliefGreatest.j0 k l0 l1 (decide ((l1.length : Int) > 12)) a2_0 a2_1 a2_2 a2_3 a2_4) else (spilelaw47_ReliefGreatest.j0 k l0 l1 true a2_0 a2_1 a2_2 a2_3 a2_4))) = some r := by rw [if_pos rfl] at H; exact H
   clear H; have H := H1; clear H1
   replace H := Option.bind_eq_some_iff.mp H
   obtain ⟨t180, A80, H⟩ := H
   try dsimp only at H
   have A8 := Aside0.mk A80
   clear A80
   by_cases c9 : t180 = true
   ·subst c9
    have H1 : (spilelaw47_ReliefGreatest.j0 k l0 l1 (decide ((l1.length : Int) > 12)) a2_0 a2_1 a2_2 a2_3 a2_4) = some r := by rw [if_pos rfl] at H; exact H
    clear H; have H := H1; clear H1
    have H' := Aside0.mk H
    clear H
    go_wp2_with (first | ((with_reducible refine gate_callee (f := 10) rfl ?_); refine goesL_ (some 16) rfl rfl Try.func10 (by kernel_rfl) rfl #[] rfl (by (try simp only [List.map_toArray, List.map_cons, List.map_nil]); first | done | rfl | (simp only [List.length_drop, List.length_take]; rfl)) ?_; (with_reducible refine (spilelaw47_awake.calls k  true _ A6.out).mono ?_); rintro e w10 ⟨rfl, hb⟩; refine ⟨_, rfl, ?_⟩; have n0_ := Aside0.mk (blk_below (g := gb178) (o := .cells #[.int .i64 a2_0, .int .i64 a2_1, .int .i64 a2_2, .int .i64 a2_3, .int .i64 a2_4] 25 (0, 0)) (by (with_reducible repeat (first | refine blk_drewN ?_ _ | refine blk_drew ?_ | refine blk_alloc ?_ _)); exact BK178.out) hb); have n1_ := Aside0.mk (below_step (by repeat (first | (with_reducible first | exact HB.out | apply below_alloc | apply pw_below_drewN | apply below_drew1 | refine below_set ?_ GE178.out) | exact HB.out)) hb); clear BK178; clear HB; have BK178 := n0_; have HB := n1_; clear n0_ n1_; (try clear hb); (try clear hb2); (try clear hk); (try clear hi)) | (go_at_call 11; (with_reducible refine (spileref47_Few.calls k _ _ l0 _ _ l1 true _ ?side1 ?side2 ?side3 ?side4 A8.out).mono ?_); (case side1 => repeat (first | exact (Kd.C_below HR0.out HB.out) | (with_reducible refine Kd.C_alloc ?_ _) | (with_reducible refine Kd.C_drewN ?_ _) | (with_reducible refine Kd.C_drew ?_))); (case side2 => exact HC0.out); (case side3 => repeat (first | exact (Kd.C_below HR1.out HB.out) | (with_reducible refine Kd.C_alloc ?_ _) | (with_reducible refine Kd.C_drewN ?_ _) | (with_reducible refine Kd.C_drew ?_))); (case side4 => exact HC1.out); rintro e w' ⟨rfl, ⟨nd, rfl⟩⟩))
    go_meet
    case rel => exact ⟨_, (decide ((l1.length : Int) > 12)), (by first | rfl | (simp; done) | (simp [*]; done)), H', ⟨by first | omega | exact Nat.le_refl _⟩, ⟨by (with_reducible repeat (first | refine blk_drewN ?_ _ | refine blk_drew ?_ | refine blk_alloc ?_ _)); exact BK178.out⟩, ⟨by repeat (first | (with_reducible first | exact HB.out | apply below_alloc | apply pw_below_drewN | apply below_drew1 | refine below_set ?_ GE178.out) | exact HB.out)⟩⟩
   ·replace c9 := Bool.eq_false_iff.mpr c9
    subst c9
    have H1 : (spilelaw47_ReliefGreatest.j0 k l0 l1 true a2_0 a2_1 a2_2 a2_3 a2_4) = some r := by rw [if_neg (show ¬ (false = true) by decide)] at H; exact H
    clear H; have H := H1; clear H1
    have H' := Aside0.mk H
    clear H
    go_wp2_with (first | ((with_reducible refine gate_callee (f := 10) rfl ?_); refine goesL_ (some 16) rfl rfl Try.func10 (by kernel_rfl) rfl #[] rfl (by (try simp only [List.map_toArray, List.map_cons, List.map_nil]); first | done | rfl | (simp only [List.length_drop, List.length_take]; rfl)) ?_; (with_reducible refine (spilelaw47_awake.calls k  true _ A6.out).mono ?_); rintro e w11 ⟨rfl, hb⟩; refine ⟨_, rfl, ?_⟩; have n0_ := Aside0.mk (blk_below (g := gb178) (o := .cells #[.int .i64 a2_0, .int .i64 a2_1, .int .i64 a2_2, .int .i64 a2_3, .int .i64 a2_4] 25 (0, 0)) (by (with_reducible repeat (first | refine blk_drewN ?_ _ | refine blk_drew ?_ | refine blk_alloc ?_ _)); exact BK178.out) hb); have n1_ := Aside0.mk (below_step (by repeat (first | (with_reducible first | exact HB.out | apply below_alloc | apply pw_below_drewN | apply below_drew1 | refine below_set ?_ GE178.out) | exact HB.out)) hb); clear BK178; clear HB; have BK178 := n0_; have HB := n1_; clear n0_ n1_; (try clear hb); (try clear hb2); (try clear hk); (try clear hi)) | (go_at_call 11; (with_reducible refine (spileref47_Few.calls k _ _ l0 _ _ l1 false _ ?side1 ?side2 ?side3 ?side4 A8.out).mono ?_); (case side1 => repeat (first | exact (Kd.C_below HR0.out HB.out) | (with_reducible refine Kd.C_alloc ?_ _) | (with_reducible refine Kd.C_drewN ?_ _) | (with_reducible refine Kd.C_drew ?_))); (case side2 => exact HC0.out); (case side3 => repeat (first | exact (Kd.C_below HR1.out HB.out) | (with_reducible refine Kd.C_alloc ?_ _) | (with_reducible refine Kd.C_drewN ?_ _) | (with_reducible refine Kd.C_drew ?_))); (case side4 => exact HC1.out); rintro e w' ⟨rfl, ⟨nd, rfl⟩⟩))
    go_meet
    case rel => exact ⟨_, (true), (by first | rfl | (simp; done) | (simp [*]; done)), H', ⟨by first | omega | exact Nat.le_refl _⟩, ⟨by (with_reducible repeat (first | refine blk_drewN ?_ _ | refine blk_drew ?_ | refine blk_alloc ?_ _)); exact BK178.out⟩, ⟨by repeat (first | (with_reducible first | exact HB.out | apply below_alloc | apply pw_below_drewN | apply below_drew1 | refine below_set ?_ GE178.out) | exact HB.out)⟩⟩
  ·replace c7 := Bool.eq_false_iff.mpr c7
   subst c7
   have H1 : (spilelaw47_ReliefGreatest.j0 k l0 l1 true a2_0 a2_1 a2_2 a2_3 a2_4) = some r := by rw [if_neg (show ¬ (false = true) by decide)] at H; exact H
   clear H; have H := H1; clear H1
   have H' := Aside0.mk H
   clear H
   go_wp2_with (first | ((with_reducible refine gate_callee (f := 10) rfl ?_); refine goesL_ (some 16) rfl rfl Try.func10 (by kernel_rfl) rfl #[] rfl (by (try simp only [List.map_toArray, List.map_cons, List.map_nil]); first | done | rfl | (simp only [List.length_drop, List.length_take]; rfl)) ?_; (with_reducible refine (spilelaw47_awake.calls k  false _ A6.out).mono ?_); rintro e w12 ⟨rfl, hb⟩; refine ⟨_, rfl, ?_⟩; have n0_ := Aside0.mk (blk_below (g := gb178) (o := .cells #[.int .i64 a2_0, .int .i64 a2_1, .int .i64 a2_2, .int .i64 a2_3, .int .i64 a2_4] 25 (0, 0)) (by (with_reducible repeat (first | refine blk_drewN ?_ _ | refine blk_drew ?_ | refine blk_alloc ?_ _)); exact BK178.out) hb); have n1_ := Aside0.mk (below_step (by repeat (first | (with_reducible first | exact HB.out | apply below_alloc | apply pw_below_drewN | apply below_drew1 | refine below_set ?_ GE178.out) | exact HB.out)) hb); clear BK178; clear HB; have BK178 := n0_; have HB := n1_; clear n0_ n1_; (try clear hb); (try clear hb2); (try clear hk); (try clear hi)))
   go_meet
   case rel => exact ⟨_, (true), (by first | rfl | (simp; done) | (simp [*]; done)), H', ⟨by first | omega | exact Nat.le_refl _⟩, ⟨by (with_reducible repeat (first | refine blk_drewN ?_ _ | refine blk_drew ?_ | refine blk_alloc ?_ _)); exact BK178.out⟩, ⟨by repeat (first | (with_reducible first | exact HB.out | apply below_alloc | apply pw_below_drewN | apply below_drew1 | refine below_set ?_ GE178.out) | exact HB.out)⟩⟩
 case rest =>
  clear HC4
  obtain ⟨kq, x28_3, rfl, HA, HJ3, BK178, HB⟩ := hcut
  cases kq with
  | zero => exact absurd HA.out (by simp [spilelaw47_ReliefGreatest.j0])
  | succ kj3 =>
   have H := HA.out; clear HA
   simp only [spilelaw47_ReliefGreatest.j0] at H
   by_cases c13 : x28_3 = true
   ·subst c13
    have H1 : ((spilelaw47_awake.f kj3).bind fun t181 => (some t181)) = some r := by rw [if_pos rfl] at H; exact H
    clear H; have H := H1; clear H1
    replace H := Option.bind_eq_some_iff.mp H
    obtain ⟨t181, A140, H⟩ := H
    try dsimp only at H
    have A14 := Aside0.mk A140
    clear A140
    obtain rfl := Option.some.inj H
    go_wp2_with (first | ((with_reducible refine gate_callee (f := 10) rfl ?_); refine goesL_ (some 29) rfl rfl Try.func10 (by kernel_rfl) rfl #[] rfl (by (try simp only [List.map_toArray, List.map_cons, List.map_nil]); first | done | rfl | (simp only [List.length_drop, List.length_take]; rfl)) ?_; (with_reducible refine (spilelaw47_awake.calls kj3  t181 _ A14.out).mono ?_); rintro e w15 ⟨rfl, hb⟩; refine ⟨_, rfl, ?_⟩; have n0_ := Aside0.mk (blk_below (g := gb178) (o := .cells #[.int .i64 a2_0, .int .i64 a2_1, .int .i64 a2_2, .int .i64 a2_3, .int .i64 a2_4] 25 (0, 0)) (by (with_reducible repeat (first | refine blk_drewN ?_ _ | refine blk_drew ?_ | refine blk_alloc ?_ _)); exact BK178.out) hb); have n1_ := Aside0.mk (below_step (by repeat (first | (with_reducible first | exact HB.out | apply below_alloc | apply pw_below_drewN | apply below_drew1 | refine below_set ?_ GE178.out) | exact HB.out)) hb); clear BK178; clear HB; have BK178 := n0_; have HB := n1_; clear n0_ n1_; (try clear hb); (try clear hb2); (try clear hk); (try clear hi)))
    go_ret
    exact ⟨by first | rfl | (simp [errW_none, errW_some] <;> rfl) | (simp [*, errW_none, errW_some] <;> rfl), by repeat (first | (with_reducible first | exact HB.out | apply below_alloc | apply pw_below_drewN | apply below_drew1 | refine below_set ?_ GE178.out) | exact HB.out)⟩
   ·replace c13 := Bool.eq_false_iff.mpr c13
    subst c13
    have H1 : ((api_Relief_13.f l0).bind fun t182 => ((api_Item_14.f l1).bind fun t185 => ((relief_Best.f kj3 t182 t185 a2_0 a2_1 a2_2 a2_3 a2_4).bind fun bt188 => (if bt188.2.2 = 0 then (if bt188.1 = 0 then (spilelaw47_ReliefGreatest.j1 kj3 l0 l1 bt188.1 bt188.2.1 (bt188.2.1 == 0) a2_0 a2_1 a2_2 a2_3 a2_4) else (spilelaw47_ReliefGreatest.j1 kj3 l0 l1 bt188.1 bt188.2.1 false a2_0 a2_1 a2_2 a2_3 a2_4)) else (if bt188.1 = 0 then (some (bt188.2.1 == 0)) else (some false)))))) = some r := by rw [if_neg (show ¬ (false = true) by decide)] at H; exact H
    clear H; have H := H1; clear H1
    replace H := Option.bind_eq_some_iff.mp H
    obtain ⟨t182, A160, H⟩ := H
    try dsimp only at H
    have A16 := Aside0.mk A160
    clear A160
    replace H := Option.bind_eq_some_iff.mp H
    obtain ⟨t185, A170, H⟩ := H
    try dsimp only at H
    have A17 := Aside0.mk A170
    clear A170
    replace H := Option.bind_eq_some_iff.mp H
    obtain ⟨⟨t188, t189, t190⟩, A180, H⟩ := H
    try dsimp only at H
    have A18 := Aside0.mk A180
    clear A180
    have HH1 := Aside0.mk H
    clear H
    try go_wp2
    have n0_ := Aside0.mk (blk_drew BK178.out); have n1_ := Aside0.mk (below_drew1 HB.out); clear BK178 HB; have BK178 := n0_; have HB := n1_; clear n0_ n1_
    refine start_ (n := 13) (S := fun w' => w'.cell? ⟨gb178, 0, none⟩ = some (.int .i64 a2_0) ∧ w'.cell? ⟨gb178, 1, none⟩ = some (.int .i64 a2_1) ∧ w'.cell? ⟨gb178, 2, none⟩ = some (.int .i64 a2_2) ∧ w'.cell? ⟨gb178, 3, none⟩ = some (.int .i64 a2_3) ∧ w'.cell? ⟨gb178, 4, none⟩ = some (.int .i64 a2_4)) (ds := []) #[false, false, false, false, false, false, false, false, false, false, false, false, false] (by kernel_rfl) rfl rfl ⟨(blk_cell BK178.out 0).trans rfl, (blk_cell BK178.out 1).trans rfl, (blk_cell BK178.out 2).trans rfl, (blk_cell BK178.out 3).trans rfl, (blk_cell BK178.out 4).trans rfl⟩ (fun hHeld => ?_); refine with_tabW spilelaw47_ReliefGreatest.tab3 spilelaw47_ReliefGreatest.bits3 (fun HT_ HW_ => ?_)
    generalize wc.drew = w21 at BK178 HB hHeld ⊢
    refine pure_ (i := 0) (N := some 31) (v := ?_) (a' := ?_) #[true, false, false, false, false, false, false, false, false, false, false, false, false] rfl rfl (any_of HT_.out (by kernel_rfl)) (fun _ _ _ h => h) (Or.inl ⟨by rfl, ?_⟩) ?_ ?_
    rotate_left
    ·intro w'
     go_simp
     with_reducible rfl
    rotate_left
    ·simp only [Act.put, List.setIfInBounds_toArray, List.set_cons_zero, List.set_cons_succ, i64_w, i32_w]
     rfl
    refine pure_ (i := 2) (N := some 33) (v := ?_) (a' := ?_) #[true, false, true, false, false, false, false, false, false, false, false, false, false] rfl rfl (any_of HT_.out (by kernel_rfl)) (fun _ _ _ h => h) (Or.inl ⟨by rfl, ?_⟩) ?_ ?_
    rotate_left
    ·intro w'
     go_simp
     with_reducible rfl
    rotate_left
    ·simp only [Act.put, List.setIfInBounds_toArray, List.set_cons_zero, List.set_cons_succ, i64_w, i32_w]
     rfl
    refine take_ (i := 4) (N := some 35) (v := ?_) (a' := ?_) #[true, false, true, false, true, false, false, false, false, false, false, false, false] rfl rfl (take_ofW HT_.out HW_.out (by kernel_rfl)) (fun _ _ _ h => h) (Or.inl ⟨by rfl, ?_⟩) hHeld ?_ ?_
    rotate_left
    ·rintro w' ⟨s0, s1, s2, s3, s4⟩
     go_simp
     with_reducible rfl
    rotate_left
    ·simp only [Act.put, List.setIfInBounds_toArray, List.set_cons_zero, List.set_cons_succ, i64_w, i32_w]
     rfl
    refine one_ (i := 1) (N := some 32) #[true, true, true, false, true, false, false, false, false, false, false, false, false] rfl rfl (one_of HT_.out (by kernel_rfl)) (by decide) (fun K hK => ?_)
    refine goes_ Try.func13 (by kernel_rfl) rfl #[.slice A0 l0.length c0] (by rfl) rfl rfl (by (try simp only [List.map_toArray, List.map_cons, List.map_nil]); first | done | rfl | (simp only [List.length_drop, List.length_take]; rfl)) ?_
    with_reducible refine (api_Relief_13.calls _ _ l0 t182 _ ?side1 ?side2 A16.out).mono ?_
    (case side1 => repeat (first | exact (Kd.C_below HR0.out HB.out) | (with_reducible refine Kd.C_alloc ?_ _) | (with_reducible refine Kd.C_drewN ?_ _) | (with_reducible refine Kd.C_drew ?_)))
    (case side2 => exact HC0.out)
    rintro e w22 ⟨v183, rfl, ho0, hb⟩
    refine ⟨_, rfl, ?_⟩
    have n0_ := Aside0.mk (Kd.R_lower ho0 (below_size (by repeat (first | (with_reducible first | exact HB.out | apply below_alloc | apply pw_below_drewN | apply below_drew1 | refine below_set ?_ GE178.out) | exact HB.out)))); have n1_ := Aside0.mk (blk_below (g := gb178) (o := .cells #[.int .i64 a2_0, .int .i64 a2_1, .int .i64 a2_2, .int .i64 a2_3, .int .i64 a2_4] 25 (0, 0)) (by (with_reducible repeat (first | refine blk_drewN ?_ _ | refine blk_drew ?_ | refine blk_alloc ?_ _)); exact BK178.out) hb); have n2_ := Aside0.mk (below_step (by repeat (first | (with_reducible first | exact HB.out | apply below_alloc | apply pw_below_drewN | apply below_drew1 | refine below_set ?_ GE178.out) | exact HB.out)) hb); clear BK178 HB; have HO184 := n0_; have BK178 := n1_; have HB := n2_; clear n0_ n1_ n2_; (try clear hb); (try clear hb2); (try clear hk); (try clear hi); (try clear ho0)
    refine hK.out _ _ ⟨(blk_cell BK178.out 0).trans rfl, (blk_cell BK178.out 1).trans rfl, (blk_cell BK178.out 2).trans rfl, (blk_cell BK178.out 3).trans rfl, (blk_cell BK178.out 4).trans rfl⟩ (fun hHeld => ?_)
    clear hK K
    refine norm_ (a' := ?_) ?_ ?_
    rotate_left
    ·show Act.put _ (some 32) _ = _
     simp only [Act.put, List.setIfInBounds_toArray, List.set_cons_zero, List.set_cons_succ, i64_w, i32_w]
     rfl
    refine one_ (i := 3) (N := some 34) #[true, true, true, true, true, false, false, false, false, false, false, false, false] rfl rfl (one_of HT_.out (by kernel_rfl)) (by decide) (fun K hK => ?_)
    refine goes_ Try.func14 (by kernel_rfl) rfl #[.slice A1 l1.length c1] (by rfl) rfl rfl (by (try simp only [List.map_toArray, List.map_cons, List.map_nil]); first | done | rfl | (simp only [List.length_drop, List.length_take]; rfl)) ?_
    with_reducible refine (api_Item_14.calls _ _ l1 t185 _ ?side1 ?side2 A17.out).mono ?_
    (case side1 => repeat (first | exact (Kd.C_below HR1.out HB.out) | (with_reducible refine Kd.C_alloc ?_ _) | (with_reducible refine Kd.C_drewN ?_ _) | (with_reducible refine Kd.C_drew ?_)))
    (case side2 => exact HC1.out)
    rintro e w23 ⟨v186, rfl, ho0, hb⟩
    refine ⟨_, rfl, ?_⟩
    have n0_ := Aside0.mk (Kd.R_below (by (with_reducible repeat (first | apply Kd.R_alloc | apply Kd.R_drewN | apply Kd.R_drew)); exact HO184.out) hb); have n1_ := Aside0.mk (Kd.R_lower (Kd.R_newB ho0 (g := gb178) (o := .cells #[.int .i64 a2_0, .int .i64 a2_1, .int .i64 a2_2, .int .i64 a2_3, .int .i64 a2_4] 25 (0, 0)) (by (with_reducible repeat (first | refine blk_drewN ?_ _ | refine blk_drew ?_ | refine blk_alloc ?_ _)); exact BK178.out)) (below_size (by repeat (first | (with_reducible first | exact HB.out | apply below_alloc | apply pw_below_drewN | apply below_drew1 | refine below_set ?_ GE178.out) | exact HB.out)))); have n2_ := Aside0.mk (blk_below (g := gb178) (o := .cells #[.int .i64 a2_0, .int .i64 a2_1, .int .i64 a2_2, .int .i64 a2_3, .int .i64 a2_4] 25 (0, 0)) (by (with_reducible repeat (first | refine blk_drewN ?_ _ | refine blk_drew ?_ | refine blk_alloc ?_ _)); exact BK178.out) hb); have n3_ := Aside0.mk (below_step (by repeat (first | (with_reducible first | exact HB.out | apply below_alloc | apply pw_below_drewN | apply below_drew1 | refine below_set ?_ GE178.out) | exact HB.out)) hb); clear HO184 BK178 HB; have HO184 := n0_; have HO187 := n1_; have BK178 := n2_; have HB := n3_; clear n0_ n1_ n2_ n3_; (try clear hb); (try clear hb2); (try clear hk); (try clear hi); (try clear ho0)
    obtain ⟨Ao24, co24, eo24⟩ := Kd.R_slice HO184.out
    (first | subst eo24 | (injection eo24 with f1_ f2_ f3_; have f4_ := f1_.symm; have f5_ := f3_.symm; clear f1_ f2_ f3_; subst f4_; subst f5_))
    obtain ⟨Ao25, co25, eo25⟩ := Kd.R_slice HO187.out
    (first | subst eo25 | (injection eo25 with f1_ f2_ f3_; have f4_ := f1_.symm; have f5_ := f3_.symm; clear f1_ f2_ f3_; subst f4_; subst f5_))
    refine hK.out _ _ ⟨(blk_cell BK178.out 0).trans rfl, (blk_cell BK178.out 1).trans rfl, (blk_cell BK178.out 2).trans rfl, (blk_cell BK178.out 3).trans rfl, (blk_cell BK178.out 4).trans rfl⟩ (fun hHeld => ?_)
    clear hK K
    refine norm_ (a' := ?_) ?_ ?_
    rotate_left
    ·show Act.put _ (some 34) _ = _
     simp only [Act.put, List.setIfInBounds_toArray, List.set_cons_zero, List.set_cons_succ, i64_w, i32_w]
     rfl
    refine one_ (i := 5) (N := some 36) #[true, true, true, true, true, true, false, false, false, false, false, false, false] rfl rfl (one_of HT_.out (by kernel_rfl)) (by decide) (fun K hK => ?_)
    refine goes_ Try.func12 (by kernel_rfl) rfl #[.slice Ao24 t182.length co24, .slice Ao25 t185.length co25, .agg #[.int .i64 a2_0, .int .i64 a2_1, .int .i64 a2_2, .int .i64 a2_3, .int .i64 a2_4]] (by rfl) rfl rfl (by (try simp only [List.map_toArray, List.map_cons, List.map_nil]); first | done | rfl | (simp only [List.length_drop, List.length_take]; rfl)) ?_
    with_reducible refine (relief_Best.calls kj3 _ _ t182 _ _ t185 a2_0 a2_1 a2_2 a2_3 a2_4 t188 t189 t190 _ ?side1 ?side2 ?side3 ?side4 A18.out).mono ?_
    (case side1 => repeat (first | exact (Kd.R_reads' HO184.out).2.2 | (with_reducible refine Kd.C_alloc ?_ _) | (with_reducible refine Kd.C_drewN ?_ _) | (with_reducible refine Kd.C_drew ?_)))
    (case side2 => exact (Kd.R_reads' HO184.out).2.1)
    (case side3 => repeat (first | exact (Kd.R_reads' HO187.out).2.2 | (with_reducible refine Kd.C_alloc ?_ _) | (with_reducible refine Kd.C_drewN ?_ _) | (with_reducible refine Kd.C_drew ?_)))
    (case side4 => exact (Kd.R_reads' HO187.out).2.1)
    rintro e w26 ⟨rfl, hb⟩
    refine ⟨_, rfl, ?_⟩
    have n0_ := Aside0.mk (Kd.R_below (by (with_reducible repeat (first | apply Kd.R_alloc | apply Kd.R_drewN | apply Kd.R_drew)); exact HO184.out) hb); have n1_ := Aside0.mk (Kd.R_below (by (with_reducible repeat (first | apply Kd.R_alloc | apply Kd.R_drewN | apply Kd.R_drew)); exact HO187.out) hb); have n2_ := Aside0.mk (blk_below (g := gb178) (o := .cells #[.int .i64 a2_0, .int .i64 a2_1, .int .i64 a2_2, .int .i64 a2_3, .int .i64 a2_4] 25 (0, 0)) (by (with_reducible repeat (first | refine blk_drewN ?_ _ | refine blk_drew ?_ | refine blk_alloc ?_ _)); exact BK178.out) hb); have n3_ := Aside0.mk (below_step (by repeat (first | (with_reducible first | exact HB.out | apply below_alloc | apply pw_below_drewN | apply below_drew1 | refine below_set ?_ GE178.out) | exact HB.out)) hb); clear HO184 HO187 BK178 HB; have HO184 := n0_; have HO187 := n1_; have BK178 := n2_; have HB := n3_; clear n0_ n1_ n2_ n3_; (try clear hb); (try clear hb2); (try clear hk); (try clear hi)
    refine hK.out _ _ ⟨(blk_cell BK178.out 0).trans rfl, (blk_cell BK178.out 1).trans rfl, (blk_cell BK178.out 2).trans rfl, (blk_cell BK178.out 3).trans rfl, (blk_cell BK178.out 4).trans rfl⟩ (fun hHeld => ?_)
    clear hK K
    refine norm_ (a' := ?_) ?_ ?_
    rotate_left
    ·show Act.put _ (some 36) _ = _
     simp only [Act.put, List.setIfInBounds_toArray, List.set_cons_zero, List.set_cons_succ, i64_w, i32_w]
     rfl
    refine pure_ (i := 6) (N := some 30) (v := ?_) (a' := ?_) #[true, true, true, true, true, true, true, false, false, false, false, false, false] rfl rfl (any_of HT_.out (by kernel_rfl)) (fun _ _ _ h => h) (Or.inl ⟨by rfl, ?_⟩) ?_ ?_
    rotate_left
    ·intro w'
     go_simp
     with_reducible rfl
    rotate_left
    ·simp only [Act.put, List.setIfInBounds_toArray, List.set_cons_zero, List.set_cons_succ, i64_w, i32_w]
     rfl
    refine pure_ (i := 7) (N := some 37) (v := ?_) (a' := ?_) #[true, true, true, true, true, true, true, true, false, false, false, false, false] rfl rfl (any_of HT_.out (by kernel_rfl)) (fun _ _ _ h => h) (Or.inl ⟨by rfl, ?_⟩) ?_ ?_
    rotate_left
    ·intro w'
     go_simp
     with_reducible rfl
    rotate_left
    ·simp only [Act.put, List.setIfInBounds_toArray, List.set_cons_zero, List.set_cons_succ, i64_w, i32_w]
     rfl
    refine pure_ (i := 8) (N := some 38) (v := ?_) (a' := ?_) #[true, true, true, true, true, true, true, true, true, false, false, false, false] rfl rfl (any_of HT_.out (by kernel_rfl)) (fun _ _ _ h => h) (Or.inl ⟨by rfl, ?_⟩) ?_ ?_
    rotate_left
    ·intro w'
     go_simp
     with_reducible rfl
    rotate_left
    ·simp only [Act.put, List.setIfInBounds_toArray, List.set_cons_zero, List.set_cons_succ, i64_w, i32_w]
     rfl
    refine pure_ (i := 9) (N := some 39) (v := ?_) (a' := ?_) #[true, true, true, true, true, true, true, true, true, true, false, false, false] rfl rfl (any_of HT_.out (by kernel_rfl)) (fun _ _ _ h => h) (Or.inl ⟨by rfl, ?_⟩) ?_ ?_
    rotate_left
    ·intro w'
     go_simp
     with_reducible rfl
    rotate_left
    ·simp only [Act.put, List.setIfInBounds_toArray, List.set_cons_zero, List.set_cons_succ, i64_w, i32_w]
     rfl
    refine pure_ (i := 10) (N := some 7) (v := ?_) (a' := ?_) #[true, true, true, true, true, true, true, true, true, true, true, false, false] rfl rfl (any_of HT_.out (by kernel_rfl)) (fun _ _ _ h => h) (Or.inl ⟨by rfl, ?_⟩) ?_ ?_
    rotate_left
    ·intro w'
     go_simp
     with_reducible rfl
    rotate_left
    ·simp only [Act.put, List.setIfInBounds_toArray, List.set_cons_zero, List.set_cons_succ, i64_w, i32_w]
     rfl
    refine pure_ (i := 11) (N := some 8) (v := ?_) (a' := ?_) #[true, true, true, true, true, true, true, true, true, true, true, true, false] rfl rfl (any_of HT_.out (by kernel_rfl)) (fun _ _ _ h => h) (Or.inl ⟨by rfl, ?_⟩) ?_ ?_
    rotate_left
    ·intro w'
     go_simp
     with_reducible rfl
    rotate_left
    ·simp only [Act.put, List.setIfInBounds_toArray, List.set_cons_zero, List.set_cons_succ, i64_w, i32_w]
     rfl
    refine pure_ (i := 12) (N := some 9) (v := ?_) (a' := ?_) #[true, true, true, true, true, true, true, true, true, true, true, true, true] rfl rfl (any_of HT_.out (by kernel_rfl)) (fun _ _ _ h => h) (Or.inl ⟨by rfl, ?_⟩) ?_ ?_
    rotate_left
    ·intro w'
     go_simp
     with_reducible rfl
    rotate_left
    ·simp only [Act.put, List.setIfInBounds_toArray, List.set_cons_zero, List.set_cons_succ, i64_w, i32_w]
     rfl
    refine done_ (done_of HT_.out (by kernel_rfl)) ?_
    have H := HH1.out
    clear HH1
    by_cases c19 : t190 = 0
    ·rw [if_pos c19] at H
     have c19b0 : (t190 == 0) = true := beq_iff_eq.mpr c19
     have c19b1 : (t190 != 0) = false := bne_eq_false_iff_eq.mpr c19
     clear c19
     have HC20 := Aside0.mk H
     clear H
     go_upto_region 6 with (fail)
     go_cut [10] (fun v10 wc => ∃ (kq : Nat) (x10_19 : Bool), v10 = .bool x10_19 ∧ Aside0 (spilelaw47_ReliefGreatest.j1 kq l0 l1 t188 t189 x10_19 a2_0 a2_1 a2_2 a2_3 a2_4 = some r) ∧ Aside0 (kq ≤ kj3) ∧ Aside0 (wc.heap[gb178]? = some (.cells #[.int .i64 a2_0, .int .i64 a2_1, .int .i64 a2_2, .int .i64 a2_3, .int .i64 a2_4] 25 (0, 0))) ∧ Aside0 (Below w.heap.size w wc))
     case first =>
      have H := HC20.out; clear HC20
      by_cases c27 : t188 = 0
      ·rw [if_pos c27] at H
       have c27b0 : (t188 == 0) = true := beq_iff_eq.mpr c27
       have c27b1 : (t188 != 0) = false := bne_eq_false_iff_eq.mpr c27
       clear c27
       (first | rw [c27b0] | (simp only [i64_w, i32_w]; rw [c27b0]) | skip)
       have H' := Aside0.mk H
       clear H
       go_wp2
       go_meet
       case rel => exact ⟨_, ((t189 == 0)), (by first | rfl | (simp; done) | (simp [*]; done)), H', ⟨by have := HJ3.out; first | omega | exact Nat.le_refl _⟩, ⟨by (with_reducible repeat (first | refine blk_drewN ?_ _ | refine blk_drew ?_ | refine blk_alloc ?_ _)); exact BK178.out⟩, ⟨by repeat (first | (with_reducible first | exact HB.out | apply below_alloc | apply pw_below_drewN | apply below_drew1 | refine below_set ?_ GE178.out) | exact HB.out)⟩⟩
      ·rw [if_neg c27] at H
       have c27b0 : (t188 == 0) = false := beq_eq_false_iff_ne.mpr c27
       have c27b1 : (t188 != 0) = true := bne_iff_ne.mpr c27
       (first | rw [c27b0] | (simp only [i64_w, i32_w]; rw [c27b0]) | skip)
       have H' := Aside0.mk H
       clear H
       go_wp2
       go_meet
       case rel => exact ⟨_, (false), (by first | rfl | (simp; done) | (simp [*]; done)), H', ⟨by have := HJ3.out; first | omega | exact Nat.le_refl _⟩, ⟨by (with_reducible repeat (first | refine blk_drewN ?_ _ | refine blk_drew ?_ | refine blk_alloc ?_ _)); exact BK178.out⟩, ⟨by repeat (first | (with_reducible first | exact HB.out | apply below_alloc | apply pw_below_drewN | apply below_drew1 | refine below_set ?_ GE178.out) | exact HB.out)⟩⟩
     case rest =>
      clear HC20
      obtain ⟨kq, x10_19, rfl, HA, HJ19, BK178, HB⟩ := hcut
      cases kq with
      | zero => exact absurd HA.out (by simp [spilelaw47_ReliefGreatest.j1])
      | succ kj19 =>
       have H := HA.out; clear HA
       simp only [spilelaw47_ReliefGreatest.j1] at H
       have H' := Aside0.mk H
       clear H
       go_wp2
       go_loopg [10, 56] kj19 (fun kq v10 v56 w' => ∃ (x10_3 : Bool) (x56_3 : Int) (x179004_3 : Int), v10 = .bool x10_3 ∧ v56 = .int .i64 x56_3 ∧ Aside0 (spilelaw47_ReliefGreatest.l0 kq l0 l1 t188 t189 x10_3 l0 (l0.length : Int) x56_3 a2_0 a2_1 a2_2 a2_3 x179004_3 = some r) ∧ Aside0 (kq ≤ kj19) ∧ Aside0 (w'.heap[gb178]? = some (.cells #[.int .i64 a2_0, .int .i64 a2_1, .int .i64 a2_2, .int .i64 a2_3, .int .i64 x179004_3] 25 (0, 0))) ∧ Aside0 (Below w.heap.size w w'))
       case atStart => exact ⟨(x10_19), (0), (a2_4), (by first | rfl | (simp; done) | (simp [*]; done)), (by first | rfl | (simp; done) | (simp [*]; done)), H', ⟨Nat.le_refl _⟩, ⟨by (with_reducible repeat (first | refine blk_drewN ?_ _ | refine blk_drew ?_ | refine blk_alloc ?_ _)); exact BK178.out⟩, ⟨by repeat (first | (with_reducible first | exact HB.out | apply below_alloc | apply pw_below_drewN | apply below_drew1 | refine below_set ?_ GE178.out) | exact HB.out)⟩⟩
       case round =>
        clear H'
        obtain ⟨x10_3, x56_3, x179004_3, rfl, rfl, HA, HK3, BK178, HB⟩ := hrel
        cases gk with
        | zero => exact absurd HA.out (by simp [spilelaw47_ReliefGreatest.l0])
        | succ k3 =>
         have H := HA.out; clear HA
         simp only [spilelaw47_ReliefGreatest.l0] at H
         by_cases c28 : x56_3 < (l0.length : Int)
         ·rw [if_pos c28] at H
          have c28b0 : decide (x56_3 < (l0.length : Int)) = true := decide_eq_true c28
          clear c28
          by_cases c29 : 0 ≤ x56_3
          ·rw [if_pos c29] at H
           have c29b0 : decide (0 ≤ x56_3) = true := decide_eq_true c29
           clear c29
           by_cases c30 : x56_3 < (l0.length : Int)
           ·rw [if_pos c30] at H
            have c30b0 : decide (x56_3 < (l0.length : Int)) = true := decide_eq_true c30
            clear c30
            replace H := Option.bind_eq_some_iff.mp H
            obtain ⟨t193, A310, H⟩ := H
            try dsimp only at H
            have A31 := Aside0.mk A310
            clear A310
            replace H := Option.bind_eq_some_iff.mp H
            obtain ⟨t196, A320, H⟩ := H
            try dsimp only at H
            have A32 := Aside0.mk A320
            clear A320
            obtain ⟨y199, hy199⟩ : ∃ y_ : List (S25), y_ = (([(⟨a2_0, a2_1, a2_2, a2_3, (rd_T33 l0 x56_3).f0⟩ : S25)] : List (S25))) := ⟨_, rfl⟩
            replace H : (if t196.length + y199.length < 3518437208883 then ((relief_Grant.f k3 t193 (t196 ++ y199)).bind fun bt205 => (if bt205.2.2 = 19 then (spilelaw47_ReliefGreatest.l0 k3 l0 l1 t188 t189 x10_3 l0 (l0.length : Int) (wrap64 (x56_3 + 1)) a2_0 a2_1 a2_2 a2_3 ((rd_T33 l0 x56_3).f0)) else (if bt205.2.2 = 0 then (if (bt205.1.length : Int) = (wrap64 ((l1.length : Int) + 1)) then (if 0 ≤ (l1.length : Int) then (if (l1.length : Int) < (bt205.1.length : Int) then (if (rd bt205.1 (l1.length : Int)) > t189 then (some false) else (if x10_3 = true then (spilelaw47_ReliefGreatest.l0 k3 l0 l1 t188 t189 true l0 (l0.length : Int) (wrap64 (x56_3 + 1)) a2_0 a2_1 a2_2 a2_3 ((rd_T33 l0 x56_3).f0)) else (if ((rd_T33 l0 x56_3).f0) = t188 then (spilelaw47_ReliefGreatest.l0 k3 l0 l1 t188 t189 ((rd bt205.1 (l1.length : Int)) == t189) l0 (l0.length : Int) (wrap64 (x56_3 + 1)) a2_0 a2_1 a2_2 a2_3 ((rd_T33 l0 x56_3).f0)) else (spilelaw47_ReliefGreatest.l0 k3 l0 l1 t188 t189 false l0 (l0.length : Int) (wrap64 (x56_3 + 1)) a2_0 a2_1 a2_2 a2_3 ((rd_T33 l0 x56_3).f0))))) else (none)) else (none)) else (some false)) else (some false)))) else (none)) = some r := by first | (rw [hy199]; with_reducible exact H) | (have H2_ := (Option.bind_some _ _).symm.trans H; rw [hy199]; with_reducible exact H2_) | (have H2_ := (Option.bind_some _ _).symm.trans H; with_reducible exact H2_) | with_reducible exact H | (rw [hy199]; exact H) | exact H
            have Ny199 := Aside0.mk hy199
            clear hy199
            by_cases c33 : t196.length + y199.length < 3518437208883
            ·rw [if_pos c33] at H
             have LMc33 := Aside0.mk c33
             clear c33
             obtain ⟨y202, hy202⟩ : ∃ y_ : List (S25), y_ = (t196 ++ y199) := ⟨_, rfl⟩
             replace H : ((relief_Grant.f k3 t193 y202).bind fun bt205 => (if bt205.2.2 = 19 then (spilelaw47_ReliefGreatest.l0 k3 l0 l1 t188 t189 x10_3 l0 (l0.length : Int) (wrap64 (x56_3 + 1)) a2_0 a2_1 a2_2 a2_3 ((rd_T33 l0 x56_3).f0)) else (if bt205.2.2 = 0 then (if (bt205.1.length : Int) = (wrap64 ((l1.length : Int) + 1)) then (if 0 ≤ (l1.length : Int) then (if (l1.length : Int) < (bt205.1.length : Int) then (if (rd bt205.1 (l1.length : Int)) > t189 then (some false) else (if x10_3 = true then (spilelaw47_ReliefGreatest.l0 k3 l0 l1 t188 t189 true l0 (l0.length : Int) (wrap64 (x56_3 + 1)) a2_0 a2_1 a2_2 a2_3 ((rd_T33 l0 x56_3).f0)) else (if ((rd_T33 l0 x56_3).f0) = t188 then (spilelaw47_ReliefGreatest.l0 k3 l0 l1 t188 t189 ((rd bt205.1 (l1.length : Int)) == t189) l0 (l0.length : Int) (wrap64 (x56_3 + 1)) a2_0 a2_1 a2_2 a2_3 ((rd_T33 l0 x56_3).f0)) else (spilelaw47_ReliefGreatest.l0 k3 l0 l1 t188 t189 false l0 (l0.length : Int) (wrap64 (x56_3 + 1)) a2_0 a2_1 a2_2 a2_3 ((rd_T33 l0 x56_3).f0))))) else (none)) else (none)) else (some false)) else (some false)))) = some r := by first | (rw [hy202]; with_reducible exact H) | (have H2_ := (Option.bind_some _ _).symm.trans H; rw [hy202]; with_reducible exact H2_) | (have H2_ := (Option.bind_some _ _).symm.trans H; with_reducible exact H2_) | with_reducible exact H | (rw [hy202]; exact H) | exact H
             have Ny202 := Aside0.mk hy202
             clear hy202
             replace H := Option.bind_eq_some_iff.mp H
             obtain ⟨⟨t205, t206, t207⟩, A340, H⟩ := H
             try dsimp only at H
             have A34 := Aside0.mk A340
             clear A340
             have HH0 := Aside0.mk H
             clear H
             have p191 : 0 ≤ (x56_3 : Int) := of_decide_eq_true (by first | (with_reducible assumption) | assumption)
             have q191 : x56_3 < (l0.length : Int) := of_decide_eq_true (by first | (with_reducible assumption) | assumption)
             obtain ⟨ad191, e191, hx191_0, hx191_1, hx191_2, hx191_3, hx191_4, hx191_5, hx191_6⟩ := at_T33 HR0.out x56_3 p191 q191
             cases e191
             replace hx191_0 := (HB.out.cell (World.block_lt_of_cell? w _ hx191_0)).trans hx191_0
             replace hx191_1 := (HB.out.cell (World.block_lt_of_cell? w _ hx191_1)).trans hx191_1
             replace hx191_2 := (HB.out.cell (World.block_lt_of_cell? w _ hx191_2)).trans hx191_2
             replace hx191_3 := (HB.out.cell (World.block_lt_of_cell? w _ hx191_3)).trans hx191_3
             replace hx191_4 := (HB.out.cell (World.block_lt_of_cell? w _ hx191_4)).trans hx191_4
             replace hx191_5 := (HB.out.cell (World.block_lt_of_cell? w _ hx191_5)).trans hx191_5
             replace hx191_6 := (HB.out.cell (World.block_lt_of_cell? w _ hx191_6)).trans hx191_6
             replace p191 := eq_true p191
             replace q191 := eq_true q191
             try go_wp2_with (first | ((with_reducible refine gate_dst (N := 12) rfl ?_); (try (refine gate_guard (by rfl) ?_; dsimp only)); refine box_event ?hg (N := 12) ?hd (cs := #[.int .i64 0, .string (⟨#[]⟩ : ByteArray), .int .i64 0, .int .i64 0, .int .i64 0, .int .i64 0, .int .i64 0]) (t := 33) ?hr ?_; (case hd => rfl); (case hg => rfl); (case hr => first | (go_simp; done) | (go_simp; rfl)); intro gb192 hg w93 hbox hb; have n0_ := Aside0.mk (blk_below (g := gb178) (o := .cells #[.int .i64 a2_0, .int .i64 a2_1, .int .i64 a2_2, .int .i64 a2_3, .int .i64 x179004_3] 25 (0, 0)) (by (with_reducible repeat (first | refine blk_drewN ?_ _ | refine blk_drew ?_ | refine blk_alloc ?_ _)); exact BK178.out) hb); have n1_ := Aside0.mk (below_step (by repeat (first | (with_reducible first | exact HB.out | apply below_alloc | apply pw_below_drewN | apply below_drew1 | refine below_set ?_ GE178.out) | exact HB.out)) hb); have n2_ := Aside0.mk (hbox); have n3_ := Aside0.mk ((by rw [hg]; exact (below_size (by repeat (first | (with_reducible first | exact HB.out | apply below_alloc | apply pw_below_drewN | apply below_drew1 | refine below_set ?_ GE178.out) | exact HB.out))) : w.heap.size ≤ gb192)); have n4_ := Aside0.mk ((by rw [hg]; exact (below_size (by repeat (first | (with_reducible first | exact HB.out | apply below_alloc | apply pw_below_drewN | apply below_drew1 | refine below_set ?_ GE178.out) | exact HB.out))) : w.heap.size ≤ gb192)); have n5_ := Aside0.mk ((by rw [hg]; exact Nat.ne_of_lt (blk_lt (g := gb178) (o := .cells #[.int .i64 a2_0, .int .i64 a2_1, .int .i64 a2_2, .int .i64 a2_3, .int .i64 x179004_3] 25 (0, 0)) (by (with_reducible repeat (first | refine blk_drewN ?_ _ | refine blk_drew ?_ | refine blk_alloc ?_ _)); exact BK178.out)) : gb178 ≠ gb192)); have n6_ := Aside0.mk ((by rw [hg]; exact Nat.ne_of_gt (blk_lt (g := gb178) (o := .cells #[.int .i64 a2_0, .int .i64 a2_1, .int .i64 a2_2, .int .i64 a2_3, .int .i64 x179004_3] 25 (0, 0)) (by (with_reducible repeat (first | refine blk_drewN ?_ _ | refine blk_drew ?_ | refine blk_alloc ?_ _)); exact BK178.out)) : gb192 ≠ gb178)); clear BK178; clear HB; have BK178 := n0_; have HB := n1_; have BK192 := n2_; have GW192 := n3_; have GE192 := n4_; have NB178_192 := n5_; have NB192_178 := n6_; clear n0_ n1_ n2_ n3_ n4_ n5_ n6_; clear hb hbox hg; have hnb94 := NB192_178.out; have hnc94 := NB178_192.out; have hcz95_0 : w93.cell? ⟨gb192, 0, none⟩ = some (.int .i64 0) := (blk_cell BK192.out 0).trans rfl; have hcz95_1 : w93.cell? ⟨gb192, 1, none⟩ = some (.string (⟨#[]⟩ : ByteArray)) := (blk_cell BK192.out 1).trans rfl; have hcz95_2 : w93.cell? ⟨gb192, 2, none⟩ = some (.int .i64 0) := (blk_cell BK192.out 2).trans rfl; have hcz95_3 : w93.cell? ⟨gb192, 3, none⟩ = some (.int .i64 0) := (blk_cell BK192.out 3).trans rfl; have hcz95_4 : w93.cell? ⟨gb192, 4, none⟩ = some (.int .i64 0) := (blk_cell BK192.out 4).trans rfl; have hcz95_5 : w93.cell? ⟨gb192, 5, none⟩ = some (.int .i64 0) := (blk_cell BK192.out 5).trans rfl; have hcz95_6 : w93.cell? ⟨gb192, 6, none⟩ = some (.int .i64 0) := (blk_cell BK192.out 6).trans rfl; have hfz95_0 := blk_frozen BK192.out 0; have hfz95_1 := blk_frozen BK192.out 1; have hfz95_2 := blk_frozen BK192.out 2; have hfz95_3 := blk_frozen BK192.out 3; have hfz95_4 := blk_frozen BK192.out 4; have hfz95_5 := blk_frozen BK192.out 5; have hfz95_6 := blk_frozen BK192.out 6; have hcz96_0 : w93.cell? ⟨gb178, 0, none⟩ = some (.int .i64 a2_0) := (blk_cell BK178.out 0).trans rfl; have hcz96_1 : w93.cell? ⟨gb178, 1, none⟩ = some (.int .i64 a2_1) := (blk_cell BK178.out 1).trans rfl; have hcz96_2 : w93.cell? ⟨gb178, 2, none⟩ = some (.int .i64 a2_2) := (blk_cell BK178.out 2).trans rfl; have hcz96_3 : w93.cell? ⟨gb178, 3, none⟩ = some (.int .i64 a2_3) := (blk_cell BK178.out 3).trans rfl; have hcz96_4 : w93.cell? ⟨gb178, 4, none⟩ = some (.int .i64 x179004_3) := (blk_cell BK178.out 4).trans rfl; have hfz96_0 := blk_frozen BK178.out 0; have hfz96_1 := blk_frozen BK178.out 1; have hfz96_2 := blk_frozen BK178.out 2; have hfz96_3 := blk_frozen BK178.out 3; have hfz96_4 := blk_frozen BK178.out 4))
             have n0_ : Aside0 (((((((((w93.setCell ⟨gb192, 0, none⟩ (.int .i64 ((rd_T33 l0 x56_3).f0))).setCell ⟨gb192, 1, none⟩ (.string ((rd_T33 l0 x56_3).f1))).setCell ⟨gb192, 2, none⟩ (.int .i64 ((rd_T33 l0 x56_3).f2))).setCell ⟨gb192, 3, none⟩ (.int .i64 ((rd_T33 l0 x56_3).f3))).setCell ⟨gb192, 4, none⟩ (.int .i64 ((rd_T33 l0 x56_3).f4))).setCell ⟨gb192, 5, none⟩ (.int .i64 ((rd_T33 l0 x56_3).f5))).setCell ⟨gb192, 6, none⟩ (.int .i64 ((rd_T33 l0 x56_3).f6))).setCell ⟨gb178, 4, none⟩ (.int .i64 ((rd_T33 l0 x56_3).f0))).heap[gb178]? = some (.cells #[.int .i64 a2_0, .int .i64 a2_1, .int .i64 a2_2, .int .i64 a2_3, .int .i64 ((rd_T33 l0 x56_3).f0)] 25 (0, 0))) := ⟨by (with_reducible repeat (first | refine blk_drewN ?_ _ | refine blk_drew ?_ | refine blk_alloc ?_ _)); refine blk_put (cs := #[.int .i64 a2_0, .int .i64 a2_1, .int .i64 a2_2, .int .i64 a2_3, .int .i64 x179004_3]) ?_ 4 _ rfl; (with_reducible repeat (first | refine blk_drewN ?_ _ | refine blk_drew ?_ | refine blk_alloc ?_ _)); refine blk_far ?_ NB178_192.out _; (with_reducible repeat (first | refine blk_drewN ?_ _ | refine blk_drew ?_ | refine blk_alloc ?_ _)); refine blk_far ?_ NB178_192.out _; (with_reducible repeat (first | refine blk_drewN ?_ _ | refine blk_drew ?_ | refine blk_alloc ?_ _)); refine blk_far ?_ NB178_192.out _; (with_reducible repeat (first | refine blk_drewN ?_ _ | refine blk_drew ?_ | refine blk_alloc ?_ _)); refine blk_far ?_ NB178_192.out _; (with_reducible repeat (first | refine blk_drewN ?_ _ | refine blk_drew ?_ | refine blk_alloc ?_ _)); refine blk_far ?_ NB178_192.out _; (with_reducible repeat (first | refine blk_drewN ?_ _ | refine blk_drew ?_ | refine blk_alloc ?_ _)); refine blk_far ?_ NB178_192.out _; (with_reducible repeat (first | refine blk_drewN ?_ _ | refine blk_drew ?_ | refine blk_alloc ?_ _)); refine blk_far ?_ NB178_192.out _; (with_reducible repeat (first | refine blk_drewN ?_ _ | refine blk_drew ?_ | refine blk_alloc ?_ _)); exact BK178.out⟩
             have n1_ : Aside0 (((((((((w93.setCell ⟨gb192, 0, none⟩ (.int .i64 ((rd_T33 l0 x56_3).f0))).setCell ⟨gb192, 1, none⟩ (.string ((rd_T33 l0 x56_3).f1))).setCell ⟨gb192, 2, none⟩ (.int .i64 ((rd_T33 l0 x56_3).f2))).setCell ⟨gb192, 3, none⟩ (.int .i64 ((rd_T33 l0 x56_3).f3))).setCell ⟨gb192, 4, none⟩ (.int .i64 ((rd_T33 l0 x56_3).f4))).setCell ⟨gb192, 5, none⟩ (.int .i64 ((rd_T33 l0 x56_3).f5))).setCell ⟨gb192, 6, none⟩ (.int .i64 ((rd_T33 l0 x56_3).f6))).setCell ⟨gb178, 4, none⟩ (.int .i64 ((rd_T33 l0 x56_3).f0))).heap[gb192]? = some (.cells #[.int .i64 ((rd_T33 l0 x56_3).f0), .string ((rd_T33 l0 x56_3).f1), .int .i64 ((rd_T33 l0 x56_3).f2), .int .i64 ((rd_T33 l0 x56_3).f3), .int .i64 ((rd_T33 l0 x56_3).f4), .int .i64 ((rd_T33 l0 x56_3).f5), .int .i64 ((rd_T33 l0 x56_3).f6)] 33 (0, 0))) := ⟨by (with_reducible repeat (first | refine blk_drewN ?_ _ | refine blk_drew ?_ | refine blk_alloc ?_ _)); refine blk_far ?_ NB192_178.out _; (with_reducible repeat (first | refine blk_drewN ?_ _ | refine blk_drew ?_ | refine blk_alloc ?_ _)); refine blk_put (cs := #[.int .i64 ((rd_T33 l0 x56_3).f0), .string ((rd_T33 l0 x56_3).f1), .int .i64 ((rd_T33 l0 x56_3).f2), .int .i64 ((rd_T33 l0 x56_3).f3), .int .i64 ((rd_T33 l0 x56_3).f4), .int .i64 ((rd_T33 l0 x56_3).f5), .int .i64 0]) ?_ 6 _ rfl; (with_reducible repeat (first | refine blk_drewN ?_ _ | refine blk_drew ?_ | refine blk_alloc ?_ _)); refine blk_put (cs := #[.int .i64 ((rd_T33 l0 x56_3).f0), .string ((rd_T33 l0 x56_3).f1), .int .i64 ((rd_T33 l0 x56_3).f2), .int .i64 ((rd_T33 l0 x56_3).f3), .int .i64 ((rd_T33 l0 x56_3).f4), .int .i64 0, .int .i64 0]) ?_ 5 _ rfl; (with_reducible repeat (first | refine blk_drewN ?_ _ | refine blk_drew ?_ | refine blk_alloc ?_ _)); refine blk_put (cs := #[.int .i64 ((rd_T33 l0 x56_3).f0), .string ((rd_T33 l0 x56_3).f1), .int .i64 ((rd_T33 l0 x56_3).f2), .int .i64 ((rd_T33 l0 x56_3).f3), .int .i64 0, .int .i64 0, .int .i64 0]) ?_ 4 _ rfl; (with_reducible repeat (first | refine blk_drewN ?_ _ | refine blk_drew ?_ | refine blk_alloc ?_ _)); refine blk_put (cs := #[.int .i64 ((rd_T33 l0 x56_3).f0), .string ((rd_T33 l0 x56_3).f1), .int .i64 ((rd_T33 l0 x56_3).f2), .int .i64 0, .int .i64 0, .int .i64 0, .int .i64 0]) ?_ 3 _ rfl; (with_reducible repeat (first | refine blk_drewN ?_ _ | refine blk_drew ?_ | refine blk_alloc ?_ _)); refine blk_put (cs := #[.int .i64 ((rd_T33 l0 x56_3).f0), .string ((rd_T33 l0 x56_3).f1), .int .i64 0, .int .i64 0, .int .i64 0, .int .i64 0, .int .i64 0]) ?_ 2 _ rfl; (with_reducible repeat (first | refine blk_drewN ?_ _ | refine blk_drew ?_ | refine blk_alloc ?_ _)); refine blk_put (cs := #[.int .i64 ((rd_T33 l0 x56_3).f0), .string (⟨#[]⟩ : ByteArray), .int .i64 0, .int .i64 0, .int .i64 0, .int .i64 0, .int .i64 0]) ?_ 1 _ rfl; (with_reducible repeat (first | refine blk_drewN ?_ _ | refine blk_drew ?_ | refine blk_alloc ?_ _)); refine blk_put (cs := #[.int .i64 0, .string (⟨#[]⟩ : ByteArray), .int .i64 0, .int .i64 0, .int .i64 0, .int .i64 0, .int .i64 0]) ?_ 0 _ rfl; (with_reducible repeat (first | refine blk_drewN ?_ _ | refine blk_drew ?_ | refine blk_alloc ?_ _)); exact BK192.out⟩
             have n2_ : Aside0 (Below w.heap.size w ((((((((w93.setCell ⟨gb192, 0, none⟩ (.int .i64 ((rd_T33 l0 x56_3).f0))).setCell ⟨gb192, 1, none⟩ (.string ((rd_T33 l0 x56_3).f1))).setCell ⟨gb192, 2, none⟩ (.int .i64 ((rd_T33 l0 x56_3).f2))).setCell ⟨gb192, 3, none⟩ (.int .i64 ((rd_T33 l0 x56_3).f3))).setCell ⟨gb192, 4, none⟩ (.int .i64 ((rd_T33 l0 x56_3).f4))).setCell ⟨gb192, 5, none⟩ (.int .i64 ((rd_T33 l0 x56_3).f5))).setCell ⟨gb192, 6, none⟩ (.int .i64 ((rd_T33 l0 x56_3).f6))).setCell ⟨gb178, 4, none⟩ (.int .i64 ((rd_T33 l0 x56_3).f0)))) := ⟨by repeat (first | (with_reducible first | exact HB.out | apply below_alloc | apply pw_below_drewN | apply below_drew1 | refine below_set ?_ GE178.out | refine below_set ?_ GE192.out) | exact HB.out)⟩
             (try clear BK178); (try clear BK192); (try clear HB)
             generalize ((((((((w93.setCell ⟨gb192, 0, none⟩ (.int .i64 ((rd_T33 l0 x56_3).f0))).setCell ⟨gb192, 1, none⟩ (.string ((rd_T33 l0 x56_3).f1))).setCell ⟨gb192, 2, none⟩ (.int .i64 ((rd_T33 l0 x56_3).f2))).setCell ⟨gb192, 3, none⟩ (.int .i64 ((rd_T33 l0 x56_3).f3))).setCell ⟨gb192, 4, none⟩ (.int .i64 ((rd_T33 l0 x56_3).f4))).setCell ⟨gb192, 5, none⟩ (.int .i64 ((rd_T33 l0 x56_3).f5))).setCell ⟨gb192, 6, none⟩ (.int .i64 ((rd_T33 l0 x56_3).f6))).setCell ⟨gb178, 4, none⟩ (.int .i64 ((rd_T33 l0 x56_3).f0))) = w97 at n0_ n1_ n2_ ⊢
             have BK178 := n0_; have BK192 := n1_; have HB := n2_; clear n0_ n1_ n2_; have n0_ := Aside0.mk (blk_drew BK178.out); have n1_ := Aside0.mk (blk_drew BK192.out); have n2_ := Aside0.mk (below_drew1 HB.out); clear BK178 BK192 HB; have BK178 := n0_; have BK192 := n1_; have HB := n2_; clear n0_ n1_ n2_
             refine start_ (n := 15) (S := fun w' => w'.cell? ⟨gb178, 0, none⟩ = some (.int .i64 a2_0) ∧ w'.cell? ⟨gb178, 1, none⟩ = some (.int .i64 a2_1) ∧ w'.cell? ⟨gb178, 2, none⟩ = some (.int .i64 a2_2) ∧ w'.cell? ⟨gb178, 3, none⟩ = some (.int .i64 a2_3) ∧ w'.cell? ⟨gb178, 4, none⟩ = some (.int .i64 ((rd_T33 l0 x56_3).f0))) (ds := []) #[false, false, false, false, false, false, false, false, false, false, false, false, false, false, false] (by kernel_rfl) rfl rfl ⟨(blk_cell BK178.out 0).trans rfl, (blk_cell BK178.out 1).trans rfl, (blk_cell BK178.out 2).trans rfl, (blk_cell BK178.out 3).trans rfl, (blk_cell BK178.out 4).trans rfl⟩ (fun hHeld => ?_); refine with_tabW spilelaw47_ReliefGreatest.tab11 spilelaw47_ReliefGreatest.bits11 (fun HT_ HW_ => ?_)
             generalize w97.drew = w98 at BK178 BK192 HB hHeld ⊢
             refine pure_ (i := 0) (N := some 64) (v := ?_) (a' := ?_) #[true, false, false, false, false, false, false, false, false, false, false, false, false, false, false] rfl rfl (any_of HT_.out (by kernel_rfl)) (fun _ _ _ h => h) (Or.inl ⟨by rfl, ?_⟩) ?_ ?_
             rotate_left
             ·intro w'
              go_simp
              with_reducible rfl
             rotate_left
             ·simp only [Act.put, List.setIfInBounds_toArray, List.set_cons_zero, List.set_cons_succ, i64_w, i32_w]
              rfl
             refine pure_ (i := 2) (N := some 66) (v := ?_) (a' := ?_) #[true, false, true, false, false, false, false, false, false, false, false, false, false, false, false] rfl rfl (any_of HT_.out (by kernel_rfl)) (fun _ _ _ h => h) (Or.inl ⟨by rfl, ?_⟩) ?_ ?_
             rotate_left
             ·intro w'
              go_simp
              with_reducible rfl
             rotate_left
             ·simp only [Act.put, List.setIfInBounds_toArray, List.set_cons_zero, List.set_cons_succ, i64_w, i32_w]
              rfl
             refine take_ (i := 4) (N := some 68) (v := ?_) (a' := ?_) #[true, false, true, false, true, false, false, false, false, false, false, false, false, false, false] rfl rfl (take_ofW HT_.out HW_.out (by kernel_rfl)) (fun _ _ _ h => h) (Or.inl ⟨by rfl, ?_⟩) hHeld ?_ ?_
             rotate_left
             ·rintro w' ⟨s0, s1, s2, s3, s4⟩
              go_simp
              with_reducible rfl
             rotate_left
             ·simp only [Act.put, List.setIfInBounds_toArray, List.set_cons_zero, List.set_cons_succ, i64_w, i32_w]
              rfl
             refine join_ (σ := Value × Value × Value) 9 #[true, true, true, true, true, true, false, false, false, false, false, false, false, false, false] (fun s_ => [(65, s_.1), (67, s_.2.1), (69, s_.2.2)]) (fun s_ w' => (w'.cell? ⟨gb178, 0, none⟩ = some (.int .i64 a2_0) ∧ w'.cell? ⟨gb178, 1, none⟩ = some (.int .i64 a2_1) ∧ w'.cell? ⟨gb178, 2, none⟩ = some (.int .i64 a2_2) ∧ w'.cell? ⟨gb178, 3, none⟩ = some (.int .i64 a2_3) ∧ w'.cell? ⟨gb178, 4, none⟩ = some (.int .i64 ((rd_T33 l0 x56_3).f0))) ∧ (Kd.R k33 33 w' w.heap.size (fun k_ => k_ ≠ gb192) s_.1 t193) ∧ (Kd.R k25 25 w' w.heap.size (fun k_ => some k_ ≠ (s_.2.2 : Value).ownBlock ∧ k_ ≠ gb178) s_.2.1 t196) ∧ (Kd.R k25 25 w' w.heap.size (fun k_ => some k_ ≠ (s_.2.1 : Value).ownBlock ∧ k_ ≠ gb178) s_.2.2 y199) ∧ (w'.heap[gb178]? = some (.cells #[.int .i64 a2_0, .int .i64 a2_1, .int .i64 a2_2, .int .i64 a2_3, .int .i64 ((rd_T33 l0 x56_3).f0)] 25 (0, 0))) ∧ (w'.heap[gb192]? = some (.cells #[.int .i64 ((rd_T33 l0 x56_3).f0), .string ((rd_T33 l0 x56_3).f1), .int .i64 ((rd_T33 l0 x56_3).f2), .int .i64 ((rd_T33 l0 x56_3).f3), .int .i64 ((rd_T33 l0 x56_3).f4), .int .i64 ((rd_T33 l0 x56_3).f5), .int .i64 ((rd_T33 l0 x56_3).f6)] 33 (0, 0))) ∧ (Below w.heap.size w w')) ?_ ?_
             rotate_left
             ·intro hCont
              refine two_ (i := 1) (j := 5) (Ni := some 65) (Nj := some 69) #[true, true, true, false, true, false, false, false, false, false, false, false, false, false, false] #[true, false, true, false, true, true, false, false, false, false, false, false, false, false, false] rfl rfl rfl rfl (two_of HT_.out (by kernel_rfl)) (by decide) (by decide) (fun K hK => ?_) (fun K hK => ?_)
              ·skip
               refine goes_ Try.func13 (by kernel_rfl) rfl #[.slice (some ad191) l0.length c0] (by rfl) rfl rfl (by (try simp only [List.map_toArray, List.map_cons, List.map_nil]); first | done | rfl | (simp only [List.length_drop, List.length_take]; rfl)) ?_
               with_reducible refine (api_Relief_13.calls _ _ l0 t193 _ ?side1 ?side2 A31.out).mono ?_
               (case side1 => repeat (first | exact (Kd.C_below HR0.out HB.out) | (with_reducible refine Kd.C_alloc ?_ _) | (with_reducible refine Kd.C_drewN ?_ _) | (with_reducible refine Kd.C_drew ?_)))
               (case side2 => exact HC0.out)
               rintro e w99 ⟨v194, rfl, ho0, hb⟩
               refine ⟨_, rfl, ?_⟩
               have n0_ := Aside0.mk (Kd.R_lower (Kd.R_newB ho0 (g := gb192) (o := .cells #[.int .i64 ((rd_T33 l0 x56_3).f0), .string ((rd_T33 l0 x56_3).f1), .int .i64 ((rd_T33 l0 x56_3).f2), .int .i64 ((rd_T33 l0 x56_3).f3), .int .i64 ((rd_T33 l0 x56_3).f4), .int .i64 ((rd_T33 l0 x56_3).f5), .int .i64 ((rd_T33 l0 x56_3).f6)] 33 (0, 0)) (by (with_reducible repeat (first | refine blk_drewN ?_ _ | refine blk_drew ?_ | refine blk_alloc ?_ _)); exact BK192.out)) (below_size (by repeat (first | (with_reducible first | exact HB.out | apply below_alloc | apply pw_below_drewN | apply below_drew1 | refine below_set ?_ GE178.out | refine below_set ?_ GE192.out) | exact HB.out)))); have n1_ := Aside0.mk (blk_below (g := gb178) (o := .cells #[.int .i64 a2_0, .int .i64 a2_1, .int .i64 a2_2, .int .i64 a2_3, .int .i64 ((rd_T33 l0 x56_3).f0)] 25 (0, 0)) (by (with_reducible repeat (first | refine blk_drewN ?_ _ | refine blk_drew ?_ | refine blk_alloc ?_ _)); exact BK178.out) hb); have n2_ := Aside0.mk (blk_below (g := gb192) (o := .cells #[.int .i64 ((rd_T33 l0 x56_3).f0), .string ((rd_T33 l0 x56_3).f1), .int .i64 ((rd_T33 l0 x56_3).f2), .int .i64 ((rd_T33 l0 x56_3).f3), .int .i64 ((rd_T33 l0 x56_3).f4), .int .i64 ((rd_T33 l0 x56_3).f5), .int .i64 ((rd_T33 l0 x56_3).f6)] 33 (0, 0)) (by (with_reducible repeat (first | refine blk_drewN ?_ _ | refine blk_drew ?_ | refine blk_alloc ?_ _)); exact BK192.out) hb); have n3_ := Aside0.mk (below_step (by repeat (first | (with_reducible first | exact HB.out | apply below_alloc | apply pw_below_drewN | apply below_drew1 | refine below_set ?_ GE178.out | refine below_set ?_ GE192.out) | exact HB.out)) hb); clear BK178 BK192 HB; have HO195 := n0_; have BK178 := n1_; have BK192 := n2_; have HB := n3_; clear n0_ n1_ n2_ n3_; (try clear hb); (try clear hb2); (try clear hk); (try clear hi); (try clear ho0)
               refine hK.out _ _ ⟨(blk_cell BK178.out 0).trans rfl, (blk_cell BK178.out 1).trans rfl, (blk_cell BK178.out 2).trans rfl, (blk_cell BK178.out 3).trans rfl, (blk_cell BK178.out 4).trans rfl⟩ (fun hHeld => ?_)
               clear hK K
               refine norm_ (a' := ?_) ?_ ?_
               rotate_left
               ·show Act.put _ (some 65) _ = _
                simp only [Act.put, List.setIfInBounds_toArray, List.set_cons_zero, List.set_cons_succ, i64_w, i32_w]
                rfl
               refine two_ (i := 3) (j := 5) (Ni := some 67) (Nj := some 69) #[true, true, true, true, true, false, false, false, false, false, false, false, false, false, false] #[true, true, true, false, true, true, false, false, false, false, false, false, false, false, false] rfl rfl rfl rfl (two_of HT_.out (by kernel_rfl)) (by decide) (by decide) (fun K hK => ?_) (fun K hK => ?_)
               ·skip
                refine goes_ Try.func14 (by kernel_rfl) rfl #[.slice A1 l1.length c1] (by rfl) rfl rfl (by (try simp only [List.map_toArray, List.map_cons, List.map_nil]); first | done | rfl | (simp only [List.length_drop, List.length_take]; rfl)) ?_
                with_reducible refine (api_Item_14.calls _ _ l1 t196 _ ?side1 ?side2 A32.out).mono ?_
                (case side1 => repeat (first | exact (Kd.C_below HR1.out HB.out) | (with_reducible refine Kd.C_alloc ?_ _) | (with_reducible refine Kd.C_drewN ?_ _) | (with_reducible refine Kd.C_drew ?_)))
                (case side2 => exact HC1.out)
                rintro e w100 ⟨v197, rfl, ho0, hb⟩
                refine ⟨_, rfl, ?_⟩
                have n0_ := Aside0.mk (Kd.R_below (by (with_reducible repeat (first | apply Kd.R_alloc | apply Kd.R_drewN | apply Kd.R_drew)); exact HO195.out) hb); have n1_ := Aside0.mk (Kd.R_lower (Kd.R_newB ho0 (g := gb178) (o := .cells #[.int .i64 a2_0, .int .i64 a2_1, .int .i64 a2_2, .int .i64 a2_3, .int .i64 ((rd_T33 l0 x56_3).f0)] 25 (0, 0)) (by (with_reducible repeat (first | refine blk_drewN ?_ _ | refine blk_drew ?_ | refine blk_alloc ?_ _)); exact BK178.out)) (below_size (by repeat (first | (with_reducible first | exact HB.out | apply below_alloc | apply pw_below_drewN | apply below_drew1 | refine below_set ?_ GE178.out | refine below_set ?_ GE192.out) | exact HB.out)))); have n2_ := Aside0.mk (blk_below (g := gb178) (o := .cells #[.int .i64 a2_0, .int .i64 a2_1, .int .i64 a2_2, .int .i64 a2_3, .int .i64 ((rd_T33 l0 x56_3).f0)] 25 (0, 0)) (by (with_reducible repeat (first | refine blk_drewN ?_ _ | refine blk_drew ?_ | refine blk_alloc ?_ _)); exact BK178.out) hb); have n3_ := Aside0.mk (blk_below (g := gb192) (o := .cells #[.int .i64 ((rd_T33 l0 x56_3).f0), .string ((rd_T33 l0 x56_3).f1), .int .i64 ((rd_T33 l0 x56_3).f2), .int .i64 ((rd_T33 l0 x56_3).f3), .int .i64 ((rd_T33 l0 x56_3).f4), .int .i64 ((rd_T33 l0 x56_3).f5), .int .i64 ((rd_T33 l0 x56_3).f6)] 33 (0, 0)) (by (with_reducible repeat (first | refine blk_drewN ?_ _ | refine blk_drew ?_ | refine blk_alloc ?_ _)); exact BK192.out) hb); have n4_ := Aside0.mk (below_step (by repeat (first | (with_reducible first | exact HB.out | apply below_alloc | apply pw_below_drewN | apply below_drew1 | refine below_set ?_ GE178.out | refine below_set ?_ GE192.out) | exact HB.out)) hb); clear HO195 BK178 BK192 HB; have HO195 := n0_; have HO198 := n1_; have BK178 := n2_; have BK192 := n3_; have HB := n4_; clear n0_ n1_ n2_ n3_ n4_; (try clear hb); (try clear hb2); (try clear hk); (try clear hi); (try clear ho0)
                refine hK.out _ _ ⟨(blk_cell BK178.out 0).trans rfl, (blk_cell BK178.out 1).trans rfl, (blk_cell BK178.out 2).trans rfl, (blk_cell BK178.out 3).trans rfl, (blk_cell BK178.out 4).trans rfl⟩ (fun hHeld => ?_)
                clear hK K
                refine norm_ (a' := ?_) ?_ ?_
                rotate_left
                ·show Act.put _ (some 67) _ = _
                 simp only [Act.put, List.setIfInBounds_toArray, List.set_cons_zero, List.set_cons_succ, i64_w, i32_w]
                 rfl
                refine one_ (i := 5) (N := some 69) #[true, true, true, true, true, true, false, false, false, false, false, false, false, false, false] rfl rfl (one_of HT_.out (by kernel_rfl)) (by decide) (fun K hK => ?_)
                refine Kd.R_lit_step k25 _ 25 ?hg (N := 69) ?hd (xs := ([(⟨a2_0, a2_1, a2_2, a2_3, (rd_T33 l0 x56_3).f0⟩ : S25)] : List (S25))) (inner := [.int .i64 a2_0, .int .i64 a2_1, .int .i64 a2_2, .int .i64 a2_3, .int .i64 ((rd_T33 l0 x56_3).f0)]) (ok := fun _ => True) (okp := fun _ => True) ?hr ?hp (fun _ hk => hk) trivial (Below.refl _ _) (Nat.le_refl _) (by simp) ?_; (case hd => rfl); (case hg => rfl); (case hr => first | (go_simp; done) | (go_simp; rfl)); (case hp => exact (Reps.c5 (show Kd.M k25 _ _ _ (⟨a2_0, a2_1, a2_2, a2_3, (rd_T33 l0 x56_3).f0⟩ : S25) [.int .i64 a2_0, .int .i64 a2_1, .int .i64 a2_2, .int .i64 a2_3, .int .i64 ((rd_T33 l0 x56_3).f0)] from (k25_mkM _ _ _ (⟨a2_0, a2_1, a2_2, a2_3, (rd_T33 l0 x56_3).f0⟩ : S25) )) (Reps.none _ _)))
                intro v200 w101 ho102 hb hg_ hnew_
                clear hg_ hnew_
                (first | rw [← Ny199.out] at ho102 | (simp only [Int.reduceToNat] at ho102; rw [← Ny199.out] at ho102))
                have n0_ := Aside0.mk (Kd.R_below (by (with_reducible repeat (first | apply Kd.R_alloc | apply Kd.R_drewN | apply Kd.R_drew)); exact HO195.out) hb); have n1_ := Aside0.mk (Kd.R_elder' (by (with_reducible repeat (first | apply Kd.R_alloc | apply Kd.R_drewN | apply Kd.R_drew)); exact HO198.out) (Kd.R_base ho102) hb); have n2_ := Aside0.mk (Kd.R_lower (Kd.R_newB (Kd.R_new' ho102 (Kd.R_lt (by (with_reducible repeat (first | apply Kd.R_alloc | apply Kd.R_drewN | apply Kd.R_drew)); exact HO198.out))) (g := gb178) (o := .cells #[.int .i64 a2_0, .int .i64 a2_1, .int .i64 a2_2, .int .i64 a2_3, .int .i64 ((rd_T33 l0 x56_3).f0)] 25 (0, 0)) (by (with_reducible repeat (first | refine blk_drewN ?_ _ | refine blk_drew ?_ | refine blk_alloc ?_ _)); exact BK178.out)) (below_size (by repeat (first | (with_reducible first | exact HB.out | apply below_alloc | apply pw_below_drewN | apply below_drew1 | refine below_set ?_ GE178.out | refine below_set ?_ GE192.out) | exact HB.out)))); have n3_ := Aside0.mk (blk_below (g := gb178) (o := .cells #[.int .i64 a2_0, .int .i64 a2_1, .int .i64 a2_2, .int .i64 a2_3, .int .i64 ((rd_T33 l0 x56_3).f0)] 25 (0, 0)) (by (with_reducible repeat (first | refine blk_drewN ?_ _ | refine blk_drew ?_ | refine blk_alloc ?_ _)); exact BK178.out) hb); have n4_ := Aside0.mk (blk_below (g := gb192) (o := .cells #[.int .i64 ((rd_T33 l0 x56_3).f0), .string ((rd_T33 l0 x56_3).f1), .int .i64 ((rd_T33 l0 x56_3).f2), .int .i64 ((rd_T33 l0 x56_3).f3), .int .i64 ((rd_T33 l0 x56_3).f4), .int .i64 ((rd_T33 l0 x56_3).f5), .int .i64 ((rd_T33 l0 x56_3).f6)] 33 (0, 0)) (by (with_reducible repeat (first | refine blk_drewN ?_ _ | refine blk_drew ?_ | refine blk_alloc ?_ _)); exact BK192.out) hb); have n5_ := Aside0.mk (below_step (by repeat (first | (with_reducible first | exact HB.out | apply below_alloc | apply pw_below_drewN | apply below_drew1 | refine below_set ?_ GE178.out | refine below_set ?_ GE192.out) | exact HB.out)) hb); clear HO195 HO198 BK178 BK192 HB; have HO195 := n0_; have HO198 := n1_; have HO201 := n2_; have BK178 := n3_; have BK192 := n4_; have HB := n5_; clear n0_ n1_ n2_ n3_ n4_ n5_ hb ho102
                refine hK.out _ _ ⟨(blk_cell BK178.out 0).trans rfl, (blk_cell BK178.out 1).trans rfl, (blk_cell BK178.out 2).trans rfl, (blk_cell BK178.out 3).trans rfl, (blk_cell BK178.out 4).trans rfl⟩ (fun hHeld => ?_)
                clear hK K
                refine norm_ (a' := ?_) ?_ ?_
                rotate_left
                ·show Act.put _ (some 69) _ = _
                 simp only [Act.put, List.setIfInBounds_toArray, List.set_cons_zero, List.set_cons_succ, i64_w, i32_w]
                 rfl
                exact norm_ (by simp only [putAll, Act.put, List.setIfInBounds_toArray, List.set_cons_zero, List.set_cons_succ]) (hCont (v194, v197, v200) _ ⟨hHeld, (by (with_reducible repeat (first | apply Kd.R_alloc | apply Kd.R_drewN | apply Kd.R_drew)); exact Kd.R_mono HO195.out (fun _ hk => hk.2)), (by (with_reducible repeat (first | apply Kd.R_alloc | apply Kd.R_drewN | apply Kd.R_drew)); exact Kd.R_mono HO198.out (fun _ hk => ⟨hk.2, hk.1.2⟩)), (by (with_reducible repeat (first | apply Kd.R_alloc | apply Kd.R_drewN | apply Kd.R_drew)); exact Kd.R_mono HO201.out (fun _ hk => ⟨hk.1.2, hk.2⟩)), (by (with_reducible repeat (first | refine blk_drewN ?_ _ | refine blk_drew ?_ | refine blk_alloc ?_ _)); exact BK178.out), (by (with_reducible repeat (first | refine blk_drewN ?_ _ | refine blk_drew ?_ | refine blk_alloc ?_ _)); exact BK192.out), (by repeat (first | (with_reducible first | exact HB.out | apply below_alloc | apply pw_below_drewN | apply below_drew1 | refine below_set ?_ GE178.out | refine below_set ?_ GE192.out) | exact HB.out))⟩)
               ·skip
                refine Kd.R_lit_step k25 _ 25 ?hg (N := 69) ?hd (xs := ([(⟨a2_0, a2_1, a2_2, a2_3, (rd_T33 l0 x56_3).f0⟩ : S25)] : List (S25))) (inner := [.int .i64 a2_0, .int .i64 a2_1, .int .i64 a2_2, .int .i64 a2_3, .int .i64 ((rd_T33 l0 x56_3).f0)]) (ok := fun _ => True) (okp := fun _ => True) ?hr ?hp (fun _ hk => hk) trivial (Below.refl _ _) (Nat.le_refl _) (by simp) ?_; (case hd => rfl); (case hg => rfl); (case hr => first | (go_simp; done) | (go_simp; rfl)); (case hp => exact (Reps.c5 (show Kd.M k25 _ _ _ (⟨a2_0, a2_1, a2_2, a2_3, (rd_T33 l0 x56_3).f0⟩ : S25) [.int .i64 a2_0, .int .i64 a2_1, .int .i64 a2_2, .int .i64 a2_3, .int .i64 ((rd_T33 l0 x56_3).f0)] from (k25_mkM _ _ _ (⟨a2_0, a2_1, a2_2, a2_3, (rd_T33 l0 x56_3).f0⟩ : S25) )) (Reps.none _ _)))
                intro v200 w100 ho101 hb hg_ hnew_
                clear hg_ hnew_
                (first | rw [← Ny199.out] at ho101 | (simp only [Int.reduceToNat] at ho101; rw [← Ny199.out] at ho101))
                have n0_ := Aside0.mk (Kd.R_below (by (with_reducible repeat (first | apply Kd.R_alloc | apply Kd.R_drewN | apply Kd.R_drew)); exact HO195.out) hb); have n1_ := Aside0.mk (Kd.R_lower (Kd.R_newB ho101 (g := gb178) (o := .cells #[.int .i64 a2_0, .int .i64 a2_1, .int .i64 a2_2, .int .i64 a2_3, .int .i64 ((rd_T33 l0 x56_3).f0)] 25 (0, 0)) (by (with_reducible repeat (first | refine blk_drewN ?_ _ | refine blk_drew ?_ | refine blk_alloc ?_ _)); exact BK178.out)) (below_size (by repeat (first | (with_reducible first | exact HB.out | apply below_alloc | apply pw_below_drewN | apply below_drew1 | refine below_set ?_ GE178.out | refine below_set ?_ GE192.out) | exact HB.out)))); have n2_ := Aside0.mk (blk_below (g := gb178) (o := .cells #[.int .i64 a2_0, .int .i64 a2_1, .int .i64 a2_2, .int .i64 a2_3, .int .i64 ((rd_T33 l0 x56_3).f0)] 25 (0, 0)) (by (with_reducible repeat (first | refine blk_drewN ?_ _ | refine blk_drew ?_ | refine blk_alloc ?_ _)); exact BK178.out) hb); have n3_ := Aside0.mk (blk_below (g := gb192) (o := .cells #[.int .i64 ((rd_T33 l0 x56_3).f0), .string ((rd_T33 l0 x56_3).f1), .int .i64 ((rd_T33 l0 x56_3).f2), .int .i64 ((rd_T33 l0 x56_3).f3), .int .i64 ((rd_T33 l0 x56_3).f4), .int .i64 ((rd_T33 l0 x56_3).f5), .int .i64 ((rd_T33 l0 x56_3).f6)] 33 (0, 0)) (by (with_reducible repeat (first | refine blk_drewN ?_ _ | refine blk_drew ?_ | refine blk_alloc ?_ _)); exact BK192.out) hb); have n4_ := Aside0.mk (below_step (by repeat (first | (with_reducible first | exact HB.out | apply below_alloc | apply pw_below_drewN | apply below_drew1 | refine below_set ?_ GE178.out | refine below_set ?_ GE192.out) | exact HB.out)) hb); clear HO195 BK178 BK192 HB; have HO195 := n0_; have HO201 := n1_; have BK178 := n2_; have BK192 := n3_; have HB := n4_; clear n0_ n1_ n2_ n3_ n4_ hb ho101
                refine hK.out _ _ ⟨(blk_cell BK178.out 0).trans rfl, (blk_cell BK178.out 1).trans rfl, (blk_cell BK178.out 2).trans rfl, (blk_cell BK178.out 3).trans rfl, (blk_cell BK178.out 4).trans rfl⟩ (fun hHeld => ?_)
                clear hK K
                refine norm_ (a' := ?_) ?_ ?_
                rotate_left
                ·show Act.put _ (some 69) _ = _
                 simp only [Act.put, List.setIfInBounds_toArray, List.set_cons_zero, List.set_cons_succ, i64_w, i32_w]
                 rfl
                refine one_ (i := 3) (N := some 67) #[true, true, true, true, true, true, false, false, false, false, false, false, false, false, false] rfl rfl (one_of HT_.out (by kernel_rfl)) (by decide) (fun K hK => ?_)
                refine goes_ Try.func14 (by kernel_rfl) rfl #[.slice A1 l1.length c1] (by rfl) rfl rfl (by (try simp only [List.map_toArray, List.map_cons, List.map_nil]); first | done | rfl | (simp only [List.length_drop, List.length_take]; rfl)) ?_
                with_reducible refine (api_Item_14.calls _ _ l1 t196 _ ?side1 ?side2 A32.out).mono ?_
                (case side1 => repeat (first | exact (Kd.C_below HR1.out HB.out) | (with_reducible refine Kd.C_alloc ?_ _) | (with_reducible refine Kd.C_drewN ?_ _) | (with_reducible refine Kd.C_drew ?_)))
                (case side2 => exact HC1.out)
                rintro e w102 ⟨v197, rfl, ho0, hb⟩
                refine ⟨_, rfl, ?_⟩
                have n0_ := Aside0.mk (Kd.R_below (by (with_reducible repeat (first | apply Kd.R_alloc | apply Kd.R_drewN | apply Kd.R_drew)); exact HO195.out) hb); have n1_ := Aside0.mk (Kd.R_elder' (by (with_reducible repeat (first | apply Kd.R_alloc | apply Kd.R_drewN | apply Kd.R_drew)); exact HO201.out) (Kd.R_base ho0) hb); have n2_ := Aside0.mk (Kd.R_lower (Kd.R_newB (Kd.R_new' ho0 (Kd.R_lt (by (with_reducible repeat (first | apply Kd.R_alloc | apply Kd.R_drewN | apply Kd.R_drew)); exact HO201.out))) (g := gb178) (o := .cells #[.int .i64 a2_0, .int .i64 a2_1, .int .i64 a2_2, .int .i64 a2_3, .int .i64 ((rd_T33 l0 x56_3).f0)] 25 (0, 0)) (by (with_reducible repeat (first | refine blk_drewN ?_ _ | refine blk_drew ?_ | refine blk_alloc ?_ _)); exact BK178.out)) (below_size (by repeat (first | (with_reducible first | exact HB.out | apply below_alloc | apply pw_below_drewN | apply below_drew1 | refine below_set ?_ GE178.out | refine below_set ?_ GE192.out) | exact HB.out)))); have n3_ := Aside0.mk (blk_below (g := gb178) (o := .cells #[.int .i64 a2_0, .int .i64 a2_1, .int .i64 a2_2, .int .i64 a2_3, .int .i64 ((rd_T33 l0 x56_3).f0)] 25 (0, 0)) (by (with_reducible repeat (first | refine blk_drewN ?_ _ | refine blk_drew ?_ | refine blk_alloc ?_ _)); exact BK178.out) hb); have n4_ := Aside0.mk (blk_below (g := gb192) (o := .cells #[.int .i64 ((rd_T33 l0 x56_3).f0), .string ((rd_T33 l0 x56_3).f1), .int .i64 ((rd_T33 l0 x56_3).f2), .int .i64 ((rd_T33 l0 x56_3).f3), .int .i64 ((rd_T33 l0 x56_3).f4), .int .i64 ((rd_T33 l0 x56_3).f5), .int .i64 ((rd_T33 l0 x56_3).f6)] 33 (0, 0)) (by (with_reducible repeat (first | refine blk_drewN ?_ _ | refine blk_drew ?_ | refine blk_alloc ?_ _)); exact BK192.out) hb); have n5_ := Aside0.mk (below_step (by repeat (first | (with_reducible first | exact HB.out | apply below_alloc | apply pw_below_drewN | apply below_drew1 | refine below_set ?_ GE178.out | refine below_set ?_ GE192.out) | exact HB.out)) hb); clear HO195 HO201 BK178 BK192 HB; have HO195 := n0_; have HO201 := n1_; have HO198 := n2_; have BK178 := n3_; have BK192 := n4_; have HB := n5_; clear n0_ n1_ n2_ n3_ n4_ n5_; (try clear hb); (try clear hb2); (try clear hk); (try clear hi); (try clear ho0)
                refine hK.out _ _ ⟨(blk_cell BK178.out 0).trans rfl, (blk_cell BK178.out 1).trans rfl, (blk_cell BK178.out 2).trans rfl, (blk_cell BK178.out 3).trans rfl, (blk_cell BK178.out 4).trans rfl⟩ (fun hHeld => ?_)
                clear hK K
                refine norm_ (a' := ?_) ?_ ?_
                rotate_left
                ·show Act.put _ (some 67) _ = _
                 simp only [Act.put, List.setIfInBounds_toArray, List.set_cons_zero, List.set_cons_succ, i64_w, i32_w]
                 rfl
                exact norm_ (by simp only [putAll, Act.put, List.setIfInBounds_toArray, List.set_cons_zero, List.set_cons_succ]) (hCont (v194, v197, v200) _ ⟨hHeld, (by (with_reducible repeat (first | apply Kd.R_alloc | apply Kd.R_drewN | apply Kd.R_drew)); exact Kd.R_mono HO195.out (fun _ hk => hk.2)), (by (with_reducible repeat (first | apply Kd.R_alloc | apply Kd.R_drewN | apply Kd.R_drew)); exact Kd.R_mono HO198.out (fun _ hk => ⟨hk.1.2, hk.2⟩)), (by (with_reducible repeat (first | apply Kd.R_alloc | apply Kd.R_drewN | apply Kd.R_drew)); exact Kd.R_mono HO201.out (fun _ hk => ⟨hk.2, hk.1.2⟩)), (by (with_reducible repeat (first | refine blk_drewN ?_ _ | refine blk_drew ?_ | refine blk_alloc ?_ _)); exact BK178.out), (by (with_reducible repeat (first | refine blk_drewN ?_ _ | refine blk_drew ?_ | refine blk_alloc ?_ _)); exact BK192.out), (by repeat (first | (with_reducible first | exact HB.out | apply below_alloc | apply pw_below_drewN | apply below_drew1 | refine below_set ?_ GE178.out | refine below_set ?_ GE192.out) | exact HB.out))⟩)
              ·skip
               refine Kd.R_lit_step k25 _ 25 ?hg (N := 69) ?hd (xs := ([(⟨a2_0, a2_1, a2_2, a2_3, (rd_T33 l0 x56_3).f0⟩ : S25)] : List (S25))) (inner := [.int .i64 a2_0, .int .i64 a2_1, .int .i64 a2_2, .int .i64 a2_3, .int .i64 ((rd_T33 l0 x56_3).f0)]) (ok := fun _ => True) (okp := fun _ => True) ?hr ?hp (fun _ hk => hk) trivial (Below.refl _ _) (Nat.le_refl _) (by simp) ?_; (case hd => rfl); (case hg => rfl); (case hr => first | (go_simp; done) | (go_simp; rfl)); (case hp => exact (Reps.c5 (show Kd.M k25 _ _ _ (⟨a2_0, a2_1, a2_2, a2_3, (rd_T33 l0 x56_3).f0⟩ : S25) [.int .i64 a2_0, .int .i64 a2_1, .int .i64 a2_2, .int .i64 a2_3, .int .i64 ((rd_T33 l0 x56_3).f0)] from (k25_mkM _ _ _ (⟨a2_0, a2_1, a2_2, a2_3, (rd_T33 l0 x56_3).f0⟩ : S25) )) (Reps.none _ _)))
               intro v200 w99 ho100 hb hg_ hnew_
               clear hg_ hnew_
               (first | rw [← Ny199.out] at ho100 | (simp only [Int.reduceToNat] at ho100; rw [← Ny199.out] at ho100))
               have n0_ := Aside0.mk (Kd.R_lower (Kd.R_newB ho100 (g := gb178) (o := .cells #[.int .i64 a2_0, .int .i64 a2_1, .int .i64 a2_2, .int .i64 a2_3, .int .i64 ((rd_T33 l0 x56_3).f0)] 25 (0, 0)) (by (with_reducible repeat (first | refine blk_drewN ?_ _ | refine blk_drew ?_ | refine blk_alloc ?_ _)); exact BK178.out)) (below_size (by repeat (first | (with_reducible first | exact HB.out | apply below_alloc | apply pw_below_drewN | apply below_drew1 | refine below_set ?_ GE178.out | refine below_set ?_ GE192.out) | exact HB.out)))); have n1_ := Aside0.mk (blk_below (g := gb178) (o := .cells #[.int .i64 a2_0, .int .i64 a2_1, .int .i64 a2_2, .int .i64 a2_3, .int .i64 ((rd_T33 l0 x56_3).f0)] 25 (0, 0)) (by (with_reducible repeat (first | refine blk_drewN ?_ _ | refine blk_drew ?_ | refine blk_alloc ?_ _)); exact BK178.out) hb); have n2_ := Aside0.mk (blk_below (g := gb192) (o := .cells #[.int .i64 ((rd_T33 l0 x56_3).f0), .string ((rd_T33 l0 x56_3).f1), .int .i64 ((rd_T33 l0 x56_3).f2), .int .i64 ((rd_T33 l0 x56_3).f3), .int .i64 ((rd_T33 l0 x56_3).f4), .int .i64 ((rd_T33 l0 x56_3).f5), .int .i64 ((rd_T33 l0 x56_3).f6)] 33 (0, 0)) (by (with_reducible repeat (first | refine blk_drewN ?_ _ | refine blk_drew ?_ | refine blk_alloc ?_ _)); exact BK192.out) hb); have n3_ := Aside0.mk (below_step (by repeat (first | (with_reducible first | exact HB.out | apply below_alloc | apply pw_below_drewN | apply below_drew1 | refine below_set ?_ GE178.out | refine below_set ?_ GE192.out) | exact HB.out)) hb); clear BK178 BK192 HB; have HO201 := n0_; have BK178 := n1_; have BK192 := n2_; have HB := n3_; clear n0_ n1_ n2_ n3_ hb ho100
               refine hK.out _ _ ⟨(blk_cell BK178.out 0).trans rfl, (blk_cell BK178.out 1).trans rfl, (blk_cell BK178.out 2).trans rfl, (blk_cell BK178.out 3).trans rfl, (blk_cell BK178.out 4).trans rfl⟩ (fun hHeld => ?_)
               clear hK K
               refine norm_ (a' := ?_) ?_ ?_
               rotate_left
               ·show Act.put _ (some 69) _ = _
                simp only [Act.put, List.setIfInBounds_toArray, List.set_cons_zero, List.set_cons_succ, i64_w, i32_w]
                rfl
               refine one_ (i := 1) (N := some 65) #[true, true, true, false, true, true, false, false, false, false, false, false, false, false, false] rfl rfl (one_of HT_.out (by kernel_rfl)) (by decide) (fun K hK => ?_)
               refine goes_ Try.func13 (by kernel_rfl) rfl #[.slice (some ad191) l0.length c0] (by rfl) rfl rfl (by (try simp only [List.map_toArray, List.map_cons, List.map_nil]); first | done | rfl | (simp only [List.length_drop, List.length_take]; rfl)) ?_
               with_reducible refine (api_Relief_13.calls _ _ l0 t193 _ ?side1 ?side2 A31.out).mono ?_
               (case side1 => repeat (first | exact (Kd.C_below HR0.out HB.out) | (with_reducible refine Kd.C_alloc ?_ _) | (with_reducible refine Kd.C_drewN ?_ _) | (with_reducible refine Kd.C_drew ?_)))
               (case side2 => exact HC0.out)
               rintro e w101 ⟨v194, rfl, ho0, hb⟩
               refine ⟨_, rfl, ?_⟩
               have n0_ := Aside0.mk (Kd.R_below (by (with_reducible repeat (first | apply Kd.R_alloc | apply Kd.R_drewN | apply Kd.R_drew)); exact HO201.out) hb); have n1_ := Aside0.mk (Kd.R_lower (Kd.R_newB ho0 (g := gb192) (o := .cells #[.int .i64 ((rd_T33 l0 x56_3).f0), .string ((rd_T33 l0 x56_3).f1), .int .i64 ((rd_T33 l0 x56_3).f2), .int .i64 ((rd_T33 l0 x56_3).f3), .int .i64 ((rd_T33 l0 x56_3).f4), .int .i64 ((rd_T33 l0 x56_3).f5), .int .i64 ((rd_T33 l0 x56_3).f6)] 33 (0, 0)) (by (with_reducible repeat (first | refine blk_drewN ?_ _ | refine blk_drew ?_ | refine blk_alloc ?_ _)); exact BK192.out)) (below_size (by repeat (first | (with_reducible first | exact HB.out | apply below_alloc | apply pw_below_drewN | apply below_drew1 | refine below_set ?_ GE178.out | refine below_set ?_ GE192.out) | exact HB.out)))); have n2_ := Aside0.mk (blk_below (g := gb178) (o := .cells #[.int .i64 a2_0, .int .i64 a2_1, .int .i64 a2_2, .int .i64 a2_3, .int .i64 ((rd_T33 l0 x56_3).f0)] 25 (0, 0)) (by (with_reducible repeat (first | refine blk_drewN ?_ _ | refine blk_drew ?_ | refine blk_alloc ?_ _)); exact BK178.out) hb); have n3_ := Aside0.mk (blk_below (g := gb192) (o := .cells #[.int .i64 ((rd_T33 l0 x56_3).f0), .string ((rd_T33 l0 x56_3).f1), .int .i64 ((rd_T33 l0 x56_3).f2), .int .i64 ((rd_T33 l0 x56_3).f3), .int .i64 ((rd_T33 l0 x56_3).f4), .int .i64 ((rd_T33 l0 x56_3).f5), .int .i64 ((rd_T33 l0 x56_3).f6)] 33 (0, 0)) (by (with_reducible repeat (first | refine blk_drewN ?_ _ | refine blk_drew ?_ | refine blk_alloc ?_ _)); exact BK192.out) hb); have n4_ := Aside0.mk (below_step (by repeat (first | (with_reducible first | exact HB.out | apply below_alloc | apply pw_below_drewN | apply below_drew1 | refine below_set ?_ GE178.out | refine below_set ?_ GE192.out) | exact HB.out)) hb); clear HO201 BK178 BK192 HB; have HO201 := n0_; have HO195 := n1_; have BK178 := n2_; have BK192 := n3_; have HB := n4_; clear n0_ n1_ n2_ n3_ n4_; (try clear hb); (try clear hb2); (try clear hk); (try clear hi); (try clear ho0)
               refine hK.out _ _ ⟨(blk_cell BK178.out 0).trans rfl, (blk_cell BK178.out 1).trans rfl, (blk_cell BK178.out 2).trans rfl, (blk_cell BK178.out 3).trans rfl, (blk_cell BK178.out 4).trans rfl⟩ (fun hHeld => ?_)
               clear hK K
               refine norm_ (a' := ?_) ?_ ?_
               rotate_left
               ·show Act.put _ (some 65) _ = _
                simp only [Act.put, List.setIfInBounds_toArray, List.set_cons_zero, List.set_cons_succ, i64_w, i32_w]
                rfl
               refine one_ (i := 3) (N := some 67) #[true, true, true, true, true, true, false, false, false, false, false, false, false, false, false] rfl rfl (one_of HT_.out (by kernel_rfl)) (by decide) (fun K hK => ?_)
               refine goes_ Try.func14 (by kernel_rfl) rfl #[.slice A1 l1.length c1] (by rfl) rfl rfl (by (try simp only [List.map_toArray, List.map_cons, List.map_nil]); first | done | rfl | (simp only [List.length_drop, List.length_take]; rfl)) ?_
               with_reducible refine (api_Item_14.calls _ _ l1 t196 _ ?side1 ?side2 A32.out).mono ?_
               (case side1 => repeat (first | exact (Kd.C_below HR1.out HB.out) | (with_reducible refine Kd.C_alloc ?_ _) | (with_reducible refine Kd.C_drewN ?_ _) | (with_reducible refine Kd.C_drew ?_)))
               (case side2 => exact HC1.out)
               rintro e w102 ⟨v197, rfl, ho0, hb⟩
               refine ⟨_, rfl, ?_⟩
               have n0_ := Aside0.mk (Kd.R_elder' (by (with_reducible repeat (first | apply Kd.R_alloc | apply Kd.R_drewN | apply Kd.R_drew)); exact HO201.out) (Kd.R_base ho0) hb); have n1_ := Aside0.mk (Kd.R_below (by (with_reducible repeat (first | apply Kd.R_alloc | apply Kd.R_drewN | apply Kd.R_drew)); exact HO195.out) hb); have n2_ := Aside0.mk (Kd.R_lower (Kd.R_newB (Kd.R_new' ho0 (Kd.R_lt (by (with_reducible repeat (first | apply Kd.R_alloc | apply Kd.R_drewN | apply Kd.R_drew)); exact HO201.out))) (g := gb178) (o := .cells #[.int .i64 a2_0, .int .i64 a2_1, .int .i64 a2_2, .int .i64 a2_3, .int .i64 ((rd_T33 l0 x56_3).f0)] 25 (0, 0)) (by (with_reducible repeat (first | refine blk_drewN ?_ _ | refine blk_drew ?_ | refine blk_alloc ?_ _)); exact BK178.out)) (below_size (by repeat (first | (with_reducible first | exact HB.out | apply below_alloc | apply pw_below_drewN | apply below_drew1 | refine below_set ?_ GE178.out | refine below_set ?_ GE192.out) | exact HB.out)))); have n3_ := Aside0.mk (blk_below (g := gb178) (o := .cells #[.int .i64 a2_0, .int .i64 a2_1, .int .i64 a2_2, .int .i64 a2_3, .int .i64 ((rd_T33 l0 x56_3).f0)] 25 (0, 0)) (by (with_reducible repeat (first | refine blk_drewN ?_ _ | refine blk_drew ?_ | refine blk_alloc ?_ _)); exact BK178.out) hb); have n4_ := Aside0.mk (blk_below (g := gb192) (o := .cells #[.int .i64 ((rd_T33 l0 x56_3).f0), .string ((rd_T33 l0 x56_3).f1), .int .i64 ((rd_T33 l0 x56_3).f2), .int .i64 ((rd_T33 l0 x56_3).f3), .int .i64 ((rd_T33 l0 x56_3).f4), .int .i64 ((rd_T33 l0 x56_3).f5), .int .i64 ((rd_T33 l0 x56_3).f6)] 33 (0, 0)) (by (with_reducible repeat (first | refine blk_drewN ?_ _ | refine blk_drew ?_ | refine blk_alloc ?_ _)); exact BK192.out) hb); have n5_ := Aside0.mk (below_step (by repeat (first | (with_reducible first | exact HB.out | apply below_alloc | apply pw_below_drewN | apply below_drew1 | refine below_set ?_ GE178.out | refine below_set ?_ GE192.out) | exact HB.out)) hb); clear HO201 HO195 BK178 BK192 HB; have HO201 := n0_; have HO195 := n1_; have HO198 := n2_; have BK178 := n3_; have BK192 := n4_; have HB := n5_; clear n0_ n1_ n2_ n3_ n4_ n5_; (try clear hb); (try clear hb2); (try clear hk); (try clear hi); (try clear ho0)
               refine hK.out _ _ ⟨(blk_cell BK178.out 0).trans rfl, (blk_cell BK178.out 1).trans rfl, (blk_cell BK178.out 2).trans rfl, (blk_cell BK178.out 3).trans rfl, (blk_cell BK178.out 4).trans rfl⟩ (fun hHeld => ?_)
               clear hK K
               refine norm_ (a' := ?_) ?_ ?_
               rotate_left
               ·show Act.put _ (some 67) _ = _
                simp only [Act.put, List.setIfInBounds_toArray, List.set_cons_zero, List.set_cons_succ, i64_w, i32_w]
                rfl
               exact norm_ (by simp only [putAll, Act.put, List.setIfInBounds_toArray, List.set_cons_zero, List.set_cons_succ]) (hCont (v194, v197, v200) _ ⟨hHeld, (by (with_reducible repeat (first | apply Kd.R_alloc | apply Kd.R_drewN | apply Kd.R_drew)); exact Kd.R_mono HO195.out (fun _ hk => hk.2)), (by (with_reducible repeat (first | apply Kd.R_alloc | apply Kd.R_drewN | apply Kd.R_drew)); exact Kd.R_mono HO198.out (fun _ hk => ⟨hk.1.2, hk.2⟩)), (by (with_reducible repeat (first | apply Kd.R_alloc | apply Kd.R_drewN | apply Kd.R_drew)); exact Kd.R_mono HO201.out (fun _ hk => ⟨hk.2, hk.1.2⟩)), (by (with_reducible repeat (first | refine blk_drewN ?_ _ | refine blk_drew ?_ | refine blk_alloc ?_ _)); exact BK178.out), (by (with_reducible repeat (first | refine blk_drewN ?_ _ | refine blk_drew ?_ | refine blk_alloc ?_ _)); exact BK192.out), (by repeat (first | (with_reducible first | exact HB.out | apply below_alloc | apply pw_below_drewN | apply below_drew1 | refine below_set ?_ GE178.out | refine below_set ?_ GE192.out) | exact HB.out))⟩)
             rintro ⟨v194, v197, v200⟩ w103 ⟨hS_, h0_, h1_, h2_, h3_, h4_, h5_⟩
             have n0_ : Aside0 (Kd.R k33 33 w103 w.heap.size (fun k_ => k_ ≠ gb192) v194 t193) := ⟨h0_⟩
             have n1_ : Aside0 (Kd.R k25 25 w103 w.heap.size (fun k_ => some k_ ≠ (v200 : Value).ownBlock ∧ k_ ≠ gb178) v197 t196) := ⟨h1_⟩
             have n2_ : Aside0 (Kd.R k25 25 w103 w.heap.size (fun k_ => some k_ ≠ (v197 : Value).ownBlock ∧ k_ ≠ gb178) v200 y199) := ⟨h2_⟩
             have n3_ : Aside0 (w103.heap[gb178]? = some (.cells #[.int .i64 a2_0, .int .i64 a2_1, .int .i64 a2_2, .int .i64 a2_3, .int .i64 ((rd_T33 l0 x56_3).f0)] 25 (0, 0))) := ⟨h3_⟩
             have n4_ : Aside0 (w103.heap[gb192]? = some (.cells #[.int .i64 ((rd_T33 l0 x56_3).f0), .string ((rd_T33 l0 x56_3).f1), .int .i64 ((rd_T33 l0 x56_3).f2), .int .i64 ((rd_T33 l0 x56_3).f3), .int .i64 ((rd_T33 l0 x56_3).f4), .int .i64 ((rd_T33 l0 x56_3).f5), .int .i64 ((rd_T33 l0 x56_3).f6)] 33 (0, 0))) := ⟨h4_⟩
             have n5_ : Aside0 (Below w.heap.size w w103) := ⟨h5_⟩
             clear BK178; clear BK192 HB h0_ h1_ h2_ h3_ h4_ h5_; have HO195 := n0_; have HO198 := n1_; have HO201 := n2_; have BK178 := n3_; have BK192 := n4_; have HB := n5_; clear n0_ n1_ n2_ n3_ n4_ n5_
             have hHeld : w103.cell? ⟨gb178, 0, none⟩ = some (.int .i64 a2_0) ∧ w103.cell? ⟨gb178, 1, none⟩ = some (.int .i64 a2_1) ∧ w103.cell? ⟨gb178, 2, none⟩ = some (.int .i64 a2_2) ∧ w103.cell? ⟨gb178, 3, none⟩ = some (.int .i64 a2_3) ∧ w103.cell? ⟨gb178, 4, none⟩ = some (.int .i64 ((rd_T33 l0 x56_3).f0)) := hS_
             obtain ⟨Ao105, co105, eo105⟩ := Kd.R_slice HO201.out
             (first | subst eo105 | (injection eo105 with f1_ f2_ f3_; have f4_ := f1_.symm; have f5_ := f3_.symm; clear f1_ f2_ f3_; subst f4_; subst f5_))
             refine norm_ (a' := ?_) ?_ ?_
             rotate_left
             ·simp only [putAll, Act.put, List.setIfInBounds_toArray, List.set_cons_zero, List.set_cons_succ]
              rfl
             refine one_ (i := 6) (N := some 70) #[true, true, true, true, true, true, true, false, false, false, false, false, false, false, false] rfl rfl (one_of HT_.out (by kernel_rfl)) (by decide) (fun K hK => ?_)
             refine Kd.R_append_rows_step k25 (w0 := w) w.heap.size (by rfl) (.tmp 67) (.tmp 69) 23 25 (.agg #[(.int .i64 0), (.int .i64 0), (.int .i64 0), (.int .i64 0), (.int .i64 0)]) 40 rfl Try.underlying23 info25 rfl (by decide) (by omega) v197 t196 y199 _ _ _ (fun k_ => some k_ ≠ (.slice Ao105 y199.length co105 : Value).ownBlock ∧ k_ ≠ gb178) (fun _ => False) rfl rfl ?aO ?aR (fun _ _ h => h) (fun _ h => h.elim) ?aF ?aB ?aS ?aL ?_
             (case aR => repeat (first | exact (Kd.R_reads' HO201.out).2.2 | (with_reducible refine Kd.C_alloc ?_ _) | (with_reducible refine Kd.C_drewN ?_ _) | (with_reducible refine Kd.C_drew ?_)))
             (case aB => exact (by repeat (first | (with_reducible first | exact HB.out | apply below_alloc | apply pw_below_drewN | apply below_drew1 | refine below_set ?_ GE178.out | refine below_set ?_ GE192.out) | exact HB.out)))
             (case aF => exact (fun k_ hk => ⟨Kd.fresh' (Kd.R_lt (by (with_reducible repeat (first | apply Kd.R_alloc | apply Kd.R_drewN | apply Kd.R_drew)); exact HO201.out)) k_ hk, Kd.freshB (g := gb178) (o := .cells #[.int .i64 a2_0, .int .i64 a2_1, .int .i64 a2_2, .int .i64 a2_3, .int .i64 ((rd_T33 l0 x56_3).f0)] 25 (0, 0)) (by (with_reducible repeat (first | refine blk_drewN ?_ _ | refine blk_drew ?_ | refine blk_alloc ?_ _)); exact BK178.out) k_ hk⟩))
             (case aO => exact (by (with_reducible repeat (first | apply Kd.R_alloc | apply Kd.R_drewN | apply Kd.R_drew)); exact HO198.out))
             (case aS => exact (below_size (by repeat (first | (with_reducible first | exact HB.out | apply below_alloc | apply pw_below_drewN | apply below_drew1 | refine below_set ?_ GE178.out | refine below_set ?_ GE192.out) | exact HB.out))))
             (case aL => have := LMc33.out; omega)
             intro v203 w104 ho hb hg hat
             rw [← Ny202.out] at ho
             have n0_ := Aside0.mk (blk_grown (g := gb178) (o := .cells #[.int .i64 a2_0, .int .i64 a2_1, .int .i64 a2_2, .int .i64 a2_3, .int .i64 ((rd_T33 l0 x56_3).f0)] 25 (0, 0)) (by (with_reducible repeat (first | refine blk_drewN ?_ _ | refine blk_drew ?_ | refine blk_alloc ?_ _)); exact BK178.out) hg (Kd.R_away HO198.out (fun _ hk => hk.2))); have n1_ := Aside0.mk (blk_grown (g := gb192) (o := .cells #[.int .i64 ((rd_T33 l0 x56_3).f0), .string ((rd_T33 l0 x56_3).f1), .int .i64 ((rd_T33 l0 x56_3).f2), .int .i64 ((rd_T33 l0 x56_3).f3), .int .i64 ((rd_T33 l0 x56_3).f4), .int .i64 ((rd_T33 l0 x56_3).f5), .int .i64 ((rd_T33 l0 x56_3).f6)] 33 (0, 0)) (by (with_reducible repeat (first | refine blk_drewN ?_ _ | refine blk_drew ?_ | refine blk_alloc ?_ _)); exact BK192.out) hg (Kd.R_ne HO198.out BK192.out (by decide))); have n2_ := Aside0.mk (Kd.R_over' (by (with_reducible repeat (first | apply Kd.R_alloc | apply Kd.R_drewN | apply Kd.R_drew)); exact HO195.out) (Kd.R_typed (by (with_reducible repeat (first | apply Kd.R_alloc | apply Kd.R_drewN | apply Kd.R_drew)); exact HO198.out)) (by decide) hg); have n3_ := Aside0.mk (Kd.R_after (ok := (fun k_ => k_ ≠ gb178)) (by (with_reducible repeat (first | apply Kd.R_alloc | apply Kd.R_drewN | apply Kd.R_drew)); exact Kd.R_mono HO201.out (fun _ hk => ⟨hk.2, hk.1⟩)) hg hat); have n4_ := Aside0.mk (hb); have n5_ := Aside0.mk (ho); clear BK178 BK192 HO195 HO201 HB HO198; have BK178 := n0_; have BK192 := n1_; have HO195 := n2_; have HO201 := n3_; have HB := n4_; have HO204 := n5_; clear n0_ n1_ n2_ n3_ n4_ n5_ ho hb hg hat
             obtain ⟨Ao106, co106, eo106⟩ := Kd.R_slice HO195.out
             (first | subst eo106 | (injection eo106 with f1_ f2_ f3_; have f4_ := f1_.symm; have f5_ := f3_.symm; clear f1_ f2_ f3_; subst f4_; subst f5_))
             obtain ⟨Ao107, co107, eo107⟩ := Kd.R_slice HO204.out
             (first | subst eo107 | (injection eo107 with f1_ f2_ f3_; have f4_ := f1_.symm; have f5_ := f3_.symm; clear f1_ f2_ f3_; subst f4_; subst f5_))
             refine hK.out _ _ ⟨(blk_cell BK178.out 0).trans rfl, (blk_cell BK178.out 1).trans rfl, (blk_cell BK178.out 2).trans rfl, (blk_cell BK178.out 3).trans rfl, (blk_cell BK178.out 4).trans rfl⟩ (fun hHeld => ?_)
             clear hK K
             refine norm_ (a' := ?_) ?_ ?_
             rotate_left
             ·show Act.put _ (some 70) _ = _
              simp only [Act.put, List.setIfInBounds_toArray, List.set_cons_zero, List.set_cons_succ, i64_w, i32_w]
              rfl
             refine one_ (i := 7) (N := some 71) #[true, true, true, true, true, true, true, true, false, false, false, false, false, false, false] rfl rfl (one_of HT_.out (by kernel_rfl)) (by decide) (fun K hK => ?_)
             refine goes_ Try.func15 (by kernel_rfl) rfl #[.slice Ao106 t193.length co106, .slice Ao107 y202.length co107] (by rfl) rfl rfl (by (try simp only [List.map_toArray, List.map_cons, List.map_nil]); first | done | rfl | (simp only [List.length_drop, List.length_take]; rfl)) ?_
             with_reducible refine (relief_Grant.calls k3 _ _ t193 _ _ y202 t205 t206 t207 _ ?side1 ?side2 ?side3 ?side4 A34.out).mono ?_
             (case side1 => repeat (first | exact (Kd.R_reads' HO195.out).2.2 | (with_reducible refine Kd.C_alloc ?_ _) | (with_reducible refine Kd.C_drewN ?_ _) | (with_reducible refine Kd.C_drew ?_)))
             (case side2 => exact (Kd.R_reads' HO195.out).2.1)
             (case side3 => repeat (first | exact (Kd.R_reads' HO204.out).2.2 | (with_reducible refine Kd.C_alloc ?_ _) | (with_reducible refine Kd.C_drewN ?_ _) | (with_reducible refine Kd.C_drew ?_)))
             (case side4 => exact (Kd.R_reads' HO204.out).2.1)
             rintro e w108 ⟨v208, rfl, ho0, hb⟩
             refine ⟨_, rfl, ?_⟩
             have n0_ := Aside0.mk (Kd.R_below (by (with_reducible repeat (first | apply Kd.R_alloc | apply Kd.R_drewN | apply Kd.R_drew)); exact HO195.out) hb); have n1_ := Aside0.mk (Kd.R_below (by (with_reducible repeat (first | apply Kd.R_alloc | apply Kd.R_drewN | apply Kd.R_drew)); exact HO201.out) hb); have n2_ := Aside0.mk (Kd.R_below (by (with_reducible repeat (first | apply Kd.R_alloc | apply Kd.R_drewN | apply Kd.R_drew)); exact HO204.out) hb); have n3_ := Aside0.mk (Kd.R_lower ho0 (below_size (by repeat (first | (with_reducible first | exact HB.out | apply below_alloc | apply pw_below_drewN | apply below_drew1 | refine below_set ?_ GE178.out | refine below_set ?_ GE192.out) | exact HB.out)))); have n4_ := Aside0.mk (blk_below (g := gb178) (o := .cells #[.int .i64 a2_0, .int .i64 a2_1, .int .i64 a2_2, .int .i64 a2_3, .int .i64 ((rd_T33 l0 x56_3).f0)] 25 (0, 0)) (by (with_reducible repeat (first | refine blk_drewN ?_ _ | refine blk_drew ?_ | refine blk_alloc ?_ _)); exact BK178.out) hb); have n5_ := Aside0.mk (blk_below (g := gb192) (o := .cells #[.int .i64 ((rd_T33 l0 x56_3).f0), .string ((rd_T33 l0 x56_3).f1), .int .i64 ((rd_T33 l0 x56_3).f2), .int .i64 ((rd_T33 l0 x56_3).f3), .int .i64 ((rd_T33 l0 x56_3).f4), .int .i64 ((rd_T33 l0 x56_3).f5), .int .i64 ((rd_T33 l0 x56_3).f6)] 33 (0, 0)) (by (with_reducible repeat (first | refine blk_drewN ?_ _ | refine blk_drew ?_ | refine blk_alloc ?_ _)); exact BK192.out) hb); have n6_ := Aside0.mk (below_step (by repeat (first | (with_reducible first | exact HB.out | apply below_alloc | apply pw_below_drewN | apply below_drew1 | refine below_set ?_ GE178.out | refine below_set ?_ GE192.out) | exact HB.out)) hb); clear HO195 HO201 HO204 BK178 BK192 HB; have HO195 := n0_; have HO201 := n1_; have HO204 := n2_; have HO209 := n3_; have BK178 := n4_; have BK192 := n5_; have HB := n6_; clear n0_ n1_ n2_ n3_ n4_ n5_ n6_; (try clear hb); (try clear hb2); (try clear hk); (try clear hi); (try clear ho0)
             refine hK.out _ _ ⟨(blk_cell BK178.out 0).trans rfl, (blk_cell BK178.out 1).trans rfl, (blk_cell BK178.out 2).trans rfl, (blk_cell BK178.out 3).trans rfl, (blk_cell BK178.out 4).trans rfl⟩ (fun hHeld => ?_)
             clear hK K
             refine norm_ (a' := ?_) ?_ ?_
             rotate_left
             ·show Act.put _ (some 71) _ = _
              simp only [Act.put, List.setIfInBounds_toArray, List.set_cons_zero, List.set_cons_succ, i64_w, i32_w]
              rfl
             refine pure_ (i := 8) (N := some 63) (v := ?_) (a' := ?_) #[true, true, true, true, true, true, true, true, true, false, false, false, false, false, false] rfl rfl (any_of HT_.out (by kernel_rfl)) (fun _ _ _ h => h) (Or.inl ⟨by rfl, ?_⟩) ?_ ?_
             rotate_left
             ·intro w'
              go_simp
              with_reducible rfl
             rotate_left
             ·simp only [Act.put, List.setIfInBounds_toArray, List.set_cons_zero, List.set_cons_succ, i64_w, i32_w]
              rfl
             refine pure_ (i := 9) (N := some 72) (v := ?_) (a' := ?_) #[true, true, true, true, true, true, true, true, true, true, false, false, false, false, false] rfl rfl (any_of HT_.out (by kernel_rfl)) (fun _ _ _ h => h) (Or.inl ⟨by rfl, ?_⟩) ?_ ?_
             rotate_left
             ·intro w'
              go_simp
              with_reducible rfl
             rotate_left
             ·simp only [Act.put, List.setIfInBounds_toArray, List.set_cons_zero, List.set_cons_succ, i64_w, i32_w]
              rfl
             refine pure_ (i := 10) (N := some 73) (v := ?_) (a' := ?_) #[true, true, true, true, true, true, true, true, true, true, true, false, false, false, false] rfl rfl (any_of HT_.out (by kernel_rfl)) (fun _ _ _ h => h) (Or.inl ⟨by rfl, ?_⟩) ?_ ?_
             rotate_left
             ·intro w'
              go_simp
              with_reducible rfl
             rotate_left
             ·simp only [Act.put, List.setIfInBounds_toArray, List.set_cons_zero, List.set_cons_succ, i64_w, i32_w]
              rfl
             refine pure_ (i := 11) (N := some 74) (v := ?_) (a' := ?_) #[true, true, true, true, true, true, true, true, true, true, true, true, false, false, false] rfl rfl (any_of HT_.out (by kernel_rfl)) (fun _ _ _ h => h) (Or.inl ⟨by rfl, ?_⟩) ?_ ?_
             rotate_left
             ·intro w'
              go_simp
              with_reducible rfl
             rotate_left
             ·simp only [Act.put, List.setIfInBounds_toArray, List.set_cons_zero, List.set_cons_succ, i64_w, i32_w]
              rfl
             refine pure_ (i := 12) (N := some 13) (v := ?_) (a' := ?_) #[true, true, true, true, true, true, true, true, true, true, true, true, true, false, false] rfl rfl (any_of HT_.out (by kernel_rfl)) (fun _ _ _ h => h) (Or.inl ⟨by rfl, ?_⟩) ?_ ?_
             rotate_left
             ·intro w'
              go_simp
              with_reducible rfl
             rotate_left
             ·simp only [Act.put, List.setIfInBounds_toArray, List.set_cons_zero, List.set_cons_succ, i64_w, i32_w]
              rfl
             refine pure_ (i := 13) (N := some 14) (v := ?_) (a' := ?_) #[true, true, true, true, true, true, true, true, true, true, true, true, true, true, false] rfl rfl (any_of HT_.out (by kernel_rfl)) (fun _ _ _ h => h) (Or.inl ⟨by rfl, ?_⟩) ?_ ?_
             rotate_left
             ·intro w'
              go_simp
              with_reducible rfl
             rotate_left
             ·simp only [Act.put, List.setIfInBounds_toArray, List.set_cons_zero, List.set_cons_succ, i64_w, i32_w]
              rfl
             refine pure_ (i := 14) (N := some 15) (v := ?_) (a' := ?_) #[true, true, true, true, true, true, true, true, true, true, true, true, true, true, true] rfl rfl (any_of HT_.out (by kernel_rfl)) (fun _ _ _ h => h) (Or.inl ⟨by rfl, ?_⟩) ?_ ?_
             rotate_left
             ·intro w'
              go_simp
              with_reducible rfl
             rotate_left
             ·simp only [Act.put, List.setIfInBounds_toArray, List.set_cons_zero, List.set_cons_succ, i64_w, i32_w]
              rfl
             refine done_ (done_of HT_.out (by kernel_rfl)) ?_
             have H := HH0.out
             clear HH0
             by_cases c35 : t207 = 19
             ·rw [if_pos c35] at H
              have c35b0 : (t207 == 19) = true := beq_iff_eq.mpr c35
              have c35b1 : (t207 != 19) = false := bne_eq_false_iff_eq.mpr c35
              clear c35
              have H' := Aside0.mk H
              clear H
              try go_wp2
              go_roundg k3
              case measure => have := HJ3.out; have := HJ19.out; have := HK3.out; omega
              case rel => exact ⟨(x10_3), (wrap64 (x56_3 + 1)), ((rd_T33 l0 x56_3).f0), (by first | rfl | (simp; done) | (simp [*]; done)), (by first | rfl | (simp; done) | (simp [*]; done)), H', ⟨by have := HJ3.out; have := HJ19.out; have := HK3.out; omega⟩, ⟨by (with_reducible repeat (first | refine blk_drewN ?_ _ | refine blk_drew ?_ | refine blk_alloc ?_ _)); exact BK178.out⟩, ⟨by repeat (first | (with_reducible first | exact HB.out | apply below_alloc | apply pw_below_drewN | apply below_drew1 | refine below_set ?_ GE178.out | refine below_set ?_ GE192.out) | exact HB.out)⟩⟩
             ·rw [if_neg c35] at H
              have c35b0 : (t207 == 19) = false := beq_eq_false_iff_ne.mpr c35
              have c35b1 : (t207 != 19) = true := bne_iff_ne.mpr c35
              by_cases c52 : t207 = 0
              ·rw [if_pos c52] at H
               have c52b0 : (t207 == 0) = true := beq_iff_eq.mpr c52
               have c52b1 : (t207 != 0) = false := bne_eq_false_iff_eq.mpr c52
               clear c52
               by_cases c53 : (t205.length : Int) = (wrap64 ((l1.length : Int) + 1))
               ·rw [if_pos c53] at H
                have c53b0 : ((t205.length : Int) == (wrap64 ((l1.length : Int) + 1))) = true := beq_iff_eq.mpr c53
                have c53b1 : ((t205.length : Int) != (wrap64 ((l1.length : Int) + 1))) = false := bne_eq_false_iff_eq.mpr c53
                clear c53
                by_cases c54 : 0 ≤ (l1.length : Int)
                ·rw [if_pos c54] at H
                 have c54b0 : decide (0 ≤ (l1.length : Int)) = true := decide_eq_true c54
                 have c54b1 : decide (0 ≤ l1.length) = true := decide_eq_true (by omega)
                 clear c54
                 by_cases c55 : (l1.length : Int) < (t205.length : Int)
                 ·rw [if_pos c55] at H
                  have c55b0 : decide ((l1.length : Int) < (t205.length : Int)) = true := decide_eq_true c55
                  have c55b1 : decide (l1.length < t205.length) = true := decide_eq_true (Int.ofNat_lt.mp c55)
                  clear c55
                  by_cases c56 : (rd t205 (l1.length : Int)) > t189
                  ·rw [if_pos c56] at H
                   have c56b0 : decide (t189 < (rd t205 (l1.length : Int))) = true := decide_eq_true c56
                   clear c56
                   rw [hr_] at H; exact absurd H (by simp)
                  ·rw [if_neg c56] at H
                   have c56b0 : decide (t189 < (rd t205 (l1.length : Int))) = false := decide_eq_false c56
                   clear c56
                   by_cases c74 : x10_3 = true
                   ·subst c74
                    have H1 : (spilelaw47_ReliefGreatest.l0 k3 l0 l1 t188 t189 true l0 (l0.length : Int) (wrap64 (x56_3 + 1)) a2_0 a2_1 a2_2 a2_3 ((rd_T33 l0 x56_3).f0)) = some r := by rw [if_pos rfl] at H; exact H
                    clear H; have H := H1; clear H1
                    have H' := Aside0.mk H
                    clear H
                    obtain ⟨Ao91, co91, eo91⟩ := Kd.R_slice HO209.out
                    subst eo91
                    have p210 : 0 ≤ ((l1.length : Int) : Int) := of_decide_eq_true (by first | (with_reducible assumption) | assumption)
                    have q210 : (l1.length : Int) < (t205.length : Int) := of_decide_eq_true (by first | (with_reducible assumption) | assumption)
                    obtain ⟨ad210, e210, hx210_0⟩ := Kd.at_int (Kd.R_reads' HO209.out).2.2 (l1.length : Int) p210 q210
                    cases e210
                    (try simp only [Go.IntWalk.toNatUp] at hx210_0)
                    replace p210 := eq_true p210
                    replace q210 := eq_true q210
                    try go_wp2
                    go_roundg k3
                    case measure => have := HJ3.out; have := HJ19.out; have := HK3.out; omega
                    case rel => exact ⟨(true), (wrap64 (x56_3 + 1)), ((rd_T33 l0 x56_3).f0), (by first | rfl | (simp; done) | (simp [*]; done)), (by first | rfl | (simp; done) | (simp [*]; done)), H', ⟨by have := HJ3.out; have := HJ19.out; have := HK3.out; omega⟩, ⟨by (with_reducible repeat (first | refine blk_drewN ?_ _ | refine blk_drew ?_ | refine blk_alloc ?_ _)); exact BK178.out⟩, ⟨by repeat (first | (with_reducible first | exact HB.out | apply below_alloc | apply pw_below_drewN | apply below_drew1 | refine below_set ?_ GE178.out | refine below_set ?_ GE192.out) | exact HB.out)⟩⟩
                   ·replace c74 := Bool.eq_false_iff.mpr c74
                    subst c74
                    have H1 : (if ((rd_T33 l0 x56_3).f0) = t188 then (spilelaw47_ReliefGreatest.l0 k3 l0 l1 t188 t189 ((rd t205 (l1.length : Int)) == t189) l0 (l0.length : Int) (wrap64 (x56_3 + 1)) a2_0 a2_1 a2_2 a2_3 ((rd_T33 l0 x56_3).f0)) else (spilelaw47_ReliefGreatest.l0 k3 l0 l1 t188 t189 false l0 (l0.length : Int) (wrap64 (x56_3 + 1)) a2_0 a2_1 a2_2 a2_3 ((rd_T33 l0 x56_3).f0))) = some r := by rw [if_neg (show ¬ (false = true) by decide)] at H; exact H
                    clear H; have H := H1; clear H1
                    by_cases c92 : ((rd_T33 l0 x56_3).f0) = t188
                    ·rw [if_pos c92] at H
                     have c92b0 : (((rd_T33 l0 x56_3).f0) == t188) = true := beq_iff_eq.mpr c92
                     have c92b1 : (((rd_T33 l0 x56_3).f0) != t188) = false := bne_eq_false_iff_eq.mpr c92
                     clear c92
                     have H' := Aside0.mk H
                     clear H
                     obtain ⟨Ao109, co109, eo109⟩ := Kd.R_slice HO209.out
                     subst eo109
                     have p210 : 0 ≤ ((l1.length : Int) : Int) := of_decide_eq_true (by first | (with_reducible assumption) | assumption)
                     have q210 : (l1.length : Int) < (t205.length : Int) := of_decide_eq_true (by first | (with_reducible assumption) | assumption)
                     obtain ⟨ad210, e210, hx210_0⟩ := Kd.at_int (Kd.R_reads' HO209.out).2.2 (l1.length : Int) p210 q210
                     cases e210
                     (try simp only [Go.IntWalk.toNatUp] at hx210_0)
                     replace p210 := eq_true p210
                     replace q210 := eq_true q210
                     have hcz110_0 : w108.cell? ⟨gb192, 0, none⟩ = some (.int .i64 ((rd_T33 l0 x56_3).f0)) := (blk_cell BK192.out 0).trans rfl
                     have hcz110_1 : w108.cell? ⟨gb192, 1, none⟩ = some (.string ((rd_T33 l0 x56_3).f1)) := (blk_cell BK192.out 1).trans rfl
                     have hcz110_2 : w108.cell? ⟨gb192, 2, none⟩ = some (.int .i64 ((rd_T33 l0 x56_3).f2)) := (blk_cell BK192.out 2).trans rfl
                     have hcz110_3 : w108.cell? ⟨gb192, 3, none⟩ = some (.int .i64 ((rd_T33 l0 x56_3).f3)) := (blk_cell BK192.out 3).trans rfl
                     have hcz110_4 : w108.cell? ⟨gb192, 4, none⟩ = some (.int .i64 ((rd_T33 l0 x56_3).f4)) := (blk_cell BK192.out 4).trans rfl
                     have hcz110_5 : w108.cell? ⟨gb192, 5, none⟩ = some (.int .i64 ((rd_T33 l0 x56_3).f5)) := (blk_cell BK192.out 5).trans rfl
                     have hcz110_6 : w108.cell? ⟨gb192, 6, none⟩ = some (.int .i64 ((rd_T33 l0 x56_3).f6)) := (blk_cell BK192.out 6).trans rfl
                     have hfz110_0 := blk_frozen BK192.out 0
                     have hfz110_1 := blk_frozen BK192.out 1
                     have hfz110_2 := blk_frozen BK192.out 2
                     have hfz110_3 := blk_frozen BK192.out 3
                     have hfz110_4 := blk_frozen BK192.out 4
                     have hfz110_5 := blk_frozen BK192.out 5
                     have hfz110_6 := blk_frozen BK192.out 6
                     have p211 : 0 ≤ ((l1.length : Int) : Int) := of_decide_eq_true (by first | (with_reducible assumption) | assumption)
                     have q211 : (l1.length : Int) < (t205.length : Int) := of_decide_eq_true (by first | (with_reducible assumption) | assumption)
                     obtain ⟨ad211, e211, hx211_0⟩ := Kd.at_int (Kd.R_reads' HO209.out).2.2 (l1.length : Int) p211 q211
                     obtain rfl : ad210 = ad211 := (by injection e211)
                     (try simp only [Go.IntWalk.toNatUp] at hx211_0)
                     replace p211 := eq_true p211
                     replace q211 := eq_true q211
                     try go_wp2
                     go_roundg k3
                     case measure => have := HJ3.out; have := HJ19.out; have := HK3.out; omega
                     case rel => exact ⟨(((rd t205 (l1.length : Int)) == t189)), (wrap64 (x56_3 + 1)), ((rd_T33 l0 x56_3).f0), (by first | rfl | (simp; done) | (simp [*]; done)), (by first | rfl | (simp; done) | (simp [*]; done)), H', ⟨by have := HJ3.out; have := HJ19.out; have := HK3.out; omega⟩, ⟨by (with_reducible repeat (first | refine blk_drewN ?_ _ | refine blk_drew ?_ | refine blk_alloc ?_ _)); exact BK178.out⟩, ⟨by repeat (first | (with_reducible first | exact HB.out | apply below_alloc | apply pw_below_drewN | apply below_drew1 | refine below_set ?_ GE178.out | refine below_set ?_ GE192.out) | exact HB.out)⟩⟩
                    ·rw [if_neg c92] at H
                     have c92b0 : (((rd_T33 l0 x56_3).f0) == t188) = false := beq_eq_false_iff_ne.mpr c92
                     have c92b1 : (((rd_T33 l0 x56_3).f0) != t188) = true := bne_iff_ne.mpr c92
                     have H' := Aside0.mk H
                     clear H
                     obtain ⟨Ao127, co127, eo127⟩ := Kd.R_slice HO209.out
                     subst eo127
                     have p210 : 0 ≤ ((l1.length : Int) : Int) := of_decide_eq_true (by first | (with_reducible assumption) | assumption)
                     have q210 : (l1.length : Int) < (t205.length : Int) := of_decide_eq_true (by first | (with_reducible assumption) | assumption)
                     obtain ⟨ad210, e210, hx210_0⟩ := Kd.at_int (Kd.R_reads' HO209.out).2.2 (l1.length : Int) p210 q210
                     cases e210
                     (try simp only [Go.IntWalk.toNatUp] at hx210_0)
                     replace p210 := eq_true p210
                     replace q210 := eq_true q210
                     have hcz128_0 : w108.cell? ⟨gb192, 0, none⟩ = some (.int .i64 ((rd_T33 l0 x56_3).f0)) := (blk_cell BK192.out 0).trans rfl
                     have hcz128_1 : w108.cell? ⟨gb192, 1, none⟩ = some (.string ((rd_T33 l0 x56_3).f1)) := (blk_cell BK192.out 1).trans rfl
                     have hcz128_2 : w108.cell? ⟨gb192, 2, none⟩ = some (.int .i64 ((rd_T33 l0 x56_3).f2)) := (blk_cell BK192.out 2).trans rfl
                     have hcz128_3 : w108.cell? ⟨gb192, 3, none⟩ = some (.int .i64 ((rd_T33 l0 x56_3).f3)) := (blk_cell BK192.out 3).trans rfl
                     have hcz128_4 : w108.cell? ⟨gb192, 4, none⟩ = some (.int .i64 ((rd_T33 l0 x56_3).f4)) := (blk_cell BK192.out 4).trans rfl
                     have hcz128_5 : w108.cell? ⟨gb192, 5, none⟩ = some (.int .i64 ((rd_T33 l0 x56_3).f5)) := (blk_cell BK192.out 5).trans rfl
                     have hcz128_6 : w108.cell? ⟨gb192, 6, none⟩ = some (.int .i64 ((rd_T33 l0 x56_3).f6)) := (blk_cell BK192.out 6).trans rfl
                     have hfz128_0 := blk_frozen BK192.out 0
                     have hfz128_1 := blk_frozen BK192.out 1
                     have hfz128_2 := blk_frozen BK192.out 2
                     have hfz128_3 := blk_frozen BK192.out 3
                     have hfz128_4 := blk_frozen BK192.out 4
                     have hfz128_5 := blk_frozen BK192.out 5
                     have hfz128_6 := blk_frozen BK192.out 6
                     try go_wp2
                     go_roundg k3
                     case measure => have := HJ3.out; have := HJ19.out; have := HK3.out; omega
                     case rel => exact ⟨(false), (wrap64 (x56_3 + 1)), ((rd_T33 l0 x56_3).f0), (by first | rfl | (simp; done) | (simp [*]; done)), (by first | rfl | (simp; done) | (simp [*]; done)), H', ⟨by have := HJ3.out; have := HJ19.out; have := HK3.out; omega⟩, ⟨by (with_reducible repeat (first | refine blk_drewN ?_ _ | refine blk_drew ?_ | refine blk_alloc ?_ _)); exact BK178.out⟩, ⟨by repeat (first | (with_reducible first | exact HB.out | apply below_alloc | apply pw_below_drewN | apply below_drew1 | refine below_set ?_ GE178.out | refine below_set ?_ GE192.out) | exact HB.out)⟩⟩
                 ·rw [if_neg c55] at H
                  exact absurd H (by simp)
                ·rw [if_neg c54] at H
                 exact absurd H (by simp)
               ·rw [if_neg c53] at H
                have c53b0 : ((t205.length : Int) == (wrap64 ((l1.length : Int) + 1))) = false := beq_eq_false_iff_ne.mpr c53
                have c53b1 : ((t205.length : Int) != (wrap64 ((l1.length : Int) + 1))) = true := bne_iff_ne.mpr c53
                rw [hr_] at H; exact absurd H (by simp)
              ·rw [if_neg c52] at H
               have c52b0 : (t207 == 0) = false := beq_eq_false_iff_ne.mpr c52
               have c52b1 : (t207 != 0) = true := bne_iff_ne.mpr c52
               rw [hr_] at H; exact absurd H (by simp)
            ·rw [if_neg c33] at H
             exact absurd H (by simp)
           ·rw [if_neg c30] at H
            exact absurd H (by simp)
          ·rw [if_neg c29] at H
           exact absurd H (by simp)
         ·rw [if_neg c28] at H
          have c28b0 : decide (x56_3 < (l0.length : Int)) = false := decide_eq_false c28
          clear c28
          obtain rfl := Option.some.inj H
          go_wp2
          go_ret
          exact ⟨by first | rfl | (simp [errW_none, errW_some] <;> rfl) | (simp [*, errW_none, errW_some] <;> rfl), by repeat (first | (with_reducible first | exact HB.out | apply below_alloc | apply pw_below_drewN | apply below_drew1 | refine below_set ?_ GE178.out) | exact HB.out)⟩
    ·rw [if_neg c19] at H
     have c19b0 : (t190 == 0) = false := beq_eq_false_iff_ne.mpr c19
     have c19b1 : (t190 != 0) = true := bne_iff_ne.mpr c19
     by_cases c162 : t188 = 0
     ·rw [if_pos c162] at H
      have c162b0 : (t188 == 0) = true := beq_iff_eq.mpr c162
      have c162b1 : (t188 != 0) = false := bne_eq_false_iff_eq.mpr c162
      clear c162
      obtain rfl := Option.some.inj H
      try go_wp2
      go_ret
      exact ⟨by first | rfl | (simp [errW_none, errW_some] <;> rfl) | (simp [*, errW_none, errW_some] <;> rfl), by repeat (first | (with_reducible first | exact HB.out | apply below_alloc | apply pw_below_drewN | apply below_drew1 | refine below_set ?_ GE178.out) | exact HB.out)⟩
     ·rw [if_neg c162] at H
      have c162b0 : (t188 == 0) = false := beq_eq_false_iff_ne.mpr c162
      have c162b1 : (t188 != 0) = true := bne_iff_ne.mpr c162
      rw [hr_] at H; exact absurd H (by simp)
end Go.Proofs.Ytccocolcgdiglaa.X
