-- Written by a program of this work, over the kit's print of the translation. Not trusted: Lean checks it.
import Derived.Test.YtccocolcgdiglaaXx0
import Derived.Test.YtccocolcgdiglaaXx4
import Derived.Test.YtccocolcgdiglaaXx5
import Derived.Test.YtccocolcgdiglaaXx6
import Derived.Test.YtccocolcgdiglaaXx8
namespace Go.Proofs.Ytccocolcgdiglaa.X
open Go.RowKit Go.Proofs.YtccocolcgdiglaaW.PrintWords Go.Proofs.YtccocolcgdiglaaW.PrintLast Go.Proofs.YtccocolcgdiglaaW.PrintMore
attribute [local go_sem] max2_int min2_int max_two min_two max_three min_three max_four min_four   -- for this text's walks alone
set_option linter.unusedVariables false
set_option linter.unusedSimpArgs false
/-! ### spileref47_Grant: function 22 -/
mutual
def spileref47_Grant.j0 : Nat → List (S33) → List (S25) → Bool → Option (List Int × Int × Int)
 | 0, _, _, _ => none
 | k + 1, x0, x1, x30 => if x30 = true then (some (([] : List Int), (-1), 1)) else (spileref47_Grant.l0 k x0 x1 ([] : List Int) 0)
def spileref47_Grant.l0 : Nat → List (S33) → List (S25) → List Int → Int → Option (List Int × Int × Int)
 | 0, _, _, _, _ => none
 | k + 1, x0, x1, x11, x12 => if x12 < (x1.length : Int) then (if 0 ≤ x12 then (if ((rd_T25 x1 x12).f4) = 0 then (if x11.length < 17592186044416 then (spileref47_Grant.l0 k x0 x1 (x11 ++ [0]) (wrap64 (x12 + 1))) else (none)) else ((spileref47_find.f k x0 ((rd_T25 x1 x12).f4)).bind fun t202 => (if t202 < 0 then (some (([] : List Int), x12, 7)) else (if 0 ≤ t202 then (if t202 < (x0.length : Int) then ((spileref47_Applies.f ((rd_T33 x0 t202).f0) ((rd_T33 x0 t202).f1) ((rd_T33 x0 t202).f2) ((rd_T33 x0 t202).f3) ((rd_T33 x0 t202).f4) ((rd_T33 x0 t202).f5) ((rd_T33 x0 t202).f6) ((rd_T25 x1 x12).f0) ((rd_T25 x1 x12).f1) ((rd_T25 x1 x12).f2) ((rd_T25 x1 x12).f3) ((rd_T25 x1 x12).f4)).bind fun t204 => (if t204 = true then ((spileref47_given.f k x1 x11 ((rd_T25 x1 x12).f4)).bind fun t206 => ((spileref47_gets.f ((rd_T33 x0 t202).f0) ((rd_T33 x0 t202).f1) ((rd_T33 x0 t202).f2) ((rd_T33 x0 t202).f3) ((rd_T33 x0 t202).f4) ((rd_T33 x0 t202).f5) ((rd_T33 x0 t202).f6) ((rd_T25 x1 x12).f0) ((rd_T25 x1 x12).f1) ((rd_T25 x1 x12).f2) ((rd_T25 x1 x12).f3) ((rd_T25 x1 x12).f4) t206).bind fun t207 => (if x11.length < 17592186044416 then (spileref47_Grant.l0 k x0 x1 (x11 ++ [t207]) (wrap64 (x12 + 1))) else (none)))) else (some (([] : List Int), x12, 19)))) else (none)) else (none))))) else (none)) else (some (x11, (-1), 0))
end
def spileref47_Grant.f (k : Nat) (l0 : List (S33)) (l1 : List (S25)) : Option (List Int × Int × Int) := (spileref47_Check.f k l0).bind fun bt193 => ((spileref47_Items.f k l1).bind fun bt195 => (if bt193.2 = 0 then (spileref47_Grant.j0 k l0 l1 (bt195.2 != 0)) else (spileref47_Grant.j0 k l0 l1 true)))
theorem spileref47_Grant.mono_l : ∀ k, (∀ y0 y1 y2, LeO (spileref47_Grant.j0 k y0 y1 y2) (spileref47_Grant.j0 (k + 1) y0 y1 y2)) ∧ (∀ y0 y1 y2 y3, LeO (spileref47_Grant.l0 k y0 y1 y2 y3) (spileref47_Grant.l0 (k + 1) y0 y1 y2 y3))
 | 0 => ⟨fun _ _ _ r h => by simp [spileref47_Grant.j0] at h, fun _ _ _ _ r h => by simp [spileref47_Grant.l0] at h⟩
 | k + 1 => by
  obtain ⟨ih0, ih1⟩ := spileref47_Grant.mono_l k
  refine ⟨?_, ?_⟩
  ·intro y0 y1 y2
   unfold spileref47_Grant.j0
   repeat' first
   | (with_reducible exact ih0 _ _ _)
   | (with_reducible exact ih1 _ _ _ _)
   | (with_reducible exact spileref47_Check.mono _ _)
   | (with_reducible exact spileref47_Items.mono _ _)
   | (with_reducible exact spileref47_find.mono _ _ _)
   | (with_reducible exact spileref47_given.mono _ _ _ _)
   | (with_reducible exact LeO.refl _)
   | (with_reducible exact LeO.none _)
   | (with_reducible refine LeO.ite ?_ ?_)
   | (with_reducible refine LeO.bind ?_ (fun _ => ?_))
   | exact ih0 _ _ _
   | exact ih1 _ _ _ _
   | exact spileref47_Check.mono _ _
   | exact spileref47_Items.mono _ _
   | exact spileref47_find.mono _ _ _
   | exact spileref47_given.mono _ _ _ _
   | exact LeO.none _
   | refine LeO.ite ?_ ?_
   | refine LeO.bind ?_ (fun _ => ?_)
  ·intro y0 y1 y2 y3
   unfold spileref47_Grant.l0
   repeat' first
   | (with_reducible exact ih0 _ _ _)
   | (with_reducible exact ih1 _ _ _ _)
   | (with_reducible exact spileref47_Check.mono _ _)
   | (with_reducible exact spileref47_Items.mono _ _)
   | (with_reducible exact spileref47_find.mono _ _ _)
   | (with_reducible exact spileref47_given.mono _ _ _ _)
   | (with_reducible exact LeO.refl _)
   | (with_reducible exact LeO.none _)
   | (with_reducible refine LeO.ite ?_ ?_)
   | (with_reducible refine LeO.bind ?_ (fun _ => ?_))
   | exact ih0 _ _ _
   | exact ih1 _ _ _ _
   | exact spileref47_Check.mono _ _
   | exact spileref47_Items.mono _ _
   | exact spileref47_find.mono _ _ _
   | exact spileref47_given.mono _ _ _ _
   | exact LeO.none _
   | refine LeO.ite ?_ ?_
   | refine LeO.bind ?_ (fun _ => ?_)
theorem spileref47_Grant.mono : ∀ a0 a1 k, LeO (spileref47_Grant.f k a0 a1) (spileref47_Grant.f (k + 1) a0 a1) := by
 intro a0 a1 k
 obtain ⟨ih0, ih1⟩ := spileref47_Grant.mono_l k
 unfold spileref47_Grant.f
 repeat' first
   | (with_reducible exact ih0 _ _ _)
   | (with_reducible exact ih1 _ _ _ _)
   | (with_reducible exact spileref47_Check.mono _ _)
   | (with_reducible exact spileref47_Items.mono _ _)
   | (with_reducible exact spileref47_find.mono _ _ _)
   | (with_reducible exact spileref47_given.mono _ _ _ _)
   | (with_reducible exact LeO.refl _)
   | (with_reducible exact LeO.none _)
   | (with_reducible refine LeO.ite ?_ ?_)
   | (with_reducible refine LeO.bind ?_ (fun _ => ?_))
   | exact ih0 _ _ _
   | exact ih1 _ _ _ _
   | exact spileref47_Check.mono _ _
   | exact spileref47_Items.mono _ _
   | exact spileref47_find.mono _ _ _
   | exact spileref47_given.mono _ _ _ _
   | exact LeO.none _
   | refine LeO.ite ?_ ?_
   | refine LeO.bind ?_ (fun _ => ?_)
def spileref47_Grant.T17 : Bool × List (List Nat × List Nat) := (true, [([], []), ([], []), ([], []), ([1, 2], [1, 2]), ([3], [3]), ([], []), ([], []), ([], []), ([], []), ([8], [8]), ([6, 7, 9], [6, 7, 9]), ([4, 5, 10, 10], [4, 5, 10]), ([11], [11]), ([0, 12, 11], [0, 12]), ([13, 13, 0, 1, 2, 3, 4, 5, 6, 7, 8, 9, 10, 11, 12, 13], [0, 7, 13])])
def spileref47_Grant.B17 : List Nat := [0, 0, 0, 6, 14, 0, 0, 0, 0, 256, 960, 2046, 4094, 8191, 16383]
theorem spileref47_Grant.tab17 : rtab .any (opsOf Try.f22 17) = spileref47_Grant.T17 := by kernel_rfl
theorem spileref47_Grant.bits17 : waitsOk spileref47_Grant.T17.2 spileref47_Grant.B17 = true := by kernel_rfl
set_option maxHeartbeats 8000000 in
set_option maxRecDepth 100000 in
theorem spileref47_Grant.calls (k : Nat) (A0 : Option Addr) (c0 : Nat) (l0 : List (S33)) (A1 : Option Addr) (c1 : Nat) (l1 : List (S25)) (r1 : List Int) (r2 : Int) (r3 : Int) (w : World) (hr0 : Kd.C k33 w A0 l0.length l0) (hc0 : l0.length ≤ c0) (hr1 : Kd.C k25 w A1 l1.length l1) (hc1 : l1.length ≤ c1) (h : spileref47_Grant.f k l0 l1 = some (r1, r2, r3)) :
  Calls Try.prog 22 #[.slice A0 l0.length c0, .slice A1 l1.length c1] w fun e w' => ∃ v0_ : Value, e = .returned (.tuple #[v0_, .int .i64 r2, .int .i64 r3]) ∧ Kd.R (Kd.int .i64) 3 w' w.heap.size (fun _ => True) v0_ r1 ∧ Below w.heap.size w w' := by
 have hu25 := Try.underlying25; have hu33 := Try.underlying33
 have HR0 := Aside0.mk hr0
 have HC0 := Aside0.mk hc0
 clear hr0 hc0
 have HR1 := Aside0.mk hr1
 have HC1 := Aside0.mk hc1
 clear hr1 hc1; have HB := Aside0.mk (Below.refl w.heap.size w)
 have H : ((spileref47_Check.f k l0).bind fun bt193 => ((spileref47_Items.f k l1).bind fun bt195 => (if bt193.2 = 0 then (spileref47_Grant.j0 k l0 l1 (bt195.2 != 0)) else (spileref47_Grant.j0 k l0 l1 true)))) = some (r1, r2, r3) := h
 clear h
 replace H := Option.bind_eq_some_iff.mp H
 obtain ⟨⟨t193, t194⟩, A30, H⟩ := H
 try dsimp only at H
 have A3 := Aside0.mk A30
 clear A30
 replace H := Option.bind_eq_some_iff.mp H
 obtain ⟨⟨t195, t196⟩, A40, H⟩ := H
 try dsimp only at H
 have A4 := Aside0.mk A40
 clear A40
 have HC5 := Aside0.mk H
 clear H
 go_enter Try.func22, Try.ntmps22
 go_upto_region 3 with (first | ((with_reducible refine gate_callee (f := 17) rfl ?_); refine goesL_ (some 17) rfl rfl Try.func17 (by kernel_rfl) rfl #[.slice A0 l0.length c0] rfl (by (try simp only [List.map_toArray, List.map_cons, List.map_nil]); first | done | rfl | (simp only [List.length_drop, List.length_take]; rfl)) ?_; (with_reducible refine (spileref47_Check.calls k _ _ l0 t193 t194 _ ?side1 ?side2 A3.out).mono ?_); (case side1 => repeat (first | exact HR0.out | (with_reducible refine Kd.C_alloc ?_ _) | (with_reducible refine Kd.C_drewN ?_ _) | (with_reducible refine Kd.C_drew ?_))); (case side2 => exact HC0.out); rintro e w6 ⟨rfl, hb⟩; refine ⟨_, rfl, ?_⟩; have n0_ := Aside0.mk (below_step (by repeat (first | (with_reducible first | exact HB.out | apply below_alloc | apply pw_below_drewN | apply below_drew1) | exact HB.out)) hb); clear HB; have HB := n0_; clear n0_; (try clear hb); (try clear hb2); (try clear hk); (try clear hi)) | ((with_reducible refine gate_callee (f := 19) rfl ?_); refine goesL_ (some 22) rfl rfl Try.func19 (by kernel_rfl) rfl #[.slice A1 l1.length c1] rfl (by (try simp only [List.map_toArray, List.map_cons, List.map_nil]); first | done | rfl | (simp only [List.length_drop, List.length_take]; rfl)) ?_; (with_reducible refine (spileref47_Items.calls k _ _ l1 t195 t196 _ ?side1 ?side2 A4.out).mono ?_); (case side1 => repeat (first | exact (Kd.C_below HR1.out HB.out) | (with_reducible refine Kd.C_alloc ?_ _) | (with_reducible refine Kd.C_drewN ?_ _) | (with_reducible refine Kd.C_drew ?_))); (case side2 => exact HC1.out); rintro e w7 ⟨rfl, hb⟩; refine ⟨_, rfl, ?_⟩; have n0_ := Aside0.mk (below_step (by repeat (first | (with_reducible first | exact HB.out | apply below_alloc | apply pw_below_drewN | apply below_drew1) | exact HB.out)) hb); clear HB; have HB := n0_; clear n0_; (try clear hb); (try clear hb2); (try clear hk); (try clear hi)))
 (try simp only [Act.put, List.setIfInBounds_toArray, List.set_cons_zero, List.set_cons_succ])
 go_cut [30] (fun v30 wc => ∃ (kq : Nat) (x30_4 : Bool), v30 = .bool x30_4 ∧ Aside0 (spileref47_Grant.j0 kq l0 l1 x30_4 = some (r1, r2, r3)) ∧ Aside0 (kq ≤ k) ∧ Aside0 (Below w.heap.size w wc))
 case first =>
  have H := HC5.out; clear HC5
  by_cases c8 : t194 = 0
  ·rw [if_pos c8] at H
   have c8b0 : (t194 == 0) = true := beq_iff_eq.mpr c8
   have c8b1 : (t194 != 0) = false := bne_eq_false_iff_eq.mpr c8
   clear c8
   (first | rw [c8b0] | (simp only [i64_w, i32_w]; rw [c8b0]) | skip)
   have H' := Aside0.mk H
   clear H
   go_wp2
   go_meet
   case rel => exact ⟨_, ((t196 != 0)), (by first | rfl | (simp; done) | (simp [*]; done)), H', ⟨by first | omega | exact Nat.le_refl _⟩, ⟨by repeat (first | (with_reducible first | exact HB.out | apply below_alloc | apply pw_below_drewN | apply below_drew1) | exact HB.out)⟩⟩
  ·rw [if_neg c8] at H
   have c8b0 : (t194 == 0) = false := beq_eq_false_iff_ne.mpr c8
   have c8b1 : (t194 != 0) = true := bne_iff_ne.mpr c8
   (first | rw [c8b0] | (simp only [i64_w, i32_w]; rw [c8b0]) | skip)
   have H' := Aside0.mk H
   clear H
   go_wp2
   go_meet
   case rel => exact ⟨_, (true), (by first | rfl | (simp; done) | (simp [*]; done)), H', ⟨by first | omega | exact Nat.le_refl _⟩, ⟨by repeat (first | (with_reducible first | exact HB.out | apply below_alloc | apply pw_below_drewN | apply below_drew1) | exact HB.out)⟩⟩
 case rest =>
  clear HC5
  obtain ⟨kq, x30_4, rfl, HA, HJ4, HB⟩ := hcut
  cases kq with
  | zero => exact absurd HA.out (by simp [spileref47_Grant.j0])
  | succ kj4 =>
   have H := HA.out; clear HA
   simp only [spileref47_Grant.j0] at H
   by_cases c9 : x30_4 = true
   ·subst c9
    have H1 : (some (([] : List Int), (-1), 1)) = some (r1, r2, r3) := by rw [if_pos rfl] at H; exact H
    clear H; have H := H1; clear H1
    simp only [Option.some.injEq, Prod.mk.injEq] at H
    obtain ⟨rfl, rfl, rfl⟩ := H
    go_wp2
    go_ret3
    exact ⟨_, by first | rfl | (simp [errW_none, errW_some] <;> rfl) | (simp [*, errW_none, errW_some] <;> rfl), by first | exact Kd.R_nil _ _ _ _ _ | exact Kd.N_nil _ _ _ _ _ | exact Kd.V_nil _ _ _ _ _ | exact Kd.Q_nil _ _ _ _ _ | exact Kd.S_nil _ _ _ _ _, by repeat (first | (with_reducible first | exact HB.out | apply below_alloc | apply pw_below_drewN | apply below_drew1) | exact HB.out)⟩
   ·replace c9 := Bool.eq_false_iff.mpr c9
    subst c9
    have H1 : (spileref47_Grant.l0 kj4 l0 l1 ([] : List Int) 0) = some (r1, r2, r3) := by rw [if_neg (show ¬ (false = true) by decide)] at H; exact H
    clear H; have H := H1; clear H1
    have H' := Aside0.mk H
    clear H
    go_wp2
    go_loopg [11, 12] kj4 (fun kq v11 v12 w' => ∃ (x11_2 : List Int) (x12_2 : Int), v12 = .int .i64 x12_2 ∧ Aside0 (spileref47_Grant.l0 kq l0 l1 x11_2 x12_2 = some (r1, r2, r3)) ∧ Aside0 (kq ≤ kj4) ∧ Aside0 (Kd.R (Kd.int .i64) 3 w' w.heap.size (fun _ => True) v11 x11_2) ∧ Aside0 (Below w.heap.size w w'))
    case atStart => exact ⟨(([] : List Int)), (0), (by first | rfl | (simp; done) | (simp [*]; done)), H', ⟨Nat.le_refl _⟩, ⟨by first | exact Kd.R_nil _ _ _ _ _ | exact Kd.N_nil _ _ _ _ _ | exact Kd.V_nil _ _ _ _ _ | exact Kd.Q_nil _ _ _ _ _ | exact Kd.S_nil _ _ _ _ _⟩, ⟨by repeat (first | (with_reducible first | exact HB.out | apply below_alloc | apply pw_below_drewN | apply below_drew1) | exact HB.out)⟩⟩
    case round =>
     clear H'
     obtain ⟨x11_2, x12_2, rfl, HA, HK2, HO_11, HB⟩ := hrel
     cases gk with
     | zero => exact absurd HA.out (by simp [spileref47_Grant.l0])
     | succ k2 =>
      have H := HA.out; clear HA
      simp only [spileref47_Grant.l0] at H
      by_cases c10 : x12_2 < (l1.length : Int)
      ·rw [if_pos c10] at H
       have c10b0 : decide (x12_2 < (l1.length : Int)) = true := decide_eq_true c10
       clear c10
       by_cases c11 : 0 ≤ x12_2
       ·rw [if_pos c11] at H
        have c11b0 : decide (0 ≤ x12_2) = true := decide_eq_true c11
        clear c11
        by_cases c12 : ((rd_T25 l1 x12_2).f4) = 0
        ·rw [if_pos c12] at H
         have c12b0 : (((rd_T25 l1 x12_2).f4) == 0) = true := beq_iff_eq.mpr c12
         have c12b1 : (((rd_T25 l1 x12_2).f4) != 0) = false := bne_eq_false_iff_eq.mpr c12
         clear c12
         by_cases c13 : x11_2.length < 17592186044416
         ·rw [if_pos c13] at H
          have LMc13 := Aside0.mk c13
          clear c13
          obtain ⟨y199, hy199⟩ : ∃ y_ : List Int, y_ = (x11_2 ++ [0]) := ⟨_, rfl⟩
          replace H : (spileref47_Grant.l0 k2 l0 l1 y199 (wrap64 (x12_2 + 1))) = some (r1, r2, r3) := by first | (rw [hy199]; with_reducible exact H) | (have H2_ := (Option.bind_some _ _).symm.trans H; rw [hy199]; with_reducible exact H2_) | (have H2_ := (Option.bind_some _ _).symm.trans H; with_reducible exact H2_) | with_reducible exact H | (rw [hy199]; exact H) | exact H
          have Ny199 := Aside0.mk hy199
          clear hy199
          have H' := Aside0.mk H
          clear H
          have p197 : 0 ≤ (x12_2 : Int) := of_decide_eq_true (by first | (with_reducible assumption) | assumption)
          have q197 : x12_2 < (l1.length : Int) := of_decide_eq_true (by first | (with_reducible assumption) | assumption)
          obtain ⟨ad197, e197, hx197_0, hx197_1, hx197_2, hx197_3, hx197_4⟩ := at_T25 HR1.out x12_2 p197 q197
          cases e197
          replace hx197_0 := (HB.out.cell (World.block_lt_of_cell? w _ hx197_0)).trans hx197_0
          replace hx197_1 := (HB.out.cell (World.block_lt_of_cell? w _ hx197_1)).trans hx197_1
          replace hx197_2 := (HB.out.cell (World.block_lt_of_cell? w _ hx197_2)).trans hx197_2
          replace hx197_3 := (HB.out.cell (World.block_lt_of_cell? w _ hx197_3)).trans hx197_3
          replace hx197_4 := (HB.out.cell (World.block_lt_of_cell? w _ hx197_4)).trans hx197_4
          replace p197 := eq_true p197
          replace q197 := eq_true q197
          go_wp2_with (first | ((with_reducible refine gate_dst (N := 13) rfl ?_); refine box_event ?hg (N := 13) ?hd (cs := #[.int .i64 0, .int .i64 0, .int .i64 0, .int .i64 0, .int .i64 0]) (t := 25) ?hr ?_; (case hd => rfl); (case hg => rfl); (case hr => first | (go_simp; done) | (go_simp; rfl)); intro gb198 hg w14 hbox hb; have n0_ := Aside0.mk (Kd.R_below (by (with_reducible repeat (first | apply Kd.R_alloc | apply Kd.R_drewN | apply Kd.R_drew)); exact HO_11.out) hb); have n1_ := Aside0.mk (below_step (by repeat (first | (with_reducible first | exact HB.out | apply below_alloc | apply pw_below_drewN | apply below_drew1) | exact HB.out)) hb); have n2_ := Aside0.mk (hbox); have n3_ := Aside0.mk ((by rw [hg]; exact (below_size (by repeat (first | (with_reducible first | exact HB.out | apply below_alloc | apply pw_below_drewN | apply below_drew1) | exact HB.out))) : w.heap.size ≤ gb198)); have n4_ := Aside0.mk ((by rw [hg]; exact (below_size (by repeat (first | (with_reducible first | exact HB.out | apply below_alloc | apply pw_below_drewN | apply below_drew1) | exact HB.out))) : w.heap.size ≤ gb198)); clear HO_11; clear HB; have HO_11 := n0_; have HB := n1_; have BK198 := n2_; have GW198 := n3_; have GE198 := n4_; clear n0_ n1_ n2_ n3_ n4_; clear hb hbox hg; have hcz15_0 : w14.cell? ⟨gb198, 0, none⟩ = some (.int .i64 0) := (blk_cell BK198.out 0).trans rfl; have hcz15_1 : w14.cell? ⟨gb198, 1, none⟩ = some (.int .i64 0) := (blk_cell BK198.out 1).trans rfl; have hcz15_2 : w14.cell? ⟨gb198, 2, none⟩ = some (.int .i64 0) := (blk_cell BK198.out 2).trans rfl; have hcz15_3 : w14.cell? ⟨gb198, 3, none⟩ = some (.int .i64 0) := (blk_cell BK198.out 3).trans rfl; have hcz15_4 : w14.cell? ⟨gb198, 4, none⟩ = some (.int .i64 0) := (blk_cell BK198.out 4).trans rfl; have hfz15_0 := blk_frozen BK198.out 0; have hfz15_1 := blk_frozen BK198.out 1; have hfz15_2 := blk_frozen BK198.out 2; have hfz15_3 := blk_frozen BK198.out 3; have hfz15_4 := blk_frozen BK198.out 4) | ((with_reducible refine gate_builtin (b := .append) (xs := #[.tmp 44, .tmp 45]) rfl ?_); at_builtin; refine Kd.R_append (Kd.int .i64) (w0 := w) w.heap.size rfl (.tmp 44) (.tmp 45) 35 3 (.int .i64 0) 8 rfl Try.underlying35 info3 rfl (by decide) (by omega) u11 x11_2 0 [.int .i64 0] (fun _ => True) (fun _ => False) rfl (by first | (go_simp; done) | (go_simp; rfl)) ?aP (fun _ hk => hk.elim) ?aF ?aO ?aB ?aS ?aL ?_; (case aP => exact rfl); (case aB => exact (by repeat (first | (with_reducible first | exact HB.out | apply below_alloc | apply pw_below_drewN | apply below_drew1 | refine below_set ?_ GE198.out) | exact HB.out))); (case aF => exact (fun _ _ => trivial)); (case aO => exact (by (with_reducible repeat (first | apply Kd.R_alloc | apply Kd.R_drewN | apply Kd.R_drew)); exact Kd.R_mono (Kd.R_far (p := ⟨gb198, 4, none⟩) (Kd.R_far (p := ⟨gb198, 3, none⟩) (Kd.R_far (p := ⟨gb198, 2, none⟩) (Kd.R_far (p := ⟨gb198, 1, none⟩) (Kd.R_far (p := ⟨gb198, 0, none⟩) (Kd.R_types HO_11.out BK198.out (by decide)) (fun _ hk => hk.2) (.int .i64 ((rd_T25 l1 x12_2).f0))) (fun _ hk => hk.2) (.int .i64 ((rd_T25 l1 x12_2).f1))) (fun _ hk => hk.2) (.int .i64 ((rd_T25 l1 x12_2).f2))) (fun _ hk => hk.2) (.int .i64 ((rd_T25 l1 x12_2).f3))) (fun _ hk => hk.2) (.int .i64 ((rd_T25 l1 x12_2).f4))) (fun _ hk => trivial))); (case aS => exact (below_size (by repeat (first | (with_reducible first | exact HB.out | apply below_alloc | apply pw_below_drewN | apply below_drew1 | refine below_set ?_ GE198.out) | exact HB.out)))); (case aL => have := LMc13.out; omega); intro v200 w16 ho hb hg hat; rw [← Ny199.out] at ho; have n0_ := Aside0.mk (blk_grown (g := gb198) (o := .cells #[.int .i64 ((rd_T25 l1 x12_2).f0), .int .i64 ((rd_T25 l1 x12_2).f1), .int .i64 ((rd_T25 l1 x12_2).f2), .int .i64 ((rd_T25 l1 x12_2).f3), .int .i64 ((rd_T25 l1 x12_2).f4)] 25 (0, 0)) (by (with_reducible repeat (first | refine blk_drewN ?_ _ | refine blk_drew ?_ | refine blk_alloc ?_ _)); refine blk_put (cs := #[.int .i64 ((rd_T25 l1 x12_2).f0), .int .i64 ((rd_T25 l1 x12_2).f1), .int .i64 ((rd_T25 l1 x12_2).f2), .int .i64 ((rd_T25 l1 x12_2).f3), .int .i64 0]) ?_ 4 _ rfl; (with_reducible repeat (first | refine blk_drewN ?_ _ | refine blk_drew ?_ | refine blk_alloc ?_ _)); refine blk_put (cs := #[.int .i64 ((rd_T25 l1 x12_2).f0), .int .i64 ((rd_T25 l1 x12_2).f1), .int .i64 ((rd_T25 l1 x12_2).f2), .int .i64 0, .int .i64 0]) ?_ 3 _ rfl; (with_reducible repeat (first | refine blk_drewN ?_ _ | refine blk_drew ?_ | refine blk_alloc ?_ _)); refine blk_put (cs := #[.int .i64 ((rd_T25 l1 x12_2).f0), .int .i64 ((rd_T25 l1 x12_2).f1), .int .i64 0, .int .i64 0, .int .i64 0]) ?_ 2 _ rfl; (with_reducible repeat (first | refine blk_drewN ?_ _ | refine blk_drew ?_ | refine blk_alloc ?_ _)); refine blk_put (cs := #[.int .i64 ((rd_T25 l1 x12_2).f0), .int .i64 0, .int .i64 0, .int .i64 0, .int .i64 0]) ?_ 1 _ rfl; (with_reducible repeat (first | refine blk_drewN ?_ _ | refine blk_drew ?_ | refine blk_alloc ?_ _)); refine blk_put (cs := #[.int .i64 0, .int .i64 0, .int .i64 0, .int .i64 0, .int .i64 0]) ?_ 0 _ rfl; (with_reducible repeat (first | refine blk_drewN ?_ _ | refine blk_drew ?_ | refine blk_alloc ?_ _)); exact BK198.out) hg (Kd.R_ne HO_11.out BK198.out (by decide))); have n1_ := Aside0.mk (hb); have n2_ := Aside0.mk (ho); clear BK198; clear HB; clear HO_11; have BK198 := n0_; have HB := n1_; have HO201 := n2_; clear n0_ n1_ n2_; clear ho hb hg hat))
          go_roundg k2
          case measure => have := HJ4.out; have := HK2.out; omega
          case rel => exact ⟨(y199), (wrap64 (x12_2 + 1)), (by first | rfl | (simp; done) | (simp [*]; done)), H', ⟨by have := HJ4.out; have := HK2.out; omega⟩, ⟨by (with_reducible repeat (first | apply Kd.R_alloc | apply Kd.R_drewN | apply Kd.R_drew)); exact HO201.out⟩, ⟨by repeat (first | (with_reducible first | exact HB.out | apply below_alloc | apply pw_below_drewN | apply below_drew1 | refine below_set ?_ GE198.out) | exact HB.out)⟩⟩
         ·rw [if_neg c13] at H
          exact absurd H (by simp)
        ·rw [if_neg c12] at H
         have c12b0 : (((rd_T25 l1 x12_2).f4) == 0) = false := beq_eq_false_iff_ne.mpr c12
         have c12b1 : (((rd_T25 l1 x12_2).f4) != 0) = true := bne_iff_ne.mpr c12
         replace H := Option.bind_eq_some_iff.mp H
         obtain ⟨t202, A170, H⟩ := H
         try dsimp only at H
         have A17 := Aside0.mk A170
         clear A170
         by_cases c18 : t202 < 0
         ·rw [if_pos c18] at H
          have c18b0 : decide (t202 < 0) = true := decide_eq_true c18
          clear c18
          simp only [Option.some.injEq, Prod.mk.injEq] at H
          obtain ⟨rfl, rfl, rfl⟩ := H
          have p197 : 0 ≤ (x12_2 : Int) := of_decide_eq_true (by first | (with_reducible assumption) | assumption)
          have q197 : x12_2 < (l1.length : Int) := of_decide_eq_true (by first | (with_reducible assumption) | assumption)
          obtain ⟨ad197, e197, hx197_0, hx197_1, hx197_2, hx197_3, hx197_4⟩ := at_T25 HR1.out x12_2 p197 q197
          cases e197
          replace hx197_0 := (HB.out.cell (World.block_lt_of_cell? w _ hx197_0)).trans hx197_0
          replace hx197_1 := (HB.out.cell (World.block_lt_of_cell? w _ hx197_1)).trans hx197_1
          replace hx197_2 := (HB.out.cell (World.block_lt_of_cell? w _ hx197_2)).trans hx197_2
          replace hx197_3 := (HB.out.cell (World.block_lt_of_cell? w _ hx197_3)).trans hx197_3
          replace hx197_4 := (HB.out.cell (World.block_lt_of_cell? w _ hx197_4)).trans hx197_4
          replace p197 := eq_true p197
          replace q197 := eq_true q197
          go_wp2_with (first | ((with_reducible refine gate_dst (N := 13) rfl ?_); refine box_event ?hg (N := 13) ?hd (cs := #[.int .i64 0, .int .i64 0, .int .i64 0, .int .i64 0, .int .i64 0]) (t := 25) ?hr ?_; (case hd => rfl); (case hg => rfl); (case hr => first | (go_simp; done) | (go_simp; rfl)); intro gb198 hg w19 hbox hb; have n0_ := Aside0.mk (Kd.R_below (by (with_reducible repeat (first | apply Kd.R_alloc | apply Kd.R_drewN | apply Kd.R_drew)); exact HO_11.out) hb); have n1_ := Aside0.mk (below_step (by repeat (first | (with_reducible first | exact HB.out | apply below_alloc | apply pw_below_drewN | apply below_drew1) | exact HB.out)) hb); have n2_ := Aside0.mk (hbox); have n3_ := Aside0.mk ((by rw [hg]; exact (below_size (by repeat (first | (with_reducible first | exact HB.out | apply below_alloc | apply pw_below_drewN | apply below_drew1) | exact HB.out))) : w.heap.size ≤ gb198)); have n4_ := Aside0.mk ((by rw [hg]; exact (below_size (by repeat (first | (with_reducible first | exact HB.out | apply below_alloc | apply pw_below_drewN | apply below_drew1) | exact HB.out))) : w.heap.size ≤ gb198)); clear HO_11; clear HB; have HO_11 := n0_; have HB := n1_; have BK198 := n2_; have GW198 := n3_; have GE198 := n4_; clear n0_ n1_ n2_ n3_ n4_; clear hb hbox hg; have hcz20_0 : w19.cell? ⟨gb198, 0, none⟩ = some (.int .i64 0) := (blk_cell BK198.out 0).trans rfl; have hcz20_1 : w19.cell? ⟨gb198, 1, none⟩ = some (.int .i64 0) := (blk_cell BK198.out 1).trans rfl; have hcz20_2 : w19.cell? ⟨gb198, 2, none⟩ = some (.int .i64 0) := (blk_cell BK198.out 2).trans rfl; have hcz20_3 : w19.cell? ⟨gb198, 3, none⟩ = some (.int .i64 0) := (blk_cell BK198.out 3).trans rfl; have hcz20_4 : w19.cell? ⟨gb198, 4, none⟩ = some (.int .i64 0) := (blk_cell BK198.out 4).trans rfl; have hfz20_0 := blk_frozen BK198.out 0; have hfz20_1 := blk_frozen BK198.out 1; have hfz20_2 := blk_frozen BK198.out 2; have hfz20_3 := blk_frozen BK198.out 3; have hfz20_4 := blk_frozen BK198.out 4) | ((with_reducible refine gate_callee (f := 36) rfl ?_); refine goesL_ (some 50) rfl rfl Try.func36 (by kernel_rfl) rfl #[.slice A0 l0.length c0, .int .i64 ((rd_T25 l1 x12_2).f4)] rfl (by (try simp only [List.map_toArray, List.map_cons, List.map_nil]); first | done | rfl | (simp only [List.length_drop, List.length_take]; rfl)) ?_; (with_reducible refine (spileref47_find.calls k2 _ _ l0 ((rd_T25 l1 x12_2).f4) t202 _ ?side1 ?side2 A17.out).mono ?_); (case side1 => exact Kd.C_below HR0.out (by repeat (first | (with_reducible first | exact HB.out | apply below_alloc | apply pw_below_drewN | apply below_drew1 | refine below_set ?_ GE198.out) | exact HB.out))); (case side2 => exact HC0.out); rintro e w' ⟨rfl, ⟨nd, rfl⟩⟩; refine ⟨_, rfl, ?_⟩))
          go_ret3
          exact ⟨_, by first | rfl | (simp [errW_none, errW_some] <;> rfl) | (simp [*, errW_none, errW_some] <;> rfl), by first | exact Kd.R_nil _ _ _ _ _ | exact Kd.N_nil _ _ _ _ _ | exact Kd.V_nil _ _ _ _ _ | exact Kd.Q_nil _ _ _ _ _ | exact Kd.S_nil _ _ _ _ _, by repeat (first | (with_reducible first | exact HB.out | apply below_alloc | apply pw_below_drewN | apply below_drew1 | refine below_set ?_ GE198.out) | exact HB.out)⟩
         ·rw [if_neg c18] at H
          have c18b0 : decide (t202 < 0) = false := decide_eq_false c18
          clear c18
          by_cases c21 : 0 ≤ t202
          ·rw [if_pos c21] at H
           have c21b0 : decide (0 ≤ t202) = true := decide_eq_true c21
           clear c21
           by_cases c22 : t202 < (l0.length : Int)
           ·rw [if_pos c22] at H
            have c22b0 : decide (t202 < (l0.length : Int)) = true := decide_eq_true c22
            clear c22
            replace H := Option.bind_eq_some_iff.mp H
            obtain ⟨t204, A230, H⟩ := H
            try dsimp only at H
            have A23 := Aside0.mk A230
            clear A230
            by_cases c24 : t204 = true
            ·subst c24
             have H1 : ((spileref47_given.f k2 l1 x11_2 ((rd_T25 l1 x12_2).f4)).bind fun t206 => ((spileref47_gets.f ((rd_T33 l0 t202).f0) ((rd_T33 l0 t202).f1) ((rd_T33 l0 t202).f2) ((rd_T33 l0 t202).f3) ((rd_T33 l0 t202).f4) ((rd_T33 l0 t202).f5) ((rd_T33 l0 t202).f6) ((rd_T25 l1 x12_2).f0) ((rd_T25 l1 x12_2).f1) ((rd_T25 l1 x12_2).f2) ((rd_T25 l1 x12_2).f3) ((rd_T25 l1 x12_2).f4) t206).bind fun t207 => (if x11_2.length < 17592186044416 then (spileref47_Grant.l0 k2 l0 l1 (x11_2 ++ [t207]) (wrap64 (x12_2 + 1))) else (none)))) = some (r1, r2, r3) := by rw [if_pos rfl] at H; exact H
             clear H; have H := H1; clear H1
             replace H := Option.bind_eq_some_iff.mp H
             obtain ⟨t206, A250, H⟩ := H
             try dsimp only at H
             have A25 := Aside0.mk A250
             clear A250
             replace H := Option.bind_eq_some_iff.mp H
             obtain ⟨t207, A260, H⟩ := H
             try dsimp only at H
             have A26 := Aside0.mk A260
             clear A260
             by_cases c27 : x11_2.length < 17592186044416
             ·rw [if_pos c27] at H
              have LMc27 := Aside0.mk c27
              clear c27
              obtain ⟨y208, hy208⟩ : ∃ y_ : List Int, y_ = (x11_2 ++ [t207]) := ⟨_, rfl⟩
              replace H : (spileref47_Grant.l0 k2 l0 l1 y208 (wrap64 (x12_2 + 1))) = some (r1, r2, r3) := by first | (rw [hy208]; with_reducible exact H) | (have H2_ := (Option.bind_some _ _).symm.trans H; rw [hy208]; with_reducible exact H2_) | (have H2_ := (Option.bind_some _ _).symm.trans H; with_reducible exact H2_) | with_reducible exact H | (rw [hy208]; exact H) | exact H
              have Ny208 := Aside0.mk hy208
              clear hy208
              have H' := Aside0.mk H
              clear H
              have p197 : 0 ≤ (x12_2 : Int) := of_decide_eq_true (by first | (with_reducible assumption) | assumption)
              have q197 : x12_2 < (l1.length : Int) := of_decide_eq_true (by first | (with_reducible assumption) | assumption)
              obtain ⟨ad197, e197, hx197_0, hx197_1, hx197_2, hx197_3, hx197_4⟩ := at_T25 HR1.out x12_2 p197 q197
              cases e197
              replace hx197_0 := (HB.out.cell (World.block_lt_of_cell? w _ hx197_0)).trans hx197_0
              replace hx197_1 := (HB.out.cell (World.block_lt_of_cell? w _ hx197_1)).trans hx197_1
              replace hx197_2 := (HB.out.cell (World.block_lt_of_cell? w _ hx197_2)).trans hx197_2
              replace hx197_3 := (HB.out.cell (World.block_lt_of_cell? w _ hx197_3)).trans hx197_3
              replace hx197_4 := (HB.out.cell (World.block_lt_of_cell? w _ hx197_4)).trans hx197_4
              replace p197 := eq_true p197
              replace q197 := eq_true q197
              try go_wp2_with (first | ((with_reducible refine gate_dst (N := 13) rfl ?_); refine box_event ?hg (N := 13) ?hd (cs := #[.int .i64 0, .int .i64 0, .int .i64 0, .int .i64 0, .int .i64 0]) (t := 25) ?hr ?_; (case hd => rfl); (case hg => rfl); (case hr => first | (go_simp; done) | (go_simp; rfl)); intro gb198 hg w28 hbox hb; have n0_ := Aside0.mk (Kd.R_below (by (with_reducible repeat (first | apply Kd.R_alloc | apply Kd.R_drewN | apply Kd.R_drew)); exact HO_11.out) hb); have n1_ := Aside0.mk (below_step (by repeat (first | (with_reducible first | exact HB.out | apply below_alloc | apply pw_below_drewN | apply below_drew1) | exact HB.out)) hb); have n2_ := Aside0.mk (hbox); have n3_ := Aside0.mk ((by rw [hg]; exact (below_size (by repeat (first | (with_reducible first | exact HB.out | apply below_alloc | apply pw_below_drewN | apply below_drew1) | exact HB.out))) : w.heap.size ≤ gb198)); have n4_ := Aside0.mk ((by rw [hg]; exact (below_size (by repeat (first | (with_reducible first | exact HB.out | apply below_alloc | apply pw_below_drewN | apply below_drew1) | exact HB.out))) : w.heap.size ≤ gb198)); clear HO_11; clear HB; have HO_11 := n0_; have HB := n1_; have BK198 := n2_; have GW198 := n3_; have GE198 := n4_; clear n0_ n1_ n2_ n3_ n4_; clear hb hbox hg; have hcz29_0 : w28.cell? ⟨gb198, 0, none⟩ = some (.int .i64 0) := (blk_cell BK198.out 0).trans rfl; have hcz29_1 : w28.cell? ⟨gb198, 1, none⟩ = some (.int .i64 0) := (blk_cell BK198.out 1).trans rfl; have hcz29_2 : w28.cell? ⟨gb198, 2, none⟩ = some (.int .i64 0) := (blk_cell BK198.out 2).trans rfl; have hcz29_3 : w28.cell? ⟨gb198, 3, none⟩ = some (.int .i64 0) := (blk_cell BK198.out 3).trans rfl; have hcz29_4 : w28.cell? ⟨gb198, 4, none⟩ = some (.int .i64 0) := (blk_cell BK198.out 4).trans rfl; have hfz29_0 := blk_frozen BK198.out 0; have hfz29_1 := blk_frozen BK198.out 1; have hfz29_2 := blk_frozen BK198.out 2; have hfz29_3 := blk_frozen BK198.out 3; have hfz29_4 := blk_frozen BK198.out 4) | ((with_reducible refine gate_callee (f := 36) rfl ?_); refine goesL_ (some 50) rfl rfl Try.func36 (by kernel_rfl) rfl #[.slice A0 l0.length c0, .int .i64 ((rd_T25 l1 x12_2).f4)] rfl (by (try simp only [List.map_toArray, List.map_cons, List.map_nil]); first | done | rfl | (simp only [List.length_drop, List.length_take]; rfl)) ?_; (with_reducible refine (spileref47_find.calls k2 _ _ l0 ((rd_T25 l1 x12_2).f4) t202 _ ?side1 ?side2 A17.out).mono ?_); (case side1 => exact Kd.C_below HR0.out (by repeat (first | (with_reducible first | exact HB.out | apply below_alloc | apply pw_below_drewN | apply below_drew1 | refine below_set ?_ GE198.out) | exact HB.out))); (case side2 => exact HC0.out); rintro e w' ⟨rfl, ⟨nd, rfl⟩⟩; refine ⟨_, rfl, ?_⟩))
              have n0_ : Aside0 (Kd.R (Kd.int .i64) 3 (((((w28.setCell ⟨gb198, 0, none⟩ (.int .i64 ((rd_T25 l1 x12_2).f0))).setCell ⟨gb198, 1, none⟩ (.int .i64 ((rd_T25 l1 x12_2).f1))).setCell ⟨gb198, 2, none⟩ (.int .i64 ((rd_T25 l1 x12_2).f2))).setCell ⟨gb198, 3, none⟩ (.int .i64 ((rd_T25 l1 x12_2).f3))).setCell ⟨gb198, 4, none⟩ (.int .i64 ((rd_T25 l1 x12_2).f4))) w.heap.size (fun _ => True) u11 x11_2) := ⟨by (with_reducible repeat (first | apply Kd.R_alloc | apply Kd.R_drewN | apply Kd.R_drew)); exact Kd.R_mono (Kd.R_far (p := ⟨gb198, 4, none⟩) (Kd.R_far (p := ⟨gb198, 3, none⟩) (Kd.R_far (p := ⟨gb198, 2, none⟩) (Kd.R_far (p := ⟨gb198, 1, none⟩) (Kd.R_far (p := ⟨gb198, 0, none⟩) (Kd.R_types HO_11.out BK198.out (by decide)) (fun _ hk => hk.2) (.int .i64 ((rd_T25 l1 x12_2).f0))) (fun _ hk => hk.2) (.int .i64 ((rd_T25 l1 x12_2).f1))) (fun _ hk => hk.2) (.int .i64 ((rd_T25 l1 x12_2).f2))) (fun _ hk => hk.2) (.int .i64 ((rd_T25 l1 x12_2).f3))) (fun _ hk => hk.2) (.int .i64 ((rd_T25 l1 x12_2).f4))) (fun _ hk => trivial)⟩
              have n1_ : Aside0 ((((((w28.setCell ⟨gb198, 0, none⟩ (.int .i64 ((rd_T25 l1 x12_2).f0))).setCell ⟨gb198, 1, none⟩ (.int .i64 ((rd_T25 l1 x12_2).f1))).setCell ⟨gb198, 2, none⟩ (.int .i64 ((rd_T25 l1 x12_2).f2))).setCell ⟨gb198, 3, none⟩ (.int .i64 ((rd_T25 l1 x12_2).f3))).setCell ⟨gb198, 4, none⟩ (.int .i64 ((rd_T25 l1 x12_2).f4))).heap[gb198]? = some (.cells #[.int .i64 ((rd_T25 l1 x12_2).f0), .int .i64 ((rd_T25 l1 x12_2).f1), .int .i64 ((rd_T25 l1 x12_2).f2), .int .i64 ((rd_T25 l1 x12_2).f3), .int .i64 ((rd_T25 l1 x12_2).f4)] 25 (0, 0))) := ⟨by (with_reducible repeat (first | refine blk_drewN ?_ _ | refine blk_drew ?_ | refine blk_alloc ?_ _)); refine blk_put (cs := #[.int .i64 ((rd_T25 l1 x12_2).f0), .int .i64 ((rd_T25 l1 x12_2).f1), .int .i64 ((rd_T25 l1 x12_2).f2), .int .i64 ((rd_T25 l1 x12_2).f3), .int .i64 0]) ?_ 4 _ rfl; (with_reducible repeat (first | refine blk_drewN ?_ _ | refine blk_drew ?_ | refine blk_alloc ?_ _)); refine blk_put (cs := #[.int .i64 ((rd_T25 l1 x12_2).f0), .int .i64 ((rd_T25 l1 x12_2).f1), .int .i64 ((rd_T25 l1 x12_2).f2), .int .i64 0, .int .i64 0]) ?_ 3 _ rfl; (with_reducible repeat (first | refine blk_drewN ?_ _ | refine blk_drew ?_ | refine blk_alloc ?_ _)); refine blk_put (cs := #[.int .i64 ((rd_T25 l1 x12_2).f0), .int .i64 ((rd_T25 l1 x12_2).f1), .int .i64 0, .int .i64 0, .int .i64 0]) ?_ 2 _ rfl; (with_reducible repeat (first | refine blk_drewN ?_ _ | refine blk_drew ?_ | refine blk_alloc ?_ _)); refine blk_put (cs := #[.int .i64 ((rd_T25 l1 x12_2).f0), .int .i64 0, .int .i64 0, .int .i64 0, .int .i64 0]) ?_ 1 _ rfl; (with_reducible repeat (first | refine blk_drewN ?_ _ | refine blk_drew ?_ | refine blk_alloc ?_ _)); refine blk_put (cs := #[.int .i64 0, .int .i64 0, .int .i64 0, .int .i64 0, .int .i64 0]) ?_ 0 _ rfl; (with_reducible repeat (first | refine blk_drewN ?_ _ | refine blk_drew ?_ | refine blk_alloc ?_ _)); exact BK198.out⟩
              have n2_ : Aside0 (Below w.heap.size w (((((w28.setCell ⟨gb198, 0, none⟩ (.int .i64 ((rd_T25 l1 x12_2).f0))).setCell ⟨gb198, 1, none⟩ (.int .i64 ((rd_T25 l1 x12_2).f1))).setCell ⟨gb198, 2, none⟩ (.int .i64 ((rd_T25 l1 x12_2).f2))).setCell ⟨gb198, 3, none⟩ (.int .i64 ((rd_T25 l1 x12_2).f3))).setCell ⟨gb198, 4, none⟩ (.int .i64 ((rd_T25 l1 x12_2).f4)))) := ⟨by repeat (first | (with_reducible first | exact HB.out | apply below_alloc | apply pw_below_drewN | apply below_drew1 | refine below_set ?_ GE198.out) | exact HB.out)⟩
              (try clear HO_11); (try clear BK198); (try clear HB)
              generalize (((((w28.setCell ⟨gb198, 0, none⟩ (.int .i64 ((rd_T25 l1 x12_2).f0))).setCell ⟨gb198, 1, none⟩ (.int .i64 ((rd_T25 l1 x12_2).f1))).setCell ⟨gb198, 2, none⟩ (.int .i64 ((rd_T25 l1 x12_2).f2))).setCell ⟨gb198, 3, none⟩ (.int .i64 ((rd_T25 l1 x12_2).f3))).setCell ⟨gb198, 4, none⟩ (.int .i64 ((rd_T25 l1 x12_2).f4))) = w30 at n0_ n1_ n2_ ⊢
              have HO_11 := n0_; have BK198 := n1_; have HB := n2_; clear n0_ n1_ n2_
              (try (rw [drewN_self w30]; generalize hq_ : World.drewN w30 _ = w30; have n0_ : Aside0 (Kd.R (Kd.int .i64) 3 w30 w.heap.size (fun _ => True) u11 x11_2) := ⟨by rw [← hq_]; exact (by (with_reducible repeat (first | apply Kd.R_alloc | apply Kd.R_drewN | apply Kd.R_drew)); exact HO_11.out)⟩; have n1_ : Aside0 (w30.heap[gb198]? = some (.cells #[.int .i64 ((rd_T25 l1 x12_2).f0), .int .i64 ((rd_T25 l1 x12_2).f1), .int .i64 ((rd_T25 l1 x12_2).f2), .int .i64 ((rd_T25 l1 x12_2).f3), .int .i64 ((rd_T25 l1 x12_2).f4)] 25 (0, 0))) := ⟨by rw [← hq_]; exact (by (with_reducible repeat (first | refine blk_drewN ?_ _ | refine blk_drew ?_ | refine blk_alloc ?_ _)); exact BK198.out)⟩; have n2_ : Aside0 (Below w.heap.size w w30) := ⟨by rw [← hq_]; exact (by repeat (first | (with_reducible first | exact HB.out | apply below_alloc | apply pw_below_drewN | apply below_drew1 | refine below_set ?_ GE198.out) | exact HB.out))⟩; clear HO_11 BK198 HB hq_; have HO_11 := n0_; have BK198 := n1_; have HB := n2_; clear n0_ n1_ n2_))
              have n0_ := Aside0.mk (Kd.R_drew HO_11.out); have n1_ := Aside0.mk (blk_drew BK198.out); have n2_ := Aside0.mk (below_drew1 HB.out); clear HO_11 BK198 HB; have HO_11 := n0_; have BK198 := n1_; have HB := n2_; clear n0_ n1_ n2_
              have p203 : 0 ≤ (t202 : Int) := of_decide_eq_true (by first | (with_reducible assumption) | assumption)
              have q203 : t202 < (l0.length : Int) := of_decide_eq_true (by first | (with_reducible assumption) | assumption)
              obtain ⟨ad203, e203, hx203_0, hx203_1, hx203_2, hx203_3, hx203_4, hx203_5, hx203_6⟩ := at_T33 HR0.out t202 p203 q203
              have hw203_6 := hx203_6; have hw203_5 := hx203_5; have hw203_4 := hx203_4; have hw203_3 := hx203_3; have hw203_2 := hx203_2; have hw203_1 := hx203_1; have hw203_0 := hx203_0
              cases e203
              replace hx203_0 := (HB.out.cell (World.block_lt_of_cell? w _ hx203_0)).trans hx203_0
              replace hx203_1 := (HB.out.cell (World.block_lt_of_cell? w _ hx203_1)).trans hx203_1
              replace hx203_2 := (HB.out.cell (World.block_lt_of_cell? w _ hx203_2)).trans hx203_2
              replace hx203_3 := (HB.out.cell (World.block_lt_of_cell? w _ hx203_3)).trans hx203_3
              replace hx203_4 := (HB.out.cell (World.block_lt_of_cell? w _ hx203_4)).trans hx203_4
              replace hx203_5 := (HB.out.cell (World.block_lt_of_cell? w _ hx203_5)).trans hx203_5
              replace hx203_6 := (HB.out.cell (World.block_lt_of_cell? w _ hx203_6)).trans hx203_6
              replace p203 := eq_true p203
              replace q203 := eq_true q203
              refine start_ (n := 7) (S := fun w' => w'.cell? ⟨gb198, 0, none⟩ = some (.int .i64 ((rd_T25 l1 x12_2).f0)) ∧ w'.cell? ⟨gb198, 1, none⟩ = some (.int .i64 ((rd_T25 l1 x12_2).f1)) ∧ w'.cell? ⟨gb198, 2, none⟩ = some (.int .i64 ((rd_T25 l1 x12_2).f2)) ∧ w'.cell? ⟨gb198, 3, none⟩ = some (.int .i64 ((rd_T25 l1 x12_2).f3)) ∧ w'.cell? ⟨gb198, 4, none⟩ = some (.int .i64 ((rd_T25 l1 x12_2).f4)) ∧ w'.cell? (ad203.add ((t202).toNat * 7)) = some (.int .i64 ((rd_T33 l0 t202).f0)) ∧ w'.cell? ⟨(ad203.add ((t202).toNat * 7)).block, (ad203.add ((t202).toNat * 7)).off + 1, none⟩ = some (.string ((rd_T33 l0 t202).f1)) ∧ w'.cell? ⟨(ad203.add ((t202).toNat * 7)).block, (ad203.add ((t202).toNat * 7)).off + 2, none⟩ = some (.int .i64 ((rd_T33 l0 t202).f2)) ∧ w'.cell? ⟨(ad203.add ((t202).toNat * 7)).block, (ad203.add ((t202).toNat * 7)).off + 3, none⟩ = some (.int .i64 ((rd_T33 l0 t202).f3)) ∧ w'.cell? ⟨(ad203.add ((t202).toNat * 7)).block, (ad203.add ((t202).toNat * 7)).off + 4, none⟩ = some (.int .i64 ((rd_T33 l0 t202).f4)) ∧ w'.cell? ⟨(ad203.add ((t202).toNat * 7)).block, (ad203.add ((t202).toNat * 7)).off + 5, none⟩ = some (.int .i64 ((rd_T33 l0 t202).f5)) ∧ w'.cell? ⟨(ad203.add ((t202).toNat * 7)).block, (ad203.add ((t202).toNat * 7)).off + 6, none⟩ = some (.int .i64 ((rd_T33 l0 t202).f6))) (ds := []) #[false, false, false, false, false, false, false] (by kernel_rfl) rfl rfl ⟨(blk_cell BK198.out 0).trans rfl, (blk_cell BK198.out 1).trans rfl, (blk_cell BK198.out 2).trans rfl, (blk_cell BK198.out 3).trans rfl, (blk_cell BK198.out 4).trans rfl, ((HB.out.cell (World.block_lt_of_cell? w _ hw203_0)).trans hw203_0), ((HB.out.cell (World.block_lt_of_cell? w _ hw203_1)).trans hw203_1), ((HB.out.cell (World.block_lt_of_cell? w _ hw203_2)).trans hw203_2), ((HB.out.cell (World.block_lt_of_cell? w _ hw203_3)).trans hw203_3), ((HB.out.cell (World.block_lt_of_cell? w _ hw203_4)).trans hw203_4), ((HB.out.cell (World.block_lt_of_cell? w _ hw203_5)).trans hw203_5), ((HB.out.cell (World.block_lt_of_cell? w _ hw203_6)).trans hw203_6)⟩ (fun hHeld => ?_)
              generalize w30.drew = w31 at HO_11 BK198 HB hx203_0 hx203_1 hx203_2 hx203_3 hx203_4 hx203_5 hx203_6 hHeld ⊢
              refine pure_ (i := 0) (N := some 54) (v := ?_) (a' := ?_) #[true, false, false, false, false, false, false] rfl rfl (by kernel_rfl) (fun _ _ _ h => h) (Or.inl ⟨by rfl, ?_⟩) ?_ ?_
              rotate_left
              ·intro w'
               go_simp
               with_reducible rfl
              rotate_left
              ·simp only [Act.put, List.setIfInBounds_toArray, List.set_cons_zero, List.set_cons_succ, i64_w, i32_w]
               rfl
              refine pure_ (i := 1) (N := some 55) (v := ?_) (a' := ?_) #[true, true, false, false, false, false, false] rfl rfl (by kernel_rfl) (fun _ _ _ h => h) (Or.inl ⟨by rfl, ?_⟩) ?_ ?_
              rotate_left
              ·intro w'
               go_simp
               with_reducible rfl
              rotate_left
              ·simp only [Act.put, List.setIfInBounds_toArray, List.set_cons_zero, List.set_cons_succ, i64_w, i32_w]
               rfl
              refine pure_ (i := 2) (N := some 56) (v := ?_) (a' := ?_) #[true, true, true, false, false, false, false] rfl rfl (by kernel_rfl) (fun _ _ _ h => h) (Or.inl ⟨by rfl, ?_⟩) ?_ ?_
              rotate_left
              ·intro w'
               go_simp
               with_reducible rfl
              rotate_left
              ·simp only [Act.put, List.setIfInBounds_toArray, List.set_cons_zero, List.set_cons_succ, i64_w, i32_w]
               rfl
              refine take_ (i := 3) (N := some 57) (v := ?_) (a' := ?_) #[true, true, true, true, false, false, false] rfl rfl (by kernel_rfl) (fun _ _ _ h => h) (Or.inl ⟨by rfl, ?_⟩) hHeld ?_ ?_
              rotate_left
              ·rintro w' ⟨s0, s1, s2, s3, s4, s5, s6, s7, s8, s9, s10, s11⟩
               go_simp
               with_reducible rfl
              rotate_left
              ·simp only [Act.put, List.setIfInBounds_toArray, List.set_cons_zero, List.set_cons_succ, i64_w, i32_w]
               rfl
              refine take_ (i := 4) (N := some 58) (v := ?_) (a' := ?_) #[true, true, true, true, true, false, false] rfl rfl (by kernel_rfl) (fun _ _ _ h => h) (Or.inl ⟨by rfl, ?_⟩) hHeld ?_ ?_
              rotate_left
              ·rintro w' ⟨s0, s1, s2, s3, s4, s5, s6, s7, s8, s9, s10, s11⟩
               go_simp
               with_reducible rfl
              rotate_left
              ·simp only [Act.put, List.setIfInBounds_toArray, List.set_cons_zero, List.set_cons_succ, i64_w, i32_w]
               rfl
              refine one_ (i := 5) (N := some 59) #[true, true, true, true, true, true, false] rfl rfl (by kernel_rfl) (by decide) (fun K hK => ?_)
              refine goes_ Try.func21 (by kernel_rfl) rfl #[.agg #[.int .i64 ((rd_T33 l0 t202).f0), .string ((rd_T33 l0 t202).f1), .int .i64 ((rd_T33 l0 t202).f2), .int .i64 ((rd_T33 l0 t202).f3), .int .i64 ((rd_T33 l0 t202).f4), .int .i64 ((rd_T33 l0 t202).f5), .int .i64 ((rd_T33 l0 t202).f6)], .agg #[.int .i64 ((rd_T25 l1 x12_2).f0), .int .i64 ((rd_T25 l1 x12_2).f1), .int .i64 ((rd_T25 l1 x12_2).f2), .int .i64 ((rd_T25 l1 x12_2).f3), .int .i64 ((rd_T25 l1 x12_2).f4)]] (by rfl) rfl rfl (by (try simp only [List.map_toArray, List.map_cons, List.map_nil]); first | done | rfl | (simp only [List.length_drop, List.length_take]; rfl)) ?_
              with_reducible refine (spileref47_Applies.calls ((rd_T33 l0 t202).f0) ((rd_T33 l0 t202).f1) ((rd_T33 l0 t202).f2) ((rd_T33 l0 t202).f3) ((rd_T33 l0 t202).f4) ((rd_T33 l0 t202).f5) ((rd_T33 l0 t202).f6) ((rd_T25 l1 x12_2).f0) ((rd_T25 l1 x12_2).f1) ((rd_T25 l1 x12_2).f2) ((rd_T25 l1 x12_2).f3) ((rd_T25 l1 x12_2).f4) true _ A23.out).mono ?_
              rintro e w32 ⟨rfl, hb⟩
              refine ⟨_, rfl, ?_⟩
              have n0_ := Aside0.mk (Kd.R_below (by (with_reducible repeat (first | apply Kd.R_alloc | apply Kd.R_drewN | apply Kd.R_drew)); exact HO_11.out) hb); have n1_ := Aside0.mk (blk_below (g := gb198) (o := .cells #[.int .i64 ((rd_T25 l1 x12_2).f0), .int .i64 ((rd_T25 l1 x12_2).f1), .int .i64 ((rd_T25 l1 x12_2).f2), .int .i64 ((rd_T25 l1 x12_2).f3), .int .i64 ((rd_T25 l1 x12_2).f4)] 25 (0, 0)) (by (with_reducible repeat (first | refine blk_drewN ?_ _ | refine blk_drew ?_ | refine blk_alloc ?_ _)); exact BK198.out) hb); have n2_ := Aside0.mk (below_step (by repeat (first | (with_reducible first | exact HB.out | apply below_alloc | apply pw_below_drewN | apply below_drew1 | refine below_set ?_ GE198.out) | exact HB.out)) hb); clear HO_11 BK198 HB; have HO_11 := n0_; have BK198 := n1_; have HB := n2_; clear n0_ n1_ n2_; (try clear hb); (try clear hb2); (try clear hk); (try clear hi)
              refine hK.out _ _ ⟨(blk_cell BK198.out 0).trans rfl, (blk_cell BK198.out 1).trans rfl, (blk_cell BK198.out 2).trans rfl, (blk_cell BK198.out 3).trans rfl, (blk_cell BK198.out 4).trans rfl, ((HB.out.cell (World.block_lt_of_cell? w _ hw203_0)).trans hw203_0), ((HB.out.cell (World.block_lt_of_cell? w _ hw203_1)).trans hw203_1), ((HB.out.cell (World.block_lt_of_cell? w _ hw203_2)).trans hw203_2), ((HB.out.cell (World.block_lt_of_cell? w _ hw203_3)).trans hw203_3), ((HB.out.cell (World.block_lt_of_cell? w _ hw203_4)).trans hw203_4), ((HB.out.cell (World.block_lt_of_cell? w _ hw203_5)).trans hw203_5), ((HB.out.cell (World.block_lt_of_cell? w _ hw203_6)).trans hw203_6)⟩ (fun hHeld => ?_)
              clear hK K
              refine norm_ (a' := ?_) ?_ ?_
              rotate_left
              ·show Act.put _ (some 59) _ = _
               simp only [Act.put, List.setIfInBounds_toArray, List.set_cons_zero, List.set_cons_succ, i64_w, i32_w]
               rfl
              refine pure_ (i := 6) (N := some 60) (v := ?_) (a' := ?_) #[true, true, true, true, true, true, true] rfl rfl (by kernel_rfl) (fun _ _ _ h => h) (Or.inl ⟨by rfl, ?_⟩) ?_ ?_
              rotate_left
              ·intro w'
               go_simp
               with_reducible rfl
              rotate_left
              ·simp only [Act.put, List.setIfInBounds_toArray, List.set_cons_zero, List.set_cons_succ, i64_w, i32_w]
               rfl
              refine done_ (by kernel_rfl) ?_
              try go_wp2
              have n0_ := Aside0.mk (Kd.R_drew HO_11.out); have n1_ := Aside0.mk (blk_drew BK198.out); have n2_ := Aside0.mk (below_drew1 HB.out); clear HO_11 BK198 HB; have HO_11 := n0_; have BK198 := n1_; have HB := n2_; clear n0_ n1_ n2_
              have p205 : 0 ≤ (t202 : Int) := of_decide_eq_true (by first | (with_reducible assumption) | assumption)
              have q205 : t202 < (l0.length : Int) := of_decide_eq_true (by first | (with_reducible assumption) | assumption)
              obtain ⟨ad205, e205, hx205_0, hx205_1, hx205_2, hx205_3, hx205_4, hx205_5, hx205_6⟩ := at_T33 HR0.out t202 p205 q205
              have hw205_6 := hx205_6; have hw205_5 := hx205_5; have hw205_4 := hx205_4; have hw205_3 := hx205_3; have hw205_2 := hx205_2; have hw205_1 := hx205_1; have hw205_0 := hx205_0
              obtain rfl : ad203 = ad205 := (by injection e205)
              replace hx205_0 := (HB.out.cell (World.block_lt_of_cell? w _ hx205_0)).trans hx205_0
              replace hx205_1 := (HB.out.cell (World.block_lt_of_cell? w _ hx205_1)).trans hx205_1
              replace hx205_2 := (HB.out.cell (World.block_lt_of_cell? w _ hx205_2)).trans hx205_2
              replace hx205_3 := (HB.out.cell (World.block_lt_of_cell? w _ hx205_3)).trans hx205_3
              replace hx205_4 := (HB.out.cell (World.block_lt_of_cell? w _ hx205_4)).trans hx205_4
              replace hx205_5 := (HB.out.cell (World.block_lt_of_cell? w _ hx205_5)).trans hx205_5
              replace hx205_6 := (HB.out.cell (World.block_lt_of_cell? w _ hx205_6)).trans hx205_6
              replace p205 := eq_true p205
              replace q205 := eq_true q205
              obtain ⟨Ao34, co34, eo34⟩ := Kd.R_slice HO_11.out
              (first | subst eo34 | (injection eo34 with f1_ f2_ f3_; have f4_ := f1_.symm; have f5_ := f3_.symm; clear f1_ f2_ f3_; subst f4_; subst f5_))
              refine start_ (n := 15) (S := fun w' => w'.cell? ⟨gb198, 0, none⟩ = some (.int .i64 ((rd_T25 l1 x12_2).f0)) ∧ w'.cell? ⟨gb198, 1, none⟩ = some (.int .i64 ((rd_T25 l1 x12_2).f1)) ∧ w'.cell? ⟨gb198, 2, none⟩ = some (.int .i64 ((rd_T25 l1 x12_2).f2)) ∧ w'.cell? ⟨gb198, 3, none⟩ = some (.int .i64 ((rd_T25 l1 x12_2).f3)) ∧ w'.cell? ⟨gb198, 4, none⟩ = some (.int .i64 ((rd_T25 l1 x12_2).f4)) ∧ w'.cell? (ad203.add ((t202).toNat * 7)) = some (.int .i64 ((rd_T33 l0 t202).f0)) ∧ w'.cell? ⟨(ad203.add ((t202).toNat * 7)).block, (ad203.add ((t202).toNat * 7)).off + 1, none⟩ = some (.string ((rd_T33 l0 t202).f1)) ∧ w'.cell? ⟨(ad203.add ((t202).toNat * 7)).block, (ad203.add ((t202).toNat * 7)).off + 2, none⟩ = some (.int .i64 ((rd_T33 l0 t202).f2)) ∧ w'.cell? ⟨(ad203.add ((t202).toNat * 7)).block, (ad203.add ((t202).toNat * 7)).off + 3, none⟩ = some (.int .i64 ((rd_T33 l0 t202).f3)) ∧ w'.cell? ⟨(ad203.add ((t202).toNat * 7)).block, (ad203.add ((t202).toNat * 7)).off + 4, none⟩ = some (.int .i64 ((rd_T33 l0 t202).f4)) ∧ w'.cell? ⟨(ad203.add ((t202).toNat * 7)).block, (ad203.add ((t202).toNat * 7)).off + 5, none⟩ = some (.int .i64 ((rd_T33 l0 t202).f5)) ∧ w'.cell? ⟨(ad203.add ((t202).toNat * 7)).block, (ad203.add ((t202).toNat * 7)).off + 6, none⟩ = some (.int .i64 ((rd_T33 l0 t202).f6))) (ds := []) #[false, false, false, false, false, false, false, false, false, false, false, false, false, false, false] (by kernel_rfl) rfl rfl ⟨(blk_cell BK198.out 0).trans rfl, (blk_cell BK198.out 1).trans rfl, (blk_cell BK198.out 2).trans rfl, (blk_cell BK198.out 3).trans rfl, (blk_cell BK198.out 4).trans rfl, ((HB.out.cell (World.block_lt_of_cell? w _ hw205_0)).trans hw205_0), ((HB.out.cell (World.block_lt_of_cell? w _ hw205_1)).trans hw205_1), ((HB.out.cell (World.block_lt_of_cell? w _ hw205_2)).trans hw205_2), ((HB.out.cell (World.block_lt_of_cell? w _ hw205_3)).trans hw205_3), ((HB.out.cell (World.block_lt_of_cell? w _ hw205_4)).trans hw205_4), ((HB.out.cell (World.block_lt_of_cell? w _ hw205_5)).trans hw205_5), ((HB.out.cell (World.block_lt_of_cell? w _ hw205_6)).trans hw205_6)⟩ (fun hHeld => ?_); refine with_tabW spileref47_Grant.tab17 spileref47_Grant.bits17 (fun HT_ HW_ => ?_)
              generalize w32.drew = w33 at HO_11 BK198 HB hx205_0 hx205_1 hx205_2 hx205_3 hx205_4 hx205_5 hx205_6 hHeld ⊢
              refine pure_ (i := 0) (N := some 62) (v := ?_) (a' := ?_) #[true, false, false, false, false, false, false, false, false, false, false, false, false, false, false] rfl rfl (any_of HT_.out (by kernel_rfl)) (fun _ _ _ h => h) (Or.inl ⟨by rfl, ?_⟩) ?_ ?_
              rotate_left
              ·intro w'
               go_simp
               with_reducible rfl
              rotate_left
              ·simp only [Act.put, List.setIfInBounds_toArray, List.set_cons_zero, List.set_cons_succ, i64_w, i32_w]
               rfl
              refine pure_ (i := 1) (N := some 63) (v := ?_) (a' := ?_) #[true, true, false, false, false, false, false, false, false, false, false, false, false, false, false] rfl rfl (any_of HT_.out (by kernel_rfl)) (fun _ _ _ h => h) (Or.inl ⟨by rfl, ?_⟩) ?_ ?_
              rotate_left
              ·intro w'
               go_simp
               with_reducible rfl
              rotate_left
              ·simp only [Act.put, List.setIfInBounds_toArray, List.set_cons_zero, List.set_cons_succ, i64_w, i32_w]
               rfl
              refine pure_ (i := 2) (N := some 64) (v := ?_) (a' := ?_) #[true, true, true, false, false, false, false, false, false, false, false, false, false, false, false] rfl rfl (any_of HT_.out (by kernel_rfl)) (fun _ _ _ h => h) (Or.inl ⟨by rfl, ?_⟩) ?_ ?_
              rotate_left
              ·intro w'
               go_simp
               with_reducible rfl
              rotate_left
              ·simp only [Act.put, List.setIfInBounds_toArray, List.set_cons_zero, List.set_cons_succ, i64_w, i32_w]
               rfl
              refine pure_ (i := 3) (N := some 65) (v := ?_) (a' := ?_) #[true, true, true, true, false, false, false, false, false, false, false, false, false, false, false] rfl rfl (any_of HT_.out (by kernel_rfl)) (fun _ _ _ h => h) (Or.inl ⟨by rfl, ?_⟩) ?_ ?_
              rotate_left
              ·intro w'
               go_simp
               with_reducible rfl
              rotate_left
              ·simp only [Act.put, List.setIfInBounds_toArray, List.set_cons_zero, List.set_cons_succ, i64_w, i32_w]
               rfl
              refine pure_ (i := 6) (N := some 68) (v := ?_) (a' := ?_) #[true, true, true, true, false, false, true, false, false, false, false, false, false, false, false] rfl rfl (any_of HT_.out (by kernel_rfl)) (fun _ _ _ h => h) (Or.inl ⟨by rfl, ?_⟩) ?_ ?_
              rotate_left
              ·intro w'
               go_simp
               with_reducible rfl
              rotate_left
              ·simp only [Act.put, List.setIfInBounds_toArray, List.set_cons_zero, List.set_cons_succ, i64_w, i32_w]
               rfl
              refine pure_ (i := 7) (N := some 69) (v := ?_) (a' := ?_) #[true, true, true, true, false, false, true, true, false, false, false, false, false, false, false] rfl rfl (any_of HT_.out (by kernel_rfl)) (fun _ _ _ h => h) (Or.inl ⟨by rfl, ?_⟩) ?_ ?_
              rotate_left
              ·intro w'
               go_simp
               with_reducible rfl
              rotate_left
              ·simp only [Act.put, List.setIfInBounds_toArray, List.set_cons_zero, List.set_cons_succ, i64_w, i32_w]
               rfl
              refine pure_ (i := 8) (N := some 70) (v := ?_) (a' := ?_) #[true, true, true, true, false, false, true, true, true, false, false, false, false, false, false] rfl rfl (any_of HT_.out (by kernel_rfl)) (fun _ _ _ h => h) (Or.inl ⟨by rfl, ?_⟩) ?_ ?_
              rotate_left
              ·intro w'
               go_simp
               with_reducible rfl
              rotate_left
              ·simp only [Act.put, List.setIfInBounds_toArray, List.set_cons_zero, List.set_cons_succ, i64_w, i32_w]
               rfl
              refine take_ (i := 4) (N := some 66) (v := ?_) (a' := ?_) #[true, true, true, true, true, false, true, true, true, false, false, false, false, false, false] rfl rfl (take_ofW HT_.out HW_.out (by kernel_rfl)) (fun _ _ _ h => h) (Or.inl ⟨by rfl, ?_⟩) hHeld ?_ ?_
              rotate_left
              ·rintro w' ⟨s0, s1, s2, s3, s4, s5, s6, s7, s8, s9, s10, s11⟩
               go_simp
               with_reducible rfl
              rotate_left
              ·simp only [Act.put, List.setIfInBounds_toArray, List.set_cons_zero, List.set_cons_succ, i64_w, i32_w]
               rfl
              refine take_ (i := 5) (N := some 67) (v := ?_) (a' := ?_) #[true, true, true, true, true, true, true, true, true, false, false, false, false, false, false] rfl rfl (take_ofW HT_.out HW_.out (by kernel_rfl)) (fun _ _ _ h => h) (Or.inl ⟨by rfl, ?_⟩) hHeld ?_ ?_
              rotate_left
              ·rintro w' ⟨s0, s1, s2, s3, s4, s5, s6, s7, s8, s9, s10, s11⟩
               go_simp
               with_reducible rfl
              rotate_left
              ·simp only [Act.put, List.setIfInBounds_toArray, List.set_cons_zero, List.set_cons_succ, i64_w, i32_w]
               rfl
              refine take_ (i := 9) (N := some 71) (v := ?_) (a' := ?_) #[true, true, true, true, true, true, true, true, true, true, false, false, false, false, false] rfl rfl (take_ofW HT_.out HW_.out (by kernel_rfl)) (fun _ _ _ h => h) (Or.inl ⟨by rfl, ?_⟩) hHeld ?_ ?_
              rotate_left
              ·rintro w' ⟨s0, s1, s2, s3, s4, s5, s6, s7, s8, s9, s10, s11⟩
               go_simp
               with_reducible rfl
              rotate_left
              ·simp only [Act.put, List.setIfInBounds_toArray, List.set_cons_zero, List.set_cons_succ, i64_w, i32_w]
               rfl
              refine one_ (i := 10) (N := some 72) #[true, true, true, true, true, true, true, true, true, true, true, false, false, false, false] rfl rfl (one_of HT_.out (by kernel_rfl)) (by decide) (fun K hK => ?_)
              refine goes_ Try.func38 (by kernel_rfl) rfl #[.slice (some ad197) l1.length c1, .slice Ao34 x11_2.length co34, .int .i64 ((rd_T25 l1 x12_2).f4)] (by rfl) rfl rfl (by (try simp only [List.map_toArray, List.map_cons, List.map_nil]); first | done | rfl | (simp only [List.length_drop, List.length_take]; rfl)) ?_
              with_reducible refine (spileref47_given.calls k2 _ _ l1 _ _ x11_2 ((rd_T25 l1 x12_2).f4) t206 _ ?side1 ?side2 ?side3 ?side4 A25.out).mono ?_
              (case side1 => repeat (first | exact (Kd.C_below HR1.out HB.out) | (with_reducible refine Kd.C_alloc ?_ _) | (with_reducible refine Kd.C_drewN ?_ _) | (with_reducible refine Kd.C_drew ?_)))
              (case side2 => exact HC1.out)
              (case side3 => repeat (first | exact (Kd.R_reads' HO_11.out).2.2 | (with_reducible refine Kd.C_alloc ?_ _) | (with_reducible refine Kd.C_drewN ?_ _) | (with_reducible refine Kd.C_drew ?_)))
              (case side4 => exact (Kd.R_reads' HO_11.out).2.1)
              rintro e w' ⟨rfl, ⟨nd, rfl⟩⟩
              refine ⟨_, rfl, ?_⟩
              refine hK.out _ _ ⟨(blk_cell BK198.out 0).trans rfl, (blk_cell BK198.out 1).trans rfl, (blk_cell BK198.out 2).trans rfl, (blk_cell BK198.out 3).trans rfl, (blk_cell BK198.out 4).trans rfl, ((HB.out.cell (World.block_lt_of_cell? w _ hw205_0)).trans hw205_0), ((HB.out.cell (World.block_lt_of_cell? w _ hw205_1)).trans hw205_1), ((HB.out.cell (World.block_lt_of_cell? w _ hw205_2)).trans hw205_2), ((HB.out.cell (World.block_lt_of_cell? w _ hw205_3)).trans hw205_3), ((HB.out.cell (World.block_lt_of_cell? w _ hw205_4)).trans hw205_4), ((HB.out.cell (World.block_lt_of_cell? w _ hw205_5)).trans hw205_5), ((HB.out.cell (World.block_lt_of_cell? w _ hw205_6)).trans hw205_6)⟩ (fun hHeld => ?_)
              clear hK K
              refine norm_ (a' := ?_) ?_ ?_
              rotate_left
              ·show Act.put _ (some 72) _ = _
               simp only [Act.put, List.setIfInBounds_toArray, List.set_cons_zero, List.set_cons_succ, i64_w, i32_w]
               rfl
              refine one_ (i := 11) (N := some 73) #[true, true, true, true, true, true, true, true, true, true, true, true, false, false, false] rfl rfl (one_of HT_.out (by kernel_rfl)) (by decide) (fun K hK => ?_)
              refine goes_ Try.func37 (by kernel_rfl) rfl #[.agg #[.int .i64 ((rd_T33 l0 t202).f0), .string ((rd_T33 l0 t202).f1), .int .i64 ((rd_T33 l0 t202).f2), .int .i64 ((rd_T33 l0 t202).f3), .int .i64 ((rd_T33 l0 t202).f4), .int .i64 ((rd_T33 l0 t202).f5), .int .i64 ((rd_T33 l0 t202).f6)], .agg #[.int .i64 ((rd_T25 l1 x12_2).f0), .int .i64 ((rd_T25 l1 x12_2).f1), .int .i64 ((rd_T25 l1 x12_2).f2), .int .i64 ((rd_T25 l1 x12_2).f3), .int .i64 ((rd_T25 l1 x12_2).f4)], .int .i64 t206] (by rfl) rfl rfl (by (try simp only [List.map_toArray, List.map_cons, List.map_nil]); first | done | rfl | (simp only [List.length_drop, List.length_take]; rfl)) ?_
              with_reducible refine (spileref47_gets.calls ((rd_T33 l0 t202).f0) ((rd_T33 l0 t202).f1) ((rd_T33 l0 t202).f2) ((rd_T33 l0 t202).f3) ((rd_T33 l0 t202).f4) ((rd_T33 l0 t202).f5) ((rd_T33 l0 t202).f6) ((rd_T25 l1 x12_2).f0) ((rd_T25 l1 x12_2).f1) ((rd_T25 l1 x12_2).f2) ((rd_T25 l1 x12_2).f3) ((rd_T25 l1 x12_2).f4) t206 t207 _ A26.out).mono ?_
              rintro e w35 ⟨rfl, hb⟩
              refine ⟨_, rfl, ?_⟩
              have n0_ := Aside0.mk (Kd.R_below (by (with_reducible repeat (first | apply Kd.R_alloc | apply Kd.R_drewN | apply Kd.R_drew)); exact HO_11.out) hb); have n1_ := Aside0.mk (blk_below (g := gb198) (o := .cells #[.int .i64 ((rd_T25 l1 x12_2).f0), .int .i64 ((rd_T25 l1 x12_2).f1), .int .i64 ((rd_T25 l1 x12_2).f2), .int .i64 ((rd_T25 l1 x12_2).f3), .int .i64 ((rd_T25 l1 x12_2).f4)] 25 (0, 0)) (by (with_reducible repeat (first | refine blk_drewN ?_ _ | refine blk_drew ?_ | refine blk_alloc ?_ _)); exact BK198.out) hb); have n2_ := Aside0.mk (below_step (by repeat (first | (with_reducible first | exact HB.out | apply below_alloc | apply pw_below_drewN | apply below_drew1 | refine below_set ?_ GE198.out) | exact HB.out)) hb); clear HO_11 BK198 HB; have HO_11 := n0_; have BK198 := n1_; have HB := n2_; clear n0_ n1_ n2_; (try clear hb); (try clear hb2); (try clear hk); (try clear hi)
              refine hK.out _ _ ⟨(blk_cell BK198.out 0).trans rfl, (blk_cell BK198.out 1).trans rfl, (blk_cell BK198.out 2).trans rfl, (blk_cell BK198.out 3).trans rfl, (blk_cell BK198.out 4).trans rfl, ((HB.out.cell (World.block_lt_of_cell? w _ hw205_0)).trans hw205_0), ((HB.out.cell (World.block_lt_of_cell? w _ hw205_1)).trans hw205_1), ((HB.out.cell (World.block_lt_of_cell? w _ hw205_2)).trans hw205_2), ((HB.out.cell (World.block_lt_of_cell? w _ hw205_3)).trans hw205_3), ((HB.out.cell (World.block_lt_of_cell? w _ hw205_4)).trans hw205_4), ((HB.out.cell (World.block_lt_of_cell? w _ hw205_5)).trans hw205_5), ((HB.out.cell (World.block_lt_of_cell? w _ hw205_6)).trans hw205_6)⟩ (fun hHeld => ?_)
              clear hK K
              refine norm_ (a' := ?_) ?_ ?_
              rotate_left
              ·show Act.put _ (some 73) _ = _
               simp only [Act.put, List.setIfInBounds_toArray, List.set_cons_zero, List.set_cons_succ, i64_w, i32_w]
               rfl
              refine one_ (i := 12) (N := some 74) #[true, true, true, true, true, true, true, true, true, true, true, true, true, false, false] rfl rfl (one_of HT_.out (by kernel_rfl)) (by decide) (fun K hK => ?_)
              refine value_ (w1 := ?_) (v := ?_) (by rfl) rfl ?_ ?_
              rotate_left 2
              ·go_simp
               constructor
               ·rfl
               ·rfl
              refine hK.out _ _ ⟨(blk_cell (blk_alloc BK198.out _) 0).trans rfl, (blk_cell (blk_alloc BK198.out _) 1).trans rfl, (blk_cell (blk_alloc BK198.out _) 2).trans rfl, (blk_cell (blk_alloc BK198.out _) 3).trans rfl, (blk_cell (blk_alloc BK198.out _) 4).trans rfl, (World.cell?_alloc_lt _ _ _ (World.block_lt_of_cell? _ _ (((HB.out.cell (World.block_lt_of_cell? w _ hw205_0)).trans hw205_0)))).trans (((HB.out.cell (World.block_lt_of_cell? w _ hw205_0)).trans hw205_0)), (World.cell?_alloc_lt _ _ _ (World.block_lt_of_cell? _ _ (((HB.out.cell (World.block_lt_of_cell? w _ hw205_1)).trans hw205_1)))).trans (((HB.out.cell (World.block_lt_of_cell? w _ hw205_1)).trans hw205_1)), (World.cell?_alloc_lt _ _ _ (World.block_lt_of_cell? _ _ (((HB.out.cell (World.block_lt_of_cell? w _ hw205_2)).trans hw205_2)))).trans (((HB.out.cell (World.block_lt_of_cell? w _ hw205_2)).trans hw205_2)), (World.cell?_alloc_lt _ _ _ (World.block_lt_of_cell? _ _ (((HB.out.cell (World.block_lt_of_cell? w _ hw205_3)).trans hw205_3)))).trans (((HB.out.cell (World.block_lt_of_cell? w _ hw205_3)).trans hw205_3)), (World.cell?_alloc_lt _ _ _ (World.block_lt_of_cell? _ _ (((HB.out.cell (World.block_lt_of_cell? w _ hw205_4)).trans hw205_4)))).trans (((HB.out.cell (World.block_lt_of_cell? w _ hw205_4)).trans hw205_4)), (World.cell?_alloc_lt _ _ _ (World.block_lt_of_cell? _ _ (((HB.out.cell (World.block_lt_of_cell? w _ hw205_5)).trans hw205_5)))).trans (((HB.out.cell (World.block_lt_of_cell? w _ hw205_5)).trans hw205_5)), (World.cell?_alloc_lt _ _ _ (World.block_lt_of_cell? _ _ (((HB.out.cell (World.block_lt_of_cell? w _ hw205_6)).trans hw205_6)))).trans (((HB.out.cell (World.block_lt_of_cell? w _ hw205_6)).trans hw205_6))⟩ (fun hHeld => ?_)
              clear hK K
              refine norm_ (a' := ?_) ?_ ?_
              rotate_left
              ·show Act.put _ (some 74) _ = _
               simp only [Act.put, List.setIfInBounds_toArray, List.set_cons_zero, List.set_cons_succ, i64_w, i32_w]
               rfl
              refine one_ (i := 13) (N := some 75) #[true, true, true, true, true, true, true, true, true, true, true, true, true, true, false] rfl rfl (one_of HT_.out (by kernel_rfl)) (by decide) (fun K hK => ?_)
              refine Kd.R_append_step (Kd.int .i64) (w0 := w) w.heap.size (by rfl) (.tmp 62) (.tmp 74) 35 3 (.int .i64 0) 8 rfl Try.underlying35 info3 rfl (by decide) (by omega) (.slice Ao34 x11_2.length co34) x11_2 t207 [.int .i64 t207] (fun _ => True) (fun _ => False) rfl rfl ?aP (fun _ hk => hk.elim) ?aF ?aO ?aB ?aS ?aL ?_
              (case aP => exact rfl)
              (case aB => exact (by repeat (first | (with_reducible first | exact HB.out | apply below_alloc | apply pw_below_drewN | apply below_drew1 | refine below_set ?_ GE198.out) | exact HB.out)))
              (case aF => exact (fun _ _ => trivial))
              (case aO => exact (by (with_reducible repeat (first | apply Kd.R_alloc | apply Kd.R_drewN | apply Kd.R_drew)); exact HO_11.out))
              (case aS => exact (below_size (by repeat (first | (with_reducible first | exact HB.out | apply below_alloc | apply pw_below_drewN | apply below_drew1 | refine below_set ?_ GE198.out) | exact HB.out))))
              (case aL => have := LMc27.out; omega)
              intro v209 w36 ho hb hg hat
              rw [← Ny208.out] at ho
              have n0_ := Aside0.mk (blk_grown (g := gb198) (o := .cells #[.int .i64 ((rd_T25 l1 x12_2).f0), .int .i64 ((rd_T25 l1 x12_2).f1), .int .i64 ((rd_T25 l1 x12_2).f2), .int .i64 ((rd_T25 l1 x12_2).f3), .int .i64 ((rd_T25 l1 x12_2).f4)] 25 (0, 0)) (by (with_reducible repeat (first | refine blk_drewN ?_ _ | refine blk_drew ?_ | refine blk_alloc ?_ _)); exact BK198.out) hg (Kd.R_ne HO_11.out BK198.out (by decide))); have n1_ := Aside0.mk (hb); have n2_ := Aside0.mk (ho); clear BK198 HB HO_11; have BK198 := n0_; have HB := n1_; have HO210 := n2_; clear n0_ n1_ n2_ ho hb hg hat
              refine hK.out _ _ ⟨(blk_cell BK198.out 0).trans rfl, (blk_cell BK198.out 1).trans rfl, (blk_cell BK198.out 2).trans rfl, (blk_cell BK198.out 3).trans rfl, (blk_cell BK198.out 4).trans rfl, ((HB.out.cell (World.block_lt_of_cell? w _ hw205_0)).trans hw205_0), ((HB.out.cell (World.block_lt_of_cell? w _ hw205_1)).trans hw205_1), ((HB.out.cell (World.block_lt_of_cell? w _ hw205_2)).trans hw205_2), ((HB.out.cell (World.block_lt_of_cell? w _ hw205_3)).trans hw205_3), ((HB.out.cell (World.block_lt_of_cell? w _ hw205_4)).trans hw205_4), ((HB.out.cell (World.block_lt_of_cell? w _ hw205_5)).trans hw205_5), ((HB.out.cell (World.block_lt_of_cell? w _ hw205_6)).trans hw205_6)⟩ (fun hHeld => ?_)
              clear hK K
              refine norm_ (a' := ?_) ?_ ?_
              rotate_left
              ·show Act.put _ (some 75) _ = _
               simp only [Act.put, List.setIfInBounds_toArray, List.set_cons_zero, List.set_cons_succ, i64_w, i32_w]
               rfl
              refine pure_ (i := 14) (N := some 11) (v := ?_) (a' := ?_) #[true, true, true, true, true, true, true, true, true, true, true, true, true, true, true] rfl rfl (any_of HT_.out (by kernel_rfl)) (fun _ _ _ h => h) (Or.inl ⟨by rfl, ?_⟩) ?_ ?_
              rotate_left
              ·intro w'
               go_simp
               with_reducible rfl
              rotate_left
              ·simp only [Act.put, List.setIfInBounds_toArray, List.set_cons_zero, List.set_cons_succ, i64_w, i32_w]
               rfl
              refine done_ (done_of HT_.out (by kernel_rfl)) ?_
              try go_wp2
              go_roundg k2
              case measure => have := HJ4.out; have := HK2.out; omega
              case rel => exact ⟨(y208), (wrap64 (x12_2 + 1)), (by first | rfl | (simp; done) | (simp [*]; done)), H', ⟨by have := HJ4.out; have := HK2.out; omega⟩, ⟨by (with_reducible repeat (first | apply Kd.R_alloc | apply Kd.R_drewN | apply Kd.R_drew)); exact HO210.out⟩, ⟨by repeat (first | (with_reducible first | exact HB.out | apply below_alloc | apply pw_below_drewN | apply below_drew1 | refine below_set ?_ GE198.out) | exact HB.out)⟩⟩
             ·rw [if_neg c27] at H
              exact absurd H (by simp)
            ·replace c24 := Bool.eq_false_iff.mpr c24
             subst c24
             have H1 : (some (([] : List Int), x12_2, 19)) = some (r1, r2, r3) := by rw [if_neg (show ¬ (false = true) by decide)] at H; exact H
             clear H; have H := H1; clear H1
             simp only [Option.some.injEq, Prod.mk.injEq] at H
             obtain ⟨rfl, rfl, rfl⟩ := H
             have p197 : 0 ≤ (x12_2 : Int) := of_decide_eq_true (by first | (with_reducible assumption) | assumption)
             have q197 : x12_2 < (l1.length : Int) := of_decide_eq_true (by first | (with_reducible assumption) | assumption)
             obtain ⟨ad197, e197, hx197_0, hx197_1, hx197_2, hx197_3, hx197_4⟩ := at_T25 HR1.out x12_2 p197 q197
             cases e197
             replace hx197_0 := (HB.out.cell (World.block_lt_of_cell? w _ hx197_0)).trans hx197_0
             replace hx197_1 := (HB.out.cell (World.block_lt_of_cell? w _ hx197_1)).trans hx197_1
             replace hx197_2 := (HB.out.cell (World.block_lt_of_cell? w _ hx197_2)).trans hx197_2
             replace hx197_3 := (HB.out.cell (World.block_lt_of_cell? w _ hx197_3)).trans hx197_3
             replace hx197_4 := (HB.out.cell (World.block_lt_of_cell? w _ hx197_4)).trans hx197_4
             replace p197 := eq_true p197
             replace q197 := eq_true q197
             try go_wp2_with (first | ((with_reducible refine gate_dst (N := 13) rfl ?_); refine box_event ?hg (N := 13) ?hd (cs := #[.int .i64 0, .int .i64 0, .int .i64 0, .int .i64 0, .int .i64 0]) (t := 25) ?hr ?_; (case hd => rfl); (case hg => rfl); (case hr => first | (go_simp; done) | (go_simp; rfl)); intro gb198 hg w37 hbox hb; have n0_ := Aside0.mk (Kd.R_below (by (with_reducible repeat (first | apply Kd.R_alloc | apply Kd.R_drewN | apply Kd.R_drew)); exact HO_11.out) hb); have n1_ := Aside0.mk (below_step (by repeat (first | (with_reducible first | exact HB.out | apply below_alloc | apply pw_below_drewN | apply below_drew1) | exact HB.out)) hb); have n2_ := Aside0.mk (hbox); have n3_ := Aside0.mk ((by rw [hg]; exact (below_size (by repeat (first | (with_reducible first | exact HB.out | apply below_alloc | apply pw_below_drewN | apply below_drew1) | exact HB.out))) : w.heap.size ≤ gb198)); have n4_ := Aside0.mk ((by rw [hg]; exact (below_size (by repeat (first | (with_reducible first | exact HB.out | apply below_alloc | apply pw_below_drewN | apply below_drew1) | exact HB.out))) : w.heap.size ≤ gb198)); clear HO_11; clear HB; have HO_11 := n0_; have HB := n1_; have BK198 := n2_; have GW198 := n3_; have GE198 := n4_; clear n0_ n1_ n2_ n3_ n4_; clear hb hbox hg; have hcz38_0 : w37.cell? ⟨gb198, 0, none⟩ = some (.int .i64 0) := (blk_cell BK198.out 0).trans rfl; have hcz38_1 : w37.cell? ⟨gb198, 1, none⟩ = some (.int .i64 0) := (blk_cell BK198.out 1).trans rfl; have hcz38_2 : w37.cell? ⟨gb198, 2, none⟩ = some (.int .i64 0) := (blk_cell BK198.out 2).trans rfl; have hcz38_3 : w37.cell? ⟨gb198, 3, none⟩ = some (.int .i64 0) := (blk_cell BK198.out 3).trans rfl; have hcz38_4 : w37.cell? ⟨gb198, 4, none⟩ = some (.int .i64 0) := (blk_cell BK198.out 4).trans rfl; have hfz38_0 := blk_frozen BK198.out 0; have hfz38_1 := blk_frozen BK198.out 1; have hfz38_2 := blk_frozen BK198.out 2; have hfz38_3 := blk_frozen BK198.out 3; have hfz38_4 := blk_frozen BK198.out 4) | ((with_reducible refine gate_callee (f := 36) rfl ?_); refine goesL_ (some 50) rfl rfl Try.func36 (by kernel_rfl) rfl #[.slice A0 l0.length c0, .int .i64 ((rd_T25 l1 x12_2).f4)] rfl (by (try simp only [List.map_toArray, List.map_cons, List.map_nil]); first | done | rfl | (simp only [List.length_drop, List.length_take]; rfl)) ?_; (with_reducible refine (spileref47_find.calls k2 _ _ l0 ((rd_T25 l1 x12_2).f4) t202 _ ?side1 ?side2 A17.out).mono ?_); (case side1 => exact Kd.C_below HR0.out (by repeat (first | (with_reducible first | exact HB.out | apply below_alloc | apply pw_below_drewN | apply below_drew1 | refine below_set ?_ GE198.out) | exact HB.out))); (case side2 => exact HC0.out); rintro e w' ⟨rfl, ⟨nd, rfl⟩⟩; refine ⟨_, rfl, ?_⟩))
             have n0_ : Aside0 (Kd.R (Kd.int .i64) 3 (((((w37.setCell ⟨gb198, 0, none⟩ (.int .i64 ((rd_T25 l1 x12_2).f0))).setCell ⟨gb198, 1, none⟩ (.int .i64 ((rd_T25 l1 x12_2).f1))).setCell ⟨gb198, 2, none⟩ (.int .i64 ((rd_T25 l1 x12_2).f2))).setCell ⟨gb198, 3, none⟩ (.int .i64 ((rd_T25 l1 x12_2).f3))).setCell ⟨gb198, 4, none⟩ (.int .i64 ((rd_T25 l1 x12_2).f4))) w.heap.size (fun _ => True) u11 x11_2) := ⟨by (with_reducible repeat (first | apply Kd.R_alloc | apply Kd.R_drewN | apply Kd.R_drew)); exact Kd.R_mono (Kd.R_far (p := ⟨gb198, 4, none⟩) (Kd.R_far (p := ⟨gb198, 3, none⟩) (Kd.R_far (p := ⟨gb198, 2, none⟩) (Kd.R_far (p := ⟨gb198, 1, none⟩) (Kd.R_far (p := ⟨gb198, 0, none⟩) (Kd.R_types HO_11.out BK198.out (by decide)) (fun _ hk => hk.2) (.int .i64 ((rd_T25 l1 x12_2).f0))) (fun _ hk => hk.2) (.int .i64 ((rd_T25 l1 x12_2).f1))) (fun _ hk => hk.2) (.int .i64 ((rd_T25 l1 x12_2).f2))) (fun _ hk => hk.2) (.int .i64 ((rd_T25 l1 x12_2).f3))) (fun _ hk => hk.2) (.int .i64 ((rd_T25 l1 x12_2).f4))) (fun _ hk => trivial)⟩
             have n1_ : Aside0 ((((((w37.setCell ⟨gb198, 0, none⟩ (.int .i64 ((rd_T25 l1 x12_2).f0))).setCell ⟨gb198, 1, none⟩ (.int .i64 ((rd_T25 l1 x12_2).f1))).setCell ⟨gb198, 2, none⟩ (.int .i64 ((rd_T25 l1 x12_2).f2))).setCell ⟨gb198, 3, none⟩ (.int .i64 ((rd_T25 l1 x12_2).f3))).setCell ⟨gb198, 4, none⟩ (.int .i64 ((rd_T25 l1 x12_2).f4))).heap[gb198]? = some (.cells #[.int .i64 ((rd_T25 l1 x12_2).f0), .int .i64 ((rd_T25 l1 x12_2).f1), .int .i64 ((rd_T25 l1 x12_2).f2), .int .i64 ((rd_T25 l1 x12_2).f3), .int .i64 ((rd_T25 l1 x12_2).f4)] 25 (0, 0))) := ⟨by (with_reducible repeat (first | refine blk_drewN ?_ _ | refine blk_drew ?_ | refine blk_alloc ?_ _)); refine blk_put (cs := #[.int .i64 ((rd_T25 l1 x12_2).f0), .int .i64 ((rd_T25 l1 x12_2).f1), .int .i64 ((rd_T25 l1 x12_2).f2), .int .i64 ((rd_T25 l1 x12_2).f3), .int .i64 0]) ?_ 4 _ rfl; (with_reducible repeat (first | refine blk_drewN ?_ _ | refine blk_drew ?_ | refine blk_alloc ?_ _)); refine blk_put (cs := #[.int .i64 ((rd_T25 l1 x12_2).f0), .int .i64 ((rd_T25 l1 x12_2).f1), .int .i64 ((rd_T25 l1 x12_2).f2), .int .i64 0, .int .i64 0]) ?_ 3 _ rfl; (with_reducible repeat (first | refine blk_drewN ?_ _ | refine blk_drew ?_ | refine blk_alloc ?_ _)); refine blk_put (cs := #[.int .i64 ((rd_T25 l1 x12_2).f0), .int .i64 ((rd_T25 l1 x12_2).f1), .int .i64 0, .int .i64 0, .int .i64 0]) ?_ 2 _ rfl; (with_reducible repeat (first | refine blk_drewN ?_ _ | refine blk_drew ?_ | refine blk_alloc ?_ _)); refine blk_put (cs := #[.int .i64 ((rd_T25 l1 x12_2).f0), .int .i64 0, .int .i64 0, .int .i64 0, .int .i64 0]) ?_ 1 _ rfl; (with_reducible repeat (first | refine blk_drewN ?_ _ | refine blk_drew ?_ | refine blk_alloc ?_ _)); refine blk_put (cs := #[.int .i64 0, .int .i64 0, .int .i64 0, .int .i64 0, .int .i64 0]) ?_ 0 _ rfl; (with_reducible repeat (first | refine blk_drewN ?_ _ | refine blk_drew ?_ | refine blk_alloc ?_ _)); exact BK198.out⟩
             have n2_ : Aside0 (Below w.heap.size w (((((w37.setCell ⟨gb198, 0, none⟩ (.int .i64 ((rd_T25 l1 x12_2).f0))).setCell ⟨gb198, 1, none⟩ (.int .i64 ((rd_T25 l1 x12_2).f1))).setCell ⟨gb198, 2, none⟩ (.int .i64 ((rd_T25 l1 x12_2).f2))).setCell ⟨gb198, 3, none⟩ (.int .i64 ((rd_T25 l1 x12_2).f3))).setCell ⟨gb198, 4, none⟩ (.int .i64 ((rd_T25 l1 x12_2).f4)))) := ⟨by repeat (first | (with_reducible first | exact HB.out | apply below_alloc | apply pw_below_drewN | apply below_drew1 | refine below_set ?_ GE198.out) | exact HB.out)⟩
             (try clear HO_11); (try clear BK198); (try clear HB)
             generalize (((((w37.setCell ⟨gb198, 0, none⟩ (.int .i64 ((rd_T25 l1 x12_2).f0))).setCell ⟨gb198, 1, none⟩ (.int .i64 ((rd_T25 l1 x12_2).f1))).setCell ⟨gb198, 2, none⟩ (.int .i64 ((rd_T25 l1 x12_2).f2))).setCell ⟨gb198, 3, none⟩ (.int .i64 ((rd_T25 l1 x12_2).f3))).setCell ⟨gb198, 4, none⟩ (.int .i64 ((rd_T25 l1 x12_2).f4))) = w39 at n0_ n1_ n2_ ⊢
             have HO_11 := n0_; have BK198 := n1_; have HB := n2_; clear n0_ n1_ n2_
             (try (rw [drewN_self w39]; generalize hq_ : World.drewN w39 _ = w39; have n0_ : Aside0 (Kd.R (Kd.int .i64) 3 w39 w.heap.size (fun _ => True) u11 x11_2) := ⟨by rw [← hq_]; exact (by (with_reducible repeat (first | apply Kd.R_alloc | apply Kd.R_drewN | apply Kd.R_drew)); exact HO_11.out)⟩; have n1_ : Aside0 (w39.heap[gb198]? = some (.cells #[.int .i64 ((rd_T25 l1 x12_2).f0), .int .i64 ((rd_T25 l1 x12_2).f1), .int .i64 ((rd_T25 l1 x12_2).f2), .int .i64 ((rd_T25 l1 x12_2).f3), .int .i64 ((rd_T25 l1 x12_2).f4)] 25 (0, 0))) := ⟨by rw [← hq_]; exact (by (with_reducible repeat (first | refine blk_drewN ?_ _ | refine blk_drew ?_ | refine blk_alloc ?_ _)); exact BK198.out)⟩; have n2_ : Aside0 (Below w.heap.size w w39) := ⟨by rw [← hq_]; exact (by repeat (first | (with_reducible first | exact HB.out | apply below_alloc | apply pw_below_drewN | apply below_drew1 | refine below_set ?_ GE198.out) | exact HB.out))⟩; clear HO_11 BK198 HB hq_; have HO_11 := n0_; have BK198 := n1_; have HB := n2_; clear n0_ n1_ n2_))
             have n0_ := Aside0.mk (Kd.R_drew HO_11.out); have n1_ := Aside0.mk (blk_drew BK198.out); have n2_ := Aside0.mk (below_drew1 HB.out); clear HO_11 BK198 HB; have HO_11 := n0_; have BK198 := n1_; have HB := n2_; clear n0_ n1_ n2_
             have p203 : 0 ≤ (t202 : Int) := of_decide_eq_true (by first | (with_reducible assumption) | assumption)
             have q203 : t202 < (l0.length : Int) := of_decide_eq_true (by first | (with_reducible assumption) | assumption)
             obtain ⟨ad203, e203, hx203_0, hx203_1, hx203_2, hx203_3, hx203_4, hx203_5, hx203_6⟩ := at_T33 HR0.out t202 p203 q203
             have hw203_6 := hx203_6; have hw203_5 := hx203_5; have hw203_4 := hx203_4; have hw203_3 := hx203_3; have hw203_2 := hx203_2; have hw203_1 := hx203_1; have hw203_0 := hx203_0
             cases e203
             replace hx203_0 := (HB.out.cell (World.block_lt_of_cell? w _ hx203_0)).trans hx203_0
             replace hx203_1 := (HB.out.cell (World.block_lt_of_cell? w _ hx203_1)).trans hx203_1
             replace hx203_2 := (HB.out.cell (World.block_lt_of_cell? w _ hx203_2)).trans hx203_2
             replace hx203_3 := (HB.out.cell (World.block_lt_of_cell? w _ hx203_3)).trans hx203_3
             replace hx203_4 := (HB.out.cell (World.block_lt_of_cell? w _ hx203_4)).trans hx203_4
             replace hx203_5 := (HB.out.cell (World.block_lt_of_cell? w _ hx203_5)).trans hx203_5
             replace hx203_6 := (HB.out.cell (World.block_lt_of_cell? w _ hx203_6)).trans hx203_6
             replace p203 := eq_true p203
             replace q203 := eq_true q203
             refine start_ (n := 7) (S := fun w' => w'.cell? ⟨gb198, 0, none⟩ = some (.int .i64 ((rd_T25 l1 x12_2).f0)) ∧ w'.cell? ⟨gb198, 1, none⟩ = some (.int .i64 ((rd_T25 l1 x12_2).f1)) ∧ w'.cell? ⟨gb198, 2, none⟩ = some (.int .i64 ((rd_T25 l1 x12_2).f2)) ∧ w'.cell? ⟨gb198, 3, none⟩ = some (.int .i64 ((rd_T25 l1 x12_2).f3)) ∧ w'.cell? ⟨gb198, 4, none⟩ = some (.int .i64 ((rd_T25 l1 x12_2).f4)) ∧ w'.cell? (ad203.add ((t202).toNat * 7)) = some (.int .i64 ((rd_T33 l0 t202).f0)) ∧ w'.cell? ⟨(ad203.add ((t202).toNat * 7)).block, (ad203.add ((t202).toNat * 7)).off + 1, none⟩ = some (.string ((rd_T33 l0 t202).f1)) ∧ w'.cell? ⟨(ad203.add ((t202).toNat * 7)).block, (ad203.add ((t202).toNat * 7)).off + 2, none⟩ = some (.int .i64 ((rd_T33 l0 t202).f2)) ∧ w'.cell? ⟨(ad203.add ((t202).toNat * 7)).block, (ad203.add ((t202).toNat * 7)).off + 3, none⟩ = some (.int .i64 ((rd_T33 l0 t202).f3)) ∧ w'.cell? ⟨(ad203.add ((t202).toNat * 7)).block, (ad203.add ((t202).toNat * 7)).off + 4, none⟩ = some (.int .i64 ((rd_T33 l0 t202).f4)) ∧ w'.cell? ⟨(ad203.add ((t202).toNat * 7)).block, (ad203.add ((t202).toNat * 7)).off + 5, none⟩ = some (.int .i64 ((rd_T33 l0 t202).f5)) ∧ w'.cell? ⟨(ad203.add ((t202).toNat * 7)).block, (ad203.add ((t202).toNat * 7)).off + 6, none⟩ = some (.int .i64 ((rd_T33 l0 t202).f6))) (ds := []) #[false, false, false, false, false, false, false] (by kernel_rfl) rfl rfl ⟨(blk_cell BK198.out 0).trans rfl, (blk_cell BK198.out 1).trans rfl, (blk_cell BK198.out 2).trans rfl, (blk_cell BK198.out 3).trans rfl, (blk_cell BK198.out 4).trans rfl, ((HB.out.cell (World.block_lt_of_cell? w _ hw203_0)).trans hw203_0), ((HB.out.cell (World.block_lt_of_cell? w _ hw203_1)).trans hw203_1), ((HB.out.cell (World.block_lt_of_cell? w _ hw203_2)).trans hw203_2), ((HB.out.cell (World.block_lt_of_cell? w _ hw203_3)).trans hw203_3), ((HB.out.cell (World.block_lt_of_cell? w _ hw203_4)).trans hw203_4), ((HB.out.cell (World.block_lt_of_cell? w _ hw203_5)).trans hw203_5), ((HB.out.cell (World.block_lt_of_cell? w _ hw203_6)).trans hw203_6)⟩ (fun hHeld => ?_)
             generalize w39.drew = w40 at HO_11 BK198 HB hx203_0 hx203_1 hx203_2 hx203_3 hx203_4 hx203_5 hx203_6 hHeld ⊢
             refine pure_ (i := 0) (N := some 54) (v := ?_) (a' := ?_) #[true, false, false, false, false, false, false] rfl rfl (by kernel_rfl) (fun _ _ _ h => h) (Or.inl ⟨by rfl, ?_⟩) ?_ ?_
             rotate_left
             ·intro w'
              go_simp
              with_reducible rfl
             rotate_left
             ·simp only [Act.put, List.setIfInBounds_toArray, List.set_cons_zero, List.set_cons_succ, i64_w, i32_w]
              rfl
             refine pure_ (i := 1) (N := some 55) (v := ?_) (a' := ?_) #[true, true, false, false, false, false, false] rfl rfl (by kernel_rfl) (fun _ _ _ h => h) (Or.inl ⟨by rfl, ?_⟩) ?_ ?_
             rotate_left
             ·intro w'
              go_simp
              with_reducible rfl
             rotate_left
             ·simp only [Act.put, List.setIfInBounds_toArray, List.set_cons_zero, List.set_cons_succ, i64_w, i32_w]
              rfl
             refine pure_ (i := 2) (N := some 56) (v := ?_) (a' := ?_) #[true, true, true, false, false, false, false] rfl rfl (by kernel_rfl) (fun _ _ _ h => h) (Or.inl ⟨by rfl, ?_⟩) ?_ ?_
             rotate_left
             ·intro w'
              go_simp
              with_reducible rfl
             rotate_left
             ·simp only [Act.put, List.setIfInBounds_toArray, List.set_cons_zero, List.set_cons_succ, i64_w, i32_w]
              rfl
             refine take_ (i := 3) (N := some 57) (v := ?_) (a' := ?_) #[true, true, true, true, false, false, false] rfl rfl (by kernel_rfl) (fun _ _ _ h => h) (Or.inl ⟨by rfl, ?_⟩) hHeld ?_ ?_
             rotate_left
             ·rintro w' ⟨s0, s1, s2, s3, s4, s5, s6, s7, s8, s9, s10, s11⟩
              go_simp
              with_reducible rfl
             rotate_left
             ·simp only [Act.put, List.setIfInBounds_toArray, List.set_cons_zero, List.set_cons_succ, i64_w, i32_w]
              rfl
             refine take_ (i := 4) (N := some 58) (v := ?_) (a' := ?_) #[true, true, true, true, true, false, false] rfl rfl (by kernel_rfl) (fun _ _ _ h => h) (Or.inl ⟨by rfl, ?_⟩) hHeld ?_ ?_
             rotate_left
             ·rintro w' ⟨s0, s1, s2, s3, s4, s5, s6, s7, s8, s9, s10, s11⟩
              go_simp
              with_reducible rfl
             rotate_left
             ·simp only [Act.put, List.setIfInBounds_toArray, List.set_cons_zero, List.set_cons_succ, i64_w, i32_w]
              rfl
             refine one_ (i := 5) (N := some 59) #[true, true, true, true, true, true, false] rfl rfl (by kernel_rfl) (by decide) (fun K hK => ?_)
             refine goes_ Try.func21 (by kernel_rfl) rfl #[.agg #[.int .i64 ((rd_T33 l0 t202).f0), .string ((rd_T33 l0 t202).f1), .int .i64 ((rd_T33 l0 t202).f2), .int .i64 ((rd_T33 l0 t202).f3), .int .i64 ((rd_T33 l0 t202).f4), .int .i64 ((rd_T33 l0 t202).f5), .int .i64 ((rd_T33 l0 t202).f6)], .agg #[.int .i64 ((rd_T25 l1 x12_2).f0), .int .i64 ((rd_T25 l1 x12_2).f1), .int .i64 ((rd_T25 l1 x12_2).f2), .int .i64 ((rd_T25 l1 x12_2).f3), .int .i64 ((rd_T25 l1 x12_2).f4)]] (by rfl) rfl rfl (by (try simp only [List.map_toArray, List.map_cons, List.map_nil]); first | done | rfl | (simp only [List.length_drop, List.length_take]; rfl)) ?_
             with_reducible refine (spileref47_Applies.calls ((rd_T33 l0 t202).f0) ((rd_T33 l0 t202).f1) ((rd_T33 l0 t202).f2) ((rd_T33 l0 t202).f3) ((rd_T33 l0 t202).f4) ((rd_T33 l0 t202).f5) ((rd_T33 l0 t202).f6) ((rd_T25 l1 x12_2).f0) ((rd_T25 l1 x12_2).f1) ((rd_T25 l1 x12_2).f2) ((rd_T25 l1 x12_2).f3) ((rd_T25 l1 x12_2).f4) false _ A23.out).mono ?_
             rintro e w41 ⟨rfl, hb⟩
             refine ⟨_, rfl, ?_⟩
             have n0_ := Aside0.mk (Kd.R_below (by (with_reducible repeat (first | apply Kd.R_alloc | apply Kd.R_drewN | apply Kd.R_drew)); exact HO_11.out) hb); have n1_ := Aside0.mk (blk_below (g := gb198) (o := .cells #[.int .i64 ((rd_T25 l1 x12_2).f0), .int .i64 ((rd_T25 l1 x12_2).f1), .int .i64 ((rd_T25 l1 x12_2).f2), .int .i64 ((rd_T25 l1 x12_2).f3), .int .i64 ((rd_T25 l1 x12_2).f4)] 25 (0, 0)) (by (with_reducible repeat (first | refine blk_drewN ?_ _ | refine blk_drew ?_ | refine blk_alloc ?_ _)); exact BK198.out) hb); have n2_ := Aside0.mk (below_step (by repeat (first | (with_reducible first | exact HB.out | apply below_alloc | apply pw_below_drewN | apply below_drew1 | refine below_set ?_ GE198.out) | exact HB.out)) hb); clear HO_11 BK198 HB; have HO_11 := n0_; have BK198 := n1_; have HB := n2_; clear n0_ n1_ n2_; (try clear hb); (try clear hb2); (try clear hk); (try clear hi)
             refine hK.out _ _ ⟨(blk_cell BK198.out 0).trans rfl, (blk_cell BK198.out 1).trans rfl, (blk_cell BK198.out 2).trans rfl, (blk_cell BK198.out 3).trans rfl, (blk_cell BK198.out 4).trans rfl, ((HB.out.cell (World.block_lt_of_cell? w _ hw203_0)).trans hw203_0), ((HB.out.cell (World.block_lt_of_cell? w _ hw203_1)).trans hw203_1), ((HB.out.cell (World.block_lt_of_cell? w _ hw203_2)).trans hw203_2), ((HB.out.cell (World.block_lt_of_cell? w _ hw203_3)).trans hw203_3), ((HB.out.cell (World.block_lt_of_cell? w _ hw203_4)).trans hw203_4), ((HB.out.cell (World.block_lt_of_cell? w _ hw203_5)).trans hw203_5), ((HB.out.cell (World.block_lt_of_cell? w _ hw203_6)).trans hw203_6)⟩ (fun hHeld => ?_)
             clear hK K
             refine norm_ (a' := ?_) ?_ ?_
             rotate_left
             ·show Act.put _ (some 59) _ = _
              simp only [Act.put, List.setIfInBounds_toArray, List.set_cons_zero, List.set_cons_succ, i64_w, i32_w]
              rfl
             refine pure_ (i := 6) (N := some 60) (v := ?_) (a' := ?_) #[true, true, true, true, true, true, true] rfl rfl (by kernel_rfl) (fun _ _ _ h => h) (Or.inl ⟨by rfl, ?_⟩) ?_ ?_
             rotate_left
             ·intro w'
              go_simp
              with_reducible rfl
             rotate_left
             ·simp only [Act.put, List.setIfInBounds_toArray, List.set_cons_zero, List.set_cons_succ, i64_w, i32_w]
              rfl
             refine done_ (by kernel_rfl) ?_
             try go_wp2
             go_ret3
             exact ⟨_, by first | rfl | (simp [errW_none, errW_some] <;> rfl) | (simp [*, errW_none, errW_some] <;> rfl), by first | exact Kd.R_nil _ _ _ _ _ | exact Kd.N_nil _ _ _ _ _ | exact Kd.V_nil _ _ _ _ _ | exact Kd.Q_nil _ _ _ _ _ | exact Kd.S_nil _ _ _ _ _, by repeat (first | (with_reducible first | exact HB.out | apply below_alloc | apply pw_below_drewN | apply below_drew1 | refine below_set ?_ GE198.out) | exact HB.out)⟩
           ·rw [if_neg c22] at H
            exact absurd H (by simp)
          ·rw [if_neg c21] at H
           exact absurd H (by simp)
       ·rw [if_neg c11] at H
        exact absurd H (by simp)
      ·rw [if_neg c10] at H
       have c10b0 : decide (x12_2 < (l1.length : Int)) = false := decide_eq_false c10
       clear c10
       simp only [Option.some.injEq, Prod.mk.injEq] at H
       obtain ⟨rfl, rfl, rfl⟩ := H
       go_wp2
       go_ret3
       exact ⟨_, by first | rfl | (simp [errW_none, errW_some] <;> rfl) | (simp [*, errW_none, errW_some] <;> rfl), by (with_reducible repeat (first | apply Kd.R_alloc | apply Kd.R_drewN | apply Kd.R_drew)); exact HO_11.out, by repeat (first | (with_reducible first | exact HB.out | apply below_alloc | apply pw_below_drewN | apply below_drew1) | exact HB.out)⟩
end Go.Proofs.Ytccocolcgdiglaa.X
