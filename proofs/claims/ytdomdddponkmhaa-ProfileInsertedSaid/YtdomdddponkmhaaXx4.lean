-- Written by a program of this work, over the kit's print of the translation. Not trusted: Lean checks it.
import Derived.Test.YtdomdddponkmhaaXx0
import Derived.Test.YtdomdddponkmhaaChk8
import Derived.Test.YtdomdddponkmhaaPc8
namespace Go.Proofs.Ytdomdddponkmhaa.X
open Go.RowKit Go.Proofs.YtdomdddponkmhaaW.PrintWords Go.Proofs.YtdomdddponkmhaaW.PrintLast Go.Proofs.YtdomdddponkmhaaW.PrintMore
attribute [local go_sem] max2_int min2_int max_two min_two max_three min_three max_four min_four   -- for this text's walks alone
set_option linter.unusedVariables false
set_option linter.unusedSimpArgs false
attribute [local go_sem] fld33_0

/-! ### profile_Length: function 11 -/
def profile_Length.f (l0 : List (S30)) : Option (Int × Int) := (profile_Check.f l0).bind fun t101 => (if t101 = 0 then ((profile_length.f l0).bind fun t102 => (some (t102, 0))) else (some (0, t101)))
set_option maxHeartbeats 8000000 in
set_option maxRecDepth 100000 in
theorem profile_Length.calls (A0 : Option Addr) (c0 : Nat) (l0 : List (S30)) (r1 : Int) (r2 : Int) (w : World) (hr0 : Kd.C k30 w A0 l0.length l0) (hc0 : l0.length ≤ c0) (h : profile_Length.f l0 = some (r1, r2)) :
    Calls Try.prog 11 #[.slice A0 l0.length c0] w fun e w' => e = .returned (.tuple #[.int .i64 r1, .int .i64 r2]) ∧ Below w.heap.size w w' := by
  have HR0 := Aside0.mk hr0
  have HC0 := Aside0.mk hc0
  clear hr0 hc0
  have HB := Aside0.mk (Below.refl w.heap.size w)
  have H : ((profile_Check.f l0).bind fun t101 => (if t101 = 0 then ((profile_length.f l0).bind fun t102 => (some (t102, 0))) else (some (0, t101)))) = some (r1, r2) := h
  clear h
  replace H := Option.bind_eq_some_iff.mp H
  obtain ⟨t101, A20, H⟩ := H
  replace H : (if t101 = 0 then ((profile_length.f l0).bind fun t102 => (some (t102, 0))) else (some (0, t101))) = some (r1, r2) := H
  have A2 := Aside0.mk A20
  clear A20
  by_cases c3 : t101 = 0
  · rw [if_pos c3] at H
    have c3b0 : (t101 == 0) = true := beq_iff_eq.mpr c3
    have c3b1 : (t101 != 0) = false := bne_eq_false_iff_eq.mpr c3
    clear c3
    replace H := Option.bind_eq_some_iff.mp H
    obtain ⟨t102, A40, H⟩ := H
    replace H : (some (t102, 0)) = some (r1, r2) := H
    have A4 := Aside0.mk A40
    clear A40
    simp only [Option.some.injEq, Prod.mk.injEq] at H
    obtain ⟨rfl, rfl⟩ := H
    go_enter Try.func11, Try.ntmps11
    go_wp2_with (first | ((with_reducible refine gate_callee (f := 16) rfl ?_); refine goesL_ (some 6) rfl rfl Try.func16 (by kernel_rfl) rfl #[.slice A0 l0.length c0] rfl (by (try simp only [List.map_toArray, List.map_cons, List.map_nil]); first | done | rfl | (simp only [List.length_drop, List.length_take]; rfl)) ?_; (with_reducible refine (profile_Check.calls _ _ l0 t101 _ ?side1 ?side2 A2.out).mono ?_); (case side1 => repeat (first | exact HR0.out | (with_reducible refine Kd.C_alloc ?_ _) | (with_reducible refine Kd.C_drewN ?_ _) | (with_reducible refine Kd.C_drew ?_))); (case side2 => exact HC0.out); rintro e w5 ⟨rfl, hb⟩; refine ⟨_, rfl, ?_⟩; have n0_ := Aside0.mk (below_step (by repeat (first | (with_reducible first | exact HB.out | apply below_alloc | apply pw_below_drewN | apply below_drew1) | exact HB.out)) hb); clear HB; have HB := n0_; clear n0_; (try clear hb); (try clear hb2); (try clear hk); (try clear hi)) | ((with_reducible refine gate_callee (f := 28) rfl ?_); refine goesL_ (some 11) rfl rfl Try.func28 (by kernel_rfl) rfl #[.slice A0 l0.length c0] rfl (by (try simp only [List.map_toArray, List.map_cons, List.map_nil]); first | done | rfl | (simp only [List.length_drop, List.length_take]; rfl)) ?_; (with_reducible refine (profile_length.calls _ _ l0 t102 _ ?side1 ?side2 A4.out).mono ?_); (case side1 => repeat (first | exact (Kd.C_below HR0.out HB.out) | (with_reducible refine Kd.C_alloc ?_ _) | (with_reducible refine Kd.C_drewN ?_ _) | (with_reducible refine Kd.C_drew ?_))); (case side2 => exact HC0.out); rintro e w' ⟨rfl, ⟨nd, rfl⟩⟩; refine ⟨_, rfl, ?_⟩))
    go_ret2
    exact ⟨by first | rfl | (simp [errW_none, errW_some] <;> rfl) | (simp [*, errW_none, errW_some] <;> rfl), by repeat (first | (with_reducible first | exact HB.out | apply below_alloc | apply pw_below_drewN | apply below_drew1) | exact HB.out)⟩
  · rw [if_neg c3] at H
    have c3b0 : (t101 == 0) = false := beq_eq_false_iff_ne.mpr c3
    have c3b1 : (t101 != 0) = true := bne_iff_ne.mpr c3
    simp only [Option.some.injEq, Prod.mk.injEq] at H
    obtain ⟨rfl, rfl⟩ := H
    go_enter Try.func11, Try.ntmps11
    go_wp2_with (first | ((with_reducible refine gate_callee (f := 16) rfl ?_); refine goesL_ (some 6) rfl rfl Try.func16 (by kernel_rfl) rfl #[.slice A0 l0.length c0] rfl (by (try simp only [List.map_toArray, List.map_cons, List.map_nil]); first | done | rfl | (simp only [List.length_drop, List.length_take]; rfl)) ?_; (with_reducible refine (profile_Check.calls _ _ l0 t101 _ ?side1 ?side2 A2.out).mono ?_); (case side1 => repeat (first | exact HR0.out | (with_reducible refine Kd.C_alloc ?_ _) | (with_reducible refine Kd.C_drewN ?_ _) | (with_reducible refine Kd.C_drew ?_))); (case side2 => exact HC0.out); rintro e w6 ⟨rfl, hb⟩; refine ⟨_, rfl, ?_⟩; have n0_ := Aside0.mk (below_step (by repeat (first | (with_reducible first | exact HB.out | apply below_alloc | apply pw_below_drewN | apply below_drew1) | exact HB.out)) hb); clear HB; have HB := n0_; clear n0_; (try clear hb); (try clear hb2); (try clear hk); (try clear hi)))
    go_ret2
    exact ⟨by first | rfl | (simp [errW_none, errW_some] <;> rfl) | (simp [*, errW_none, errW_some] <;> rfl), by repeat (first | (with_reducible first | exact HB.out | apply below_alloc | apply pw_below_drewN | apply below_drew1) | exact HB.out)⟩

/-! ### profile_Bung: function 14 -/
def profile_Bung.l0 : Nat → List (S30) → Int → List (S30) → Int → Int → Option (Int × Int)
  | 0, _, _, _, _, _ => none
  | k + 1, x0, x5, x13, x14, x15 => if x15 < x14 then (if 0 ≤ x15 then (if x15 < (x13.length : Int) then (if 0 ≤ x5 then (if x5 < (x0.length : Int) then (if ((rd_T30 x13 x15).f1) > ((rd_T30 x0 x5).f1) then (profile_Bung.l0 k x0 x15 x13 x14 (wrap64 (x15 + 1))) else (profile_Bung.l0 k x0 x5 x13 x14 (wrap64 (x15 + 1)))) else (none)) else (none)) else (none)) else (none)) else (some (x5, 0))
def profile_Bung.f (k : Nat) (l0 : List (S30)) : Option (Int × Int) := (profile_Check.f l0).bind fun t103 => (if t103 = 0 then (profile_Bung.l0 k l0 0 l0 (l0.length : Int) 0) else (some (0, t103)))
theorem profile_Bung.mono_l : ∀ k, (∀ y0 y1 y2 y3 y4, LeO (profile_Bung.l0 k y0 y1 y2 y3 y4) (profile_Bung.l0 (k + 1) y0 y1 y2 y3 y4))
  | 0 => fun _ _ _ _ _ r h => by simp [profile_Bung.l0] at h
  | k + 1 => by
    have ih0 := profile_Bung.mono_l k
    · intro y0 y1 y2 y3 y4
      unfold profile_Bung.l0
      repeat' first
      | (with_reducible exact ih0 _ _ _ _ _)
      | (with_reducible exact LeO.refl _)
      | (with_reducible exact LeO.none _)
      | (with_reducible refine LeO.ite ?_ ?_)
      | (with_reducible refine LeO.bind ?_ (fun _ => ?_))
      | exact ih0 _ _ _ _ _
      | exact LeO.none _
      | refine LeO.ite ?_ ?_
      | refine LeO.bind ?_ (fun _ => ?_)
theorem profile_Bung.mono : ∀ a0 k, LeO (profile_Bung.f k a0) (profile_Bung.f (k + 1) a0) := by
  intro a0 k
  have ih0 := profile_Bung.mono_l k
  unfold profile_Bung.f
  repeat' first
      | (with_reducible exact ih0 _ _ _ _ _)
      | (with_reducible exact LeO.refl _)
      | (with_reducible exact LeO.none _)
      | (with_reducible refine LeO.ite ?_ ?_)
      | (with_reducible refine LeO.bind ?_ (fun _ => ?_))
      | exact ih0 _ _ _ _ _
      | exact LeO.none _
      | refine LeO.ite ?_ ?_
      | refine LeO.bind ?_ (fun _ => ?_)
set_option maxHeartbeats 8000000 in
set_option maxRecDepth 100000 in
theorem profile_Bung.calls (k : Nat) (A0 : Option Addr) (c0 : Nat) (l0 : List (S30)) (r1 : Int) (r2 : Int) (w : World) (hr0 : Kd.C k30 w A0 l0.length l0) (hc0 : l0.length ≤ c0) (h : profile_Bung.f k l0 = some (r1, r2)) :
    Calls Try.prog 14 #[.slice A0 l0.length c0] w fun e w' => e = .returned (.tuple #[.int .i64 r1, .int .i64 r2]) ∧ Below w.heap.size w w' := by
  have hu30 := Try.underlying30
  have HR0 := Aside0.mk hr0
  have HC0 := Aside0.mk hc0
  clear hr0 hc0
  have HB := Aside0.mk (Below.refl w.heap.size w)
  have H : ((profile_Check.f l0).bind fun t103 => (if t103 = 0 then (profile_Bung.l0 k l0 0 l0 (l0.length : Int) 0) else (some (0, t103)))) = some (r1, r2) := h
  clear h
  replace H := Option.bind_eq_some_iff.mp H
  obtain ⟨t103, A20, H⟩ := H
  replace H : (if t103 = 0 then (profile_Bung.l0 k l0 0 l0 (l0.length : Int) 0) else (some (0, t103))) = some (r1, r2) := H
  have A2 := Aside0.mk A20
  clear A20
  by_cases c3 : t103 = 0
  · rw [if_pos c3] at H
    have c3b0 : (t103 == 0) = true := beq_iff_eq.mpr c3
    have c3b1 : (t103 != 0) = false := bne_eq_false_iff_eq.mpr c3
    clear c3
    have H' := Aside0.mk H
    clear H
    go_enter Try.func14, Try.ntmps14
    go_wp2_with (first | (go_at_call 16; (with_reducible refine (profile_Check.calls _ _ l0 t103 _ ?side1 ?side2 A2.out).mono ?_); (case side1 => repeat (first | exact HR0.out | (with_reducible refine Kd.C_alloc ?_ _) | (with_reducible refine Kd.C_drewN ?_ _) | (with_reducible refine Kd.C_drew ?_))); (case side2 => exact HC0.out); rintro e w4 ⟨rfl, hb⟩; have n0_ := Aside0.mk (below_step (by repeat (first | (with_reducible first | exact HB.out | apply below_alloc | apply pw_below_drewN | apply below_drew1) | exact HB.out)) hb); clear HB; have HB := n0_; clear n0_; (try clear hb); (try clear hb2); (try clear hk); (try clear hi)))
    repeat (go_quiet (first | (go_at_call 16; (with_reducible refine (profile_Check.calls _ _ l0 t103 _ ?side1 ?side2 A2.out).mono ?_); (case side1 => repeat (first | exact HR0.out | (with_reducible refine Kd.C_alloc ?_ _) | (with_reducible refine Kd.C_drewN ?_ _) | (with_reducible refine Kd.C_drew ?_))); (case side2 => exact HC0.out); rintro e w4 ⟨rfl, hb⟩; have n0_ := Aside0.mk (below_step (by repeat (first | (with_reducible first | exact HB.out | apply below_alloc | apply pw_below_drewN | apply below_drew1) | exact HB.out)) hb); clear HB; have HB := n0_; clear n0_; (try clear hb); (try clear hb2); (try clear hk); (try clear hi))); try go_wp2_with (first | (go_at_call 16; (with_reducible refine (profile_Check.calls _ _ l0 t103 _ ?side1 ?side2 A2.out).mono ?_); (case side1 => repeat (first | exact HR0.out | (with_reducible refine Kd.C_alloc ?_ _) | (with_reducible refine Kd.C_drewN ?_ _) | (with_reducible refine Kd.C_drew ?_))); (case side2 => exact HC0.out); rintro e w4 ⟨rfl, hb⟩; have n0_ := Aside0.mk (below_step (by repeat (first | (with_reducible first | exact HB.out | apply below_alloc | apply pw_below_drewN | apply below_drew1) | exact HB.out)) hb); clear HB; have HB := n0_; clear n0_; (try clear hb); (try clear hb2); (try clear hk); (try clear hi))))
    go_loopg [5, 15] k (fun kq v5 v15 w' => ∃ (x5_1 : Int) (x15_1 : Int), v5 = .int .i64 x5_1 ∧ v15 = .int .i64 x15_1 ∧ Aside0 (profile_Bung.l0 kq l0 x5_1 l0 (l0.length : Int) x15_1 = some (r1, r2)) ∧ Aside0 (kq ≤ k) ∧ Aside0 (Below w.heap.size w w'))
    case atStart => exact ⟨(0), (0), (by first | rfl | (simp; done) | (simp [*]; done)), (by first | rfl | (simp; done) | (simp [*]; done)), H', ⟨Nat.le_refl _⟩, ⟨by repeat (first | (with_reducible first | exact HB.out | apply below_alloc | apply pw_below_drewN | apply below_drew1) | exact HB.out)⟩⟩
    case round =>
      clear H'
      try clear c1
      try clear p2
      try clear c3
      try clear c3b0
      try clear c3b1
      obtain ⟨x5_1, x15_1, rfl, rfl, HA, HK1, HB⟩ := hrel
      cases gk with
      | zero => exact absurd HA.out (by simp [profile_Bung.l0])
      | succ k1 =>
        have H := HA.out
        clear HA
        simp only [profile_Bung.l0] at H
        by_cases c5 : x15_1 < (l0.length : Int)
        · rw [if_pos c5] at H
          have c5b0 : decide (x15_1 < (l0.length : Int)) = true := decide_eq_true c5
          clear c5
          by_cases c6 : 0 ≤ x15_1
          · rw [if_pos c6] at H
            have c6b0 : decide (0 ≤ x15_1) = true := decide_eq_true c6
            clear c6
            by_cases c7 : x15_1 < (l0.length : Int)
            · rw [if_pos c7] at H
              have c7b0 : decide (x15_1 < (l0.length : Int)) = true := decide_eq_true c7
              clear c7
              by_cases c8 : 0 ≤ x5_1
              · rw [if_pos c8] at H
                have c8b0 : decide (0 ≤ x5_1) = true := decide_eq_true c8
                clear c8
                by_cases c9 : x5_1 < (l0.length : Int)
                · rw [if_pos c9] at H
                  have c9b0 : decide (x5_1 < (l0.length : Int)) = true := decide_eq_true c9
                  clear c9
                  by_cases c10 : ((rd_T30 l0 x15_1).f1) > ((rd_T30 l0 x5_1).f1)
                  · rw [if_pos c10] at H
                    have c10b0 : decide (((rd_T30 l0 x5_1).f1) < ((rd_T30 l0 x15_1).f1)) = true := decide_eq_true c10
                    clear c10
                    have H' := Aside0.mk H
                    clear H
                    have p104 : 0 ≤ (x15_1 : Int) := of_decide_eq_true (by first | (with_reducible assumption) | assumption)
                    have q104 : x15_1 < (l0.length : Int) := of_decide_eq_true (by first | (with_reducible assumption) | assumption)
                    obtain ⟨ad104, e104, hx104_0, hx104_1⟩ := at_T30 HR0.out x15_1 p104 q104
                    cases e104
                    replace hx104_0 := (HB.out.cell (World.block_lt_of_cell? w _ hx104_0)).trans hx104_0
                    replace hx104_1 := (HB.out.cell (World.block_lt_of_cell? w _ hx104_1)).trans hx104_1
                    replace p104 := eq_true p104
                    replace q104 := eq_true q104
                    go_wp2_with (first | ((with_reducible refine gate_dst (N := 7) rfl ?_); refine box_event ?hg (N := 7) ?hd (cs := #[.int .i64 0, .int .i64 0]) (t := 30) ?hr ?_; (case hd => rfl); (case hg => rfl); (case hr => first | (go_simp; done) | (go_simp; rfl)); intro gb105 hg w11 hbox hb; have n0_ := Aside0.mk (below_step (by repeat (first | (with_reducible first | exact HB.out | apply below_alloc | apply pw_below_drewN | apply below_drew1) | exact HB.out)) hb); have n1_ := Aside0.mk (hbox); have n2_ := Aside0.mk ((by rw [hg]; exact (below_size (by repeat (first | (with_reducible first | exact HB.out | apply below_alloc | apply pw_below_drewN | apply below_drew1) | exact HB.out))) : w.heap.size ≤ gb105)); have n3_ := Aside0.mk ((by rw [hg]; exact (below_size (by repeat (first | (with_reducible first | exact HB.out | apply below_alloc | apply pw_below_drewN | apply below_drew1) | exact HB.out))) : w.heap.size ≤ gb105)); clear HB; have HB := n0_; have BK105 := n1_; have GW105 := n2_; have GE105 := n3_; clear n0_ n1_ n2_ n3_; clear hb hbox hg; have hcz12_0 : w11.cell? ⟨gb105, 0, none⟩ = some (.int .i64 0) := (blk_cell BK105.out 0).trans rfl; have hcz12_1 : w11.cell? ⟨gb105, 1, none⟩ = some (.int .i64 0) := (blk_cell BK105.out 1).trans rfl; have hfz12_0 := blk_frozen BK105.out 0; have hfz12_1 := blk_frozen BK105.out 1; have p106 : 0 ≤ (x5_1 : Int) := of_decide_eq_true (by first | (with_reducible assumption) | assumption); have q106 : x5_1 < (l0.length : Int) := of_decide_eq_true (by first | (with_reducible assumption) | assumption); obtain ⟨ad106, e106, hx106_0, hx106_1⟩ := at_T30 HR0.out x5_1 p106 q106; obtain rfl : ad104 = ad106 := (by injection e106); have hn106_0 : ad104.block ≠ gb105 := Nat.ne_of_lt (Nat.lt_of_lt_of_le (by have := World.block_lt_of_cell? _ _ hx106_0; first | rwa [add_block] at this | exact this) GW105.out); have hn106_1 : ad104.block ≠ gb105 := Nat.ne_of_lt (Nat.lt_of_lt_of_le (by have := World.block_lt_of_cell? _ _ hx106_0; first | rwa [add_block] at this | exact this) GW105.out); replace hx106_0 := (HB.out.cell (World.block_lt_of_cell? w _ hx106_0)).trans hx106_0; replace hx106_1 := (HB.out.cell (World.block_lt_of_cell? w _ hx106_1)).trans hx106_1; replace hx106_0 := (cell_far (p := ⟨gb105, 0, none⟩) (by first | (rw [add_block]; exact hn106_0) | (show (Addr.add _ _).block ≠ _; rw [add_block]; exact hn106_0) | exact hn106_0) (.int .i64 ((rd_T30 l0 x15_1).f0))).trans hx106_0; replace hx106_1 := (cell_far (p := ⟨gb105, 0, none⟩) (by first | (rw [add_block]; exact hn106_0) | (show (Addr.add _ _).block ≠ _; rw [add_block]; exact hn106_0) | exact hn106_0) (.int .i64 ((rd_T30 l0 x15_1).f0))).trans hx106_1; replace hx106_0 := (cell_far (p := ⟨gb105, 1, none⟩) (by first | (rw [add_block]; exact hn106_1) | (show (Addr.add _ _).block ≠ _; rw [add_block]; exact hn106_1) | exact hn106_1) (.int .i64 ((rd_T30 l0 x15_1).f1))).trans hx106_0; replace hx106_1 := (cell_far (p := ⟨gb105, 1, none⟩) (by first | (rw [add_block]; exact hn106_1) | (show (Addr.add _ _).block ≠ _; rw [add_block]; exact hn106_1) | exact hn106_1) (.int .i64 ((rd_T30 l0 x15_1).f1))).trans hx106_1; (try have hy106_0 := fun (n_ : Nat) => (show ((((w11.drewN n_).setCell ⟨gb105, 0, none⟩ (.int .i64 ((rd_T30 l0 x15_1).f0))).setCell ⟨gb105, 1, none⟩ (.int .i64 ((rd_T30 l0 x15_1).f1)))).cell? _ = some _ from hx106_0)); (try have hy106_1 := fun (n_ : Nat) => (show ((((w11.drewN n_).setCell ⟨gb105, 0, none⟩ (.int .i64 ((rd_T30 l0 x15_1).f0))).setCell ⟨gb105, 1, none⟩ (.int .i64 ((rd_T30 l0 x15_1).f1)))).cell? _ = some _ from hx106_1)); clear hn106_0; clear hn106_1; replace p106 := eq_true p106; replace q106 := eq_true q106))
                    repeat (go_quiet (first | ((with_reducible refine gate_dst (N := 7) rfl ?_); refine box_event ?hg (N := 7) ?hd (cs := #[.int .i64 0, .int .i64 0]) (t := 30) ?hr ?_; (case hd => rfl); (case hg => rfl); (case hr => first | (go_simp; done) | (go_simp; rfl)); intro gb105 hg w11 hbox hb; have n0_ := Aside0.mk (below_step (by repeat (first | (with_reducible first | exact HB.out | apply below_alloc | apply pw_below_drewN | apply below_drew1) | exact HB.out)) hb); have n1_ := Aside0.mk (hbox); have n2_ := Aside0.mk ((by rw [hg]; exact (below_size (by repeat (first | (with_reducible first | exact HB.out | apply below_alloc | apply pw_below_drewN | apply below_drew1) | exact HB.out))) : w.heap.size ≤ gb105)); have n3_ := Aside0.mk ((by rw [hg]; exact (below_size (by repeat (first | (with_reducible first | exact HB.out | apply below_alloc | apply pw_below_drewN | apply below_drew1) | exact HB.out))) : w.heap.size ≤ gb105)); clear HB; have HB := n0_; have BK105 := n1_; have GW105 := n2_; have GE105 := n3_; clear n0_ n1_ n2_ n3_; clear hb hbox hg; have hcz12_0 : w11.cell? ⟨gb105, 0, none⟩ = some (.int .i64 0) := (blk_cell BK105.out 0).trans rfl; have hcz12_1 : w11.cell? ⟨gb105, 1, none⟩ = some (.int .i64 0) := (blk_cell BK105.out 1).trans rfl; have hfz12_0 := blk_frozen BK105.out 0; have hfz12_1 := blk_frozen BK105.out 1; have p106 : 0 ≤ (x5_1 : Int) := of_decide_eq_true (by first | (with_reducible assumption) | assumption); have q106 : x5_1 < (l0.length : Int) := of_decide_eq_true (by first | (with_reducible assumption) | assumption); obtain ⟨ad106, e106, hx106_0, hx106_1⟩ := at_T30 HR0.out x5_1 p106 q106; obtain rfl : ad104 = ad106 := (by injection e106); have hn106_0 : ad104.block ≠ gb105 := Nat.ne_of_lt (Nat.lt_of_lt_of_le (by have := World.block_lt_of_cell? _ _ hx106_0; first | rwa [add_block] at this | exact this) GW105.out); have hn106_1 : ad104.block ≠ gb105 := Nat.ne_of_lt (Nat.lt_of_lt_of_le (by have := World.block_lt_of_cell? _ _ hx106_0; first | rwa [add_block] at this | exact this) GW105.out); replace hx106_0 := (HB.out.cell (World.block_lt_of_cell? w _ hx106_0)).trans hx106_0; replace hx106_1 := (HB.out.cell (World.block_lt_of_cell? w _ hx106_1)).trans hx106_1; replace hx106_0 := (cell_far (p := ⟨gb105, 0, none⟩) (by first | (rw [add_block]; exact hn106_0) | (show (Addr.add _ _).block ≠ _; rw [add_block]; exact hn106_0) | exact hn106_0) (.int .i64 ((rd_T30 l0 x15_1).f0))).trans hx106_0; replace hx106_1 := (cell_far (p := ⟨gb105, 0, none⟩) (by first | (rw [add_block]; exact hn106_0) | (show (Addr.add _ _).block ≠ _; rw [add_block]; exact hn106_0) | exact hn106_0) (.int .i64 ((rd_T30 l0 x15_1).f0))).trans hx106_1; replace hx106_0 := (cell_far (p := ⟨gb105, 1, none⟩) (by first | (rw [add_block]; exact hn106_1) | (show (Addr.add _ _).block ≠ _; rw [add_block]; exact hn106_1) | exact hn106_1) (.int .i64 ((rd_T30 l0 x15_1).f1))).trans hx106_0; replace hx106_1 := (cell_far (p := ⟨gb105, 1, none⟩) (by first | (rw [add_block]; exact hn106_1) | (show (Addr.add _ _).block ≠ _; rw [add_block]; exact hn106_1) | exact hn106_1) (.int .i64 ((rd_T30 l0 x15_1).f1))).trans hx106_1; (try have hy106_0 := fun (n_ : Nat) => (show ((((w11.drewN n_).setCell ⟨gb105, 0, none⟩ (.int .i64 ((rd_T30 l0 x15_1).f0))).setCell ⟨gb105, 1, none⟩ (.int .i64 ((rd_T30 l0 x15_1).f1)))).cell? _ = some _ from hx106_0)); (try have hy106_1 := fun (n_ : Nat) => (show ((((w11.drewN n_).setCell ⟨gb105, 0, none⟩ (.int .i64 ((rd_T30 l0 x15_1).f0))).setCell ⟨gb105, 1, none⟩ (.int .i64 ((rd_T30 l0 x15_1).f1)))).cell? _ = some _ from hx106_1)); clear hn106_0; clear hn106_1; replace p106 := eq_true p106; replace q106 := eq_true q106)); try go_wp2_with (first | ((with_reducible refine gate_dst (N := 7) rfl ?_); refine box_event ?hg (N := 7) ?hd (cs := #[.int .i64 0, .int .i64 0]) (t := 30) ?hr ?_; (case hd => rfl); (case hg => rfl); (case hr => first | (go_simp; done) | (go_simp; rfl)); intro gb105 hg w11 hbox hb; have n0_ := Aside0.mk (below_step (by repeat (first | (with_reducible first | exact HB.out | apply below_alloc | apply pw_below_drewN | apply below_drew1) | exact HB.out)) hb); have n1_ := Aside0.mk (hbox); have n2_ := Aside0.mk ((by rw [hg]; exact (below_size (by repeat (first | (with_reducible first | exact HB.out | apply below_alloc | apply pw_below_drewN | apply below_drew1) | exact HB.out))) : w.heap.size ≤ gb105)); have n3_ := Aside0.mk ((by rw [hg]; exact (below_size (by repeat (first | (with_reducible first | exact HB.out | apply below_alloc | apply pw_below_drewN | apply below_drew1) | exact HB.out))) : w.heap.size ≤ gb105)); clear HB; have HB := n0_; have BK105 := n1_; have GW105 := n2_; have GE105 := n3_; clear n0_ n1_ n2_ n3_; clear hb hbox hg; have hcz12_0 : w11.cell? ⟨gb105, 0, none⟩ = some (.int .i64 0) := (blk_cell BK105.out 0).trans rfl; have hcz12_1 : w11.cell? ⟨gb105, 1, none⟩ = some (.int .i64 0) := (blk_cell BK105.out 1).trans rfl; have hfz12_0 := blk_frozen BK105.out 0; have hfz12_1 := blk_frozen BK105.out 1; have p106 : 0 ≤ (x5_1 : Int) := of_decide_eq_true (by first | (with_reducible assumption) | assumption); have q106 : x5_1 < (l0.length : Int) := of_decide_eq_true (by first | (with_reducible assumption) | assumption); obtain ⟨ad106, e106, hx106_0, hx106_1⟩ := at_T30 HR0.out x5_1 p106 q106; obtain rfl : ad104 = ad106 := (by injection e106); have hn106_0 : ad104.block ≠ gb105 := Nat.ne_of_lt (Nat.lt_of_lt_of_le (by have := World.block_lt_of_cell? _ _ hx106_0; first | rwa [add_block] at this | exact this) GW105.out); have hn106_1 : ad104.block ≠ gb105 := Nat.ne_of_lt (Nat.lt_of_lt_of_le (by have := World.block_lt_of_cell? _ _ hx106_0; first | rwa [add_block] at this | exact this) GW105.out); replace hx106_0 := (HB.out.cell (World.block_lt_of_cell? w _ hx106_0)).trans hx106_0; replace hx106_1 := (HB.out.cell (World.block_lt_of_cell? w _ hx106_1)).trans hx106_1; replace hx106_0 := (cell_far (p := ⟨gb105, 0, none⟩) (by first | (rw [add_block]; exact hn106_0) | (show (Addr.add _ _).block ≠ _; rw [add_block]; exact hn106_0) | exact hn106_0) (.int .i64 ((rd_T30 l0 x15_1).f0))).trans hx106_0; replace hx106_1 := (cell_far (p := ⟨gb105, 0, none⟩) (by first | (rw [add_block]; exact hn106_0) | (show (Addr.add _ _).block ≠ _; rw [add_block]; exact hn106_0) | exact hn106_0) (.int .i64 ((rd_T30 l0 x15_1).f0))).trans hx106_1; replace hx106_0 := (cell_far (p := ⟨gb105, 1, none⟩) (by first | (rw [add_block]; exact hn106_1) | (show (Addr.add _ _).block ≠ _; rw [add_block]; exact hn106_1) | exact hn106_1) (.int .i64 ((rd_T30 l0 x15_1).f1))).trans hx106_0; replace hx106_1 := (cell_far (p := ⟨gb105, 1, none⟩) (by first | (rw [add_block]; exact hn106_1) | (show (Addr.add _ _).block ≠ _; rw [add_block]; exact hn106_1) | exact hn106_1) (.int .i64 ((rd_T30 l0 x15_1).f1))).trans hx106_1; (try have hy106_0 := fun (n_ : Nat) => (show ((((w11.drewN n_).setCell ⟨gb105, 0, none⟩ (.int .i64 ((rd_T30 l0 x15_1).f0))).setCell ⟨gb105, 1, none⟩ (.int .i64 ((rd_T30 l0 x15_1).f1)))).cell? _ = some _ from hx106_0)); (try have hy106_1 := fun (n_ : Nat) => (show ((((w11.drewN n_).setCell ⟨gb105, 0, none⟩ (.int .i64 ((rd_T30 l0 x15_1).f0))).setCell ⟨gb105, 1, none⟩ (.int .i64 ((rd_T30 l0 x15_1).f1)))).cell? _ = some _ from hx106_1)); clear hn106_0; clear hn106_1; replace p106 := eq_true p106; replace q106 := eq_true q106)))
                    go_roundg k1
                    case measure => have := HK1.out; omega
                    case rel => exact ⟨(x15_1), (wrap64 (x15_1 + 1)), (by first | rfl | (simp; done) | (simp [*]; done)), (by first | rfl | (simp; done) | (simp [*]; done)), H', ⟨by have := HK1.out; omega⟩, ⟨by repeat (first | (with_reducible first | exact HB.out | apply below_alloc | apply pw_below_drewN | apply below_drew1 | refine below_set ?_ GE105.out) | exact HB.out)⟩⟩
                  · rw [if_neg c10] at H
                    have c10b0 : decide (((rd_T30 l0 x5_1).f1) < ((rd_T30 l0 x15_1).f1)) = false := decide_eq_false c10
                    clear c10
                    have H' := Aside0.mk H
                    clear H
                    have p104 : 0 ≤ (x15_1 : Int) := of_decide_eq_true (by first | (with_reducible assumption) | assumption)
                    have q104 : x15_1 < (l0.length : Int) := of_decide_eq_true (by first | (with_reducible assumption) | assumption)
                    obtain ⟨ad104, e104, hx104_0, hx104_1⟩ := at_T30 HR0.out x15_1 p104 q104
                    cases e104
                    replace hx104_0 := (HB.out.cell (World.block_lt_of_cell? w _ hx104_0)).trans hx104_0
                    replace hx104_1 := (HB.out.cell (World.block_lt_of_cell? w _ hx104_1)).trans hx104_1
                    replace p104 := eq_true p104
                    replace q104 := eq_true q104
                    go_wp2_with (first | ((with_reducible refine gate_dst (N := 7) rfl ?_); refine box_event ?hg (N := 7) ?hd (cs := #[.int .i64 0, .int .i64 0]) (t := 30) ?hr ?_; (case hd => rfl); (case hg => rfl); (case hr => first | (go_simp; done) | (go_simp; rfl)); intro gb105 hg w13 hbox hb; have n0_ := Aside0.mk (below_step (by repeat (first | (with_reducible first | exact HB.out | apply below_alloc | apply pw_below_drewN | apply below_drew1) | exact HB.out)) hb); have n1_ := Aside0.mk (hbox); have n2_ := Aside0.mk ((by rw [hg]; exact (below_size (by repeat (first | (with_reducible first | exact HB.out | apply below_alloc | apply pw_below_drewN | apply below_drew1) | exact HB.out))) : w.heap.size ≤ gb105)); have n3_ := Aside0.mk ((by rw [hg]; exact (below_size (by repeat (first | (with_reducible first | exact HB.out | apply below_alloc | apply pw_below_drewN | apply below_drew1) | exact HB.out))) : w.heap.size ≤ gb105)); clear HB; have HB := n0_; have BK105 := n1_; have GW105 := n2_; have GE105 := n3_; clear n0_ n1_ n2_ n3_; clear hb hbox hg; have hcz14_0 : w13.cell? ⟨gb105, 0, none⟩ = some (.int .i64 0) := (blk_cell BK105.out 0).trans rfl; have hcz14_1 : w13.cell? ⟨gb105, 1, none⟩ = some (.int .i64 0) := (blk_cell BK105.out 1).trans rfl; have hfz14_0 := blk_frozen BK105.out 0; have hfz14_1 := blk_frozen BK105.out 1; have p106 : 0 ≤ (x5_1 : Int) := of_decide_eq_true (by first | (with_reducible assumption) | assumption); have q106 : x5_1 < (l0.length : Int) := of_decide_eq_true (by first | (with_reducible assumption) | assumption); obtain ⟨ad106, e106, hx106_0, hx106_1⟩ := at_T30 HR0.out x5_1 p106 q106; obtain rfl : ad104 = ad106 := (by injection e106); have hn106_0 : ad104.block ≠ gb105 := Nat.ne_of_lt (Nat.lt_of_lt_of_le (by have := World.block_lt_of_cell? _ _ hx106_0; first | rwa [add_block] at this | exact this) GW105.out); have hn106_1 : ad104.block ≠ gb105 := Nat.ne_of_lt (Nat.lt_of_lt_of_le (by have := World.block_lt_of_cell? _ _ hx106_0; first | rwa [add_block] at this | exact this) GW105.out); replace hx106_0 := (HB.out.cell (World.block_lt_of_cell? w _ hx106_0)).trans hx106_0; replace hx106_1 := (HB.out.cell (World.block_lt_of_cell? w _ hx106_1)).trans hx106_1; replace hx106_0 := (cell_far (p := ⟨gb105, 0, none⟩) (by first | (rw [add_block]; exact hn106_0) | (show (Addr.add _ _).block ≠ _; rw [add_block]; exact hn106_0) | exact hn106_0) (.int .i64 ((rd_T30 l0 x15_1).f0))).trans hx106_0; replace hx106_1 := (cell_far (p := ⟨gb105, 0, none⟩) (by first | (rw [add_block]; exact hn106_0) | (show (Addr.add _ _).block ≠ _; rw [add_block]; exact hn106_0) | exact hn106_0) (.int .i64 ((rd_T30 l0 x15_1).f0))).trans hx106_1; replace hx106_0 := (cell_far (p := ⟨gb105, 1, none⟩) (by first | (rw [add_block]; exact hn106_1) | (show (Addr.add _ _).block ≠ _; rw [add_block]; exact hn106_1) | exact hn106_1) (.int .i64 ((rd_T30 l0 x15_1).f1))).trans hx106_0; replace hx106_1 := (cell_far (p := ⟨gb105, 1, none⟩) (by first | (rw [add_block]; exact hn106_1) | (show (Addr.add _ _).block ≠ _; rw [add_block]; exact hn106_1) | exact hn106_1) (.int .i64 ((rd_T30 l0 x15_1).f1))).trans hx106_1; (try have hy106_0 := fun (n_ : Nat) => (show ((((w13.drewN n_).setCell ⟨gb105, 0, none⟩ (.int .i64 ((rd_T30 l0 x15_1).f0))).setCell ⟨gb105, 1, none⟩ (.int .i64 ((rd_T30 l0 x15_1).f1)))).cell? _ = some _ from hx106_0)); (try have hy106_1 := fun (n_ : Nat) => (show ((((w13.drewN n_).setCell ⟨gb105, 0, none⟩ (.int .i64 ((rd_T30 l0 x15_1).f0))).setCell ⟨gb105, 1, none⟩ (.int .i64 ((rd_T30 l0 x15_1).f1)))).cell? _ = some _ from hx106_1)); clear hn106_0; clear hn106_1; replace p106 := eq_true p106; replace q106 := eq_true q106))
                    repeat (go_quiet (first | ((with_reducible refine gate_dst (N := 7) rfl ?_); refine box_event ?hg (N := 7) ?hd (cs := #[.int .i64 0, .int .i64 0]) (t := 30) ?hr ?_; (case hd => rfl); (case hg => rfl); (case hr => first | (go_simp; done) | (go_simp; rfl)); intro gb105 hg w13 hbox hb; have n0_ := Aside0.mk (below_step (by repeat (first | (with_reducible first | exact HB.out | apply below_alloc | apply pw_below_drewN | apply below_drew1) | exact HB.out)) hb); have n1_ := Aside0.mk (hbox); have n2_ := Aside0.mk ((by rw [hg]; exact (below_size (by repeat (first | (with_reducible first | exact HB.out | apply below_alloc | apply pw_below_drewN | apply below_drew1) | exact HB.out))) : w.heap.size ≤ gb105)); have n3_ := Aside0.mk ((by rw [hg]; exact (below_size (by repeat (first | (with_reducible first | exact HB.out | apply below_alloc | apply pw_below_drewN | apply below_drew1) | exact HB.out))) : w.heap.size ≤ gb105)); clear HB; have HB := n0_; have BK105 := n1_; have GW105 := n2_; have GE105 := n3_; clear n0_ n1_ n2_ n3_; clear hb hbox hg; have hcz14_0 : w13.cell? ⟨gb105, 0, none⟩ = some (.int .i64 0) := (blk_cell BK105.out 0).trans rfl; have hcz14_1 : w13.cell? ⟨gb105, 1, none⟩ = some (.int .i64 0) := (blk_cell BK105.out 1).trans rfl; have hfz14_0 := blk_frozen BK105.out 0; have hfz14_1 := blk_frozen BK105.out 1; have p106 : 0 ≤ (x5_1 : Int) := of_decide_eq_true (by first | (with_reducible assumption) | assumption); have q106 : x5_1 < (l0.length : Int) := of_decide_eq_true (by first | (with_reducible assumption) | assumption); obtain ⟨ad106, e106, hx106_0, hx106_1⟩ := at_T30 HR0.out x5_1 p106 q106; obtain rfl : ad104 = ad106 := (by injection e106); have hn106_0 : ad104.block ≠ gb105 := Nat.ne_of_lt (Nat.lt_of_lt_of_le (by have := World.block_lt_of_cell? _ _ hx106_0; first | rwa [add_block] at this | exact this) GW105.out); have hn106_1 : ad104.block ≠ gb105 := Nat.ne_of_lt (Nat.lt_of_lt_of_le (by have := World.block_lt_of_cell? _ _ hx106_0; first | rwa [add_block] at this | exact this) GW105.out); replace hx106_0 := (HB.out.cell (World.block_lt_of_cell? w _ hx106_0)).trans hx106_0; replace hx106_1 := (HB.out.cell (World.block_lt_of_cell? w _ hx106_1)).trans hx106_1; replace hx106_0 := (cell_far (p := ⟨gb105, 0, none⟩) (by first | (rw [add_block]; exact hn106_0) | (show (Addr.add _ _).block ≠ _; rw [add_block]; exact hn106_0) | exact hn106_0) (.int .i64 ((rd_T30 l0 x15_1).f0))).trans hx106_0; replace hx106_1 := (cell_far (p := ⟨gb105, 0, none⟩) (by first | (rw [add_block]; exact hn106_0) | (show (Addr.add _ _).block ≠ _; rw [add_block]; exact hn106_0) | exact hn106_0) (.int .i64 ((rd_T30 l0 x15_1).f0))).trans hx106_1; replace hx106_0 := (cell_far (p := ⟨gb105, 1, none⟩) (by first | (rw [add_block]; exact hn106_1) | (show (Addr.add _ _).block ≠ _; rw [add_block]; exact hn106_1) | exact hn106_1) (.int .i64 ((rd_T30 l0 x15_1).f1))).trans hx106_0; replace hx106_1 := (cell_far (p := ⟨gb105, 1, none⟩) (by first | (rw [add_block]; exact hn106_1) | (show (Addr.add _ _).block ≠ _; rw [add_block]; exact hn106_1) | exact hn106_1) (.int .i64 ((rd_T30 l0 x15_1).f1))).trans hx106_1; (try have hy106_0 := fun (n_ : Nat) => (show ((((w13.drewN n_).setCell ⟨gb105, 0, none⟩ (.int .i64 ((rd_T30 l0 x15_1).f0))).setCell ⟨gb105, 1, none⟩ (.int .i64 ((rd_T30 l0 x15_1).f1)))).cell? _ = some _ from hx106_0)); (try have hy106_1 := fun (n_ : Nat) => (show ((((w13.drewN n_).setCell ⟨gb105, 0, none⟩ (.int .i64 ((rd_T30 l0 x15_1).f0))).setCell ⟨gb105, 1, none⟩ (.int .i64 ((rd_T30 l0 x15_1).f1)))).cell? _ = some _ from hx106_1)); clear hn106_0; clear hn106_1; replace p106 := eq_true p106; replace q106 := eq_true q106)); try go_wp2_with (first | ((with_reducible refine gate_dst (N := 7) rfl ?_); refine box_event ?hg (N := 7) ?hd (cs := #[.int .i64 0, .int .i64 0]) (t := 30) ?hr ?_; (case hd => rfl); (case hg => rfl); (case hr => first | (go_simp; done) | (go_simp; rfl)); intro gb105 hg w13 hbox hb; have n0_ := Aside0.mk (below_step (by repeat (first | (with_reducible first | exact HB.out | apply below_alloc | apply pw_below_drewN | apply below_drew1) | exact HB.out)) hb); have n1_ := Aside0.mk (hbox); have n2_ := Aside0.mk ((by rw [hg]; exact (below_size (by repeat (first | (with_reducible first | exact HB.out | apply below_alloc | apply pw_below_drewN | apply below_drew1) | exact HB.out))) : w.heap.size ≤ gb105)); have n3_ := Aside0.mk ((by rw [hg]; exact (below_size (by repeat (first | (with_reducible first | exact HB.out | apply below_alloc | apply pw_below_drewN | apply below_drew1) | exact HB.out))) : w.heap.size ≤ gb105)); clear HB; have HB := n0_; have BK105 := n1_; have GW105 := n2_; have GE105 := n3_; clear n0_ n1_ n2_ n3_; clear hb hbox hg; have hcz14_0 : w13.cell? ⟨gb105, 0, none⟩ = some (.int .i64 0) := (blk_cell BK105.out 0).trans rfl; have hcz14_1 : w13.cell? ⟨gb105, 1, none⟩ = some (.int .i64 0) := (blk_cell BK105.out 1).trans rfl; have hfz14_0 := blk_frozen BK105.out 0; have hfz14_1 := blk_frozen BK105.out 1; have p106 : 0 ≤ (x5_1 : Int) := of_decide_eq_true (by first | (with_reducible assumption) | assumption); have q106 : x5_1 < (l0.length : Int) := of_decide_eq_true (by first | (with_reducible assumption) | assumption); obtain ⟨ad106, e106, hx106_0, hx106_1⟩ := at_T30 HR0.out x5_1 p106 q106; obtain rfl : ad104 = ad106 := (by injection e106); have hn106_0 : ad104.block ≠ gb105 := Nat.ne_of_lt (Nat.lt_of_lt_of_le (by have := World.block_lt_of_cell? _ _ hx106_0; first | rwa [add_block] at this | exact this) GW105.out); have hn106_1 : ad104.block ≠ gb105 := Nat.ne_of_lt (Nat.lt_of_lt_of_le (by have := World.block_lt_of_cell? _ _ hx106_0; first | rwa [add_block] at this | exact this) GW105.out); replace hx106_0 := (HB.out.cell (World.block_lt_of_cell? w _ hx106_0)).trans hx106_0; replace hx106_1 := (HB.out.cell (World.block_lt_of_cell? w _ hx106_1)).trans hx106_1; replace hx106_0 := (cell_far (p := ⟨gb105, 0, none⟩) (by first | (rw [add_block]; exact hn106_0) | (show (Addr.add _ _).block ≠ _; rw [add_block]; exact hn106_0) | exact hn106_0) (.int .i64 ((rd_T30 l0 x15_1).f0))).trans hx106_0; replace hx106_1 := (cell_far (p := ⟨gb105, 0, none⟩) (by first | (rw [add_block]; exact hn106_0) | (show (Addr.add _ _).block ≠ _; rw [add_block]; exact hn106_0) | exact hn106_0) (.int .i64 ((rd_T30 l0 x15_1).f0))).trans hx106_1; replace hx106_0 := (cell_far (p := ⟨gb105, 1, none⟩) (by first | (rw [add_block]; exact hn106_1) | (show (Addr.add _ _).block ≠ _; rw [add_block]; exact hn106_1) | exact hn106_1) (.int .i64 ((rd_T30 l0 x15_1).f1))).trans hx106_0; replace hx106_1 := (cell_far (p := ⟨gb105, 1, none⟩) (by first | (rw [add_block]; exact hn106_1) | (show (Addr.add _ _).block ≠ _; rw [add_block]; exact hn106_1) | exact hn106_1) (.int .i64 ((rd_T30 l0 x15_1).f1))).trans hx106_1; (try have hy106_0 := fun (n_ : Nat) => (show ((((w13.drewN n_).setCell ⟨gb105, 0, none⟩ (.int .i64 ((rd_T30 l0 x15_1).f0))).setCell ⟨gb105, 1, none⟩ (.int .i64 ((rd_T30 l0 x15_1).f1)))).cell? _ = some _ from hx106_0)); (try have hy106_1 := fun (n_ : Nat) => (show ((((w13.drewN n_).setCell ⟨gb105, 0, none⟩ (.int .i64 ((rd_T30 l0 x15_1).f0))).setCell ⟨gb105, 1, none⟩ (.int .i64 ((rd_T30 l0 x15_1).f1)))).cell? _ = some _ from hx106_1)); clear hn106_0; clear hn106_1; replace p106 := eq_true p106; replace q106 := eq_true q106)))
                    go_roundg k1
                    case measure => have := HK1.out; omega
                    case rel => exact ⟨(x5_1), (wrap64 (x15_1 + 1)), (by first | rfl | (simp; done) | (simp [*]; done)), (by first | rfl | (simp; done) | (simp [*]; done)), H', ⟨by have := HK1.out; omega⟩, ⟨by repeat (first | (with_reducible first | exact HB.out | apply below_alloc | apply pw_below_drewN | apply below_drew1 | refine below_set ?_ GE105.out) | exact HB.out)⟩⟩
                · rw [if_neg c9] at H
                  exact absurd H (by simp)
              · rw [if_neg c8] at H
                exact absurd H (by simp)
            · rw [if_neg c7] at H
              exact absurd H (by simp)
          · rw [if_neg c6] at H
            exact absurd H (by simp)
        · rw [if_neg c5] at H
          have c5b0 : decide (x15_1 < (l0.length : Int)) = false := decide_eq_false c5
          clear c5
          simp only [Option.some.injEq, Prod.mk.injEq] at H
          obtain ⟨rfl, rfl⟩ := H
          go_wp2
          repeat (go_quiet (fail); try go_wp2)
          go_ret2
          exact ⟨by first | rfl | (simp [errW_none, errW_some] <;> rfl) | (simp [*, errW_none, errW_some] <;> rfl), by repeat (first | (with_reducible first | exact HB.out | apply below_alloc | apply pw_below_drewN | apply below_drew1) | exact HB.out)⟩
  · rw [if_neg c3] at H
    have c3b0 : (t103 == 0) = false := beq_eq_false_iff_ne.mpr c3
    have c3b1 : (t103 != 0) = true := bne_iff_ne.mpr c3
    simp only [Option.some.injEq, Prod.mk.injEq] at H
    obtain ⟨rfl, rfl⟩ := H
    go_enter Try.func14, Try.ntmps14
    go_wp2_with (first | (go_at_call 16; (with_reducible refine (profile_Check.calls _ _ l0 t103 _ ?side1 ?side2 A2.out).mono ?_); (case side1 => repeat (first | exact HR0.out | (with_reducible refine Kd.C_alloc ?_ _) | (with_reducible refine Kd.C_drewN ?_ _) | (with_reducible refine Kd.C_drew ?_))); (case side2 => exact HC0.out); rintro e w15 ⟨rfl, hb⟩; have n0_ := Aside0.mk (below_step (by repeat (first | (with_reducible first | exact HB.out | apply below_alloc | apply pw_below_drewN | apply below_drew1) | exact HB.out)) hb); clear HB; have HB := n0_; clear n0_; (try clear hb); (try clear hb2); (try clear hk); (try clear hi)))
    repeat (go_quiet (first | (go_at_call 16; (with_reducible refine (profile_Check.calls _ _ l0 t103 _ ?side1 ?side2 A2.out).mono ?_); (case side1 => repeat (first | exact HR0.out | (with_reducible refine Kd.C_alloc ?_ _) | (with_reducible refine Kd.C_drewN ?_ _) | (with_reducible refine Kd.C_drew ?_))); (case side2 => exact HC0.out); rintro e w15 ⟨rfl, hb⟩; have n0_ := Aside0.mk (below_step (by repeat (first | (with_reducible first | exact HB.out | apply below_alloc | apply pw_below_drewN | apply below_drew1) | exact HB.out)) hb); clear HB; have HB := n0_; clear n0_; (try clear hb); (try clear hb2); (try clear hk); (try clear hi))); try go_wp2_with (first | (go_at_call 16; (with_reducible refine (profile_Check.calls _ _ l0 t103 _ ?side1 ?side2 A2.out).mono ?_); (case side1 => repeat (first | exact HR0.out | (with_reducible refine Kd.C_alloc ?_ _) | (with_reducible refine Kd.C_drewN ?_ _) | (with_reducible refine Kd.C_drew ?_))); (case side2 => exact HC0.out); rintro e w15 ⟨rfl, hb⟩; have n0_ := Aside0.mk (below_step (by repeat (first | (with_reducible first | exact HB.out | apply below_alloc | apply pw_below_drewN | apply below_drew1) | exact HB.out)) hb); clear HB; have HB := n0_; clear n0_; (try clear hb); (try clear hb2); (try clear hk); (try clear hi))))
    go_ret2
    exact ⟨by first | rfl | (simp [errW_none, errW_some] <;> rfl) | (simp [*, errW_none, errW_some] <;> rfl), by repeat (first | (with_reducible first | exact HB.out | apply below_alloc | apply pw_below_drewN | apply below_drew1) | exact HB.out)⟩

end Go.Proofs.Ytdomdddponkmhaa.X
