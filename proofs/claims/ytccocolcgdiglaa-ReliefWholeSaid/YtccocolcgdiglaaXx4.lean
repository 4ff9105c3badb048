-- Written by a program of this work, over the kit's print of the translation. Not trusted: Lean checks it.
import Derived.Test.YtccocolcgdiglaaXx0
import Derived.Test.YtccocolcgdiglaaXx3
namespace Go.Proofs.Ytccocolcgdiglaa.X
open Go.RowKit Go.Proofs.YtccocolcgdiglaaW.PrintWords Go.Proofs.YtccocolcgdiglaaW.PrintLast Go.Proofs.YtccocolcgdiglaaW.PrintMore
attribute [local go_sem] max2_int min2_int max_two min_two max_three min_three max_four min_four   -- for this text's walks alone
set_option linter.unusedVariables false
set_option linter.unusedSimpArgs false
/-! ### spileref47_Check: function 17 -/
mutual
def spileref47_Check.l0 : Nat → List (S33) → Int → Option (Int × Int)
 | 0, _, _ => none
 | k + 1, x0, x4 => if x4 < (x0.length : Int) then (if 0 ≤ x4 then ((spileref47_Between.f ((rd_T33 x0 x4).f0) 1 1073741824).bind fun t146 => (if t146 = true then ((spileref47_Between.f ((rd_T33 x0 x4).f2) 0 9).bind fun t147 => (if t147 = true then ((spileref47_Between.f ((rd_T33 x0 x4).f3) 0 100000).bind fun t148 => (if t148 = true then ((spileref47_Between.f ((rd_T33 x0 x4).f4) ((rd_T33 x0 x4).f3) 100000).bind fun t149 => (spileref47_Check.j1 k x0 x4 t149 ((rd_T33 x0 x4).f0) ((rd_T33 x0 x4).f1) ((rd_T33 x0 x4).f2) ((rd_T33 x0 x4).f3) ((rd_T33 x0 x4).f4) ((rd_T33 x0 x4).f5) ((rd_T33 x0 x4).f6))) else (spileref47_Check.j1 k x0 x4 false ((rd_T33 x0 x4).f0) ((rd_T33 x0 x4).f1) ((rd_T33 x0 x4).f2) ((rd_T33 x0 x4).f3) ((rd_T33 x0 x4).f4) ((rd_T33 x0 x4).f5) ((rd_T33 x0 x4).f6)))) else (spileref47_Check.j1 k x0 x4 false ((rd_T33 x0 x4).f0) ((rd_T33 x0 x4).f1) ((rd_T33 x0 x4).f2) ((rd_T33 x0 x4).f3) ((rd_T33 x0 x4).f4) ((rd_T33 x0 x4).f5) ((rd_T33 x0 x4).f6)))) else (spileref47_Check.j1 k x0 x4 false ((rd_T33 x0 x4).f0) ((rd_T33 x0 x4).f1) ((rd_T33 x0 x4).f2) ((rd_T33 x0 x4).f3) ((rd_T33 x0 x4).f4) ((rd_T33 x0 x4).f5) ((rd_T33 x0 x4).f6)))) else (none)) else (some ((-1), 0))
def spileref47_Check.j1 : Nat → List (S33) → Int → Bool → Int → ByteArray → Int → Int → Int → Int → Int → Option (Int × Int)
 | 0, _, _, _, _, _, _, _, _, _, _ => none
 | k + 1, x0, x4, x6, x146000, x146001, x146002, x146003, x146004, x146005, x146006 => if x6 = true then ((spileref47_Between.f x146005 1 10000).bind fun t150 => (if t150 = true then ((spileref47_Between.f x146006 0 10737418240000).bind fun t151 => (spileref47_Check.j2 k x0 x4 (!t151) x146000 x146001 x146002 x146003 x146004 x146005 x146006)) else (spileref47_Check.j2 k x0 x4 true x146000 x146001 x146002 x146003 x146004 x146005 x146006))) else (spileref47_Check.j2 k x0 x4 true x146000 x146001 x146002 x146003 x146004 x146005 x146006)
def spileref47_Check.j2 : Nat → List (S33) → Int → Bool → Int → ByteArray → Int → Int → Int → Int → Int → Option (Int × Int)
 | 0, _, _, _, _, _, _, _, _, _, _ => none
 | k + 1, x0, x4, x40, x146000, x146001, x146002, x146003, x146004, x146005, x146006 => if x40 = true then (some (x4, 2)) else ((spileref47_Named.f k x146001).bind fun t152 => (if t152 = true then (if x4 > 0 then (if 0 ≤ (wrap64 (x4 - 1)) then (if (wrap64 (x4 - 1)) < (x0.length : Int) then (if x146000 ≤ ((rd_T33 x0 (wrap64 (x4 - 1))).f0) then (some (x4, 5)) else (spileref47_Check.l0 k x0 (wrap64 (x4 + 1)))) else (none)) else (none)) else (spileref47_Check.l0 k x0 (wrap64 (x4 + 1)))) else (some (x4, 4))))
end
def spileref47_Check.f (k : Nat) (l0 : List (S33)) : Option (Int × Int) := if (l0.length : Int) > 16 then (some ((-1), 8)) else (spileref47_Check.l0 k l0 0)
theorem spileref47_Check.mono_l : ∀ k, (∀ y0 y1, LeO (spileref47_Check.l0 k y0 y1) (spileref47_Check.l0 (k + 1) y0 y1)) ∧ (∀ y0 y1 y2 y3 y4 y5 y6 y7 y8 y9, LeO (spileref47_Check.j1 k y0 y1 y2 y3 y4 y5 y6 y7 y8 y9) (spileref47_Check.j1 (k + 1) y0 y1 y2 y3 y4 y5 y6 y7 y8 y9)) ∧ (∀ y0 y1 y2 y3 y4 y5 y6 y7 y8 y9, LeO (spileref47_Check.j2 k y0 y1 y2 y3 y4 y5 y6 y7 y8 y9) (spileref47_Check.j2 (k + 1) y0 y1 y2 y3 y4 y5 y6 y7 y8 y9))
 | 0 => ⟨fun _ _ r h => by simp [spileref47_Check.l0] at h, fun _ _ _ _ _ _ _ _ _ _ r h => by simp [spileref47_Check.j1] at h, fun _ _ _ _ _ _ _ _ _ _ r h => by simp [spileref47_Check.j2] at h⟩
 | k + 1 => by
  obtain ⟨ih0, ih1, ih2⟩ := spileref47_Check.mono_l k
  refine ⟨?_, ?_, ?_⟩
  ·intro y0 y1
   unfold spileref47_Check.l0
   repeat' first
   | (with_reducible exact ih0 _ _)
   | (with_reducible exact ih1 _ _ _ _ _ _ _ _ _ _)
   | (with_reducible exact ih2 _ _ _ _ _ _ _ _ _ _)
   | (with_reducible exact spileref47_Named.mono _ _)
   | (with_reducible exact LeO.refl _)
   | (with_reducible exact LeO.none _)
   | (with_reducible refine LeO.ite ?_ ?_)
   | (with_reducible refine LeO.bind ?_ (fun _ => ?_))
   | exact ih0 _ _
   | exact ih1 _ _ _ _ _ _ _ _ _ _
   | exact ih2 _ _ _ _ _ _ _ _ _ _
   | exact spileref47_Named.mono _ _
   | exact LeO.none _
   | refine LeO.ite ?_ ?_
   | refine LeO.bind ?_ (fun _ => ?_)
  ·intro y0 y1 y2 y3 y4 y5 y6 y7 y8 y9
   unfold spileref47_Check.j1
   repeat' first
   | (with_reducible exact ih0 _ _)
   | (with_reducible exact ih1 _ _ _ _ _ _ _ _ _ _)
   | (with_reducible exact ih2 _ _ _ _ _ _ _ _ _ _)
   | (with_reducible exact spileref47_Named.mono _ _)
   | (with_reducible exact LeO.refl _)
   | (with_reducible exact LeO.none _)
   | (with_reducible refine LeO.ite ?_ ?_)
   | (with_reducible refine LeO.bind ?_ (fun _ => ?_))
   | exact ih0 _ _
   | exact ih1 _ _ _ _ _ _ _ _ _ _
   | exact ih2 _ _ _ _ _ _ _ _ _ _
   | exact spileref47_Named.mono _ _
   | exact LeO.none _
   | refine LeO.ite ?_ ?_
   | refine LeO.bind ?_ (fun _ => ?_)
  ·intro y0 y1 y2 y3 y4 y5 y6 y7 y8 y9
   unfold spileref47_Check.j2
   repeat' first
   | (with_reducible exact ih0 _ _)
   | (with_reducible exact ih1 _ _ _ _ _ _ _ _ _ _)
   | (with_reducible exact ih2 _ _ _ _ _ _ _ _ _ _)
   | (with_reducible exact spileref47_Named.mono _ _)
   | (with_reducible exact LeO.refl _)
   | (with_reducible exact LeO.none _)
   | (with_reducible refine LeO.ite ?_ ?_)
   | (with_reducible refine LeO.bind ?_ (fun _ => ?_))
   | exact ih0 _ _
   | exact ih1 _ _ _ _ _ _ _ _ _ _
   | exact ih2 _ _ _ _ _ _ _ _ _ _
   | exact spileref47_Named.mono _ _
   | exact LeO.none _
   | refine LeO.ite ?_ ?_
   | refine LeO.bind ?_ (fun _ => ?_)
theorem spileref47_Check.mono : ∀ a0 k, LeO (spileref47_Check.f k a0) (spileref47_Check.f (k + 1) a0) := by
 intro a0 k
 obtain ⟨ih0, ih1, ih2⟩ := spileref47_Check.mono_l k
 unfold spileref47_Check.f
 repeat' first
   | (with_reducible exact ih0 _ _)
   | (with_reducible exact ih1 _ _ _ _ _ _ _ _ _ _)
   | (with_reducible exact ih2 _ _ _ _ _ _ _ _ _ _)
   | (with_reducible exact spileref47_Named.mono _ _)
   | (with_reducible exact LeO.refl _)
   | (with_reducible exact LeO.none _)
   | (with_reducible refine LeO.ite ?_ ?_)
   | (with_reducible refine LeO.bind ?_ (fun _ => ?_))
   | exact ih0 _ _
   | exact ih1 _ _ _ _ _ _ _ _ _ _
   | exact ih2 _ _ _ _ _ _ _ _ _ _
   | exact spileref47_Named.mono _ _
   | exact LeO.none _
   | refine LeO.ite ?_ ?_
   | refine LeO.bind ?_ (fun _ => ?_)
set_option maxHeartbeats 8000000 in
set_option maxRecDepth 100000 in
theorem spileref47_Check.calls (k : Nat) (A0 : Option Addr) (c0 : Nat) (l0 : List (S33)) (r1 : Int) (r2 : Int) (w : World) (hr0 : Kd.C k33 w A0 l0.length l0) (hc0 : l0.length ≤ c0) (h : spileref47_Check.f k l0 = some (r1, r2)) :
  Calls Try.prog 17 #[.slice A0 l0.length c0] w fun e w' => e = .returned (.tuple #[.int .i64 r1, .int .i64 r2]) ∧ Below w.heap.size w w' := by
 have hu33 := Try.underlying33
 have HR0 := Aside0.mk hr0
 have HC0 := Aside0.mk hc0
 clear hr0 hc0; have HB := Aside0.mk (Below.refl w.heap.size w)
 have H : (if (l0.length : Int) > 16 then (some ((-1), 8)) else (spileref47_Check.l0 k l0 0)) = some (r1, r2) := h
 clear h
 by_cases c2 : (l0.length : Int) > 16
 ·rw [if_pos c2] at H
  have c2b0 : decide (16 < (l0.length : Int)) = true := decide_eq_true c2
  have c2b1 : decide (16 < l0.length) = true := decide_eq_true (by omega)
  clear c2
  simp only [Option.some.injEq, Prod.mk.injEq] at H
  obtain ⟨rfl, rfl⟩ := H
  go_enter Try.func17, Try.ntmps17
  go_wp2
  repeat (go_quiet (fail); try go_wp2)
  go_ret2
  exact ⟨by first | rfl | (simp [errW_none, errW_some] <;> rfl) | (simp [*, errW_none, errW_some] <;> rfl), by repeat (first | (with_reducible first | exact HB.out | apply below_alloc | apply pw_below_drewN | apply below_drew1) | exact HB.out)⟩
 ·rw [if_neg c2] at H
  have c2b0 : decide (16 < (l0.length : Int)) = false := decide_eq_false c2
  have c2b1 : decide (16 < l0.length) = false := decide_eq_false (by omega)
  clear c2
  have H' := Aside0.mk H
  clear H
  go_enter Try.func17, Try.ntmps17
  go_wp2
  repeat (go_quiet (fail); try go_wp2)
  go_loopg [4] k (fun kq v4 w' => ∃ (x4_1 : Int), v4 = .int .i64 x4_1 ∧ Aside0 (spileref47_Check.l0 kq l0 x4_1 = some (r1, r2)) ∧ Aside0 (kq ≤ k) ∧ Aside0 (Below w.heap.size w w'))
  case atStart => exact ⟨(0), (by first | rfl | (simp; done) | (simp [*]; done)), H', ⟨Nat.le_refl _⟩, ⟨by repeat (first | (with_reducible first | exact HB.out | apply below_alloc | apply pw_below_drewN | apply below_drew1) | exact HB.out)⟩⟩
  case round =>
   clear H'
   obtain ⟨x4_1, rfl, HA, HK1, HB⟩ := hrel
   cases gk with
   | zero => exact absurd HA.out (by simp [spileref47_Check.l0])
   | succ k1 =>
    have H := HA.out; clear HA
    simp only [spileref47_Check.l0] at H
    by_cases c3 : x4_1 < (l0.length : Int)
    ·rw [if_pos c3] at H
     have c3b0 : decide (x4_1 < (l0.length : Int)) = true := decide_eq_true c3
     clear c3
     by_cases c4 : 0 ≤ x4_1
     ·rw [if_pos c4] at H
      have c4b0 : decide (0 ≤ x4_1) = true := decide_eq_true c4
      clear c4
      have HC5 := Aside0.mk H
      clear H
      have p144 : 0 ≤ (x4_1 : Int) := of_decide_eq_true (by first | (with_reducible assumption) | assumption)
      have q144 : x4_1 < (l0.length : Int) := of_decide_eq_true (by first | (with_reducible assumption) | assumption)
      obtain ⟨ad144, e144, hx144_0, hx144_1, hx144_2, hx144_3, hx144_4, hx144_5, hx144_6⟩ := at_T33 HR0.out x4_1 p144 q144
      cases e144
      replace hx144_0 := (HB.out.cell (World.block_lt_of_cell? w _ hx144_0)).trans hx144_0
      replace hx144_1 := (HB.out.cell (World.block_lt_of_cell? w _ hx144_1)).trans hx144_1
      replace hx144_2 := (HB.out.cell (World.block_lt_of_cell? w _ hx144_2)).trans hx144_2
      replace hx144_3 := (HB.out.cell (World.block_lt_of_cell? w _ hx144_3)).trans hx144_3
      replace hx144_4 := (HB.out.cell (World.block_lt_of_cell? w _ hx144_4)).trans hx144_4
      replace hx144_5 := (HB.out.cell (World.block_lt_of_cell? w _ hx144_5)).trans hx144_5
      replace hx144_6 := (HB.out.cell (World.block_lt_of_cell? w _ hx144_6)).trans hx144_6
      replace p144 := eq_true p144
      replace q144 := eq_true q144
      go_upto_region 7 with (first | ((with_reducible refine gate_dst (N := 5) rfl ?_); refine box_event ?hg (N := 5) ?hd (cs := #[.int .i64 0, .string (⟨#[]⟩ : ByteArray), .int .i64 0, .int .i64 0, .int .i64 0, .int .i64 0, .int .i64 0]) (t := 33) ?hr ?_; (case hd => rfl); (case hg => rfl); (case hr => first | (go_simp; done) | (go_simp; rfl)); intro gb145 hg w6 hbox hb; have n0_ := Aside0.mk (below_step (by repeat (first | (with_reducible first | exact HB.out | apply below_alloc | apply pw_below_drewN | apply below_drew1) | exact HB.out)) hb); have n1_ := Aside0.mk (hbox); have n2_ := Aside0.mk ((by rw [hg]; exact (below_size (by repeat (first | (with_reducible first | exact HB.out | apply below_alloc | apply pw_below_drewN | apply below_drew1) | exact HB.out))) : w.heap.size ≤ gb145)); have n3_ := Aside0.mk ((by rw [hg]; exact (below_size (by repeat (first | (with_reducible first | exact HB.out | apply below_alloc | apply pw_below_drewN | apply below_drew1) | exact HB.out))) : w.heap.size ≤ gb145)); clear HB; have HB := n0_; have BK145 := n1_; have GW145 := n2_; have GE145 := n3_; clear n0_ n1_ n2_ n3_; clear hb hbox hg; have hcz7_0 : w6.cell? ⟨gb145, 0, none⟩ = some (.int .i64 0) := (blk_cell BK145.out 0).trans rfl; have hcz7_1 : w6.cell? ⟨gb145, 1, none⟩ = some (.string (⟨#[]⟩ : ByteArray)) := (blk_cell BK145.out 1).trans rfl; have hcz7_2 : w6.cell? ⟨gb145, 2, none⟩ = some (.int .i64 0) := (blk_cell BK145.out 2).trans rfl; have hcz7_3 : w6.cell? ⟨gb145, 3, none⟩ = some (.int .i64 0) := (blk_cell BK145.out 3).trans rfl; have hcz7_4 : w6.cell? ⟨gb145, 4, none⟩ = some (.int .i64 0) := (blk_cell BK145.out 4).trans rfl; have hcz7_5 : w6.cell? ⟨gb145, 5, none⟩ = some (.int .i64 0) := (blk_cell BK145.out 5).trans rfl; have hcz7_6 : w6.cell? ⟨gb145, 6, none⟩ = some (.int .i64 0) := (blk_cell BK145.out 6).trans rfl; have hfz7_0 := blk_frozen BK145.out 0; have hfz7_1 := blk_frozen BK145.out 1; have hfz7_2 := blk_frozen BK145.out 2; have hfz7_3 := blk_frozen BK145.out 3; have hfz7_4 := blk_frozen BK145.out 4; have hfz7_5 := blk_frozen BK145.out 5; have hfz7_6 := blk_frozen BK145.out 6))
      repeat (go_quiet (first | ((with_reducible refine gate_dst (N := 5) rfl ?_); refine box_event ?hg (N := 5) ?hd (cs := #[.int .i64 0, .string (⟨#[]⟩ : ByteArray), .int .i64 0, .int .i64 0, .int .i64 0, .int .i64 0, .int .i64 0]) (t := 33) ?hr ?_; (case hd => rfl); (case hg => rfl); (case hr => first | (go_simp; done) | (go_simp; rfl)); intro gb145 hg w6 hbox hb; have n0_ := Aside0.mk (below_step (by repeat (first | (with_reducible first | exact HB.out | apply below_alloc | apply pw_below_drewN | apply below_drew1) | exact HB.out)) hb); have n1_ := Aside0.mk (hbox); have n2_ := Aside0.mk ((by rw [hg]; exact (below_size (by repeat (first | (with_reducible first | exact HB.out | apply below_alloc | apply pw_below_drewN | apply below_drew1) | exact HB.out))) : w.heap.size ≤ gb145)); have n3_ := Aside0.mk ((by rw [hg]; exact (below_size (by repeat (first | (with_reducible first | exact HB.out | apply below_alloc | apply pw_below_drewN | apply below_drew1) | exact HB.out))) : w.heap.size ≤ gb145)); clear HB; have HB := n0_; have BK145 := n1_; have GW145 := n2_; have GE145 := n3_; clear n0_ n1_ n2_ n3_; clear hb hbox hg; have hcz7_0 : w6.cell? ⟨gb145, 0, none⟩ = some (.int .i64 0) := (blk_cell BK145.out 0).trans rfl; have hcz7_1 : w6.cell? ⟨gb145, 1, none⟩ = some (.string (⟨#[]⟩ : ByteArray)) := (blk_cell BK145.out 1).trans rfl; have hcz7_2 : w6.cell? ⟨gb145, 2, none⟩ = some (.int .i64 0) := (blk_cell BK145.out 2).trans rfl; have hcz7_3 : w6.cell? ⟨gb145, 3, none⟩ = some (.int .i64 0) := (blk_cell BK145.out 3).trans rfl; have hcz7_4 : w6.cell? ⟨gb145, 4, none⟩ = some (.int .i64 0) := (blk_cell BK145.out 4).trans rfl; have hcz7_5 : w6.cell? ⟨gb145, 5, none⟩ = some (.int .i64 0) := (blk_cell BK145.out 5).trans rfl; have hcz7_6 : w6.cell? ⟨gb145, 6, none⟩ = some (.int .i64 0) := (blk_cell BK145.out 6).trans rfl; have hfz7_0 := blk_frozen BK145.out 0; have hfz7_1 := blk_frozen BK145.out 1; have hfz7_2 := blk_frozen BK145.out 2; have hfz7_3 := blk_frozen BK145.out 3; have hfz7_4 := blk_frozen BK145.out 4; have hfz7_5 := blk_frozen BK145.out 5; have hfz7_6 := blk_frozen BK145.out 6)); go_upto_region 7 with (first | ((with_reducible refine gate_dst (N := 5) rfl ?_); refine box_event ?hg (N := 5) ?hd (cs := #[.int .i64 0, .string (⟨#[]⟩ : ByteArray), .int .i64 0, .int .i64 0, .int .i64 0, .int .i64 0, .int .i64 0]) (t := 33) ?hr ?_; (case hd => rfl); (case hg => rfl); (case hr => first | (go_simp; done) | (go_simp; rfl)); intro gb145 hg w6 hbox hb; have n0_ := Aside0.mk (below_step (by repeat (first | (with_reducible first | exact HB.out | apply below_alloc | apply pw_below_drewN | apply below_drew1) | exact HB.out)) hb); have n1_ := Aside0.mk (hbox); have n2_ := Aside0.mk ((by rw [hg]; exact (below_size (by repeat (first | (with_reducible first | exact HB.out | apply below_alloc | apply pw_below_drewN | apply below_drew1) | exact HB.out))) : w.heap.size ≤ gb145)); have n3_ := Aside0.mk ((by rw [hg]; exact (below_size (by repeat (first | (with_reducible first | exact HB.out | apply below_alloc | apply pw_below_drewN | apply below_drew1) | exact HB.out))) : w.heap.size ≤ gb145)); clear HB; have HB := n0_; have BK145 := n1_; have GW145 := n2_; have GE145 := n3_; clear n0_ n1_ n2_ n3_; clear hb hbox hg; have hcz7_0 : w6.cell? ⟨gb145, 0, none⟩ = some (.int .i64 0) := (blk_cell BK145.out 0).trans rfl; have hcz7_1 : w6.cell? ⟨gb145, 1, none⟩ = some (.string (⟨#[]⟩ : ByteArray)) := (blk_cell BK145.out 1).trans rfl; have hcz7_2 : w6.cell? ⟨gb145, 2, none⟩ = some (.int .i64 0) := (blk_cell BK145.out 2).trans rfl; have hcz7_3 : w6.cell? ⟨gb145, 3, none⟩ = some (.int .i64 0) := (blk_cell BK145.out 3).trans rfl; have hcz7_4 : w6.cell? ⟨gb145, 4, none⟩ = some (.int .i64 0) := (blk_cell BK145.out 4).trans rfl; have hcz7_5 : w6.cell? ⟨gb145, 5, none⟩ = some (.int .i64 0) := (blk_cell BK145.out 5).trans rfl; have hcz7_6 : w6.cell? ⟨gb145, 6, none⟩ = some (.int .i64 0) := (blk_cell BK145.out 6).trans rfl; have hfz7_0 := blk_frozen BK145.out 0; have hfz7_1 := blk_frozen BK145.out 1; have hfz7_2 := blk_frozen BK145.out 2; have hfz7_3 := blk_frozen BK145.out 3; have hfz7_4 := blk_frozen BK145.out 4; have hfz7_5 := blk_frozen BK145.out 5; have hfz7_6 := blk_frozen BK145.out 6)))
      (try simp only [Act.put, List.setIfInBounds_toArray, List.set_cons_zero, List.set_cons_succ])
      go_cut [6] (fun v6 wc => ∃ (kq : Nat) (x6_4 : Bool), v6 = .bool x6_4 ∧ Aside0 (spileref47_Check.j1 kq l0 x4_1 x6_4 ((rd_T33 l0 x4_1).f0) ((rd_T33 l0 x4_1).f1) ((rd_T33 l0 x4_1).f2) ((rd_T33 l0 x4_1).f3) ((rd_T33 l0 x4_1).f4) ((rd_T33 l0 x4_1).f5) ((rd_T33 l0 x4_1).f6) = some (r1, r2)) ∧ Aside0 (kq ≤ k1) ∧ Aside0 (wc.heap[gb145]? = some (.cells #[.int .i64 ((rd_T33 l0 x4_1).f0), .string ((rd_T33 l0 x4_1).f1), .int .i64 ((rd_T33 l0 x4_1).f2), .int .i64 ((rd_T33 l0 x4_1).f3), .int .i64 ((rd_T33 l0 x4_1).f4), .int .i64 ((rd_T33 l0 x4_1).f5), .int .i64 ((rd_T33 l0 x4_1).f6)] 33 (0, 0))) ∧ Aside0 (Below w.heap.size w wc))
      case first =>
       have H := HC5.out; clear HC5
       replace H := Option.bind_eq_some_iff.mp H
       obtain ⟨t146, A80, H⟩ := H
       try dsimp only at H
       have A8 := Aside0.mk A80
       clear A80
       by_cases c9 : t146 = true
       ·subst c9
        have H1 : ((spileref47_Between.f ((rd_T33 l0 x4_1).f2) 0 9).bind fun t147 => (if t147 = true then ((spileref47_Between.f ((rd_T33 l0 x4_1).f3) 0 100000).bind fun t148 => (if t148 = true then ((spileref47_Between.f ((rd_T33 l0 x4_1).f4) ((rd_T33 l0 x4_1).f3) 100000).bind fun t149 => (spileref47_Check.j1 k1 l0 x4_1 t149 ((rd_T33 l0 x4_1).f0) ((rd_T33 l0 x4_1).f1) ((rd_T33 l0 x4_1).f2) ((rd_T33 l0 x4_1).f3) ((rd_T33 l0 x4_1).f4) ((rd_T33 l0 x4_1).f5) ((rd_T33 l0 x4_1).f6))) else (spileref47_Check.j1 k1 l0 x4_1 false ((rd_T33 l0 x4_1).f0) ((rd_T33 l0 x4_1).f1) ((rd_T33 l0 x4_1).f2) ((rd_T33 l0 x4_1).f3) ((rd_T33 l0 x4_1).f4) ((rd_T33 l0 x4_1).f5) ((rd_T33 l0 x4_1).f6)))) else (spileref47_Check.j1 k1 l0 x4_1 false ((rd_T33 l0 x4_1).f0) ((rd_T33 l0 x4_1).f1) ((rd_T33 l0 x4_1).f2) ((rd_T33 l0 x4_1).f3) ((rd_T33 l0 x4_1).f4) ((rd_T33 l0 x4_1).f5) ((rd_T33 l0 x4_1).f6)))) = some (r1, r2) := by rw [if_pos rfl] at H; exact H
        clear H; have H := H1; clear H1
        replace H := Option.bind_eq_some_iff.mp H
        obtain ⟨t147, A100, H⟩ := H
        try dsimp only at H
        have A10 := Aside0.mk A100
        clear A100
        by_cases c11 : t147 = true
        ·subst c11
         have H1 : ((spileref47_Between.f ((rd_T33 l0 x4_1).f3) 0 100000).bind fun t148 => (if t148 = true then ((spileref47_Between.f ((rd_T33 l0 x4_1).f4) ((rd_T33 l0 x4_1).f3) 100000).bind fun t149 => (spileref47_Check.j1 k1 l0 x4_1 t149 ((rd_T33 l0 x4_1).f0) ((rd_T33 l0 x4_1).f1) ((rd_T33 l0 x4_1).f2) ((rd_T33 l0 x4_1).f3) ((rd_T33 l0 x4_1).f4) ((rd_T33 l0 x4_1).f5) ((rd_T33 l0 x4_1).f6))) else (spileref47_Check.j1 k1 l0 x4_1 false ((rd_T33 l0 x4_1).f0) ((rd_T33 l0 x4_1).f1) ((rd_T33 l0 x4_1).f2) ((rd_T33 l0 x4_1).f3) ((rd_T33 l0 x4_1).f4) ((rd_T33 l0 x4_1).f5) ((rd_T33 l0 x4_1).f6)))) = some (r1, r2) := by rw [if_pos rfl] at H; exact H
         clear H; have H := H1; clear H1
         replace H := Option.bind_eq_some_iff.mp H
         obtain ⟨t148, A120, H⟩ := H
         try dsimp only at H
         have A12 := Aside0.mk A120
         clear A120
         by_cases c13 : t148 = true
         ·subst c13
          have H1 : ((spileref47_Between.f ((rd_T33 l0 x4_1).f4) ((rd_T33 l0 x4_1).f3) 100000).bind fun t149 => (spileref47_Check.j1 k1 l0 x4_1 t149 ((rd_T33 l0 x4_1).f0) ((rd_T33 l0 x4_1).f1) ((rd_T33 l0 x4_1).f2) ((rd_T33 l0 x4_1).f3) ((rd_T33 l0 x4_1).f4) ((rd_T33 l0 x4_1).f5) ((rd_T33 l0 x4_1).f6))) = some (r1, r2) := by rw [if_pos rfl] at H; exact H
          clear H; have H := H1; clear H1
          replace H := Option.bind_eq_some_iff.mp H
          obtain ⟨t149, A140, H⟩ := H
          try dsimp only at H
          have A14 := Aside0.mk A140
          clear A140
          have H' := Aside0.mk H
          clear H
          have hcz15_0 : w6.cell? ⟨gb145, 0, none⟩ = some (.int .i64 0) := (blk_cell BK145.out 0).trans rfl
          have hcz15_1 : w6.cell? ⟨gb145, 1, none⟩ = some (.string (⟨#[]⟩ : ByteArray)) := (blk_cell BK145.out 1).trans rfl
          have hcz15_2 : w6.cell? ⟨gb145, 2, none⟩ = some (.int .i64 0) := (blk_cell BK145.out 2).trans rfl
          have hcz15_3 : w6.cell? ⟨gb145, 3, none⟩ = some (.int .i64 0) := (blk_cell BK145.out 3).trans rfl
          have hcz15_4 : w6.cell? ⟨gb145, 4, none⟩ = some (.int .i64 0) := (blk_cell BK145.out 4).trans rfl
          have hcz15_5 : w6.cell? ⟨gb145, 5, none⟩ = some (.int .i64 0) := (blk_cell BK145.out 5).trans rfl
          have hcz15_6 : w6.cell? ⟨gb145, 6, none⟩ = some (.int .i64 0) := (blk_cell BK145.out 6).trans rfl
          have hfz15_0 := blk_frozen BK145.out 0
          have hfz15_1 := blk_frozen BK145.out 1
          have hfz15_2 := blk_frozen BK145.out 2
          have hfz15_3 := blk_frozen BK145.out 3
          have hfz15_4 := blk_frozen BK145.out 4
          have hfz15_5 := blk_frozen BK145.out 5
          have hfz15_6 := blk_frozen BK145.out 6
          go_wp2_with (first | (go_at_call 34; (with_reducible refine (spileref47_Between.calls ((rd_T33 l0 x4_1).f0) 1 1073741824 true _ A8.out).mono ?_); rintro e w' ⟨rfl, ⟨nd, rfl⟩⟩; (try first | exact ⟨rfl, _, World.drewN_drewN _ _ _⟩ | exact ⟨rfl, _, Eq.trans (World.drewN_drewN _ _ _) (congrArg (World.drewN _) (Nat.add_assoc _ _ _))⟩)) | (go_at_call 34; (with_reducible refine (spileref47_Between.calls ((rd_T33 l0 x4_1).f2) 0 9 true _ A10.out).mono ?_); rintro e w' ⟨rfl, ⟨nd, rfl⟩⟩; (try first | exact ⟨rfl, _, World.drewN_drewN _ _ _⟩ | exact ⟨rfl, _, Eq.trans (World.drewN_drewN _ _ _) (congrArg (World.drewN _) (Nat.add_assoc _ _ _))⟩)) | (go_at_call 34; (with_reducible refine (spileref47_Between.calls ((rd_T33 l0 x4_1).f3) 0 100000 true _ A12.out).mono ?_); rintro e w' ⟨rfl, ⟨nd, rfl⟩⟩; (try first | exact ⟨rfl, _, World.drewN_drewN _ _ _⟩ | exact ⟨rfl, _, Eq.trans (World.drewN_drewN _ _ _) (congrArg (World.drewN _) (Nat.add_assoc _ _ _))⟩)) | (go_at_call 34; (with_reducible refine (spileref47_Between.calls ((rd_T33 l0 x4_1).f4) ((rd_T33 l0 x4_1).f3) 100000 t149 _ A14.out).mono ?_); rintro e w' ⟨rfl, ⟨nd, rfl⟩⟩; (try first | exact ⟨rfl, _, World.drewN_drewN _ _ _⟩ | exact ⟨rfl, _, Eq.trans (World.drewN_drewN _ _ _) (congrArg (World.drewN _) (Nat.add_assoc _ _ _))⟩)))
          repeat (go_quiet (first | (go_at_call 34; (with_reducible refine (spileref47_Between.calls ((rd_T33 l0 x4_1).f0) 1 1073741824 true _ A8.out).mono ?_); rintro e w' ⟨rfl, ⟨nd, rfl⟩⟩; (try first | exact ⟨rfl, _, World.drewN_drewN _ _ _⟩ | exact ⟨rfl, _, Eq.trans (World.drewN_drewN _ _ _) (congrArg (World.drewN _) (Nat.add_assoc _ _ _))⟩)) | (go_at_call 34; (with_reducible refine (spileref47_Between.calls ((rd_T33 l0 x4_1).f2) 0 9 true _ A10.out).mono ?_); rintro e w' ⟨rfl, ⟨nd, rfl⟩⟩; (try first | exact ⟨rfl, _, World.drewN_drewN _ _ _⟩ | exact ⟨rfl, _, Eq.trans (World.drewN_drewN _ _ _) (congrArg (World.drewN _) (Nat.add_assoc _ _ _))⟩)) | (go_at_call 34; (with_reducible refine (spileref47_Between.calls ((rd_T33 l0 x4_1).f3) 0 100000 true _ A12.out).mono ?_); rintro e w' ⟨rfl, ⟨nd, rfl⟩⟩; (try first | exact ⟨rfl, _, World.drewN_drewN _ _ _⟩ | exact ⟨rfl, _, Eq.trans (World.drewN_drewN _ _ _) (congrArg (World.drewN _) (Nat.add_assoc _ _ _))⟩)) | (go_at_call 34; (with_reducible refine (spileref47_Between.calls ((rd_T33 l0 x4_1).f4) ((rd_T33 l0 x4_1).f3) 100000 t149 _ A14.out).mono ?_); rintro e w' ⟨rfl, ⟨nd, rfl⟩⟩; (try first | exact ⟨rfl, _, World.drewN_drewN _ _ _⟩ | exact ⟨rfl, _, Eq.trans (World.drewN_drewN _ _ _) (congrArg (World.drewN _) (Nat.add_assoc _ _ _))⟩))); try go_wp2_with (first | (go_at_call 34; (with_reducible refine (spileref47_Between.calls ((rd_T33 l0 x4_1).f0) 1 1073741824 true _ A8.out).mono ?_); rintro e w' ⟨rfl, ⟨nd, rfl⟩⟩; (try first | exact ⟨rfl, _, World.drewN_drewN _ _ _⟩ | exact ⟨rfl, _, Eq.trans (World.drewN_drewN _ _ _) (congrArg (World.drewN _) (Nat.add_assoc _ _ _))⟩)) | (go_at_call 34; (with_reducible refine (spileref47_Between.calls ((rd_T33 l0 x4_1).f2) 0 9 true _ A10.out).mono ?_); rintro e w' ⟨rfl, ⟨nd, rfl⟩⟩; (try first | exact ⟨rfl, _, World.drewN_drewN _ _ _⟩ | exact ⟨rfl, _, Eq.trans (World.drewN_drewN _ _ _) (congrArg (World.drewN _) (Nat.add_assoc _ _ _))⟩)) | (go_at_call 34; (with_reducible refine (spileref47_Between.calls ((rd_T33 l0 x4_1).f3) 0 100000 true _ A12.out).mono ?_); rintro e w' ⟨rfl, ⟨nd, rfl⟩⟩; (try first | exact ⟨rfl, _, World.drewN_drewN _ _ _⟩ | exact ⟨rfl, _, Eq.trans (World.drewN_drewN _ _ _) (congrArg (World.drewN _) (Nat.add_assoc _ _ _))⟩)) | (go_at_call 34; (with_reducible refine (spileref47_Between.calls ((rd_T33 l0 x4_1).f4) ((rd_T33 l0 x4_1).f3) 100000 t149 _ A14.out).mono ?_); rintro e w' ⟨rfl, ⟨nd, rfl⟩⟩; (try first | exact ⟨rfl, _, World.drewN_drewN _ _ _⟩ | exact ⟨rfl, _, Eq.trans (World.drewN_drewN _ _ _) (congrArg (World.drewN _) (Nat.add_assoc _ _ _))⟩))))
          go_meet
          case rel => exact ⟨_, (t149), (by first | rfl | (simp; done) | (simp [*]; done)), H', ⟨by have := HK1.out; first | omega | exact Nat.le_refl _⟩, ⟨by (with_reducible repeat (first | refine blk_drewN ?_ _ | refine blk_drew ?_ | refine blk_alloc ?_ _)); refine blk_put (cs := #[.int .i64 ((rd_T33 l0 x4_1).f0), .string ((rd_T33 l0 x4_1).f1), .int .i64 ((rd_T33 l0 x4_1).f2), .int .i64 ((rd_T33 l0 x4_1).f3), .int .i64 ((rd_T33 l0 x4_1).f4), .int .i64 ((rd_T33 l0 x4_1).f5), .int .i64 0]) ?_ 6 _ rfl; (with_reducible repeat (first | refine blk_drewN ?_ _ | refine blk_drew ?_ | refine blk_alloc ?_ _)); refine blk_put (cs := #[.int .i64 ((rd_T33 l0 x4_1).f0), .string ((rd_T33 l0 x4_1).f1), .int .i64 ((rd_T33 l0 x4_1).f2), .int .i64 ((rd_T33 l0 x4_1).f3), .int .i64 ((rd_T33 l0 x4_1).f4), .int .i64 0, .int .i64 0]) ?_ 5 _ rfl; (with_reducible repeat (first | refine blk_drewN ?_ _ | refine blk_drew ?_ | refine blk_alloc ?_ _)); refine blk_put (cs := #[.int .i64 ((rd_T33 l0 x4_1).f0), .string ((rd_T33 l0 x4_1).f1), .int .i64 ((rd_T33 l0 x4_1).f2), .int .i64 ((rd_T33 l0 x4_1).f3), .int .i64 0, .int .i64 0, .int .i64 0]) ?_ 4 _ rfl; (with_reducible repeat (first | refine blk_drewN ?_ _ | refine blk_drew ?_ | refine blk_alloc ?_ _)); refine blk_put (cs := #[.int .i64 ((rd_T33 l0 x4_1).f0), .string ((rd_T33 l0 x4_1).f1), .int .i64 ((rd_T33 l0 x4_1).f2), .int .i64 0, .int .i64 0, .int .i64 0, .int .i64 0]) ?_ 3 _ rfl; (with_reducible repeat (first | refine blk_drewN ?_ _ | refine blk_drew ?_ | refine blk_alloc ?_ _)); refine blk_put (cs := #[.int .i64 ((rd_T33 l0 x4_1).f0), .string ((rd_T33 l0 x4_1).f1), .int .i64 0, .int .i64 0, .int .i64 0, .int .i64 0, .int .i64 0]) ?_ 2 _ rfl; (with_reducible repeat (first | refine blk_drewN ?_ _ | refine blk_drew ?_ | refine blk_alloc ?_ _)); refine blk_put (cs := #[.int .i64 ((rd_T33 l0 x4_1).f0), .string (⟨#[]⟩ : ByteArray), .int .i64 0, .int .i64 0, .int .i64 0, .int .i64 0, .int .i64 0]) ?_ 1 _ rfl; (with_reducible repeat (first | refine blk_drewN ?_ _ | refine blk_drew ?_ | refine blk_alloc ?_ _)); refine blk_put (cs := #[.int .i64 0, .string (⟨#[]⟩ : ByteArray), .int .i64 0, .int .i64 0, .int .i64 0, .int .i64 0, .int .i64 0]) ?_ 0 _ rfl; (with_reducible repeat (first | refine blk_drewN ?_ _ | refine blk_drew ?_ | refine blk_alloc ?_ _)); exact BK145.out⟩, ⟨by repeat (first | (with_reducible first | exact HB.out | apply below_alloc | apply pw_below_drewN | apply below_drew1 | refine below_set ?_ GE145.out) | exact HB.out)⟩⟩
         ·replace c13 := Bool.eq_false_iff.mpr c13
          subst c13
          have H1 : (spileref47_Check.j1 k1 l0 x4_1 false ((rd_T33 l0 x4_1).f0) ((rd_T33 l0 x4_1).f1) ((rd_T33 l0 x4_1).f2) ((rd_T33 l0 x4_1).f3) ((rd_T33 l0 x4_1).f4) ((rd_T33 l0 x4_1).f5) ((rd_T33 l0 x4_1).f6)) = some (r1, r2) := by rw [if_neg (show ¬ (false = true) by decide)] at H; exact H
          clear H; have H := H1; clear H1
          have H' := Aside0.mk H
          clear H
          have hcz16_0 : w6.cell? ⟨gb145, 0, none⟩ = some (.int .i64 0) := (blk_cell BK145.out 0).trans rfl
          have hcz16_1 : w6.cell? ⟨gb145, 1, none⟩ = some (.string (⟨#[]⟩ : ByteArray)) := (blk_cell BK145.out 1).trans rfl
          have hcz16_2 : w6.cell? ⟨gb145, 2, none⟩ = some (.int .i64 0) := (blk_cell BK145.out 2).trans rfl
          have hcz16_3 : w6.cell? ⟨gb145, 3, none⟩ = some (.int .i64 0) := (blk_cell BK145.out 3).trans rfl
          have hcz16_4 : w6.cell? ⟨gb145, 4, none⟩ = some (.int .i64 0) := (blk_cell BK145.out 4).trans rfl
          have hcz16_5 : w6.cell? ⟨gb145, 5, none⟩ = some (.int .i64 0) := (blk_cell BK145.out 5).trans rfl
          have hcz16_6 : w6.cell? ⟨gb145, 6, none⟩ = some (.int .i64 0) := (blk_cell BK145.out 6).trans rfl
          have hfz16_0 := blk_frozen BK145.out 0
          have hfz16_1 := blk_frozen BK145.out 1
          have hfz16_2 := blk_frozen BK145.out 2
          have hfz16_3 := blk_frozen BK145.out 3
          have hfz16_4 := blk_frozen BK145.out 4
          have hfz16_5 := blk_frozen BK145.out 5
          have hfz16_6 := blk_frozen BK145.out 6
          go_wp2_with (first | (go_at_call 34; (with_reducible refine (spileref47_Between.calls ((rd_T33 l0 x4_1).f0) 1 1073741824 true _ A8.out).mono ?_); rintro e w' ⟨rfl, ⟨nd, rfl⟩⟩; (try first | exact ⟨rfl, _, World.drewN_drewN _ _ _⟩ | exact ⟨rfl, _, Eq.trans (World.drewN_drewN _ _ _) (congrArg (World.drewN _) (Nat.add_assoc _ _ _))⟩)) | (go_at_call 34; (with_reducible refine (spileref47_Between.calls ((rd_T33 l0 x4_1).f2) 0 9 true _ A10.out).mono ?_); rintro e w' ⟨rfl, ⟨nd, rfl⟩⟩; (try first | exact ⟨rfl, _, World.drewN_drewN _ _ _⟩ | exact ⟨rfl, _, Eq.trans (World.drewN_drewN _ _ _) (congrArg (World.drewN _) (Nat.add_assoc _ _ _))⟩)) | (go_at_call 34; (with_reducible refine (spileref47_Between.calls ((rd_T33 l0 x4_1).f3) 0 100000 false _ A12.out).mono ?_); rintro e w' ⟨rfl, ⟨nd, rfl⟩⟩; (try first | exact ⟨rfl, _, World.drewN_drewN _ _ _⟩ | exact ⟨rfl, _, Eq.trans (World.drewN_drewN _ _ _) (congrArg (World.drewN _) (Nat.add_assoc _ _ _))⟩)))
          repeat (go_quiet (first | (go_at_call 34; (with_reducible refine (spileref47_Between.calls ((rd_T33 l0 x4_1).f0) 1 1073741824 true _ A8.out).mono ?_); rintro e w' ⟨rfl, ⟨nd, rfl⟩⟩; (try first | exact ⟨rfl, _, World.drewN_drewN _ _ _⟩ | exact ⟨rfl, _, Eq.trans (World.drewN_drewN _ _ _) (congrArg (World.drewN _) (Nat.add_assoc _ _ _))⟩)) | (go_at_call 34; (with_reducible refine (spileref47_Between.calls ((rd_T33 l0 x4_1).f2) 0 9 true _ A10.out).mono ?_); rintro e w' ⟨rfl, ⟨nd, rfl⟩⟩; (try first | exact ⟨rfl, _, World.drewN_drewN _ _ _⟩ | exact ⟨rfl, _, Eq.trans (World.drewN_drewN _ _ _) (congrArg (World.drewN _) (Nat.add_assoc _ _ _))⟩)) | (go_at_call 34; (with_reducible refine (spileref47_Between.calls ((rd_T33 l0 x4_1).f3) 0 100000 false _ A12.out).mono ?_); rintro e w' ⟨rfl, ⟨nd, rfl⟩⟩; (try first | exact ⟨rfl, _, World.drewN_drewN _ _ _⟩ | exact ⟨rfl, _, Eq.trans (World.drewN_drewN _ _ _) (congrArg (World.drewN _) (Nat.add_assoc _ _ _))⟩))); try go_wp2_with (first | (go_at_call 34; (with_reducible refine (spileref47_Between.calls ((rd_T33 l0 x4_1).f0) 1 1073741824 true _ A8.out).mono ?_); rintro e w' ⟨rfl, ⟨nd, rfl⟩⟩; (try first | exact ⟨rfl, _, World.drewN_drewN _ _ _⟩ | exact ⟨rfl, _, Eq.trans (World.drewN_drewN _ _ _) (congrArg (World.drewN _) (Nat.add_assoc _ _ _))⟩)) | (go_at_call 34; (with_reducible refine (spileref47_Between.calls ((rd_T33 l0 x4_1).f2) 0 9 true _ A10.out).mono ?_); rintro e w' ⟨rfl, ⟨nd, rfl⟩⟩; (try first | exact ⟨rfl, _, World.drewN_drewN _ _ _⟩ | exact ⟨rfl, _, Eq.trans (World.drewN_drewN _ _ _) (congrArg (World.drewN _) (Nat.add_assoc _ _ _))⟩)) | (go_at_call 34; (with_reducible refine (spileref47_Between.calls ((rd_T33 l0 x4_1).f3) 0 100000 false _ A12.out).mono ?_); rintro e w' ⟨rfl, ⟨nd, rfl⟩⟩; (try first | exact ⟨rfl, _, World.drewN_drewN _ _ _⟩ | exact ⟨rfl, _, Eq.trans (World.drewN_drewN _ _ _) (congrArg (World.drewN _) (Nat.add_assoc _ _ _))⟩))))
          go_meet
          case rel => exact ⟨_, (false), (by first | rfl | (simp; done) | (simp [*]; done)), H', ⟨by have := HK1.out; first | omega | exact Nat.le_refl _⟩, ⟨by (with_reducible repeat (first | refine blk_drewN ?_ _ | refine blk_drew ?_ | refine blk_alloc ?_ _)); refine blk_put (cs := #[.int .i64 ((rd_T33 l0 x4_1).f0), .string ((rd_T33 l0 x4_1).f1), .int .i64 ((rd_T33 l0 x4_1).f2), .int .i64 ((rd_T33 l0 x4_1).f3), .int .i64 ((rd_T33 l0 x4_1).f4), .int .i64 ((rd_T33 l0 x4_1).f5), .int .i64 0]) ?_ 6 _ rfl; (with_reducible repeat (first | refine blk_drewN ?_ _ | refine blk_drew ?_ | refine blk_alloc ?_ _)); refine blk_put (cs := #[.int .i64 ((rd_T33 l0 x4_1).f0), .string ((rd_T33 l0 x4_1).f1), .int .i64 ((rd_T33 l0 x4_1).f2), .int .i64 ((rd_T33 l0 x4_1).f3), .int .i64 ((rd_T33 l0 x4_1).f4), .int .i64 0, .int .i64 0]) ?_ 5 _ rfl; (with_reducible repeat (first | refine blk_drewN ?_ _ | refine blk_drew ?_ | refine blk_alloc ?_ _)); refine blk_put (cs := #[.int .i64 ((rd_T33 l0 x4_1).f0), .string ((rd_T33 l0 x4_1).f1), .int .i64 ((rd_T33 l0 x4_1).f2), .int .i64 ((rd_T33 l0 x4_1).f3), .int .i64 0, .int .i64 0, .int .i64 0]) ?_ 4 _ rfl; (with_reducible repeat (first | refine blk_drewN ?_ _ | refine blk_drew ?_ | refine blk_alloc ?_ _)); refine blk_put (cs := #[.int .i64 ((rd_T33 l0 x4_1).f0), .string ((rd_T33 l0 x4_1).f1), .int .i64 ((rd_T33 l0 x4_1).f2), .int .i64 0, .int .i64 0, .int .i64 0, .int .i64 0]) ?_ 3 _ rfl; (with_reducible repeat (first | refine blk_drewN ?_ _ | refine blk_drew ?_ | refine blk_alloc ?_ _)); refine blk_put (cs := #[.int .i64 ((rd_T33 l0 x4_1).f0), .string ((rd_T33 l0 x4_1).f1), .int .i64 0, .int .i64 0, .int .i64 0, .int .i64 0, .int .i64 0]) ?_ 2 _ rfl; (with_reducible repeat (first | refine blk_drewN ?_ _ | refine blk_drew ?_ | refine blk_alloc ?_ _)); refine blk_put (cs := #[.int .i64 ((rd_T33 l0 x4_1).f0), .string (⟨#[]⟩ : ByteArray), .int .i64 0, .int .i64 0, .int .i64 0, .int .i64 0, .int .i64 0]) ?_ 1 _ rfl; (with_reducible repeat (first | refine blk_drewN ?_ _ | refine blk_drew ?_ | refine blk_alloc ?_ _)); refine blk_put (cs := #[.int .i64 0, .string (⟨#[]⟩ : ByteArray), .int .i64 0, .int .i64 0, .int .i64 0, .int .i64 0, .int .i64 0]) ?_ 0 _ rfl; (with_reducible repeat (first | refine blk_drewN ?_ _ | refine blk_drew ?_ | refine blk_alloc ?_ _)); exact BK145.out⟩, ⟨by repeat (first | (with_reducible first | exact HB.out | apply below_alloc | apply pw_below_drewN | apply below_drew1 | refine below_set ?_ GE145.out) | exact HB.out)⟩⟩
        ·replace c11 := Bool.eq_false_iff.mpr c11
         subst c11
         have H1 : (spileref47_Check.j1 k1 l0 x4_1 false ((rd_T33 l0 x4_1).f0) ((rd_T33 l0 x4_1).f1) ((rd_T33 l0 x4_1).f2) ((rd_T33 l0 x4_1).f3) ((rd_T33 l0 x4_1).f4) ((rd_T33 l0 x4_1).f5) ((rd_T33 l0 x4_1).f6)) = some (r1, r2) := by rw [if_neg (show ¬ (false = true) by decide)] at H; exact H
         clear H; have H := H1; clear H1
         have H' := Aside0.mk H
         clear H
         have hcz17_0 : w6.cell? ⟨gb145, 0, none⟩ = some (.int .i64 0) := (blk_cell BK145.out 0).trans rfl
         have hcz17_1 : w6.cell? ⟨gb145, 1, none⟩ = some (.string (⟨#[]⟩ : ByteArray)) := (blk_cell BK145.out 1).trans rfl
         have hcz17_2 : w6.cell? ⟨gb145, 2, none⟩ = some (.int .i64 0) := (blk_cell BK145.out 2).trans rfl
         have hcz17_3 : w6.cell? ⟨gb145, 3, none⟩ = some (.int .i64 0) := (blk_cell BK145.out 3).trans rfl
         have hcz17_4 : w6.cell? ⟨gb145, 4, none⟩ = some (.int .i64 0) := (blk_cell BK145.out 4).trans rfl
         have hcz17_5 : w6.cell? ⟨gb145, 5, none⟩ = some (.int .i64 0) := (blk_cell BK145.out 5).trans rfl
         have hcz17_6 : w6.cell? ⟨gb145, 6, none⟩ = some (.int .i64 0) := (blk_cell BK145.out 6).trans rfl
         have hfz17_0 := blk_frozen BK145.out 0
         have hfz17_1 := blk_frozen BK145.out 1
         have hfz17_2 := blk_frozen BK145.out 2
         have hfz17_3 := blk_frozen BK145.out 3
         have hfz17_4 := blk_frozen BK145.out 4
         have hfz17_5 := blk_frozen BK145.out 5
         have hfz17_6 := blk_frozen BK145.out 6
         go_wp2_with (first | (go_at_call 34; (with_reducible refine (spileref47_Between.calls ((rd_T33 l0 x4_1).f0) 1 1073741824 true _ A8.out).mono ?_); rintro e w' ⟨rfl, ⟨nd, rfl⟩⟩; (try first | exact ⟨rfl, _, World.drewN_drewN _ _ _⟩ | exact ⟨rfl, _, Eq.trans (World.drewN_drewN _ _ _) (congrArg (World.drewN _) (Nat.add_assoc _ _ _))⟩)) | (go_at_call 34; (with_reducible refine (spileref47_Between.calls ((rd_T33 l0 x4_1).f2) 0 9 false _ A10.out).mono ?_); rintro e w' ⟨rfl, ⟨nd, rfl⟩⟩; (try first | exact ⟨rfl, _, World.drewN_drewN _ _ _⟩ | exact ⟨rfl, _, Eq.trans (World.drewN_drewN _ _ _) (congrArg (World.drewN _) (Nat.add_assoc _ _ _))⟩)))
         repeat (go_quiet (first | (go_at_call 34; (with_reducible refine (spileref47_Between.calls ((rd_T33 l0 x4_1).f0) 1 1073741824 true _ A8.out).mono ?_); rintro e w' ⟨rfl, ⟨nd, rfl⟩⟩; (try first | exact ⟨rfl, _, World.drewN_drewN _ _ _⟩ | exact ⟨rfl, _, Eq.trans (World.drewN_drewN _ _ _) (congrArg (World.drewN _) (Nat.add_assoc _ _ _))⟩)) | (go_at_call 34; (with_reducible refine (spileref47_Between.calls ((rd_T33 l0 x4_1).f2) 0 9 false _ A10.out).mono ?_); rintro e w' ⟨rfl, ⟨nd, rfl⟩⟩; (try first | exact ⟨rfl, _, World.drewN_drewN _ _ _⟩ | exact ⟨rfl, _, Eq.trans (World.drewN_drewN _ _ _) (congrArg (World.drewN _) (Nat.add_assoc _ _ _))⟩))); try go_wp2_with (first | (go_at_call 34; (with_reducible refine (spileref47_Between.calls ((rd_T33 l0 x4_1).f0) 1 1073741824 true _ A8.out).mono ?_); rintro e w' ⟨rfl, ⟨nd, rfl⟩⟩; (try first | exact ⟨rfl, _, World.drewN_drewN _ _ _⟩ | exact ⟨rfl, _, Eq.trans (World.drewN_drewN _ _ _) (congrArg (World.drewN _) (Nat.add_assoc _ _ _))⟩)) | (go_at_call 34; (with_reducible refine (spileref47_Between.calls ((rd_T33 l0 x4_1).f2) 0 9 false _ A10.out).mono ?_); rintro e w' ⟨rfl, ⟨nd, rfl⟩⟩; (try first | exact ⟨rfl, _, World.drewN_drewN _ _ _⟩ | exact ⟨rfl, _, Eq.trans (World.drewN_drewN _ _ _) (congrArg (World.drewN _) (Nat.add_assoc _ _ _))⟩))))
         go_meet
         case rel => exact ⟨_, (false), (by first | rfl | (simp; done) | (simp [*]; done)), H', ⟨by have := HK1.out; first | omega | exact Nat.le_refl _⟩, ⟨by (with_reducible repeat (first | refine blk_drewN ?_ _ | refine blk_drew ?_ | refine blk_alloc ?_ _)); refine blk_put (cs := #[.int .i64 ((rd_T33 l0 x4_1).f0), .string ((rd_T33 l0 x4_1).f1), .int .i64 ((rd_T33 l0 x4_1).f2), .int .i64 ((rd_T33 l0 x4_1).f3), .int .i64 ((rd_T33 l0 x4_1).f4), .int .i64 ((rd_T33 l0 x4_1).f5), .int .i64 0]) ?_ 6 _ rfl; (with_reducible repeat (first | refine blk_drewN ?_ _ | refine blk_drew ?_ | refine blk_alloc ?_ _)); refine blk_put (cs := #[.int .i64 ((rd_T33 l0 x4_1).f0), .string ((rd_T33 l0 x4_1).f1), .int .i64 ((rd_T33 l0 x4_1).f2), .int .i64 ((rd_T33 l0 x4_1).f3), .int .i64 ((rd_T33 l0 x4_1).f4), .int .i64 0, .int .i64 0]) ?_ 5 _ rfl; (with_reducible repeat (first | refine blk_drewN ?_ _ | refine blk_drew ?_ | refine blk_alloc ?_ _)); refine blk_put (cs := #[.int .i64 ((rd_T33 l0 x4_1).f0), .string ((rd_T33 l0 x4_1).f1), .int .i64 ((rd_T33 l0 x4_1).f2), .int .i64 ((rd_T33 l0 x4_1).f3), .int .i64 0, .int .i64 0, .int .i64 0]) ?_ 4 _ rfl; (with_reducible repeat (first | refine blk_drewN ?_ _ | refine blk_drew ?_ | refine blk_alloc ?_ _)); refine blk_put (cs := #[.int .i64 ((rd_T33 l0 x4_1).f0), .string ((rd_T33 l0 x4_1).f1), .int .i64 ((rd_T33 l0 x4_1).f2), .int .i64 0, .int .i64 0, .int .i64 0, .int .i64 0]) ?_ 3 _ rfl; (with_reducible repeat (first | refine blk_drewN ?_ _ | refine blk_drew ?_ | refine blk_alloc ?_ _)); refine blk_put (cs := #[.int .i64 ((rd_T33 l0 x4_1).f0), .string ((rd_T33 l0 x4_1).f1), .int .i64 0, .int .i64 0, .int .i64 0, .int .i64 0, .int .i64 0]) ?_ 2 _ rfl; (with_reducible repeat (first | refine blk_drewN ?_ _ | refine blk_drew ?_ | refine blk_alloc ?_ _)); refine blk_put (cs := #[.int .i64 ((rd_T33 l0 x4_1).f0), .string (⟨#[]⟩ : ByteArray), .int .i64 0, .int .i64 0, .int .i64 0, .int .i64 0, .int .i64 0]) ?_ 1 _ rfl; (with_reducible repeat (first | refine blk_drewN ?_ _ | refine blk_drew ?_ | refine blk_alloc ?_ _)); refine blk_put (cs := #[.int .i64 0, .string (⟨#[]⟩ : ByteArray), .int .i64 0, .int .i64 0, .int .i64 0, .int .i64 0, .int .i64 0]) ?_ 0 _ rfl; (with_reducible repeat (first | refine blk_drewN ?_ _ | refine blk_drew ?_ | refine blk_alloc ?_ _)); exact BK145.out⟩, ⟨by repeat (first | (with_reducible first | exact HB.out | apply below_alloc | apply pw_below_drewN | apply below_drew1 | refine below_set ?_ GE145.out) | exact HB.out)⟩⟩
       ·replace c9 := Bool.eq_false_iff.mpr c9
        subst c9
        have H1 : (spileref47_Check.j1 k1 l0 x4_1 false ((rd_T33 l0 x4_1).f0) ((rd_T33 l0 x4_1).f1) ((rd_T33 l0 x4_1).f2) ((rd_T33 l0 x4_1).f3) ((rd_T33 l0 x4_1).f4) ((rd_T33 l0 x4_1).f5) ((rd_T33 l0 x4_1).f6)) = some (r1, r2) := by rw [if_neg (show ¬ (false = true) by decide)] at H; exact H
        clear H; have H := H1; clear H1
        have H' := Aside0.mk H
        clear H
        have hcz18_0 : w6.cell? ⟨gb145, 0, none⟩ = some (.int .i64 0) := (blk_cell BK145.out 0).trans rfl
        have hcz18_1 : w6.cell? ⟨gb145, 1, none⟩ = some (.string (⟨#[]⟩ : ByteArray)) := (blk_cell BK145.out 1).trans rfl
        have hcz18_2 : w6.cell? ⟨gb145, 2, none⟩ = some (.int .i64 0) := (blk_cell BK145.out 2).trans rfl
        have hcz18_3 : w6.cell? ⟨gb145, 3, none⟩ = some (.int .i64 0) := (blk_cell BK145.out 3).trans rfl
        have hcz18_4 : w6.cell? ⟨gb145, 4, none⟩ = some (.int .i64 0) := (blk_cell BK145.out 4).trans rfl
        have hcz18_5 : w6.cell? ⟨gb145, 5, none⟩ = some (.int .i64 0) := (blk_cell BK145.out 5).trans rfl
        have hcz18_6 : w6.cell? ⟨gb145, 6, none⟩ = some (.int .i64 0) := (blk_cell BK145.out 6).trans rfl
        have hfz18_0 := blk_frozen BK145.out 0
        have hfz18_1 := blk_frozen BK145.out 1
        have hfz18_2 := blk_frozen BK145.out 2
        have hfz18_3 := blk_frozen BK145.out 3
        have hfz18_4 := blk_frozen BK145.out 4
        have hfz18_5 := blk_frozen BK145.out 5
        have hfz18_6 := blk_frozen BK145.out 6
        go_wp2_with (first | (go_at_call 34; (with_reducible refine (spileref47_Between.calls ((rd_T33 l0 x4_1).f0) 1 1073741824 false _ A8.out).mono ?_); rintro e w' ⟨rfl, ⟨nd, rfl⟩⟩; (try first | exact ⟨rfl, _, World.drewN_drewN _ _ _⟩ | exact ⟨rfl, _, Eq.trans (World.drewN_drewN _ _ _) (congrArg (World.drewN _) (Nat.add_assoc _ _ _))⟩)))
        repeat (go_quiet (first | (go_at_call 34; (with_reducible refine (spileref47_Between.calls ((rd_T33 l0 x4_1).f0) 1 1073741824 false _ A8.out).mono ?_); rintro e w' ⟨rfl, ⟨nd, rfl⟩⟩; (try first | exact ⟨rfl, _, World.drewN_drewN _ _ _⟩ | exact ⟨rfl, _, Eq.trans (World.drewN_drewN _ _ _) (congrArg (World.drewN _) (Nat.add_assoc _ _ _))⟩))); try go_wp2_with (first | (go_at_call 34; (with_reducible refine (spileref47_Between.calls ((rd_T33 l0 x4_1).f0) 1 1073741824 false _ A8.out).mono ?_); rintro e w' ⟨rfl, ⟨nd, rfl⟩⟩; (try first | exact ⟨rfl, _, World.drewN_drewN _ _ _⟩ | exact ⟨rfl, _, Eq.trans (World.drewN_drewN _ _ _) (congrArg (World.drewN _) (Nat.add_assoc _ _ _))⟩))))
        go_meet
        case rel => exact ⟨_, (false), (by first | rfl | (simp; done) | (simp [*]; done)), H', ⟨by have := HK1.out; first | omega | exact Nat.le_refl _⟩, ⟨by (with_reducible repeat (first | refine blk_drewN ?_ _ | refine blk_drew ?_ | refine blk_alloc ?_ _)); refine blk_put (cs := #[.int .i64 ((rd_T33 l0 x4_1).f0), .string ((rd_T33 l0 x4_1).f1), .int .i64 ((rd_T33 l0 x4_1).f2), .int .i64 ((rd_T33 l0 x4_1).f3), .int .i64 ((rd_T33 l0 x4_1).f4), .int .i64 ((rd_T33 l0 x4_1).f5), .int .i64 0]) ?_ 6 _ rfl; (with_reducible repeat (first | refine blk_drewN ?_ _ | refine blk_drew ?_ | refine blk_alloc ?_ _)); refine blk_put (cs := #[.int .i64 ((rd_T33 l0 x4_1).f0), .string ((rd_T33 l0 x4_1).f1), .int .i64 ((rd_T33 l0 x4_1).f2), .int .i64 ((rd_T33 l0 x4_1).f3), .int .i64 ((rd_T33 l0 x4_1).f4), .int .i64 0, .int .i64 0]) ?_ 5 _ rfl; (with_reducible repeat (first | refine blk_drewN ?_ _ | refine blk_drew ?_ | refine blk_alloc ?_ _)); refine blk_put (cs := #[.int .i64 ((rd_T33 l0 x4_1).f0), .string ((rd_T33 l0 x4_1).f1), .int .i64 ((rd_T33 l0 x4_1).f2), .int .i64 ((rd_T33 l0 x4_1).f3), .int .i64 0, .int .i64 0, .int .i64 0]) ?_ 4 _ rfl; (with_reducible repeat (first | refine blk_drewN ?_ _ | refine blk_drew ?_ | refine blk_alloc ?_ _)); refine blk_put (cs := #[.int .i64 ((rd_T33 l0 x4_1).f0), .string ((rd_T33 l0 x4_1).f1), .int .i64 ((rd_T33 l0 x4_1).f2), .int .i64 0, .int .i64 0, .int .i64 0, .int .i64 0]) ?_ 3 _ rfl; (with_reducible repeat (first | refine blk_drewN ?_ _ | refine blk_drew ?_ | refine blk_alloc ?_ _)); refine blk_put (cs := #[.int .i64 ((rd_T33 l0 x4_1).f0), .string ((rd_T33 l0 x4_1).f1), .int .i64 0, .int .i64 0, .int .i64 0, .int .i64 0, .int .i64 0]) ?_ 2 _ rfl; (with_reducible repeat (first | refine blk_drewN ?_ _ | refine blk_drew ?_ | refine blk_alloc ?_ _)); refine blk_put (cs := #[.int .i64 ((rd_T33 l0 x4_1).f0), .string (⟨#[]⟩ : ByteArray), .int .i64 0, .int .i64 0, .int .i64 0, .int .i64 0, .int .i64 0]) ?_ 1 _ rfl; (with_reducible repeat (first | refine blk_drewN ?_ _ | refine blk_drew ?_ | refine blk_alloc ?_ _)); refine blk_put (cs := #[.int .i64 0, .string (⟨#[]⟩ : ByteArray), .int .i64 0, .int .i64 0, .int .i64 0, .int .i64 0, .int .i64 0]) ?_ 0 _ rfl; (with_reducible repeat (first | refine blk_drewN ?_ _ | refine blk_drew ?_ | refine blk_alloc ?_ _)); exact BK145.out⟩, ⟨by repeat (first | (with_reducible first | exact HB.out | apply below_alloc | apply pw_below_drewN | apply below_drew1 | refine below_set ?_ GE145.out) | exact HB.out)⟩⟩
      case rest =>
       clear HC5
       obtain ⟨kq, x6_4, rfl, HA, HJ4, BK145, HB⟩ := hcut
       cases kq with
       | zero => exact absurd HA.out (by simp [spileref47_Check.j1])
       | succ kj4 =>
        have H := HA.out; clear HA
        simp only [spileref47_Check.j1] at H
        have HC19 := Aside0.mk H
        clear H
        go_upto_region 8 with (fail)
        repeat (go_quiet (fail); go_upto_region 8 with (fail))
        go_cut [40] (fun v40 wc => ∃ (kq : Nat) (x40_18 : Bool), v40 = .bool x40_18 ∧ Aside0 (spileref47_Check.j2 kq l0 x4_1 x40_18 ((rd_T33 l0 x4_1).f0) ((rd_T33 l0 x4_1).f1) ((rd_T33 l0 x4_1).f2) ((rd_T33 l0 x4_1).f3) ((rd_T33 l0 x4_1).f4) ((rd_T33 l0 x4_1).f5) ((rd_T33 l0 x4_1).f6) = some (r1, r2)) ∧ Aside0 (kq ≤ kj4) ∧ Aside0 (wc.heap[gb145]? = some (.cells #[.int .i64 ((rd_T33 l0 x4_1).f0), .string ((rd_T33 l0 x4_1).f1), .int .i64 ((rd_T33 l0 x4_1).f2), .int .i64 ((rd_T33 l0 x4_1).f3), .int .i64 ((rd_T33 l0 x4_1).f4), .int .i64 ((rd_T33 l0 x4_1).f5), .int .i64 ((rd_T33 l0 x4_1).f6)] 33 (0, 0))) ∧ Aside0 (Below w.heap.size w wc))
        case first =>
         have H := HC19.out; clear HC19
         by_cases c20 : x6_4 = true
         ·subst c20
          have H1 : ((spileref47_Between.f ((rd_T33 l0 x4_1).f5) 1 10000).bind fun t150 => (if t150 = true then ((spileref47_Between.f ((rd_T33 l0 x4_1).f6) 0 10737418240000).bind fun t151 => (spileref47_Check.j2 kj4 l0 x4_1 (!t151) ((rd_T33 l0 x4_1).f0) ((rd_T33 l0 x4_1).f1) ((rd_T33 l0 x4_1).f2) ((rd_T33 l0 x4_1).f3) ((rd_T33 l0 x4_1).f4) ((rd_T33 l0 x4_1).f5) ((rd_T33 l0 x4_1).f6))) else (spileref47_Check.j2 kj4 l0 x4_1 true ((rd_T33 l0 x4_1).f0) ((rd_T33 l0 x4_1).f1) ((rd_T33 l0 x4_1).f2) ((rd_T33 l0 x4_1).f3) ((rd_T33 l0 x4_1).f4) ((rd_T33 l0 x4_1).f5) ((rd_T33 l0 x4_1).f6)))) = some (r1, r2) := by rw [if_pos rfl] at H; exact H
          clear H; have H := H1; clear H1
          replace H := Option.bind_eq_some_iff.mp H
          obtain ⟨t150, A210, H⟩ := H
          try dsimp only at H
          have A21 := Aside0.mk A210
          clear A210
          by_cases c22 : t150 = true
          ·subst c22
           have H1 : ((spileref47_Between.f ((rd_T33 l0 x4_1).f6) 0 10737418240000).bind fun t151 => (spileref47_Check.j2 kj4 l0 x4_1 (!t151) ((rd_T33 l0 x4_1).f0) ((rd_T33 l0 x4_1).f1) ((rd_T33 l0 x4_1).f2) ((rd_T33 l0 x4_1).f3) ((rd_T33 l0 x4_1).f4) ((rd_T33 l0 x4_1).f5) ((rd_T33 l0 x4_1).f6))) = some (r1, r2) := by rw [if_pos rfl] at H; exact H
           clear H; have H := H1; clear H1
           replace H := Option.bind_eq_some_iff.mp H
           obtain ⟨t151, A230, H⟩ := H
           try dsimp only at H
           have A23 := Aside0.mk A230
           clear A230
           have H' := Aside0.mk H
           clear H
           have hcz24_0 : wc.cell? ⟨gb145, 0, none⟩ = some (.int .i64 ((rd_T33 l0 x4_1).f0)) := (blk_cell BK145.out 0).trans rfl
           have hcz24_1 : wc.cell? ⟨gb145, 1, none⟩ = some (.string ((rd_T33 l0 x4_1).f1)) := (blk_cell BK145.out 1).trans rfl
           have hcz24_2 : wc.cell? ⟨gb145, 2, none⟩ = some (.int .i64 ((rd_T33 l0 x4_1).f2)) := (blk_cell BK145.out 2).trans rfl
           have hcz24_3 : wc.cell? ⟨gb145, 3, none⟩ = some (.int .i64 ((rd_T33 l0 x4_1).f3)) := (blk_cell BK145.out 3).trans rfl
           have hcz24_4 : wc.cell? ⟨gb145, 4, none⟩ = some (.int .i64 ((rd_T33 l0 x4_1).f4)) := (blk_cell BK145.out 4).trans rfl
           have hcz24_5 : wc.cell? ⟨gb145, 5, none⟩ = some (.int .i64 ((rd_T33 l0 x4_1).f5)) := (blk_cell BK145.out 5).trans rfl
           have hcz24_6 : wc.cell? ⟨gb145, 6, none⟩ = some (.int .i64 ((rd_T33 l0 x4_1).f6)) := (blk_cell BK145.out 6).trans rfl
           have hfz24_0 := blk_frozen BK145.out 0
           have hfz24_1 := blk_frozen BK145.out 1
           have hfz24_2 := blk_frozen BK145.out 2
           have hfz24_3 := blk_frozen BK145.out 3
           have hfz24_4 := blk_frozen BK145.out 4
           have hfz24_5 := blk_frozen BK145.out 5
           have hfz24_6 := blk_frozen BK145.out 6
           go_wp2_with (first | (go_at_call 34; (with_reducible refine (spileref47_Between.calls ((rd_T33 l0 x4_1).f5) 1 10000 true _ A21.out).mono ?_); rintro e w' ⟨rfl, ⟨nd, rfl⟩⟩; (try first | exact ⟨rfl, _, World.drewN_drewN _ _ _⟩ | exact ⟨rfl, _, Eq.trans (World.drewN_drewN _ _ _) (congrArg (World.drewN _) (Nat.add_assoc _ _ _))⟩)) | (go_at_call 34; (with_reducible refine (spileref47_Between.calls ((rd_T33 l0 x4_1).f6) 0 10737418240000 t151 _ A23.out).mono ?_); rintro e w' ⟨rfl, ⟨nd, rfl⟩⟩; (try first | exact ⟨rfl, _, World.drewN_drewN _ _ _⟩ | exact ⟨rfl, _, Eq.trans (World.drewN_drewN _ _ _) (congrArg (World.drewN _) (Nat.add_assoc _ _ _))⟩)))
           repeat (go_quiet (first | (go_at_call 34; (with_reducible refine (spileref47_Between.calls ((rd_T33 l0 x4_1).f5) 1 10000 true _ A21.out).mono ?_); rintro e w' ⟨rfl, ⟨nd, rfl⟩⟩; (try first | exact ⟨rfl, _, World.drewN_drewN _ _ _⟩ | exact ⟨rfl, _, Eq.trans (World.drewN_drewN _ _ _) (congrArg (World.drewN _) (Nat.add_assoc _ _ _))⟩)) | (go_at_call 34; (with_reducible refine (spileref47_Between.calls ((rd_T33 l0 x4_1).f6) 0 10737418240000 t151 _ A23.out).mono ?_); rintro e w' ⟨rfl, ⟨nd, rfl⟩⟩; (try first | exact ⟨rfl, _, World.drewN_drewN _ _ _⟩ | exact ⟨rfl, _, Eq.trans (World.drewN_drewN _ _ _) (congrArg (World.drewN _) (Nat.add_assoc _ _ _))⟩))); try go_wp2_with (first | (go_at_call 34; (with_reducible refine (spileref47_Between.calls ((rd_T33 l0 x4_1).f5) 1 10000 true _ A21.out).mono ?_); rintro e w' ⟨rfl, ⟨nd, rfl⟩⟩; (try first | exact ⟨rfl, _, World.drewN_drewN _ _ _⟩ | exact ⟨rfl, _, Eq.trans (World.drewN_drewN _ _ _) (congrArg (World.drewN _) (Nat.add_assoc _ _ _))⟩)) | (go_at_call 34; (with_reducible refine (spileref47_Between.calls ((rd_T33 l0 x4_1).f6) 0 10737418240000 t151 _ A23.out).mono ?_); rintro e w' ⟨rfl, ⟨nd, rfl⟩⟩; (try first | exact ⟨rfl, _, World.drewN_drewN _ _ _⟩ | exact ⟨rfl, _, Eq.trans (World.drewN_drewN _ _ _) (congrArg (World.drewN _) (Nat.add_assoc _ _ _))⟩))))
           go_meet
           case rel => exact ⟨_, (!t151), (by first | rfl | (simp; done) | (simp [*]; done)), H', ⟨by have := HK1.out; have := HJ4.out; first | omega | exact Nat.le_refl _⟩, ⟨by (with_reducible repeat (first | refine blk_drewN ?_ _ | refine blk_drew ?_ | refine blk_alloc ?_ _)); exact BK145.out⟩, ⟨by repeat (first | (with_reducible first | exact HB.out | apply below_alloc | apply pw_below_drewN | apply below_drew1 | refine below_set ?_ GE145.out) | exact HB.out)⟩⟩
          ·replace c22 := Bool.eq_false_iff.mpr c22
           subst c22
           have H1 : (spileref47_Check.j2 kj4 l0 x4_1 true ((rd_T33 l0 x4_1).f0) ((rd_T33 l0 x4_1).f1) ((rd_T33 l0 x4_1).f2) ((rd_T33 l0 x4_1).f3) ((rd_T33 l0 x4_1).f4) ((rd_T33 l0 x4_1).f5) ((rd_T33 l0 x4_1).f6)) = some (r1, r2) := by rw [if_neg (show ¬ (false = true) by decide)] at H; exact H
           clear H; have H := H1; clear H1
           have H' := Aside0.mk H
           clear H
           have hcz25_0 : wc.cell? ⟨gb145, 0, none⟩ = some (.int .i64 ((rd_T33 l0 x4_1).f0)) := (blk_cell BK145.out 0).trans rfl
           have hcz25_1 : wc.cell? ⟨gb145, 1, none⟩ = some (.string ((rd_T33 l0 x4_1).f1)) := (blk_cell BK145.out 1).trans rfl
           have hcz25_2 : wc.cell? ⟨gb145, 2, none⟩ = some (.int .i64 ((rd_T33 l0 x4_1).f2)) := (blk_cell BK145.out 2).trans rfl
           have hcz25_3 : wc.cell? ⟨gb145, 3, none⟩ = some (.int .i64 ((rd_T33 l0 x4_1).f3)) := (blk_cell BK145.out 3).trans rfl
           have hcz25_4 : wc.cell? ⟨gb145, 4, none⟩ = some (.int .i64 ((rd_T33 l0 x4_1).f4)) := (blk_cell BK145.out 4).trans rfl
           have hcz25_5 : wc.cell? ⟨gb145, 5, none⟩ = some (.int .i64 ((rd_T33 l0 x4_1).f5)) := (blk_cell BK145.out 5).trans rfl
           have hcz25_6 : wc.cell? ⟨gb145, 6, none⟩ = some (.int .i64 ((rd_T33 l0 x4_1).f6)) := (blk_cell BK145.out 6).trans rfl
           have hfz25_0 := blk_frozen BK145.out 0
           have hfz25_1 := blk_frozen BK145.out 1
           have hfz25_2 := blk_frozen BK145.out 2
           have hfz25_3 := blk_frozen BK145.out 3
           have hfz25_4 := blk_frozen BK145.out 4
           have hfz25_5 := blk_frozen BK145.out 5
           have hfz25_6 := blk_frozen BK145.out 6
           go_wp2_with (first | (go_at_call 34; (with_reducible refine (spileref47_Between.calls ((rd_T33 l0 x4_1).f5) 1 10000 false _ A21.out).mono ?_); rintro e w' ⟨rfl, ⟨nd, rfl⟩⟩; (try first | exact ⟨rfl, _, World.drewN_drewN _ _ _⟩ | exact ⟨rfl, _, Eq.trans (World.drewN_drewN _ _ _) (congrArg (World.drewN _) (Nat.add_assoc _ _ _))⟩)))
           repeat (go_quiet (first | (go_at_call 34; (with_reducible refine (spileref47_Between.calls ((rd_T33 l0 x4_1).f5) 1 10000 false _ A21.out).mono ?_); rintro e w' ⟨rfl, ⟨nd, rfl⟩⟩; (try first | exact ⟨rfl, _, World.drewN_drewN _ _ _⟩ | exact ⟨rfl, _, Eq.trans (World.drewN_drewN _ _ _) (congrArg (World.drewN _) (Nat.add_assoc _ _ _))⟩))); try go_wp2_with (first | (go_at_call 34; (with_reducible refine (spileref47_Between.calls ((rd_T33 l0 x4_1).f5) 1 10000 false _ A21.out).mono ?_); rintro e w' ⟨rfl, ⟨nd, rfl⟩⟩; (try first | exact ⟨rfl, _, World.drewN_drewN _ _ _⟩ | exact ⟨rfl, _, Eq.trans (World.drewN_drewN _ _ _) (congrArg (World.drewN _) (Nat.add_assoc _ _ _))⟩))))
           go_meet
           case rel => exact ⟨_, (true), (by first | rfl | (simp; done) | (simp [*]; done)), H', ⟨by have := HK1.out; have := HJ4.out; first | omega | exact Nat.le_refl _⟩, ⟨by (with_reducible repeat (first | refine blk_drewN ?_ _ | refine blk_drew ?_ | refine blk_alloc ?_ _)); exact BK145.out⟩, ⟨by repeat (first | (with_reducible first | exact HB.out | apply below_alloc | apply pw_below_drewN | apply below_drew1 | refine below_set ?_ GE145.out) | exact HB.out)⟩⟩
         ·replace c20 := Bool.eq_false_iff.mpr c20
          subst c20
          have H1 : (spileref47_Check.j2 kj4 l0 x4_1 true ((rd_T33 l0 x4_1).f0) ((rd_T33 l0 x4_1).f1) ((rd_T33 l0 x4_1).f2) ((rd_T33 l0 x4_1).f3) ((rd_T33 l0 x4_1).f4) ((rd_T33 l0 x4_1).f5) ((rd_T33 l0 x4_1).f6)) = some (r1, r2) := by rw [if_neg (show ¬ (false = true) by decide)] at H; exact H
          clear H; have H := H1; clear H1
          have H' := Aside0.mk H
          clear H
          go_wp2
          repeat (go_quiet (fail); try go_wp2)
          go_meet
          case rel => exact ⟨_, (true), (by first | rfl | (simp; done) | (simp [*]; done)), H', ⟨by have := HK1.out; have := HJ4.out; first | omega | exact Nat.le_refl _⟩, ⟨by (with_reducible repeat (first | refine blk_drewN ?_ _ | refine blk_drew ?_ | refine blk_alloc ?_ _)); exact BK145.out⟩, ⟨by repeat (first | (with_reducible first | exact HB.out | apply below_alloc | apply pw_below_drewN | apply below_drew1 | refine below_set ?_ GE145.out) | exact HB.out)⟩⟩
        case rest =>
         clear HC19
         obtain ⟨kq, x40_18, rfl, HA, HJ18, BK145, HB⟩ := hcut
         cases kq with
         | zero => exact absurd HA.out (by simp [spileref47_Check.j2])
         | succ kj18 =>
          have H := HA.out; clear HA
          simp only [spileref47_Check.j2] at H
          by_cases c26 : x40_18 = true
          ·subst c26
           have H1 : (some (x4_1, 2)) = some (r1, r2) := by rw [if_pos rfl] at H; exact H
           clear H; have H := H1; clear H1
           simp only [Option.some.injEq, Prod.mk.injEq] at H
           obtain ⟨rfl, rfl⟩ := H
           go_wp2
           repeat (go_quiet (fail); try go_wp2)
           go_ret2
           exact ⟨by first | rfl | (simp [errW_none, errW_some] <;> rfl) | (simp [*, errW_none, errW_some] <;> rfl), by repeat (first | (with_reducible first | exact HB.out | apply below_alloc | apply pw_below_drewN | apply below_drew1 | refine below_set ?_ GE145.out) | exact HB.out)⟩
          ·replace c26 := Bool.eq_false_iff.mpr c26
           subst c26
           have H1 : ((spileref47_Named.f kj18 ((rd_T33 l0 x4_1).f1)).bind fun t152 => (if t152 = true then (if x4_1 > 0 then (if 0 ≤ (wrap64 (x4_1 - 1)) then (if (wrap64 (x4_1 - 1)) < (l0.length : Int) then (if ((rd_T33 l0 x4_1).f0) ≤ ((rd_T33 l0 (wrap64 (x4_1 - 1))).f0) then (some (x4_1, 5)) else (spileref47_Check.l0 kj18 l0 (wrap64 (x4_1 + 1)))) else (none)) else (none)) else (spileref47_Check.l0 kj18 l0 (wrap64 (x4_1 + 1)))) else (some (x4_1, 4)))) = some (r1, r2) := by rw [if_neg (show ¬ (false = true) by decide)] at H; exact H
           clear H; have H := H1; clear H1
           replace H := Option.bind_eq_some_iff.mp H
           obtain ⟨t152, A270, H⟩ := H
           try dsimp only at H
           have A27 := Aside0.mk A270
           clear A270
           by_cases c28 : t152 = true
           ·subst c28
            have H1 : (if x4_1 > 0 then (if 0 ≤ (wrap64 (x4_1 - 1)) then (if (wrap64 (x4_1 - 1)) < (l0.length : Int) then (if ((rd_T33 l0 x4_1).f0) ≤ ((rd_T33 l0 (wrap64 (x4_1 - 1))).f0) then (some (x4_1, 5)) else (spileref47_Check.l0 kj18 l0 (wrap64 (x4_1 + 1)))) else (none)) else (none)) else (spileref47_Check.l0 kj18 l0 (wrap64 (x4_1 + 1)))) = some (r1, r2) := by rw [if_pos rfl] at H; exact H
            clear H; have H := H1; clear H1
            by_cases c29 : x4_1 > 0
            ·rw [if_pos c29] at H
             have c29b0 : decide (0 < x4_1) = true := decide_eq_true c29
             clear c29
             obtain ⟨ji30, hji30⟩ : ∃ j_ : Int, (wrap64 (x4_1 - 1)) = j_ := ⟨_, rfl⟩
             replace H : (if 0 ≤ (ji30) then (if (ji30) < (l0.length : Int) then (if ((rd_T33 l0 x4_1).f0) ≤ ((rd_T33 l0 (ji30)).f0) then (some (x4_1, 5)) else (spileref47_Check.l0 kj18 l0 (wrap64 (x4_1 + 1)))) else (none)) else (none)) = some (r1, r2) := by first | (rw [hji30] at H; exact H) | (simp only [hji30] at H ⊢; exact H)
             (try rw [hji30] at A27)
             have hji30w : (IntKind.i64.wrap (x4_1 - 1)) = ji30 := (i64_w _).trans hji30
             by_cases c31 : 0 ≤ (ji30)
             ·rw [if_pos c31] at H
              have c31b0 : decide (0 ≤ (ji30)) = true := decide_eq_true c31
              clear c31
              by_cases c32 : (ji30) < (l0.length : Int)
              ·rw [if_pos c32] at H
               have c32b0 : decide ((ji30) < (l0.length : Int)) = true := decide_eq_true c32
               clear c32
               by_cases c33 : ((rd_T33 l0 x4_1).f0) ≤ ((rd_T33 l0 (ji30)).f0)
               ·rw [if_pos c33] at H
                have c33b0 : decide (((rd_T33 l0 x4_1).f0) ≤ ((rd_T33 l0 (ji30)).f0)) = true := decide_eq_true c33
                clear c33
                simp only [Option.some.injEq, Prod.mk.injEq] at H
                obtain ⟨rfl, rfl⟩ := H
                have hcz34_0 : wc.cell? ⟨gb145, 0, none⟩ = some (.int .i64 ((rd_T33 l0 x4_1).f0)) := (blk_cell BK145.out 0).trans rfl
                have hcz34_1 : wc.cell? ⟨gb145, 1, none⟩ = some (.string ((rd_T33 l0 x4_1).f1)) := (blk_cell BK145.out 1).trans rfl
                have hcz34_2 : wc.cell? ⟨gb145, 2, none⟩ = some (.int .i64 ((rd_T33 l0 x4_1).f2)) := (blk_cell BK145.out 2).trans rfl
                have hcz34_3 : wc.cell? ⟨gb145, 3, none⟩ = some (.int .i64 ((rd_T33 l0 x4_1).f3)) := (blk_cell BK145.out 3).trans rfl
                have hcz34_4 : wc.cell? ⟨gb145, 4, none⟩ = some (.int .i64 ((rd_T33 l0 x4_1).f4)) := (blk_cell BK145.out 4).trans rfl
                have hcz34_5 : wc.cell? ⟨gb145, 5, none⟩ = some (.int .i64 ((rd_T33 l0 x4_1).f5)) := (blk_cell BK145.out 5).trans rfl
                have hcz34_6 : wc.cell? ⟨gb145, 6, none⟩ = some (.int .i64 ((rd_T33 l0 x4_1).f6)) := (blk_cell BK145.out 6).trans rfl
                have hfz34_0 := blk_frozen BK145.out 0
                have hfz34_1 := blk_frozen BK145.out 1
                have hfz34_2 := blk_frozen BK145.out 2
                have hfz34_3 := blk_frozen BK145.out 3
                have hfz34_4 := blk_frozen BK145.out 4
                have hfz34_5 := blk_frozen BK145.out 5
                have hfz34_6 := blk_frozen BK145.out 6
                go_wp2_with (first | (go_at_call 35; (with_reducible refine (spileref47_Named.calls kj18 ((rd_T33 l0 x4_1).f1) true _ A27.out).mono ?_); rintro e w' ⟨rfl, ⟨nd, rfl⟩⟩; (try first | exact ⟨rfl, _, World.drewN_drewN _ _ _⟩ | exact ⟨rfl, _, Eq.trans (World.drewN_drewN _ _ _) (congrArg (World.drewN _) (Nat.add_assoc _ _ _))⟩); have p153 : 0 ≤ ((ji30) : Int) := of_decide_eq_true (by first | (with_reducible assumption) | assumption); have q153 : (ji30) < (l0.length : Int) := of_decide_eq_true (by first | (with_reducible assumption) | assumption); obtain ⟨ad153, e153, hx153_0, hx153_1, hx153_2, hx153_3, hx153_4, hx153_5, hx153_6⟩ := at_T33 HR0.out (ji30) p153 q153; obtain rfl : ad144 = ad153 := (by injection e153); replace hx153_0 := (HB.out.cell (World.block_lt_of_cell? w _ hx153_0)).trans hx153_0; replace hx153_1 := (HB.out.cell (World.block_lt_of_cell? w _ hx153_1)).trans hx153_1; replace hx153_2 := (HB.out.cell (World.block_lt_of_cell? w _ hx153_2)).trans hx153_2; replace hx153_3 := (HB.out.cell (World.block_lt_of_cell? w _ hx153_3)).trans hx153_3; replace hx153_4 := (HB.out.cell (World.block_lt_of_cell? w _ hx153_4)).trans hx153_4; replace hx153_5 := (HB.out.cell (World.block_lt_of_cell? w _ hx153_5)).trans hx153_5; replace hx153_6 := (HB.out.cell (World.block_lt_of_cell? w _ hx153_6)).trans hx153_6; replace p153 := eq_true p153; replace q153 := eq_true q153))
                repeat (go_quiet (first | (go_at_call 35; (with_reducible refine (spileref47_Named.calls kj18 ((rd_T33 l0 x4_1).f1) true _ A27.out).mono ?_); rintro e w' ⟨rfl, ⟨nd, rfl⟩⟩; (try first | exact ⟨rfl, _, World.drewN_drewN _ _ _⟩ | exact ⟨rfl, _, Eq.trans (World.drewN_drewN _ _ _) (congrArg (World.drewN _) (Nat.add_assoc _ _ _))⟩); have p153 : 0 ≤ ((ji30) : Int) := of_decide_eq_true (by first | (with_reducible assumption) | assumption); have q153 : (ji30) < (l0.length : Int) := of_decide_eq_true (by first | (with_reducible assumption) | assumption); obtain ⟨ad153, e153, hx153_0, hx153_1, hx153_2, hx153_3, hx153_4, hx153_5, hx153_6⟩ := at_T33 HR0.out (ji30) p153 q153; obtain rfl : ad144 = ad153 := (by injection e153); replace hx153_0 := (HB.out.cell (World.block_lt_of_cell? w _ hx153_0)).trans hx153_0; replace hx153_1 := (HB.out.cell (World.block_lt_of_cell? w _ hx153_1)).trans hx153_1; replace hx153_2 := (HB.out.cell (World.block_lt_of_cell? w _ hx153_2)).trans hx153_2; replace hx153_3 := (HB.out.cell (World.block_lt_of_cell? w _ hx153_3)).trans hx153_3; replace hx153_4 := (HB.out.cell (World.block_lt_of_cell? w _ hx153_4)).trans hx153_4; replace hx153_5 := (HB.out.cell (World.block_lt_of_cell? w _ hx153_5)).trans hx153_5; replace hx153_6 := (HB.out.cell (World.block_lt_of_cell? w _ hx153_6)).trans hx153_6; replace p153 := eq_true p153; replace q153 := eq_true q153)); try go_wp2_with (first | (go_at_call 35; (with_reducible refine (spileref47_Named.calls kj18 ((rd_T33 l0 x4_1).f1) true _ A27.out).mono ?_); rintro e w' ⟨rfl, ⟨nd, rfl⟩⟩; (try first | exact ⟨rfl, _, World.drewN_drewN _ _ _⟩ | exact ⟨rfl, _, Eq.trans (World.drewN_drewN _ _ _) (congrArg (World.drewN _) (Nat.add_assoc _ _ _))⟩); have p153 : 0 ≤ ((ji30) : Int) := of_decide_eq_true (by first | (with_reducible assumption) | assumption); have q153 : (ji30) < (l0.length : Int) := of_decide_eq_true (by first | (with_reducible assumption) | assumption); obtain ⟨ad153, e153, hx153_0, hx153_1, hx153_2, hx153_3, hx153_4, hx153_5, hx153_6⟩ := at_T33 HR0.out (ji30) p153 q153; obtain rfl : ad144 = ad153 := (by injection e153); replace hx153_0 := (HB.out.cell (World.block_lt_of_cell? w _ hx153_0)).trans hx153_0; replace hx153_1 := (HB.out.cell (World.block_lt_of_cell? w _ hx153_1)).trans hx153_1; replace hx153_2 := (HB.out.cell (World.block_lt_of_cell? w _ hx153_2)).trans hx153_2; replace hx153_3 := (HB.out.cell (World.block_lt_of_cell? w _ hx153_3)).trans hx153_3; replace hx153_4 := (HB.out.cell (World.block_lt_of_cell? w _ hx153_4)).trans hx153_4; replace hx153_5 := (HB.out.cell (World.block_lt_of_cell? w _ hx153_5)).trans hx153_5; replace hx153_6 := (HB.out.cell (World.block_lt_of_cell? w _ hx153_6)).trans hx153_6; replace p153 := eq_true p153; replace q153 := eq_true q153)))
                go_ret2
                exact ⟨by first | rfl | (simp [errW_none, errW_some] <;> rfl) | (simp only [← hji30]; first | rfl | (simp [errW_none, errW_some] <;> rfl)) | (simp [*, errW_none, errW_some] <;> rfl), by repeat (first | (with_reducible first | exact HB.out | apply below_alloc | apply pw_below_drewN | apply below_drew1 | refine below_set ?_ GE145.out) | exact HB.out)⟩
               ·rw [if_neg c33] at H
                have c33b0 : decide (((rd_T33 l0 x4_1).f0) ≤ ((rd_T33 l0 (ji30)).f0)) = false := decide_eq_false c33
                clear c33
                have H' := Aside0.mk H
                clear H
                have hcz35_0 : wc.cell? ⟨gb145, 0, none⟩ = some (.int .i64 ((rd_T33 l0 x4_1).f0)) := (blk_cell BK145.out 0).trans rfl
                have hcz35_1 : wc.cell? ⟨gb145, 1, none⟩ = some (.string ((rd_T33 l0 x4_1).f1)) := (blk_cell BK145.out 1).trans rfl
                have hcz35_2 : wc.cell? ⟨gb145, 2, none⟩ = some (.int .i64 ((rd_T33 l0 x4_1).f2)) := (blk_cell BK145.out 2).trans rfl
                have hcz35_3 : wc.cell? ⟨gb145, 3, none⟩ = some (.int .i64 ((rd_T33 l0 x4_1).f3)) := (blk_cell BK145.out 3).trans rfl
                have hcz35_4 : wc.cell? ⟨gb145, 4, none⟩ = some (.int .i64 ((rd_T33 l0 x4_1).f4)) := (blk_cell BK145.out 4).trans rfl
                have hcz35_5 : wc.cell? ⟨gb145, 5, none⟩ = some (.int .i64 ((rd_T33 l0 x4_1).f5)) := (blk_cell BK145.out 5).trans rfl
                have hcz35_6 : wc.cell? ⟨gb145, 6, none⟩ = some (.int .i64 ((rd_T33 l0 x4_1).f6)) := (blk_cell BK145.out 6).trans rfl
                have hfz35_0 := blk_frozen BK145.out 0
                have hfz35_1 := blk_frozen BK145.out 1
                have hfz35_2 := blk_frozen BK145.out 2
                have hfz35_3 := blk_frozen BK145.out 3
                have hfz35_4 := blk_frozen BK145.out 4
                have hfz35_5 := blk_frozen BK145.out 5
                have hfz35_6 := blk_frozen BK145.out 6
                go_wp2_with (first | (go_at_call 35; (with_reducible refine (spileref47_Named.calls kj18 ((rd_T33 l0 x4_1).f1) true _ A27.out).mono ?_); rintro e w' ⟨rfl, ⟨nd, rfl⟩⟩; (try first | exact ⟨rfl, _, World.drewN_drewN _ _ _⟩ | exact ⟨rfl, _, Eq.trans (World.drewN_drewN _ _ _) (congrArg (World.drewN _) (Nat.add_assoc _ _ _))⟩); have p153 : 0 ≤ ((ji30) : Int) := of_decide_eq_true (by first | (with_reducible assumption) | assumption); have q153 : (ji30) < (l0.length : Int) := of_decide_eq_true (by first | (with_reducible assumption) | assumption); obtain ⟨ad153, e153, hx153_0, hx153_1, hx153_2, hx153_3, hx153_4, hx153_5, hx153_6⟩ := at_T33 HR0.out (ji30) p153 q153; obtain rfl : ad144 = ad153 := (by injection e153); replace hx153_0 := (HB.out.cell (World.block_lt_of_cell? w _ hx153_0)).trans hx153_0; replace hx153_1 := (HB.out.cell (World.block_lt_of_cell? w _ hx153_1)).trans hx153_1; replace hx153_2 := (HB.out.cell (World.block_lt_of_cell? w _ hx153_2)).trans hx153_2; replace hx153_3 := (HB.out.cell (World.block_lt_of_cell? w _ hx153_3)).trans hx153_3; replace hx153_4 := (HB.out.cell (World.block_lt_of_cell? w _ hx153_4)).trans hx153_4; replace hx153_5 := (HB.out.cell (World.block_lt_of_cell? w _ hx153_5)).trans hx153_5; replace hx153_6 := (HB.out.cell (World.block_lt_of_cell? w _ hx153_6)).trans hx153_6; replace p153 := eq_true p153; replace q153 := eq_true q153))
                repeat (go_quiet (first | (go_at_call 35; (with_reducible refine (spileref47_Named.calls kj18 ((rd_T33 l0 x4_1).f1) true _ A27.out).mono ?_); rintro e w' ⟨rfl, ⟨nd, rfl⟩⟩; (try first | exact ⟨rfl, _, World.drewN_drewN _ _ _⟩ | exact ⟨rfl, _, Eq.trans (World.drewN_drewN _ _ _) (congrArg (World.drewN _) (Nat.add_assoc _ _ _))⟩); have p153 : 0 ≤ ((ji30) : Int) := of_decide_eq_true (by first | (with_reducible assumption) | assumption); have q153 : (ji30) < (l0.length : Int) := of_decide_eq_true (by first | (with_reducible assumption) | assumption); obtain ⟨ad153, e153, hx153_0, hx153_1, hx153_2, hx153_3, hx153_4, hx153_5, hx153_6⟩ := at_T33 HR0.out (ji30) p153 q153; obtain rfl : ad144 = ad153 := (by injection e153); replace hx153_0 := (HB.out.cell (World.block_lt_of_cell? w _ hx153_0)).trans hx153_0; replace hx153_1 := (HB.out.cell (World.block_lt_of_cell? w _ hx153_1)).trans hx153_1; replace hx153_2 := (HB.out.cell (World.block_lt_of_cell? w _ hx153_2)).trans hx153_2; replace hx153_3 := (HB.out.cell (World.block_lt_of_cell? w _ hx153_3)).trans hx153_3; replace hx153_4 := (HB.out.cell (World.block_lt_of_cell? w _ hx153_4)).trans hx153_4; replace hx153_5 := (HB.out.cell (World.block_lt_of_cell? w _ hx153_5)).trans hx153_5; replace hx153_6 := (HB.out.cell (World.block_lt_of_cell? w _ hx153_6)).trans hx153_6; replace p153 := eq_true p153; replace q153 := eq_true q153)); try go_wp2_with (first | (go_at_call 35; (with_reducible refine (spileref47_Named.calls kj18 ((rd_T33 l0 x4_1).f1) true _ A27.out).mono ?_); rintro e w' ⟨rfl, ⟨nd, rfl⟩⟩; (try first | exact ⟨rfl, _, World.drewN_drewN _ _ _⟩ | exact ⟨rfl, _, Eq.trans (World.drewN_drewN _ _ _) (congrArg (World.drewN _) (Nat.add_assoc _ _ _))⟩); have p153 : 0 ≤ ((ji30) : Int) := of_decide_eq_true (by first | (with_reducible assumption) | assumption); have q153 : (ji30) < (l0.length : Int) := of_decide_eq_true (by first | (with_reducible assumption) | assumption); obtain ⟨ad153, e153, hx153_0, hx153_1, hx153_2, hx153_3, hx153_4, hx153_5, hx153_6⟩ := at_T33 HR0.out (ji30) p153 q153; obtain rfl : ad144 = ad153 := (by injection e153); replace hx153_0 := (HB.out.cell (World.block_lt_of_cell? w _ hx153_0)).trans hx153_0; replace hx153_1 := (HB.out.cell (World.block_lt_of_cell? w _ hx153_1)).trans hx153_1; replace hx153_2 := (HB.out.cell (World.block_lt_of_cell? w _ hx153_2)).trans hx153_2; replace hx153_3 := (HB.out.cell (World.block_lt_of_cell? w _ hx153_3)).trans hx153_3; replace hx153_4 := (HB.out.cell (World.block_lt_of_cell? w _ hx153_4)).trans hx153_4; replace hx153_5 := (HB.out.cell (World.block_lt_of_cell? w _ hx153_5)).trans hx153_5; replace hx153_6 := (HB.out.cell (World.block_lt_of_cell? w _ hx153_6)).trans hx153_6; replace p153 := eq_true p153; replace q153 := eq_true q153)))
                go_roundg kj18
                case measure => have := HK1.out; have := HJ4.out; have := HJ18.out; omega
                case rel => exact ⟨(wrap64 (x4_1 + 1)), (by first | rfl | (simp; done) | (simp [*]; done)), H', ⟨by have := HK1.out; have := HJ4.out; have := HJ18.out; omega⟩, ⟨by repeat (first | (with_reducible first | exact HB.out | apply below_alloc | apply pw_below_drewN | apply below_drew1 | refine below_set ?_ GE145.out) | exact HB.out)⟩⟩
              ·rw [if_neg c32] at H
               exact absurd H (by simp)
             ·rw [if_neg c31] at H
              exact absurd H (by simp)
            ·rw [if_neg c29] at H
             have c29b0 : decide (0 < x4_1) = false := decide_eq_false c29
             clear c29
             have H' := Aside0.mk H
             clear H
             have hcz36_0 : wc.cell? ⟨gb145, 0, none⟩ = some (.int .i64 ((rd_T33 l0 x4_1).f0)) := (blk_cell BK145.out 0).trans rfl
             have hcz36_1 : wc.cell? ⟨gb145, 1, none⟩ = some (.string ((rd_T33 l0 x4_1).f1)) := (blk_cell BK145.out 1).trans rfl
             have hcz36_2 : wc.cell? ⟨gb145, 2, none⟩ = some (.int .i64 ((rd_T33 l0 x4_1).f2)) := (blk_cell BK145.out 2).trans rfl
             have hcz36_3 : wc.cell? ⟨gb145, 3, none⟩ = some (.int .i64 ((rd_T33 l0 x4_1).f3)) := (blk_cell BK145.out 3).trans rfl
             have hcz36_4 : wc.cell? ⟨gb145, 4, none⟩ = some (.int .i64 ((rd_T33 l0 x4_1).f4)) := (blk_cell BK145.out 4).trans rfl
             have hcz36_5 : wc.cell? ⟨gb145, 5, none⟩ = some (.int .i64 ((rd_T33 l0 x4_1).f5)) := (blk_cell BK145.out 5).trans rfl
             have hcz36_6 : wc.cell? ⟨gb145, 6, none⟩ = some (.int .i64 ((rd_T33 l0 x4_1).f6)) := (blk_cell BK145.out 6).trans rfl
             have hfz36_0 := blk_frozen BK145.out 0
             have hfz36_1 := blk_frozen BK145.out 1
             have hfz36_2 := blk_frozen BK145.out 2
             have hfz36_3 := blk_frozen BK145.out 3
             have hfz36_4 := blk_frozen BK145.out 4
             have hfz36_5 := blk_frozen BK145.out 5
             have hfz36_6 := blk_frozen BK145.out 6
             go_wp2_with (first | (go_at_call 35; (with_reducible refine (spileref47_Named.calls kj18 ((rd_T33 l0 x4_1).f1) true _ A27.out).mono ?_); rintro e w' ⟨rfl, ⟨nd, rfl⟩⟩; (try first | exact ⟨rfl, _, World.drewN_drewN _ _ _⟩ | exact ⟨rfl, _, Eq.trans (World.drewN_drewN _ _ _) (congrArg (World.drewN _) (Nat.add_assoc _ _ _))⟩)))
             repeat (go_quiet (first | (go_at_call 35; (with_reducible refine (spileref47_Named.calls kj18 ((rd_T33 l0 x4_1).f1) true _ A27.out).mono ?_); rintro e w' ⟨rfl, ⟨nd, rfl⟩⟩; (try first | exact ⟨rfl, _, World.drewN_drewN _ _ _⟩ | exact ⟨rfl, _, Eq.trans (World.drewN_drewN _ _ _) (congrArg (World.drewN _) (Nat.add_assoc _ _ _))⟩))); try go_wp2_with (first | (go_at_call 35; (with_reducible refine (spileref47_Named.calls kj18 ((rd_T33 l0 x4_1).f1) true _ A27.out).mono ?_); rintro e w' ⟨rfl, ⟨nd, rfl⟩⟩; (try first | exact ⟨rfl, _, World.drewN_drewN _ _ _⟩ | exact ⟨rfl, _, Eq.trans (World.drewN_drewN _ _ _) (congrArg (World.drewN _) (Nat.add_assoc _ _ _))⟩))))
             go_roundg kj18
             case measure => have := HK1.out; have := HJ4.out; have := HJ18.out; omega
             case rel => exact ⟨(wrap64 (x4_1 + 1)), (by first | rfl | (simp; done) | (simp [*]; done)), H', ⟨by have := HK1.out; have := HJ4.out; have := HJ18.out; omega⟩, ⟨by repeat (first | (with_reducible first | exact HB.out | apply below_alloc | apply pw_below_drewN | apply below_drew1 | refine below_set ?_ GE145.out) | exact HB.out)⟩⟩
           ·replace c28 := Bool.eq_false_iff.mpr c28
            subst c28
            have H1 : (some (x4_1, 4)) = some (r1, r2) := by rw [if_neg (show ¬ (false = true) by decide)] at H; exact H
            clear H; have H := H1; clear H1
            simp only [Option.some.injEq, Prod.mk.injEq] at H
            obtain ⟨rfl, rfl⟩ := H
            have hcz37_0 : wc.cell? ⟨gb145, 0, none⟩ = some (.int .i64 ((rd_T33 l0 x4_1).f0)) := (blk_cell BK145.out 0).trans rfl
            have hcz37_1 : wc.cell? ⟨gb145, 1, none⟩ = some (.string ((rd_T33 l0 x4_1).f1)) := (blk_cell BK145.out 1).trans rfl
            have hcz37_2 : wc.cell? ⟨gb145, 2, none⟩ = some (.int .i64 ((rd_T33 l0 x4_1).f2)) := (blk_cell BK145.out 2).trans rfl
            have hcz37_3 : wc.cell? ⟨gb145, 3, none⟩ = some (.int .i64 ((rd_T33 l0 x4_1).f3)) := (blk_cell BK145.out 3).trans rfl
            have hcz37_4 : wc.cell? ⟨gb145, 4, none⟩ = some (.int .i64 ((rd_T33 l0 x4_1).f4)) := (blk_cell BK145.out 4).trans rfl
            have hcz37_5 : wc.cell? ⟨gb145, 5, none⟩ = some (.int .i64 ((rd_T33 l0 x4_1).f5)) := (blk_cell BK145.out 5).trans rfl
            have hcz37_6 : wc.cell? ⟨gb145, 6, none⟩ = some (.int .i64 ((rd_T33 l0 x4_1).f6)) := (blk_cell BK145.out 6).trans rfl
            have hfz37_0 := blk_frozen BK145.out 0
            have hfz37_1 := blk_frozen BK145.out 1
            have hfz37_2 := blk_frozen BK145.out 2
            have hfz37_3 := blk_frozen BK145.out 3
            have hfz37_4 := blk_frozen BK145.out 4
            have hfz37_5 := blk_frozen BK145.out 5
            have hfz37_6 := blk_frozen BK145.out 6
            go_wp2_with (first | (go_at_call 35; (with_reducible refine (spileref47_Named.calls kj18 ((rd_T33 l0 x4_1).f1) false _ A27.out).mono ?_); rintro e w' ⟨rfl, ⟨nd, rfl⟩⟩; (try first | exact ⟨rfl, _, World.drewN_drewN _ _ _⟩ | exact ⟨rfl, _, Eq.trans (World.drewN_drewN _ _ _) (congrArg (World.drewN _) (Nat.add_assoc _ _ _))⟩)))
            repeat (go_quiet (first | (go_at_call 35; (with_reducible refine (spileref47_Named.calls kj18 ((rd_T33 l0 x4_1).f1) false _ A27.out).mono ?_); rintro e w' ⟨rfl, ⟨nd, rfl⟩⟩; (try first | exact ⟨rfl, _, World.drewN_drewN _ _ _⟩ | exact ⟨rfl, _, Eq.trans (World.drewN_drewN _ _ _) (congrArg (World.drewN _) (Nat.add_assoc _ _ _))⟩))); try go_wp2_with (first | (go_at_call 35; (with_reducible refine (spileref47_Named.calls kj18 ((rd_T33 l0 x4_1).f1) false _ A27.out).mono ?_); rintro e w' ⟨rfl, ⟨nd, rfl⟩⟩; (try first | exact ⟨rfl, _, World.drewN_drewN _ _ _⟩ | exact ⟨rfl, _, Eq.trans (World.drewN_drewN _ _ _) (congrArg (World.drewN _) (Nat.add_assoc _ _ _))⟩))))
            go_ret2
            exact ⟨by first | rfl | (simp [errW_none, errW_some] <;> rfl) | (simp [*, errW_none, errW_some] <;> rfl), by repeat (first | (with_reducible first | exact HB.out | apply below_alloc | apply pw_below_drewN | apply below_drew1 | refine below_set ?_ GE145.out) | exact HB.out)⟩
     ·rw [if_neg c4] at H
      exact absurd H (by simp)
    ·rw [if_neg c3] at H
     have c3b0 : decide (x4_1 < (l0.length : Int)) = false := decide_eq_false c3
     clear c3
     simp only [Option.some.injEq, Prod.mk.injEq] at H
     obtain ⟨rfl, rfl⟩ := H
     go_wp2
     repeat (go_quiet (fail); try go_wp2)
     go_ret2
     exact ⟨by first | rfl | (simp [errW_none, errW_some] <;> rfl) | (simp [*, errW_none, errW_some] <;> rfl), by repeat (first | (with_reducible first | exact HB.out | apply below_alloc | apply pw_below_drewN | apply below_drew1) | exact HB.out)⟩
end Go.Proofs.Ytccocolcgdiglaa.X
