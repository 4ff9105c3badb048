-- Written by a program of this work, over the kit's print of the translation. Not trusted: Lean checks it.
import Derived.Test.YtccocolcgdiglaaXx0
import Derived.Test.YtccocolcgdiglaaWth
import Derived.Test.YtccocolcgdiglaaMpb
namespace Go.Proofs.Ytccocolcgdiglaa.X
open Go.RowKit Go.Proofs.YtccocolcgdiglaaW.PrintWords Go.Proofs.YtccocolcgdiglaaW.PrintLast Go.Proofs.YtccocolcgdiglaaW.PrintMore
attribute [local go_sem] max2_int min2_int max_two min_two max_three min_three max_four min_four   -- for this text's walks alone
set_option linter.unusedVariables false
set_option linter.unusedSimpArgs false
def keys25 (l : List S25) (i : Nat) : List Lit := (l.take i).map fun c => .int .i64 c.f0
def seen25 (l : List S25) (i a : Int) : Bool := (keys25 l i.toNat).any fun y => y.sameKey (.int .i64 a)
theorem keys25_lit (l : List S25) (i : Nat) : ∀ y ∈ keys25 l i, WideAt.IsKeyLit y := by
 intro y hy
 obtain ⟨c, _, rfl⟩ := List.mem_map.1 hy
 trivial
theorem zero4 (w : World) : (zeroValue 4).run Try.prog w = .ok (.bool false) w := by kernel_rfl
theorem wf25 {a : Int} (h : 0 ≤ a ∧ a ≤ 1073741824) : (Lit.int .i64 a).wf = true := WalkArith.wf_i64 (by omega)
theorem wrap25 {l : List S25} {x : Int} (h0 : 0 ≤ x) (h1 : x < (l.length : Int)) (h2 : l.length ≤ 64) : wrap64 (x + 1) = x + 1 := by unfold wrap64; omega
theorem nonneg25 {l : List S25} {x : Int} (h0 : 0 ≤ x) (h1 : x < (l.length : Int)) (h2 : l.length ≤ 64) : 0 ≤ wrap64 (x + 1) := by rw [wrap25 h0 h1 h2]; omega
theorem step25 {l : List S25} {x : Int} {w : World} {b : Nat} (h0 : 0 ≤ x) (h1 : x < (l.length : Int)) (h2 : l.length ≤ 64) (h : Mpb.OwnsSet Try.prog 3 4 w b (x.toNat + 1) (keys25 l x.toNat ++ [.int .i64 (rd_T25 l x).f0])) :
  Mpb.OwnsSet Try.prog 3 4 w b (wrap64 (x + 1)).toNat (keys25 l (wrap64 (x + 1)).toNat) := by
 rw [wrap25 h0 h1 h2, show (x + 1).toNat = x.toNat + 1 by omega]
 have e : keys25 l (x.toNat + 1) = keys25 l x.toNat ++ [.int .i64 (rd_T25 l x).f0] := by
  unfold keys25 rd_T25
  rw [List.take_add_one, List.getElem?_eq_getElem (by omega), List.map_append, List.getD_eq_getElem?_getD, List.getElem?_eq_getElem (by omega)]
  rfl
 rw [e]; exact h
/-! ### relief_Items: function 18 -/
mutual
def relief_Items.l0 : Nat → List (S25) → List (S25) → Int → Int → Option (Int × Int)
 | 0, _, _, _, _ => none
 | k + 1, x0, x11, x12, x13 => if x13 < x12 then (if 0 ≤ x13 then (if x13 < (x11.length : Int) then ((relief_within.f ((rd_T25 x11 x13).f0) 1 1073741824).bind fun t103 => (if t103 = true then ((relief_within.f ((rd_T25 x11 x13).f1) 1 9).bind fun t104 => (if t104 = true then ((relief_within.f ((rd_T25 x11 x13).f2) 0 100000).bind fun t105 => (if t105 = true then ((relief_within.f ((rd_T25 x11 x13).f3) 0 10737418240000).bind fun t106 => (if t106 = true then ((relief_within.f ((rd_T25 x11 x13).f4) 0 1073741824).bind fun t107 => (relief_Items.j1 k x0 x13 x11 x12 x13 (!t107) ((rd_T25 x11 x13).f0) ((rd_T25 x11 x13).f1) ((rd_T25 x11 x13).f2) ((rd_T25 x11 x13).f3) ((rd_T25 x11 x13).f4))) else (relief_Items.j1 k x0 x13 x11 x12 x13 true ((rd_T25 x11 x13).f0) ((rd_T25 x11 x13).f1) ((rd_T25 x11 x13).f2) ((rd_T25 x11 x13).f3) ((rd_T25 x11 x13).f4)))) else (relief_Items.j1 k x0 x13 x11 x12 x13 true ((rd_T25 x11 x13).f0) ((rd_T25 x11 x13).f1) ((rd_T25 x11 x13).f2) ((rd_T25 x11 x13).f3) ((rd_T25 x11 x13).f4)))) else (relief_Items.j1 k x0 x13 x11 x12 x13 true ((rd_T25 x11 x13).f0) ((rd_T25 x11 x13).f1) ((rd_T25 x11 x13).f2) ((rd_T25 x11 x13).f3) ((rd_T25 x11 x13).f4)))) else (relief_Items.j1 k x0 x13 x11 x12 x13 true ((rd_T25 x11 x13).f0) ((rd_T25 x11 x13).f1) ((rd_T25 x11 x13).f2) ((rd_T25 x11 x13).f3) ((rd_T25 x11 x13).f4)))) else (none)) else (none)) else (some ((-1), 0))
def relief_Items.j1 : Nat → List (S25) → Int → List (S25) → Int → Int → Bool → Int → Int → Int → Int → Int → Option (Int × Int)
 | 0, _, _, _, _, _, _, _, _, _, _, _ => none
 | k + 1, x0, x5, x11, x12, x13, x18, x103000, x103001, x103002, x103003, x103004 => if x18 = true then (some (x5, 2)) else (if x5 > 0 then (if 0 ≤ (wrap64 (x5 - 1)) then (if (wrap64 (x5 - 1)) < (x0.length : Int) then (if x103002 < ((rd_T25 x0 (wrap64 (x5 - 1))).f2) then (relief_Items.j2 k x0 x5 x11 x12 x13 true x103000 x103001 x103002 x103003 x103004) else (if x103002 = ((rd_T25 x0 (wrap64 (x5 - 1))).f2) then (relief_Items.j2 k x0 x5 x11 x12 x13 (decide (x103000 ≤ ((rd_T25 x0 (wrap64 (x5 - 1))).f0))) x103000 x103001 x103002 x103003 x103004) else (relief_Items.j2 k x0 x5 x11 x12 x13 false x103000 x103001 x103002 x103003 x103004))) else (none)) else (none)) else (relief_Items.j2 k x0 x5 x11 x12 x13 false x103000 x103001 x103002 x103003 x103004))
def relief_Items.j2 : Nat → List (S25) → Int → List (S25) → Int → Int → Bool → Int → Int → Int → Int → Int → Option (Int × Int)
 | 0, _, _, _, _, _, _, _, _, _, _, _ => none
 | k + 1, x0, x5, x11, x12, x13, x48, x103000, x103001, x103002, x103003, x103004 => if x48 = true then (some (x5, 5)) else (if (0 ≤ x103000 ∧ x103000 ≤ 1073741824) then (if seen25 x0 x13 x103000 = true then (some (x5, 6)) else (relief_Items.l0 k x0 x11 x12 (wrap64 (x13 + 1)))) else (none))
end
def relief_Items.f (k : Nat) (l0 : List (S25)) : Option (Int × Int) := if (l0.length : Int) > 64 then (some ((-1), 8)) else (relief_Items.l0 k l0 l0 (l0.length : Int) 0)
theorem relief_Items.mono_l : ∀ k, (∀ y0 y1 y2 y3, LeO (relief_Items.l0 k y0 y1 y2 y3) (relief_Items.l0 (k + 1) y0 y1 y2 y3)) ∧ (∀ y0 y1 y2 y3 y4 y5 y6 y7 y8 y9 y10, LeO (relief_Items.j1 k y0 y1 y2 y3 y4 y5 y6 y7 y8 y9 y10) (relief_Items.j1 (k + 1) y0 y1 y2 y3 y4 y5 y6 y7 y8 y9 y10)) ∧ (∀ y0 y1 y2 y3 y4 y5 y6 y7 y8 y9 y10, LeO (relief_Items.j2 k y0 y1 y2 y3 y4 y5 y6 y7 y8 y9 y10) (relief_Items.j2 (k + 1) y0 y1 y2 y3 y4 y5 y6 y7 y8 y9 y10))
 | 0 => ⟨fun _ _ _ _ r h => by simp [relief_Items.l0] at h, fun _ _ _ _ _ _ _ _ _ _ _ r h => by simp [relief_Items.j1] at h, fun _ _ _ _ _ _ _ _ _ _ _ r h => by simp [relief_Items.j2] at h⟩
 | k + 1 => by
  obtain ⟨ih0, ih1, ih2⟩ := relief_Items.mono_l k
  refine ⟨?_, ?_, ?_⟩
  ·intro y0 y1 y2 y3
   unfold relief_Items.l0
   repeat' first
   | (with_reducible exact ih0 _ _ _ _)
   | (with_reducible exact ih1 _ _ _ _ _ _ _ _ _ _ _)
   | (with_reducible exact ih2 _ _ _ _ _ _ _ _ _ _ _)
   | (with_reducible exact LeO.refl _)
   | (with_reducible exact LeO.none _)
   | (with_reducible refine LeO.ite ?_ ?_)
   | (with_reducible refine LeO.bind ?_ (fun _ => ?_))
   | exact ih0 _ _ _ _
   | exact ih1 _ _ _ _ _ _ _ _ _ _ _
   | exact ih2 _ _ _ _ _ _ _ _ _ _ _
   | exact LeO.none _
   | refine LeO.ite ?_ ?_
   | refine LeO.bind ?_ (fun _ => ?_)
  ·intro y0 y1 y2 y3 y4 y5 y6 y7 y8 y9 y10
   unfold relief_Items.j1
   repeat' first
   | (with_reducible exact ih0 _ _ _ _)
   | (with_reducible exact ih1 _ _ _ _ _ _ _ _ _ _ _)
   | (with_reducible exact ih2 _ _ _ _ _ _ _ _ _ _ _)
   | (with_reducible exact LeO.refl _)
   | (with_reducible exact LeO.none _)
   | (with_reducible refine LeO.ite ?_ ?_)
   | (with_reducible refine LeO.bind ?_ (fun _ => ?_))
   | exact ih0 _ _ _ _
   | exact ih1 _ _ _ _ _ _ _ _ _ _ _
   | exact ih2 _ _ _ _ _ _ _ _ _ _ _
   | exact LeO.none _
   | refine LeO.ite ?_ ?_
   | refine LeO.bind ?_ (fun _ => ?_)
  ·intro y0 y1 y2 y3 y4 y5 y6 y7 y8 y9 y10
   unfold relief_Items.j2
   repeat' first
   | (with_reducible exact ih0 _ _ _ _)
   | (with_reducible exact ih1 _ _ _ _ _ _ _ _ _ _ _)
   | (with_reducible exact ih2 _ _ _ _ _ _ _ _ _ _ _)
   | (with_reducible exact LeO.refl _)
   | (with_reducible exact LeO.none _)
   | (with_reducible refine LeO.ite ?_ ?_)
   | (with_reducible refine LeO.bind ?_ (fun _ => ?_))
   | exact ih0 _ _ _ _
   | exact ih1 _ _ _ _ _ _ _ _ _ _ _
   | exact ih2 _ _ _ _ _ _ _ _ _ _ _
   | exact LeO.none _
   | refine LeO.ite ?_ ?_
   | refine LeO.bind ?_ (fun _ => ?_)
theorem relief_Items.mono : ∀ a0 k, LeO (relief_Items.f k a0) (relief_Items.f (k + 1) a0) := by
 intro a0 k
 obtain ⟨ih0, ih1, ih2⟩ := relief_Items.mono_l k
 unfold relief_Items.f
 repeat' first
   | (with_reducible exact ih0 _ _ _ _)
   | (with_reducible exact ih1 _ _ _ _ _ _ _ _ _ _ _)
   | (with_reducible exact ih2 _ _ _ _ _ _ _ _ _ _ _)
   | (with_reducible exact LeO.refl _)
   | (with_reducible exact LeO.none _)
   | (with_reducible refine LeO.ite ?_ ?_)
   | (with_reducible refine LeO.bind ?_ (fun _ => ?_))
   | exact ih0 _ _ _ _
   | exact ih1 _ _ _ _ _ _ _ _ _ _ _
   | exact ih2 _ _ _ _ _ _ _ _ _ _ _
   | exact LeO.none _
   | refine LeO.ite ?_ ?_
   | refine LeO.bind ?_ (fun _ => ?_)
set_option maxHeartbeats 8000000 in
set_option maxRecDepth 100000 in
theorem relief_Items.calls (k : Nat) (A0 : Option Addr) (c0 : Nat) (l0 : List (S25)) (r1 : Int) (r2 : Int) (w : World) (hr0 : Kd.C k25 w A0 l0.length l0) (hc0 : l0.length ≤ c0) (h : relief_Items.f k l0 = some (r1, r2)) :
  Calls Try.prog 18 #[.slice A0 l0.length c0] w fun e w' => e = .returned (.tuple #[.int .i64 r1, .int .i64 r2]) ∧ Below w.heap.size w w' := by
 have hu25 := Try.underlying25
 have HR0 := Aside0.mk hr0
 have HC0 := Aside0.mk hc0
 clear hr0 hc0; have HB := Aside0.mk (Below.refl w.heap.size w)
 have H : (if (l0.length : Int) > 64 then (some ((-1), 8)) else (relief_Items.l0 k l0 l0 (l0.length : Int) 0)) = some (r1, r2) := h
 clear h
 by_cases c2 : (l0.length : Int) > 64
 ·rw [if_pos c2] at H
  have c2b0 : decide (64 < (l0.length : Int)) = true := decide_eq_true c2
  have c2b1 : decide (64 < l0.length) = true := decide_eq_true (by omega)
  clear c2
  simp only [Option.some.injEq, Prod.mk.injEq] at H
  obtain ⟨rfl, rfl⟩ := H
  go_enter Try.func18, Try.ntmps18
  go_wp2
  repeat (go_quiet (fail); try go_wp2)
  go_ret2
  exact ⟨by first | rfl | (simp [errW_none, errW_some] <;> rfl) | (simp [*, errW_none, errW_some] <;> rfl), by repeat (first | (with_reducible first | exact HB.out | apply below_alloc | apply pw_below_drewN | apply below_drew1) | exact HB.out)⟩
 ·rw [if_neg c2] at H
  have c2b0 : decide (64 < (l0.length : Int)) = false := decide_eq_false c2
  have c2b1 : decide (64 < l0.length) = false := decide_eq_false (by omega)
  have HL64 := Aside0.mk (show l0.length ≤ 64 by omega)
  have hmm := @run_makeMap Try.prog
  clear c2
  have H' := Aside0.mk H
  clear H
  go_enter Try.func18, Try.ntmps18
  go_wp2
  repeat (go_quiet (fail); try go_wp2)
  clear hmm; have HM := Aside0.mk (Mpb.OwnsSet.made w Try.prog 3 4)
  go_loopg [13] k (fun kq v13 w' => ∃ (x13_1 : Int), v13 = .int .i64 x13_1 ∧ Aside0 (relief_Items.l0 kq l0 l0 (l0.length : Int) x13_1 = some (r1, r2)) ∧ Aside0 (kq ≤ k) ∧ Aside0 (Below w.heap.size w w') ∧ Aside0 (0 ≤ x13_1) ∧ Aside0 (Mpb.OwnsSet Try.prog 3 4 w' w.heap.size x13_1.toNat (keys25 l0 x13_1.toNat)))
  case atStart => exact ⟨(0), (by first | rfl | (simp; done) | (simp [*]; done)), H', ⟨Nat.le_refl _⟩, ⟨by repeat (first | (with_reducible first | exact HB.out | apply below_alloc | apply pw_below_drewN | apply below_drew1) | exact HB.out)⟩, ⟨Int.le_refl _⟩, HM⟩
  case round =>
   clear H' HM
   obtain ⟨x13_1, rfl, HA, HK1, HB, HX0, HM⟩ := hrel
   cases gk with
   | zero => exact absurd HA.out (by simp [relief_Items.l0])
   | succ k1 =>
    have H := HA.out; clear HA
    simp only [relief_Items.l0] at H
    by_cases c3 : x13_1 < (l0.length : Int)
    ·rw [if_pos c3] at H
     have c3b0 : decide (x13_1 < (l0.length : Int)) = true := decide_eq_true c3
     have XL := Aside0.mk (show x13_1 < (l0.length : Int) from c3); clear c3
     by_cases c4 : 0 ≤ x13_1
     ·rw [if_pos c4] at H
      have c4b0 : decide (0 ≤ x13_1) = true := decide_eq_true c4
      clear c4
      by_cases c5 : x13_1 < (l0.length : Int)
      ·rw [if_pos c5] at H
       have c5b0 : decide (x13_1 < (l0.length : Int)) = true := decide_eq_true c5
       clear c5
       have HC6 := Aside0.mk H
       clear H
       have p101 : 0 ≤ (x13_1 : Int) := of_decide_eq_true (by first | (with_reducible assumption) | assumption)
       have q101 : x13_1 < (l0.length : Int) := of_decide_eq_true (by first | (with_reducible assumption) | assumption)
       obtain ⟨ad101, e101, hx101_0, hx101_1, hx101_2, hx101_3, hx101_4⟩ := at_T25 HR0.out x13_1 p101 q101
       cases e101
       replace hx101_0 := (HB.out.cell (World.block_lt_of_cell? w _ hx101_0)).trans hx101_0
       replace hx101_1 := (HB.out.cell (World.block_lt_of_cell? w _ hx101_1)).trans hx101_1
       replace hx101_2 := (HB.out.cell (World.block_lt_of_cell? w _ hx101_2)).trans hx101_2
       replace hx101_3 := (HB.out.cell (World.block_lt_of_cell? w _ hx101_3)).trans hx101_3
       replace hx101_4 := (HB.out.cell (World.block_lt_of_cell? w _ hx101_4)).trans hx101_4
       replace p101 := eq_true p101
       replace q101 := eq_true q101
       go_upto_region 7 with (first | ((with_reducible refine gate_dst (N := 6) rfl ?_); refine box_event ?hg (N := 6) ?hd (cs := #[.int .i64 0, .int .i64 0, .int .i64 0, .int .i64 0, .int .i64 0]) (t := 25) ?hr ?_; (case hd => rfl); (case hg => rfl); (case hr => first | (go_simp; done) | (go_simp; rfl)); intro gb102 hg w7 hbox hb; have NBM := Aside0.mk (show w.heap.size ≠ gb102 by rw [hg]; exact Nat.ne_of_lt HM.out.lt); have nm_ := Aside0.mk (Mpb.OwnsSet.below HM.out hb); clear HM; have HM := nm_; clear nm_; have n0_ := Aside0.mk (below_step (by repeat (first | (with_reducible first | exact HB.out | apply below_alloc | apply pw_below_drewN | apply below_drew1) | exact HB.out)) hb); have n1_ := Aside0.mk (hbox); have n2_ := Aside0.mk ((by rw [hg]; exact (below_size (by repeat (first | (with_reducible first | exact HB.out | apply below_alloc | apply pw_below_drewN | apply below_drew1) | exact HB.out))) : w.heap.size ≤ gb102)); have n3_ := Aside0.mk ((by rw [hg]; exact (below_size (by repeat (first | (with_reducible first | exact HB.out | apply below_alloc | apply pw_below_drewN | apply below_drew1) | exact HB.out))) : w.heap.size ≤ gb102)); clear HB; have HB := n0_; have BK102 := n1_; have GW102 := n2_; have GE102 := n3_; clear n0_ n1_ n2_ n3_; clear hb hbox hg; have hcz8_0 : w7.cell? ⟨gb102, 0, none⟩ = some (.int .i64 0) := (blk_cell BK102.out 0).trans rfl; have hcz8_1 : w7.cell? ⟨gb102, 1, none⟩ = some (.int .i64 0) := (blk_cell BK102.out 1).trans rfl; have hcz8_2 : w7.cell? ⟨gb102, 2, none⟩ = some (.int .i64 0) := (blk_cell BK102.out 2).trans rfl; have hcz8_3 : w7.cell? ⟨gb102, 3, none⟩ = some (.int .i64 0) := (blk_cell BK102.out 3).trans rfl; have hcz8_4 : w7.cell? ⟨gb102, 4, none⟩ = some (.int .i64 0) := (blk_cell BK102.out 4).trans rfl; have hfz8_0 := blk_frozen BK102.out 0; have hfz8_1 := blk_frozen BK102.out 1; have hfz8_2 := blk_frozen BK102.out 2; have hfz8_3 := blk_frozen BK102.out 3; have hfz8_4 := blk_frozen BK102.out 4))
       repeat (go_quiet (first | ((with_reducible refine gate_dst (N := 6) rfl ?_); refine box_event ?hg (N := 6) ?hd (cs := #[.int .i64 0, .int .i64 0, .int .i64 0, .int .i64 0, .int .i64 0]) (t := 25) ?hr ?_; (case hd => rfl); (case hg => rfl); (case hr => first | (go_simp; done) | (go_simp; rfl)); intro gb102 hg w7 hbox hb; have NBM := Aside0.mk (show w.heap.size ≠ gb102 by rw [hg]; exact Nat.ne_of_lt HM.out.lt); have nm_ := Aside0.mk (Mpb.OwnsSet.below HM.out hb); clear HM; have HM := nm_; clear nm_; have n0_ := Aside0.mk (below_step (by repeat (first | (with_reducible first | exact HB.out | apply below_alloc | apply pw_below_drewN | apply below_drew1) | exact HB.out)) hb); have n1_ := Aside0.mk (hbox); have n2_ := Aside0.mk ((by rw [hg]; exact (below_size (by repeat (first | (with_reducible first | exact HB.out | apply below_alloc | apply pw_below_drewN | apply below_drew1) | exact HB.out))) : w.heap.size ≤ gb102)); have n3_ := Aside0.mk ((by rw [hg]; exact (below_size (by repeat (first | (with_reducible first | exact HB.out | apply below_alloc | apply pw_below_drewN | apply below_drew1) | exact HB.out))) : w.heap.size ≤ gb102)); clear HB; have HB := n0_; have BK102 := n1_; have GW102 := n2_; have GE102 := n3_; clear n0_ n1_ n2_ n3_; clear hb hbox hg; have hcz8_0 : w7.cell? ⟨gb102, 0, none⟩ = some (.int .i64 0) := (blk_cell BK102.out 0).trans rfl; have hcz8_1 : w7.cell? ⟨gb102, 1, none⟩ = some (.int .i64 0) := (blk_cell BK102.out 1).trans rfl; have hcz8_2 : w7.cell? ⟨gb102, 2, none⟩ = some (.int .i64 0) := (blk_cell BK102.out 2).trans rfl; have hcz8_3 : w7.cell? ⟨gb102, 3, none⟩ = some (.int .i64 0) := (blk_cell BK102.out 3).trans rfl; have hcz8_4 : w7.cell? ⟨gb102, 4, none⟩ = some (.int .i64 0) := (blk_cell BK102.out 4).trans rfl; have hfz8_0 := blk_frozen BK102.out 0; have hfz8_1 := blk_frozen BK102.out 1; have hfz8_2 := blk_frozen BK102.out 2; have hfz8_3 := blk_frozen BK102.out 3; have hfz8_4 := blk_frozen BK102.out 4)); go_upto_region 7 with (first | ((with_reducible refine gate_dst (N := 6) rfl ?_); refine box_event ?hg (N := 6) ?hd (cs := #[.int .i64 0, .int .i64 0, .int .i64 0, .int .i64 0, .int .i64 0]) (t := 25) ?hr ?_; (case hd => rfl); (case hg => rfl); (case hr => first | (go_simp; done) | (go_simp; rfl)); intro gb102 hg w7 hbox hb; have NBM := Aside0.mk (show w.heap.size ≠ gb102 by rw [hg]; exact Nat.ne_of_lt HM.out.lt); have nm_ := Aside0.mk (Mpb.OwnsSet.below HM.out hb); clear HM; have HM := nm_; clear nm_; have n0_ := Aside0.mk (below_step (by repeat (first | (with_reducible first | exact HB.out | apply below_alloc | apply pw_below_drewN | apply below_drew1) | exact HB.out)) hb); have n1_ := Aside0.mk (hbox); have n2_ := Aside0.mk ((by rw [hg]; exact (below_size (by repeat (first | (with_reducible first | exact HB.out | apply below_alloc | apply pw_below_drewN | apply below_drew1) | exact HB.out))) : w.heap.size ≤ gb102)); have n3_ := Aside0.mk ((by rw [hg]; exact (below_size (by repeat (first | (with_reducible first | exact HB.out | apply below_alloc | apply pw_below_drewN | apply below_drew1) | exact HB.out))) : w.heap.size ≤ gb102)); clear HB; have HB := n0_; have BK102 := n1_; have GW102 := n2_; have GE102 := n3_; clear n0_ n1_ n2_ n3_; clear hb hbox hg; have hcz8_0 : w7.cell? ⟨gb102, 0, none⟩ = some (.int .i64 0) := (blk_cell BK102.out 0).trans rfl; have hcz8_1 : w7.cell? ⟨gb102, 1, none⟩ = some (.int .i64 0) := (blk_cell BK102.out 1).trans rfl; have hcz8_2 : w7.cell? ⟨gb102, 2, none⟩ = some (.int .i64 0) := (blk_cell BK102.out 2).trans rfl; have hcz8_3 : w7.cell? ⟨gb102, 3, none⟩ = some (.int .i64 0) := (blk_cell BK102.out 3).trans rfl; have hcz8_4 : w7.cell? ⟨gb102, 4, none⟩ = some (.int .i64 0) := (blk_cell BK102.out 4).trans rfl; have hfz8_0 := blk_frozen BK102.out 0; have hfz8_1 := blk_frozen BK102.out 1; have hfz8_2 := blk_frozen BK102.out 2; have hfz8_3 := blk_frozen BK102.out 3; have hfz8_4 := blk_frozen BK102.out 4)))
       (try simp only [Act.put, List.setIfInBounds_toArray, List.set_cons_zero, List.set_cons_succ])
       go_cut [18] (fun v18 wc => ∃ (kq : Nat) (x18_5 : Bool), v18 = .bool x18_5 ∧ Aside0 (relief_Items.j1 kq l0 x13_1 l0 (l0.length : Int) x13_1 x18_5 ((rd_T25 l0 x13_1).f0) ((rd_T25 l0 x13_1).f1) ((rd_T25 l0 x13_1).f2) ((rd_T25 l0 x13_1).f3) ((rd_T25 l0 x13_1).f4) = some (r1, r2)) ∧ Aside0 (kq ≤ k1) ∧ Aside0 (wc.heap[gb102]? = some (.cells #[.int .i64 ((rd_T25 l0 x13_1).f0), .int .i64 ((rd_T25 l0 x13_1).f1), .int .i64 ((rd_T25 l0 x13_1).f2), .int .i64 ((rd_T25 l0 x13_1).f3), .int .i64 ((rd_T25 l0 x13_1).f4)] 25 (0, 0))) ∧ Aside0 (Below w.heap.size w wc) ∧ Aside0 (0 ≤ x13_1) ∧ Aside0 (Mpb.OwnsSet Try.prog 3 4 wc w.heap.size x13_1.toNat (keys25 l0 x13_1.toNat)))
       case first =>
        have H := HC6.out; clear HC6
        replace H := Option.bind_eq_some_iff.mp H
        obtain ⟨t103, A90, H⟩ := H
        try dsimp only at H
        have A9 := Aside0.mk A90
        clear A90
        by_cases c10 : t103 = true
        ·subst c10
         have H1 : ((relief_within.f ((rd_T25 l0 x13_1).f1) 1 9).bind fun t104 => (if t104 = true then ((relief_within.f ((rd_T25 l0 x13_1).f2) 0 100000).bind fun t105 => (if t105 = true then ((relief_within.f ((rd_T25 l0 x13_1).f3) 0 10737418240000).bind fun t106 => (if t106 = true then ((relief_within.f ((rd_T25 l0 x13_1).f4) 0 1073741824).bind fun t107 => (relief_Items.j1 k1 l0 x13_1 l0 (l0.length : Int) x13_1 (!t107) ((rd_T25 l0 x13_1).f0) ((rd_T25 l0 x13_1).f1) ((rd_T25 l0 x13_1).f2) ((rd_T25 l0 x13_1).f3) ((rd_T25 l0 x13_1).f4))) else (relief_Items.j1 k1 l0 x13_1 l0 (l0.length : Int) x13_1 true ((rd_T25 l0 x13_1).f0) ((rd_T25 l0 x13_1).f1) ((rd_T25 l0 x13_1).f2) ((rd_T25 l0 x13_1).f3) ((rd_T25 l0 x13_1).f4)))) else (relief_Items.j1 k1 l0 x13_1 l0 (l0.length : Int) x13_1 true ((rd_T25 l0 x13_1).f0) ((rd_T25 l0 x13_1).f1) ((rd_T25 l0 x13_1).f2) ((rd_T25 l0 x13_1).f3) ((rd_T25 l0 x13_1).f4)))) else (relief_Items.j1 k1 l0 x13_1 l0 (l0.length : Int) x13_1 true ((rd_T25 l0 x13_1).f0) ((rd_T25 l0 x13_1).f1) ((rd_T25 l0 x13_1).f2) ((rd_T25 l0 x13_1).f3) ((rd_T25 l0 x13_1).f4)))) = some (r1, r2) := by rw [if_pos rfl] at H; exact H
         clear H; have H := H1; clear H1
         replace H := Option.bind_eq_some_iff.mp H
         obtain ⟨t104, A110, H⟩ := H
         try dsimp only at H
         have A11 := Aside0.mk A110
         clear A110
         by_cases c12 : t104 = true
         ·subst c12
          have H1 : ((relief_within.f ((rd_T25 l0 x13_1).f2) 0 100000).bind fun t105 => (if t105 = true then ((relief_within.f ((rd_T25 l0 x13_1).f3) 0 10737418240000).bind fun t106 => (if t106 = true then ((relief_within.f ((rd_T25 l0 x13_1).f4) 0 1073741824).bind fun t107 => (relief_Items.j1 k1 l0 x13_1 l0 (l0.length : Int) x13_1 (!t107) ((rd_T25 l0 x13_1).f0) ((rd_T25 l0 x13_1).f1) ((rd_T25 l0 x13_1).f2) ((rd_T25 l0 x13_1).f3) ((rd_T25 l0 x13_1).f4))) else (relief_Items.j1 k1 l0 x13_1 l0 (l0.length : Int) x13_1 true ((rd_T25 l0 x13_1).f0) ((rd_T25 l0 x13_1).f1) ((rd_T25 l0 x13_1).f2) ((rd_T25 l0 x13_1).f3) ((rd_T25 l0 x13_1).f4)))) else (relief_Items.j1 k1 l0 x13_1 l0 (l0.length : Int) x13_1 true ((rd_T25 l0 x13_1).f0) ((rd_T25 l0 x13_1).f1) ((rd_T25 l0 x13_1).f2) ((rd_T25 l0 x13_1).f3) ((rd_T25 l0 x13_1).f4)))) = some (r1, r2) := by rw [if_pos rfl] at H; exact H
          clear H; have H := H1; clear H1
          replace H := Option.bind_eq_some_iff.mp H
          obtain ⟨t105, A130, H⟩ := H
          try dsimp only at H
          have A13 := Aside0.mk A130
          clear A130
          by_cases c14 : t105 = true
          ·subst c14
           have H1 : ((relief_within.f ((rd_T25 l0 x13_1).f3) 0 10737418240000).bind fun t106 => (if t106 = true then ((relief_within.f ((rd_T25 l0 x13_1).f4) 0 1073741824).bind fun t107 => (relief_Items.j1 k1 l0 x13_1 l0 (l0.length : Int) x13_1 (!t107) ((rd_T25 l0 x13_1).f0) ((rd_T25 l0 x13_1).f1) ((rd_T25 l0 x13_1).f2) ((rd_T25 l0 x13_1).f3) ((rd_T25 l0 x13_1).f4))) else (relief_Items.j1 k1 l0 x13_1 l0 (l0.length : Int) x13_1 true ((rd_T25 l0 x13_1).f0) ((rd_T25 l0 x13_1).f1) ((rd_T25 l0 x13_1).f2) ((rd_T25 l0 x13_1).f3) ((rd_T25 l0 x13_1).f4)))) = some (r1, r2) := by rw [if_pos rfl] at H; exact H
           clear H; have H := H1; clear H1
           replace H := Option.bind_eq_some_iff.mp H
           obtain ⟨t106, A150, H⟩ := H
           try dsimp only at H
           have A15 := Aside0.mk A150
           clear A150
           by_cases c16 : t106 = true
           ·subst c16
            have H1 : ((relief_within.f ((rd_T25 l0 x13_1).f4) 0 1073741824).bind fun t107 => (relief_Items.j1 k1 l0 x13_1 l0 (l0.length : Int) x13_1 (!t107) ((rd_T25 l0 x13_1).f0) ((rd_T25 l0 x13_1).f1) ((rd_T25 l0 x13_1).f2) ((rd_T25 l0 x13_1).f3) ((rd_T25 l0 x13_1).f4))) = some (r1, r2) := by rw [if_pos rfl] at H; exact H
            clear H; have H := H1; clear H1
            replace H := Option.bind_eq_some_iff.mp H
            obtain ⟨t107, A170, H⟩ := H
            try dsimp only at H
            have A17 := Aside0.mk A170
            clear A170
            have H' := Aside0.mk H
            clear H
            have hcz18_0 : w7.cell? ⟨gb102, 0, none⟩ = some (.int .i64 0) := (blk_cell BK102.out 0).trans rfl
            have hcz18_1 : w7.cell? ⟨gb102, 1, none⟩ = some (.int .i64 0) := (blk_cell BK102.out 1).trans rfl
            have hcz18_2 : w7.cell? ⟨gb102, 2, none⟩ = some (.int .i64 0) := (blk_cell BK102.out 2).trans rfl
            have hcz18_3 : w7.cell? ⟨gb102, 3, none⟩ = some (.int .i64 0) := (blk_cell BK102.out 3).trans rfl
            have hcz18_4 : w7.cell? ⟨gb102, 4, none⟩ = some (.int .i64 0) := (blk_cell BK102.out 4).trans rfl
            have hfz18_0 := blk_frozen BK102.out 0
            have hfz18_1 := blk_frozen BK102.out 1
            have hfz18_2 := blk_frozen BK102.out 2
            have hfz18_3 := blk_frozen BK102.out 3
            have hfz18_4 := blk_frozen BK102.out 4
            go_wp2_with (first | (go_at_call 32; (with_reducible refine (relief_within.calls ((rd_T25 l0 x13_1).f0) 1 1073741824 true _ A9.out).mono ?_); rintro e w' ⟨rfl, ⟨nd, rfl⟩⟩; (try first | exact ⟨rfl, _, World.drewN_drewN _ _ _⟩ | exact ⟨rfl, _, Eq.trans (World.drewN_drewN _ _ _) (congrArg (World.drewN _) (Nat.add_assoc _ _ _))⟩)) | (go_at_call 32; (with_reducible refine (relief_within.calls ((rd_T25 l0 x13_1).f1) 1 9 true _ A11.out).mono ?_); rintro e w' ⟨rfl, ⟨nd, rfl⟩⟩; (try first | exact ⟨rfl, _, World.drewN_drewN _ _ _⟩ | exact ⟨rfl, _, Eq.trans (World.drewN_drewN _ _ _) (congrArg (World.drewN _) (Nat.add_assoc _ _ _))⟩)) | (go_at_call 32; (with_reducible refine (relief_within.calls ((rd_T25 l0 x13_1).f2) 0 100000 true _ A13.out).mono ?_); rintro e w' ⟨rfl, ⟨nd, rfl⟩⟩; (try first | exact ⟨rfl, _, World.drewN_drewN _ _ _⟩ | exact ⟨rfl, _, Eq.trans (World.drewN_drewN _ _ _) (congrArg (World.drewN _) (Nat.add_assoc _ _ _))⟩)) | (go_at_call 32; (with_reducible refine (relief_within.calls ((rd_T25 l0 x13_1).f3) 0 10737418240000 true _ A15.out).mono ?_); rintro e w' ⟨rfl, ⟨nd, rfl⟩⟩; (try first | exact ⟨rfl, _, World.drewN_drewN _ _ _⟩ | exact ⟨rfl, _, Eq.trans (World.drewN_drewN _ _ _) (congrArg (World.drewN _) (Nat.add_assoc _ _ _))⟩)) | (go_at_call 32; (with_reducible refine (relief_within.calls ((rd_T25 l0 x13_1).f4) 0 1073741824 t107 _ A17.out).mono ?_); rintro e w' ⟨rfl, ⟨nd, rfl⟩⟩; (try first | exact ⟨rfl, _, World.drewN_drewN _ _ _⟩ | exact ⟨rfl, _, Eq.trans (World.drewN_drewN _ _ _) (congrArg (World.drewN _) (Nat.add_assoc _ _ _))⟩)))
            repeat (go_quiet (first | (go_at_call 32; (with_reducible refine (relief_within.calls ((rd_T25 l0 x13_1).f0) 1 1073741824 true _ A9.out).mono ?_); rintro e w' ⟨rfl, ⟨nd, rfl⟩⟩; (try first | exact ⟨rfl, _, World.drewN_drewN _ _ _⟩ | exact ⟨rfl, _, Eq.trans (World.drewN_drewN _ _ _) (congrArg (World.drewN _) (Nat.add_assoc _ _ _))⟩)) | (go_at_call 32; (with_reducible refine (relief_within.calls ((rd_T25 l0 x13_1).f1) 1 9 true _ A11.out).mono ?_); rintro e w' ⟨rfl, ⟨nd, rfl⟩⟩; (try first | exact ⟨rfl, _, World.drewN_drewN _ _ _⟩ | exact ⟨rfl, _, Eq.trans (World.drewN_drewN _ _ _) (congrArg (World.drewN _) (Nat.add_assoc _ _ _))⟩)) | (go_at_call 32; (with_reducible refine (relief_within.calls ((rd_T25 l0 x13_1).f2) 0 100000 true _ A13.out).mono ?_); rintro e w' ⟨rfl, ⟨nd, rfl⟩⟩; (try first | exact ⟨rfl, _, World.drewN_drewN _ _ _⟩ | exact ⟨rfl, _, Eq.trans (World.drewN_drewN _ _ _) (congrArg (World.drewN _) (Nat.add_assoc _ _ _))⟩)) | (go_at_call 32; (with_reducible refine (relief_within.calls ((rd_T25 l0 x13_1).f3) 0 10737418240000 true _ A15.out).mono ?_); rintro e w' ⟨rfl, ⟨nd, rfl⟩⟩; (try first | exact ⟨rfl, _, World.drewN_drewN _ _ _⟩ | exact ⟨rfl, _, Eq.trans (World.drewN_drewN _ _ _) (congrArg (World.drewN _) (Nat.add_assoc _ _ _))⟩)) | (go_at_call 32; (with_reducible refine (relief_within.calls ((rd_T25 l0 x13_1).f4) 0 1073741824 t107 _ A17.out).mono ?_); rintro e w' ⟨rfl, ⟨nd, rfl⟩⟩; (try first | exact ⟨rfl, _, World.drewN_drewN _ _ _⟩ | exact ⟨rfl, _, Eq.trans (World.drewN_drewN _ _ _) (congrArg (World.drewN _) (Nat.add_assoc _ _ _))⟩))); try go_wp2_with (first | (go_at_call 32; (with_reducible refine (relief_within.calls ((rd_T25 l0 x13_1).f0) 1 1073741824 true _ A9.out).mono ?_); rintro e w' ⟨rfl, ⟨nd, rfl⟩⟩; (try first | exact ⟨rfl, _, World.drewN_drewN _ _ _⟩ | exact ⟨rfl, _, Eq.trans (World.drewN_drewN _ _ _) (congrArg (World.drewN _) (Nat.add_assoc _ _ _))⟩)) | (go_at_call 32; (with_reducible refine (relief_within.calls ((rd_T25 l0 x13_1).f1) 1 9 true _ A11.out).mono ?_); rintro e w' ⟨rfl, ⟨nd, rfl⟩⟩; (try first | exact ⟨rfl, _, World.drewN_drewN _ _ _⟩ | exact ⟨rfl, _, Eq.trans (World.drewN_drewN _ _ _) (congrArg (World.drewN _) (Nat.add_assoc _ _ _))⟩)) | (go_at_call 32; (with_reducible refine (relief_within.calls ((rd_T25 l0 x13_1).f2) 0 100000 true _ A13.out).mono ?_); rintro e w' ⟨rfl, ⟨nd, rfl⟩⟩; (try first | exact ⟨rfl, _, World.drewN_drewN _ _ _⟩ | exact ⟨rfl, _, Eq.trans (World.drewN_drewN _ _ _) (congrArg (World.drewN _) (Nat.add_assoc _ _ _))⟩)) | (go_at_call 32; (with_reducible refine (relief_within.calls ((rd_T25 l0 x13_1).f3) 0 10737418240000 true _ A15.out).mono ?_); rintro e w' ⟨rfl, ⟨nd, rfl⟩⟩; (try first | exact ⟨rfl, _, World.drewN_drewN _ _ _⟩ | exact ⟨rfl, _, Eq.trans (World.drewN_drewN _ _ _) (congrArg (World.drewN _) (Nat.add_assoc _ _ _))⟩)) | (go_at_call 32; (with_reducible refine (relief_within.calls ((rd_T25 l0 x13_1).f4) 0 1073741824 t107 _ A17.out).mono ?_); rintro e w' ⟨rfl, ⟨nd, rfl⟩⟩; (try first | exact ⟨rfl, _, World.drewN_drewN _ _ _⟩ | exact ⟨rfl, _, Eq.trans (World.drewN_drewN _ _ _) (congrArg (World.drewN _) (Nat.add_assoc _ _ _))⟩))))
            go_meet
            case rel => exact ⟨_, (!t107), (by first | rfl | (simp; done) | (simp [*]; done)), H', ⟨by have := HK1.out; first | omega | exact Nat.le_refl _⟩, ⟨by (with_reducible repeat (first | refine blk_drewN ?_ _ | refine blk_drew ?_ | refine blk_alloc ?_ _)); refine blk_put (cs := #[.int .i64 ((rd_T25 l0 x13_1).f0), .int .i64 ((rd_T25 l0 x13_1).f1), .int .i64 ((rd_T25 l0 x13_1).f2), .int .i64 ((rd_T25 l0 x13_1).f3), .int .i64 0]) ?_ 4 _ rfl; (with_reducible repeat (first | refine blk_drewN ?_ _ | refine blk_drew ?_ | refine blk_alloc ?_ _)); refine blk_put (cs := #[.int .i64 ((rd_T25 l0 x13_1).f0), .int .i64 ((rd_T25 l0 x13_1).f1), .int .i64 ((rd_T25 l0 x13_1).f2), .int .i64 0, .int .i64 0]) ?_ 3 _ rfl; (with_reducible repeat (first | refine blk_drewN ?_ _ | refine blk_drew ?_ | refine blk_alloc ?_ _)); refine blk_put (cs := #[.int .i64 ((rd_T25 l0 x13_1).f0), .int .i64 ((rd_T25 l0 x13_1).f1), .int .i64 0, .int .i64 0, .int .i64 0]) ?_ 2 _ rfl; (with_reducible repeat (first | refine blk_drewN ?_ _ | refine blk_drew ?_ | refine blk_alloc ?_ _)); refine blk_put (cs := #[.int .i64 ((rd_T25 l0 x13_1).f0), .int .i64 0, .int .i64 0, .int .i64 0, .int .i64 0]) ?_ 1 _ rfl; (with_reducible repeat (first | refine blk_drewN ?_ _ | refine blk_drew ?_ | refine blk_alloc ?_ _)); refine blk_put (cs := #[.int .i64 0, .int .i64 0, .int .i64 0, .int .i64 0, .int .i64 0]) ?_ 0 _ rfl; (with_reducible repeat (first | refine blk_drewN ?_ _ | refine blk_drew ?_ | refine blk_alloc ?_ _)); exact BK102.out⟩, ⟨by repeat (first | (with_reducible first | exact HB.out | apply below_alloc | apply pw_below_drewN | apply below_drew1 | refine below_set ?_ GE102.out) | exact HB.out)⟩, HX0, ⟨by repeat (first | (with_reducible exact HM.out) | (with_reducible refine Mpb.OwnsSet.drewN ?_ _) | (with_reducible refine Mpb.OwnsSet.drew ?_) | (refine Mpb.OwnsSet.setCell ?_ NBM.out _) | exact HM.out)⟩⟩
           ·replace c16 := Bool.eq_false_iff.mpr c16
            subst c16
            have H1 : (relief_Items.j1 k1 l0 x13_1 l0 (l0.length : Int) x13_1 true ((rd_T25 l0 x13_1).f0) ((rd_T25 l0 x13_1).f1) ((rd_T25 l0 x13_1).f2) ((rd_T25 l0 x13_1).f3) ((rd_T25 l0 x13_1).f4)) = some (r1, r2) := by rw [if_neg (show ¬ (false = true) by decide)] at H; exact H
            clear H; have H := H1; clear H1
            have H' := Aside0.mk H
            clear H
            have hcz19_0 : w7.cell? ⟨gb102, 0, none⟩ = some (.int .i64 0) := (blk_cell BK102.out 0).trans rfl
            have hcz19_1 : w7.cell? ⟨gb102, 1, none⟩ = some (.int .i64 0) := (blk_cell BK102.out 1).trans rfl
            have hcz19_2 : w7.cell? ⟨gb102, 2, none⟩ = some (.int .i64 0) := (blk_cell BK102.out 2).trans rfl
            have hcz19_3 : w7.cell? ⟨gb102, 3, none⟩ = some (.int .i64 0) := (blk_cell BK102.out 3).trans rfl
            have hcz19_4 : w7.cell? ⟨gb102, 4, none⟩ = some (.int .i64 0) := (blk_cell BK102.out 4).trans rfl
            have hfz19_0 := blk_frozen BK102.out 0
            have hfz19_1 := blk_frozen BK102.out 1
            have hfz19_2 := blk_frozen BK102.out 2
            have hfz19_3 := blk_frozen BK102.out 3
            have hfz19_4 := blk_frozen BK102.out 4
            go_wp2_with (first | (go_at_call 32; (with_reducible refine (relief_within.calls ((rd_T25 l0 x13_1).f0) 1 1073741824 true _ A9.out).mono ?_); rintro e w' ⟨rfl, ⟨nd, rfl⟩⟩; (try first | exact ⟨rfl, _, World.drewN_drewN _ _ _⟩ | exact ⟨rfl, _, Eq.trans (World.drewN_drewN _ _ _) (congrArg (World.drewN _) (Nat.add_assoc _ _ _))⟩)) | (go_at_call 32; (with_reducible refine (relief_within.calls ((rd_T25 l0 x13_1).f1) 1 9 true _ A11.out).mono ?_); rintro e w' ⟨rfl, ⟨nd, rfl⟩⟩; (try first | exact ⟨rfl, _, World.drewN_drewN _ _ _⟩ | exact ⟨rfl, _, Eq.trans (World.drewN_drewN _ _ _) (congrArg (World.drewN _) (Nat.add_assoc _ _ _))⟩)) | (go_at_call 32; (with_reducible refine (relief_within.calls ((rd_T25 l0 x13_1).f2) 0 100000 true _ A13.out).mono ?_); rintro e w' ⟨rfl, ⟨nd, rfl⟩⟩; (try first | exact ⟨rfl, _, World.drewN_drewN _ _ _⟩ | exact ⟨rfl, _, Eq.trans (World.drewN_drewN _ _ _) (congrArg (World.drewN _) (Nat.add_assoc _ _ _))⟩)) | (go_at_call 32; (with_reducible refine (relief_within.calls ((rd_T25 l0 x13_1).f3) 0 10737418240000 false _ A15.out).mono ?_); rintro e w' ⟨rfl, ⟨nd, rfl⟩⟩; (try first | exact ⟨rfl, _, World.drewN_drewN _ _ _⟩ | exact ⟨rfl, _, Eq.trans (World.drewN_drewN _ _ _) (congrArg (World.drewN _) (Nat.add_assoc _ _ _))⟩)))
            repeat (go_quiet (first | (go_at_call 32; (with_reducible refine (relief_within.calls ((rd_T25 l0 x13_1).f0) 1 1073741824 true _ A9.out).mono ?_); rintro e w' ⟨rfl, ⟨nd, rfl⟩⟩; (try first | exact ⟨rfl, _, World.drewN_drewN _ _ _⟩ | exact ⟨rfl, _, Eq.trans (World.drewN_drewN _ _ _) (congrArg (World.drewN _) (Nat.add_assoc _ _ _))⟩)) | (go_at_call 32; (with_reducible refine (relief_within.calls ((rd_T25 l0 x13_1).f1) 1 9 true _ A11.out).mono ?_); rintro e w' ⟨rfl, ⟨nd, rfl⟩⟩; (try first | exact ⟨rfl, _, World.drewN_drewN _ _ _⟩ | exact ⟨rfl, _, Eq.trans (World.drewN_drewN _ _ _) (congrArg (World.drewN _) (Nat.add_assoc _ _ _))⟩)) | (go_at_call 32; (with_reducible refine (relief_within.calls ((rd_T25 l0 x13_1).f2) 0 100000 true _ A13.out).mono ?_); rintro e w' ⟨rfl, ⟨nd, rfl⟩⟩; (try first | exact ⟨rfl, _, World.drewN_drewN _ _ _⟩ | exact ⟨rfl, _, Eq.trans (World.drewN_drewN _ _ _) (congrArg (World.drewN _) (Nat.add_assoc _ _ _))⟩)) | (go_at_call 32; (with_reducible refine (relief_within.calls ((rd_T25 l0 x13_1).f3) 0 10737418240000 false _ A15.out).mono ?_); rintro e w' ⟨rfl, ⟨nd, rfl⟩⟩; (try first | exact ⟨rfl, _, World.drewN_drewN _ _ _⟩ | exact ⟨rfl, _, Eq.trans (World.drewN_drewN _ _ _) (congrArg (World.drewN _) (Nat.add_assoc _ _ _))⟩))); try go_wp2_with (first | (go_at_call 32; (with_reducible refine (relief_within.calls ((rd_T25 l0 x13_1).f0) 1 1073741824 true _ A9.out).mono ?_); rintro e w' ⟨rfl, ⟨nd, rfl⟩⟩; (try first | exact ⟨rfl, _, World.drewN_drewN _ _ _⟩ | exact ⟨rfl, _, Eq.trans (World.drewN_drewN _ _ _) (congrArg (World.drewN _) (Nat.add_assoc _ _ _))⟩)) | (go_at_call 32; (with_reducible refine (relief_within.calls ((rd_T25 l0 x13_1).f1) 1 9 true _ A11.out).mono ?_); rintro e w' ⟨rfl, ⟨nd, rfl⟩⟩; (try first | exact ⟨rfl, _, World.drewN_drewN _ _ _⟩ | exact ⟨rfl, _, Eq.trans (World.drewN_drewN _ _ _) (congrArg (World.drewN _) (Nat.add_assoc _ _ _))⟩)) | (go_at_call 32; (with_reducible refine (relief_within.calls ((rd_T25 l0 x13_1).f2) 0 100000 true _ A13.out).mono ?_); rintro e w' ⟨rfl, ⟨nd, rfl⟩⟩; (try first | exact ⟨rfl, _, World.drewN_drewN _ _ _⟩ | exact ⟨rfl, _, Eq.trans (World.drewN_drewN _ _ _) (congrArg (World.drewN _) (Nat.add_assoc _ _ _))⟩)) | (go_at_call 32; (with_reducible refine (relief_within.calls ((rd_T25 l0 x13_1).f3) 0 10737418240000 false _ A15.out).mono ?_); rintro e w' ⟨rfl, ⟨nd, rfl⟩⟩; (try first | exact ⟨rfl, _, World.drewN_drewN _ _ _⟩ | exact ⟨rfl, _, Eq.trans (World.drewN_drewN _ _ _) (congrArg (World.drewN _) (Nat.add_assoc _ _ _))⟩))))
            go_meet
            case rel => exact ⟨_, (true), (by first | rfl | (simp; done) | (simp [*]; done)), H', ⟨by have := HK1.out; first | omega | exact Nat.le_refl _⟩, ⟨by (with_reducible repeat (first | refine blk_drewN ?_ _ | refine blk_drew ?_ | refine blk_alloc ?_ _)); refine blk_put (cs := #[.int .i64 ((rd_T25 l0 x13_1).f0), .int .i64 ((rd_T25 l0 x13_1).f1), .int .i64 ((rd_T25 l0 x13_1).f2), .int .i64 ((rd_T25 l0 x13_1).f3), .int .i64 0]) ?_ 4 _ rfl; (with_reducible repeat (first | refine blk_drewN ?_ _ | refine blk_drew ?_ | refine blk_alloc ?_ _)); refine blk_put (cs := #[.int .i64 ((rd_T25 l0 x13_1).f0), .int .i64 ((rd_T25 l0 x13_1).f1), .int .i64 ((rd_T25 l0 x13_1).f2), .int .i64 0, .int .i64 0]) ?_ 3 _ rfl; (with_reducible repeat (first | refine blk_drewN ?_ _ | refine blk_drew ?_ | refine blk_alloc ?_ _)); refine blk_put (cs := #[.int .i64 ((rd_T25 l0 x13_1).f0), .int .i64 ((rd_T25 l0 x13_1).f1), .int .i64 0, .int .i64 0, .int .i64 0]) ?_ 2 _ rfl; (with_reducible repeat (first | refine blk_drewN ?_ _ | refine blk_drew ?_ | refine blk_alloc ?_ _)); refine blk_put (cs := #[.int .i64 ((rd_T25 l0 x13_1).f0), .int .i64 0, .int .i64 0, .int .i64 0, .int .i64 0]) ?_ 1 _ rfl; (with_reducible repeat (first | refine blk_drewN ?_ _ | refine blk_drew ?_ | refine blk_alloc ?_ _)); refine blk_put (cs := #[.int .i64 0, .int .i64 0, .int .i64 0, .int .i64 0, .int .i64 0]) ?_ 0 _ rfl; (with_reducible repeat (first | refine blk_drewN ?_ _ | refine blk_drew ?_ | refine blk_alloc ?_ _)); exact BK102.out⟩, ⟨by repeat (first | (with_reducible first | exact HB.out | apply below_alloc | apply pw_below_drewN | apply below_drew1 | refine below_set ?_ GE102.out) | exact HB.out)⟩, HX0, ⟨by repeat (first | (with_reducible exact HM.out) | (with_reducible refine Mpb.OwnsSet.drewN ?_ _) | (with_reducible refine Mpb.OwnsSet.drew ?_) | (refine Mpb.OwnsSet.setCell ?_ NBM.out _) | exact HM.out)⟩⟩
          ·replace c14 := Bool.eq_false_iff.mpr c14
           subst c14
           have H1 : (relief_Items.j1 k1 l0 x13_1 l0 (l0.length : Int) x13_1 true ((rd_T25 l0 x13_1).f0) ((rd_T25 l0 x13_1).f1) ((rd_T25 l0 x13_1).f2) ((rd_T25 l0 x13_1).f3) ((rd_T25 l0 x13_1).f4)) = some (r1, r2) := by rw [if_neg (show ¬ (false = true) by decide)] at H; exact H
           clear H; have H := H1; clear H1
           have H' := Aside0.mk H
           clear H
           have hcz20_0 : w7.cell? ⟨gb102, 0, none⟩ = some (.int .i64 0) := (blk_cell BK102.out 0).trans rfl
           have hcz20_1 : w7.cell? ⟨gb102, 1, none⟩ = some (.int .i64 0) := (blk_cell BK102.out 1).trans rfl
           have hcz20_2 : w7.cell? ⟨gb102, 2, none⟩ = some (.int .i64 0) := (blk_cell BK102.out 2).trans rfl
           have hcz20_3 : w7.cell? ⟨gb102, 3, none⟩ = some (.int .i64 0) := (blk_cell BK102.out 3).trans rfl
           have hcz20_4 : w7.cell? ⟨gb102, 4, none⟩ = some (.int .i64 0) := (blk_cell BK102.out 4).trans rfl
           have hfz20_0 := blk_frozen BK102.out 0
           have hfz20_1 := blk_frozen BK102.out 1
           have hfz20_2 := blk_frozen BK102.out 2
           have hfz20_3 := blk_frozen BK102.out 3
           have hfz20_4 := blk_frozen BK102.out 4
           go_wp2_with (first | (go_at_call 32; (with_reducible refine (relief_within.calls ((rd_T25 l0 x13_1).f0) 1 1073741824 true _ A9.out).mono ?_); rintro e w' ⟨rfl, ⟨nd, rfl⟩⟩; (try first | exact ⟨rfl, _, World.drewN_drewN _ _ _⟩ | exact ⟨rfl, _, Eq.trans (World.drewN_drewN _ _ _) (congrArg (World.drewN _) (Nat.add_assoc _ _ _))⟩)) | (go_at_call 32; (with_reducible refine (relief_within.calls ((rd_T25 l0 x13_1).f1) 1 9 true _ A11.out).mono ?_); rintro e w' ⟨rfl, ⟨nd, rfl⟩⟩; (try first | exact ⟨rfl, _, World.drewN_drewN _ _ _⟩ | exact ⟨rfl, _, Eq.trans (World.drewN_drewN _ _ _) (congrArg (World.drewN _) (Nat.add_assoc _ _ _))⟩)) | (go_at_call 32; (with_reducible refine (relief_within.calls ((rd_T25 l0 x13_1).f2) 0 100000 false _ A13.out).mono ?_); rintro e w' ⟨rfl, ⟨nd, rfl⟩⟩; (try first | exact ⟨rfl, _, World.drewN_drewN _ _ _⟩ | exact ⟨rfl, _, Eq.trans (World.drewN_drewN _ _ _) (congrArg (World.drewN _) (Nat.add_assoc _ _ _))⟩)))
           repeat (go_quiet (first | (go_at_call 32; (with_reducible refine (relief_within.calls ((rd_T25 l0 x13_1).f0) 1 1073741824 true _ A9.out).mono ?_); rintro e w' ⟨rfl, ⟨nd, rfl⟩⟩; (try first | exact ⟨rfl, _, World.drewN_drewN _ _ _⟩ | exact ⟨rfl, _, Eq.trans (World.drewN_drewN _ _ _) (congrArg (World.drewN _) (Nat.add_assoc _ _ _))⟩)) | (go_at_call 32; (with_reducible refine (relief_within.calls ((rd_T25 l0 x13_1).f1) 1 9 true _ A11.out).mono ?_); rintro e w' ⟨rfl, ⟨nd, rfl⟩⟩; (try first | exact ⟨rfl, _, World.drewN_drewN _ _ _⟩ | exact ⟨rfl, _, Eq.trans (World.drewN_drewN _ _ _) (congrArg (World.drewN _) (Nat.add_assoc _ _ _))⟩)) | (go_at_call 32; (with_reducible refine (relief_within.calls ((rd_T25 l0 x13_1).f2) 0 100000 false _ A13.out).mono ?_); rintro e w' ⟨rfl, ⟨nd, rfl⟩⟩; (try first | exact ⟨rfl, _, World.drewN_drewN _ _ _⟩ | exact ⟨rfl, _, Eq.trans (World.drewN_drewN _ _ _) (congrArg (World.drewN _) (Nat.add_assoc _ _ _))⟩))); try go_wp2_with (first | (go_at_call 32; (with_reducible refine (relief_within.calls ((rd_T25 l0 x13_1).f0) 1 1073741824 true _ A9.out).mono ?_); rintro e w' ⟨rfl, ⟨nd, rfl⟩⟩; (try first | exact ⟨rfl, _, World.drewN_drewN _ _ _⟩ | exact ⟨rfl, _, Eq.trans (World.drewN_drewN _ _ _) (congrArg (World.drewN _) (Nat.add_assoc _ _ _))⟩)) | (go_at_call 32; (with_reducible refine (relief_within.calls ((rd_T25 l0 x13_1).f1) 1 9 true _ A11.out).mono ?_); rintro e w' ⟨rfl, ⟨nd, rfl⟩⟩; (try first | exact ⟨rfl, _, World.drewN_drewN _ _ _⟩ | exact ⟨rfl, _, Eq.trans (World.drewN_drewN _ _ _) (congrArg (World.drewN _) (Nat.add_assoc _ _ _))⟩)) | (go_at_call 32; (with_reducible refine (relief_within.calls ((rd_T25 l0 x13_1).f2) 0 100000 false _ A13.out).mono ?_); rintro e w' ⟨rfl, ⟨nd, rfl⟩⟩; (try first | exact ⟨rfl, _, World.drewN_drewN _ _ _⟩ | exact ⟨rfl, _, Eq.trans (World.drewN_drewN _ _ _) (congrArg (World.drewN _) (Nat.add_assoc _ _ _))⟩))))
           go_meet
           case rel => exact ⟨_, (true), (by first | rfl | (simp; done) | (simp [*]; done)), H', ⟨by have := HK1.out; first | omega | exact Nat.le_refl _⟩, ⟨by (with_reducible repeat (first | refine blk_drewN ?_ _ | refine blk_drew ?_ | refine blk_alloc ?_ _)); refine blk_put (cs := #[.int .i64 ((rd_T25 l0 x13_1).f0), .int .i64 ((rd_T25 l0 x13_1).f1), .int .i64 ((rd_T25 l0 x13_1).f2), .int .i64 ((rd_T25 l0 x13_1).f3), .int .i64 0]) ?_ 4 _ rfl; (with_reducible repeat (first | refine blk_drewN ?_ _ | refine blk_drew ?_ | refine blk_alloc ?_ _)); refine blk_put (cs := #[.int .i64 ((rd_T25 l0 x13_1).f0), .int .i64 ((rd_T25 l0 x13_1).f1), .int .i64 ((rd_T25 l0 x13_1).f2), .int .i64 0, .int .i64 0]) ?_ 3 _ rfl; (with_reducible repeat (first | refine blk_drewN ?_ _ | refine blk_drew ?_ | refine blk_alloc ?_ _)); refine blk_put (cs := #[.int .i64 ((rd_T25 l0 x13_1).f0), .int .i64 ((rd_T25 l0 x13_1).f1), .int .i64 0, .int .i64 0, .int .i64 0]) ?_ 2 _ rfl; (with_reducible repeat (first | refine blk_drewN ?_ _ | refine blk_drew ?_ | refine blk_alloc ?_ _)); refine blk_put (cs := #[.int .i64 ((rd_T25 l0 x13_1).f0), .int .i64 0, .int .i64 0, .int .i64 0, .int .i64 0]) ?_ 1 _ rfl; (with_reducible repeat (first | refine blk_drewN ?_ _ | refine blk_drew ?_ | refine blk_alloc ?_ _)); refine blk_put (cs := #[.int .i64 0, .int .i64 0, .int .i64 0, .int .i64 0, .int .i64 0]) ?_ 0 _ rfl; (with_reducible repeat (first | refine blk_drewN ?_ _ | refine blk_drew ?_ | refine blk_alloc ?_ _)); exact BK102.out⟩, ⟨by repeat (first | (with_reducible first | exact HB.out | apply below_alloc | apply pw_below_drewN | apply below_drew1 | refine below_set ?_ GE102.out) | exact HB.out)⟩, HX0, ⟨by repeat (first | (with_reducible exact HM.out) | (with_reducible refine Mpb.OwnsSet.drewN ?_ _) | (with_reducible refine Mpb.OwnsSet.drew ?_) | (refine Mpb.OwnsSet.setCell ?_ NBM.out _) | exact HM.out)⟩⟩
         ·replace c12 := Bool.eq_false_iff.mpr c12
          subst c12
          have H1 : (relief_Items.j1 k1 l0 x13_1 l0 (l0.length : Int) x13_1 true ((rd_T25 l0 x13_1).f0) ((rd_T25 l0 x13_1).f1) ((rd_T25 l0 x13_1).f2) ((rd_T25 l0 x13_1).f3) ((rd_T25 l0 x13_1).f4)) = some (r1, r2) := by rw [if_neg (show ¬ (false = true) by decide)] at H; exact H
          clear H; have H := H1; clear H1
          have H' := Aside0.mk H
          clear H
          have hcz21_0 : w7.cell? ⟨gb102, 0, none⟩ = some (.int .i64 0) := (blk_cell BK102.out 0).trans rfl
          have hcz21_1 : w7.cell? ⟨gb102, 1, none⟩ = some (.int .i64 0) := (blk_cell BK102.out 1).trans rfl
          have hcz21_2 : w7.cell? ⟨gb102, 2, none⟩ = some (.int .i64 0) := (blk_cell BK102.out 2).trans rfl
          have hcz21_3 : w7.cell? ⟨gb102, 3, none⟩ = some (.int .i64 0) := (blk_cell BK102.out 3).trans rfl
          have hcz21_4 : w7.cell? ⟨gb102, 4, none⟩ = some (.int .i64 0) := (blk_cell BK102.out 4).trans rfl
          have hfz21_0 := blk_frozen BK102.out 0
          have hfz21_1 := blk_frozen BK102.out 1
          have hfz21_2 := blk_frozen BK102.out 2
          have hfz21_3 := blk_frozen BK102.out 3
          have hfz21_4 := blk_frozen BK102.out 4
          go_wp2_with (first | (go_at_call 32; (with_reducible refine (relief_within.calls ((rd_T25 l0 x13_1).f0) 1 1073741824 true _ A9.out).mono ?_); rintro e w' ⟨rfl, ⟨nd, rfl⟩⟩; (try first | exact ⟨rfl, _, World.drewN_drewN _ _ _⟩ | exact ⟨rfl, _, Eq.trans (World.drewN_drewN _ _ _) (congrArg (World.drewN _) (Nat.add_assoc _ _ _))⟩)) | (go_at_call 32; (with_reducible refine (relief_within.calls ((rd_T25 l0 x13_1).f1) 1 9 false _ A11.out).mono ?_); rintro e w' ⟨rfl, ⟨nd, rfl⟩⟩; (try first | exact ⟨rfl, _, World.drewN_drewN _ _ _⟩ | exact ⟨rfl, _, Eq.trans (World.drewN_drewN _ _ _) (congrArg (World.drewN _) (Nat.add_assoc _ _ _))⟩)))
          repeat (go_quiet (first | (go_at_call 32; (with_reducible refine (relief_within.calls ((rd_T25 l0 x13_1).f0) 1 1073741824 true _ A9.out).mono ?_); rintro e w' ⟨rfl, ⟨nd, rfl⟩⟩; (try first | exact ⟨rfl, _, World.drewN_drewN _ _ _⟩ | exact ⟨rfl, _, Eq.trans (World.drewN_drewN _ _ _) (congrArg (World.drewN _) (Nat.add_assoc _ _ _))⟩)) | (go_at_call 32; (with_reducible refine (relief_within.calls ((rd_T25 l0 x13_1).f1) 1 9 false _ A11.out).mono ?_); rintro e w' ⟨rfl, ⟨nd, rfl⟩⟩; (try first | exact ⟨rfl, _, World.drewN_drewN _ _ _⟩ | exact ⟨rfl, _, Eq.trans (World.drewN_drewN _ _ _) (congrArg (World.drewN _) (Nat.add_assoc _ _ _))⟩))); try go_wp2_with (first | (go_at_call 32; (with_reducible refine (relief_within.calls ((rd_T25 l0 x13_1).f0) 1 1073741824 true _ A9.out).mono ?_); rintro e w' ⟨rfl, ⟨nd, rfl⟩⟩; (try first | exact ⟨rfl, _, World.drewN_drewN _ _ _⟩ | exact ⟨rfl, _, Eq.trans (World.drewN_drewN _ _ _) (congrArg (World.drewN _) (Nat.add_assoc _ _ _))⟩)) | (go_at_call 32; (with_reducible refine (relief_within.calls ((rd_T25 l0 x13_1).f1) 1 9 false _ A11.out).mono ?_); rintro e w' ⟨rfl, ⟨nd, rfl⟩⟩; (try first | exact ⟨rfl, _, World.drewN_drewN _ _ _⟩ | exact ⟨rfl, _, Eq.trans (World.drewN_drewN _ _ _) (congrArg (World.drewN _) (Nat.add_assoc _ _ _))⟩))))
          go_meet
          case rel => exact ⟨_, (true), (by first | rfl | (simp; done) | (simp [*]; done)), H', ⟨by have := HK1.out; first | omega | exact Nat.le_refl _⟩, ⟨by (with_reducible repeat (first | refine blk_drewN ?_ _ | refine blk_drew ?_ | refine blk_alloc ?_ _)); refine blk_put (cs := #[.int .i64 ((rd_T25 l0 x13_1).f0), .int .i64 ((rd_T25 l0 x13_1).f1), .int .i64 ((rd_T25 l0 x13_1).f2), .int .i64 ((rd_T25 l0 x13_1).f3), .int .i64 0]) ?_ 4 _ rfl; (with_reducible repeat (first | refine blk_drewN ?_ _ | refine blk_drew ?_ | refine blk_alloc ?_ _)); refine blk_put (cs := #[.int .i64 ((rd_T25 l0 x13_1).f0), .int .i64 ((rd_T25 l0 x13_1).f1), .int .i64 ((rd_T25 l0 x13_1).f2), .int .i64 0, .int .i64 0]) ?_ 3 _ rfl; (with_reducible repeat (first | refine blk_drewN ?_ _ | refine blk_drew ?_ | refine blk_alloc ?_ _)); refine blk_put (cs := #[.int .i64 ((rd_T25 l0 x13_1).f0), .int .i64 ((rd_T25 l0 x13_1).f1), .int .i64 0, .int .i64 0, .int .i64 0]) ?_ 2 _ rfl; (with_reducible repeat (first | refine blk_drewN ?_ _ | refine blk_drew ?_ | refine blk_alloc ?_ _)); refine blk_put (cs := #[.int .i64 ((rd_T25 l0 x13_1).f0), .int .i64 0, .int .i64 0, .int .i64 0, .int .i64 0]) ?_ 1 _ rfl; (with_reducible repeat (first | refine blk_drewN ?_ _ | refine blk_drew ?_ | refine blk_alloc ?_ _)); refine blk_put (cs := #[.int .i64 0, .int .i64 0, .int .i64 0, .int .i64 0, .int .i64 0]) ?_ 0 _ rfl; (with_reducible repeat (first | refine blk_drewN ?_ _ | refine blk_drew ?_ | refine blk_alloc ?_ _)); exact BK102.out⟩, ⟨by repeat (first | (with_reducible first | exact HB.out | apply below_alloc | apply pw_below_drewN | apply below_drew1 | refine below_set ?_ GE102.out) | exact HB.out)⟩, HX0, ⟨by repeat (first | (with_reducible exact HM.out) | (with_reducible refine Mpb.OwnsSet.drewN ?_ _) | (with_reducible refine Mpb.OwnsSet.drew ?_) | (refine Mpb.OwnsSet.setCell ?_ NBM.out _) | exact HM.out)⟩⟩
        ·replace c10 := Bool.eq_false_iff.mpr c10
         subst c10
         have H1 : (relief_Items.j1 k1 l0 x13_1 l0 (l0.length : Int) x13_1 true ((rd_T25 l0 x13_1).f0) ((rd_T25 l0 x13_1).f1) ((rd_T25 l0 x13_1).f2) ((rd_T25 l0 x13_1).f3) ((rd_T25 l0 x13_1).f4)) = some (r1, r2) := by rw [if_neg (show ¬ (false = true) by decide)] at H; exact H
         clear H; have H := H1; clear H1
         have H' := Aside0.mk H
         clear H
         have hcz22_0 : w7.cell? ⟨gb102, 0, none⟩ = some (.int .i64 0) := (blk_cell BK102.out 0).trans rfl
         have hcz22_1 : w7.cell? ⟨gb102, 1, none⟩ = some (.int .i64 0) := (blk_cell BK102.out 1).trans rfl
         have hcz22_2 : w7.cell? ⟨gb102, 2, none⟩ = some (.int .i64 0) := (blk_cell BK102.out 2).trans rfl
         have hcz22_3 : w7.cell? ⟨gb102, 3, none⟩ = some (.int .i64 0) := (blk_cell BK102.out 3).trans rfl
         have hcz22_4 : w7.cell? ⟨gb102, 4, none⟩ = some (.int .i64 0) := (blk_cell BK102.out 4).trans rfl
         have hfz22_0 := blk_frozen BK102.out 0
         have hfz22_1 := blk_frozen BK102.out 1
         have hfz22_2 := blk_frozen BK102.out 2
         have hfz22_3 := blk_frozen BK102.out 3
         have hfz22_4 := blk_frozen BK102.out 4
         go_wp2_with (first | (go_at_call 32; (with_reducible refine (relief_within.calls ((rd_T25 l0 x13_1).f0) 1 1073741824 false _ A9.out).mono ?_); rintro e w' ⟨rfl, ⟨nd, rfl⟩⟩; (try first | exact ⟨rfl, _, World.drewN_drewN _ _ _⟩ | exact ⟨rfl, _, Eq.trans (World.drewN_drewN _ _ _) (congrArg (World.drewN _) (Nat.add_assoc _ _ _))⟩)))
         repeat (go_quiet (first | (go_at_call 32; (with_reducible refine (relief_within.calls ((rd_T25 l0 x13_1).f0) 1 1073741824 false _ A9.out).mono ?_); rintro e w' ⟨rfl, ⟨nd, rfl⟩⟩; (try first | exact ⟨rfl, _, World.drewN_drewN _ _ _⟩ | exact ⟨rfl, _, Eq.trans (World.drewN_drewN _ _ _) (congrArg (World.drewN _) (Nat.add_assoc _ _ _))⟩))); try go_wp2_with (first | (go_at_call 32; (with_reducible refine (relief_within.calls ((rd_T25 l0 x13_1).f0) 1 1073741824 false _ A9.out).mono ?_); rintro e w' ⟨rfl, ⟨nd, rfl⟩⟩; (try first | exact ⟨rfl, _, World.drewN_drewN _ _ _⟩ | exact ⟨rfl, _, Eq.trans (World.drewN_drewN _ _ _) (congrArg (World.drewN _) (Nat.add_assoc _ _ _))⟩))))
         go_meet
         case rel => exact ⟨_, (true), (by first | rfl | (simp; done) | (simp [*]; done)), H', ⟨by have := HK1.out; first | omega | exact Nat.le_refl _⟩, ⟨by (with_reducible repeat (first | refine blk_drewN ?_ _ | refine blk_drew ?_ | refine blk_alloc ?_ _)); refine blk_put (cs := #[.int .i64 ((rd_T25 l0 x13_1).f0), .int .i64 ((rd_T25 l0 x13_1).f1), .int .i64 ((rd_T25 l0 x13_1).f2), .int .i64 ((rd_T25 l0 x13_1).f3), .int .i64 0]) ?_ 4 _ rfl; (with_reducible repeat (first | refine blk_drewN ?_ _ | refine blk_drew ?_ | refine blk_alloc ?_ _)); refine blk_put (cs := #[.int .i64 ((rd_T25 l0 x13_1).f0), .int .i64 ((rd_T25 l0 x13_1).f1), .int .i64 ((rd_T25 l0 x13_1).f2), .int .i64 0, .int .i64 0]) ?_ 3 _ rfl; (with_reducible repeat (first | refine blk_drewN ?_ _ | refine blk_drew ?_ | refine blk_alloc ?_ _)); refine blk_put (cs := #[.int .i64 ((rd_T25 l0 x13_1).f0), .int .i64 ((rd_T25 l0 x13_1).f1), .int .i64 0, .int .i64 0, .int .i64 0]) ?_ 2 _ rfl; (with_reducible repeat (first | refine blk_drewN ?_ _ | refine blk_drew ?_ | refine blk_alloc ?_ _)); refine blk_put (cs := #[.int .i64 ((rd_T25 l0 x13_1).f0), .int .i64 0, .int .i64 0, .int .i64 0, .int .i64 0]) ?_ 1 _ rfl; (with_reducible repeat (first | refine blk_drewN ?_ _ | refine blk_drew ?_ | refine blk_alloc ?_ _)); refine blk_put (cs := #[.int .i64 0, .int .i64 0, .int .i64 0, .int .i64 0, .int .i64 0]) ?_ 0 _ rfl; (with_reducible repeat (first | refine blk_drewN ?_ _ | refine blk_drew ?_ | refine blk_alloc ?_ _)); exact BK102.out⟩, ⟨by repeat (first | (with_reducible first | exact HB.out | apply below_alloc | apply pw_below_drewN | apply below_drew1 | refine below_set ?_ GE102.out) | exact HB.out)⟩, HX0, ⟨by repeat (first | (with_reducible exact HM.out) | (with_reducible refine Mpb.OwnsSet.drewN ?_ _) | (with_reducible refine Mpb.OwnsSet.drew ?_) | (refine Mpb.OwnsSet.setCell ?_ NBM.out _) | exact HM.out)⟩⟩
       case rest =>
        clear HC6
        obtain ⟨kq, x18_5, rfl, HA, HJ5, BK102, HB, HX0, HM⟩ := hcut
        cases kq with
        | zero => exact absurd HA.out (by simp [relief_Items.j1])
        | succ kj5 =>
         have H := HA.out; clear HA
         simp only [relief_Items.j1] at H
         by_cases c23 : x18_5 = true
         ·subst c23
          have H1 : (some (x13_1, 2)) = some (r1, r2) := by rw [if_pos rfl] at H; exact H
          clear H; have H := H1; clear H1
          simp only [Option.some.injEq, Prod.mk.injEq] at H
          obtain ⟨rfl, rfl⟩ := H
          go_wp2
          repeat (go_quiet (fail); try go_wp2)
          go_ret2
          exact ⟨by first | rfl | (simp [errW_none, errW_some] <;> rfl) | (simp [*, errW_none, errW_some] <;> rfl), by repeat (first | (with_reducible first | exact HB.out | apply below_alloc | apply pw_below_drewN | apply below_drew1 | refine below_set ?_ GE102.out) | exact HB.out)⟩
         ·replace c23 := Bool.eq_false_iff.mpr c23
          subst c23
          have H1 : (if x13_1 > 0 then (if 0 ≤ (wrap64 (x13_1 - 1)) then (if (wrap64 (x13_1 - 1)) < (l0.length : Int) then (if ((rd_T25 l0 x13_1).f2) < ((rd_T25 l0 (wrap64 (x13_1 - 1))).f2) then (relief_Items.j2 kj5 l0 x13_1 l0 (l0.length : Int) x13_1 true ((rd_T25 l0 x13_1).f0) ((rd_T25 l0 x13_1).f1) ((rd_T25 l0 x13_1).f2) ((rd_T25 l0 x13_1).f3) ((rd_T25 l0 x13_1).f4)) else (if ((rd_T25 l0 x13_1).f2) = ((rd_T25 l0 (wrap64 (x13_1 - 1))).f2) then (relief_Items.j2 kj5 l0 x13_1 l0 (l0.length : Int) x13_1 (decide (((rd_T25 l0 x13_1).f0) ≤ ((rd_T25 l0 (wrap64 (x13_1 - 1))).f0))) ((rd_T25 l0 x13_1).f0) ((rd_T25 l0 x13_1).f1) ((rd_T25 l0 x13_1).f2) ((rd_T25 l0 x13_1).f3) ((rd_T25 l0 x13_1).f4)) else (relief_Items.j2 kj5 l0 x13_1 l0 (l0.length : Int) x13_1 false ((rd_T25 l0 x13_1).f0) ((rd_T25 l0 x13_1).f1) ((rd_T25 l0 x13_1).f2) ((rd_T25 l0 x13_1).f3) ((rd_T25 l0 x13_1).f4)))) else (none)) else (none)) else (relief_Items.j2 kj5 l0 x13_1 l0 (l0.length : Int) x13_1 false ((rd_T25 l0 x13_1).f0) ((rd_T25 l0 x13_1).f1) ((rd_T25 l0 x13_1).f2) ((rd_T25 l0 x13_1).f3) ((rd_T25 l0 x13_1).f4))) = some (r1, r2) := by rw [if_neg (show ¬ (false = true) by decide)] at H; exact H
          clear H; have H := H1; clear H1
          have HC24 := Aside0.mk H
          clear H
          go_upto_region 9 with (fail)
          repeat (go_quiet (fail); go_upto_region 9 with (fail))
          go_cut [48] (fun v48 wc => ∃ (kq : Nat) (x48_23 : Bool), v48 = .bool x48_23 ∧ Aside0 (relief_Items.j2 kq l0 x13_1 l0 (l0.length : Int) x13_1 x48_23 ((rd_T25 l0 x13_1).f0) ((rd_T25 l0 x13_1).f1) ((rd_T25 l0 x13_1).f2) ((rd_T25 l0 x13_1).f3) ((rd_T25 l0 x13_1).f4) = some (r1, r2)) ∧ Aside0 (kq ≤ kj5) ∧ Aside0 (wc.heap[gb102]? = some (.cells #[.int .i64 ((rd_T25 l0 x13_1).f0), .int .i64 ((rd_T25 l0 x13_1).f1), .int .i64 ((rd_T25 l0 x13_1).f2), .int .i64 ((rd_T25 l0 x13_1).f3), .int .i64 ((rd_T25 l0 x13_1).f4)] 25 (0, 0))) ∧ Aside0 (Below w.heap.size w wc) ∧ Aside0 (0 ≤ x13_1) ∧ Aside0 (Mpb.OwnsSet Try.prog 3 4 wc w.heap.size x13_1.toNat (keys25 l0 x13_1.toNat)))
          case first =>
           have H := HC24.out; clear HC24
           by_cases c25 : x13_1 > 0
           ·rw [if_pos c25] at H
            have c25b0 : decide (0 < x13_1) = true := decide_eq_true c25
            clear c25
            (first | rw [c25b0] | (simp only [i64_w, i32_w]; rw [c25b0]) | skip)
            obtain ⟨ji26, hji26⟩ : ∃ j_ : Int, (wrap64 (x13_1 - 1)) = j_ := ⟨_, rfl⟩
            replace H : (if 0 ≤ (ji26) then (if (ji26) < (l0.length : Int) then (if ((rd_T25 l0 x13_1).f2) < ((rd_T25 l0 (ji26)).f2) then (relief_Items.j2 kj5 l0 x13_1 l0 (l0.length : Int) x13_1 true ((rd_T25 l0 x13_1).f0) ((rd_T25 l0 x13_1).f1) ((rd_T25 l0 x13_1).f2) ((rd_T25 l0 x13_1).f3) ((rd_T25 l0 x13_1).f4)) else (if ((rd_T25 l0 x13_1).f2) = ((rd_T25 l0 (ji26)).f2) then (relief_Items.j2 kj5 l0 x13_1 l0 (l0.length : Int) x13_1 (decide (((rd_T25 l0 x13_1).f0) ≤ ((rd_T25 l0 (ji26)).f0))) ((rd_T25 l0 x13_1).f0) ((rd_T25 l0 x13_1).f1) ((rd_T25 l0 x13_1).f2) ((rd_T25 l0 x13_1).f3) ((rd_T25 l0 x13_1).f4)) else (relief_Items.j2 kj5 l0 x13_1 l0 (l0.length : Int) x13_1 false ((rd_T25 l0 x13_1).f0) ((rd_T25 l0 x13_1).f1) ((rd_T25 l0 x13_1).f2) ((rd_T25 l0 x13_1).f3) ((rd_T25 l0 x13_1).f4)))) else (none)) else (none)) = some (r1, r2) := by first | (rw [hji26] at H; exact H) | (simp only [hji26] at H ⊢; exact H)
            have hji26w : (IntKind.i64.wrap (x13_1 - 1)) = ji26 := (i64_w _).trans hji26
            by_cases c27 : 0 ≤ (ji26)
            ·rw [if_pos c27] at H
             have c27b0 : decide (0 ≤ (ji26)) = true := decide_eq_true c27
             clear c27
             by_cases c28 : (ji26) < (l0.length : Int)
             ·rw [if_pos c28] at H
              have c28b0 : decide ((ji26) < (l0.length : Int)) = true := decide_eq_true c28
              clear c28
              by_cases c29 : ((rd_T25 l0 x13_1).f2) < ((rd_T25 l0 (ji26)).f2)
              ·rw [if_pos c29] at H
               have c29b0 : decide (((rd_T25 l0 x13_1).f2) < ((rd_T25 l0 (ji26)).f2)) = true := decide_eq_true c29
               clear c29
               have H' := Aside0.mk H
               clear H
               have hcz30_0 : wc.cell? ⟨gb102, 0, none⟩ = some (.int .i64 ((rd_T25 l0 x13_1).f0)) := (blk_cell BK102.out 0).trans rfl
               have hcz30_1 : wc.cell? ⟨gb102, 1, none⟩ = some (.int .i64 ((rd_T25 l0 x13_1).f1)) := (blk_cell BK102.out 1).trans rfl
               have hcz30_2 : wc.cell? ⟨gb102, 2, none⟩ = some (.int .i64 ((rd_T25 l0 x13_1).f2)) := (blk_cell BK102.out 2).trans rfl
               have hcz30_3 : wc.cell? ⟨gb102, 3, none⟩ = some (.int .i64 ((rd_T25 l0 x13_1).f3)) := (blk_cell BK102.out 3).trans rfl
               have hcz30_4 : wc.cell? ⟨gb102, 4, none⟩ = some (.int .i64 ((rd_T25 l0 x13_1).f4)) := (blk_cell BK102.out 4).trans rfl
               have hfz30_0 := blk_frozen BK102.out 0
               have hfz30_1 := blk_frozen BK102.out 1
               have hfz30_2 := blk_frozen BK102.out 2
               have hfz30_3 := blk_frozen BK102.out 3
               have hfz30_4 := blk_frozen BK102.out 4
               have p108 : 0 ≤ ((ji26) : Int) := of_decide_eq_true (by first | (with_reducible assumption) | assumption)
               have q108 : (ji26) < (l0.length : Int) := of_decide_eq_true (by first | (with_reducible assumption) | assumption)
               obtain ⟨ad108, e108, hx108_0, hx108_1, hx108_2, hx108_3, hx108_4⟩ := at_T25 HR0.out (ji26) p108 q108
               obtain rfl : ad101 = ad108 := (by injection e108)
               replace hx108_0 := (HB.out.cell (World.block_lt_of_cell? w _ hx108_0)).trans hx108_0
               replace hx108_1 := (HB.out.cell (World.block_lt_of_cell? w _ hx108_1)).trans hx108_1
               replace hx108_2 := (HB.out.cell (World.block_lt_of_cell? w _ hx108_2)).trans hx108_2
               replace hx108_3 := (HB.out.cell (World.block_lt_of_cell? w _ hx108_3)).trans hx108_3
               replace hx108_4 := (HB.out.cell (World.block_lt_of_cell? w _ hx108_4)).trans hx108_4
               replace p108 := eq_true p108
               replace q108 := eq_true q108
               go_wp2
               repeat (go_quiet (fail); try go_wp2)
               go_meet
               case rel => exact ⟨_, (true), (by first | rfl | (simp; done) | (simp [*]; done)), H', ⟨by have := HK1.out; have := HJ5.out; first | omega | exact Nat.le_refl _⟩, ⟨by (with_reducible repeat (first | refine blk_drewN ?_ _ | refine blk_drew ?_ | refine blk_alloc ?_ _)); exact BK102.out⟩, ⟨by repeat (first | (with_reducible first | exact HB.out | apply below_alloc | apply pw_below_drewN | apply below_drew1 | refine below_set ?_ GE102.out) | exact HB.out)⟩, HX0, ⟨by repeat (first | (with_reducible exact HM.out) | (with_reducible refine Mpb.OwnsSet.drewN ?_ _) | (with_reducible refine Mpb.OwnsSet.drew ?_) | (refine Mpb.OwnsSet.setCell ?_ NBM.out _) | exact HM.out)⟩⟩
              ·rw [if_neg c29] at H
               have c29b0 : decide (((rd_T25 l0 x13_1).f2) < ((rd_T25 l0 (ji26)).f2)) = false := decide_eq_false c29
               clear c29
               by_cases c31 : ((rd_T25 l0 x13_1).f2) = ((rd_T25 l0 (ji26)).f2)
               ·rw [if_pos c31] at H
                have c31b0 : (((rd_T25 l0 x13_1).f2) == ((rd_T25 l0 (ji26)).f2)) = true := beq_iff_eq.mpr c31
                have c31b1 : (((rd_T25 l0 x13_1).f2) != ((rd_T25 l0 (ji26)).f2)) = false := bne_eq_false_iff_eq.mpr c31
                clear c31
                have H' := Aside0.mk H
                clear H
                have hcz32_0 : wc.cell? ⟨gb102, 0, none⟩ = some (.int .i64 ((rd_T25 l0 x13_1).f0)) := (blk_cell BK102.out 0).trans rfl
                have hcz32_1 : wc.cell? ⟨gb102, 1, none⟩ = some (.int .i64 ((rd_T25 l0 x13_1).f1)) := (blk_cell BK102.out 1).trans rfl
                have hcz32_2 : wc.cell? ⟨gb102, 2, none⟩ = some (.int .i64 ((rd_T25 l0 x13_1).f2)) := (blk_cell BK102.out 2).trans rfl
                have hcz32_3 : wc.cell? ⟨gb102, 3, none⟩ = some (.int .i64 ((rd_T25 l0 x13_1).f3)) := (blk_cell BK102.out 3).trans rfl
                have hcz32_4 : wc.cell? ⟨gb102, 4, none⟩ = some (.int .i64 ((rd_T25 l0 x13_1).f4)) := (blk_cell BK102.out 4).trans rfl
                have hfz32_0 := blk_frozen BK102.out 0
                have hfz32_1 := blk_frozen BK102.out 1
                have hfz32_2 := blk_frozen BK102.out 2
                have hfz32_3 := blk_frozen BK102.out 3
                have hfz32_4 := blk_frozen BK102.out 4
                have p108 : 0 ≤ ((ji26) : Int) := of_decide_eq_true (by first | (with_reducible assumption) | assumption)
                have q108 : (ji26) < (l0.length : Int) := of_decide_eq_true (by first | (with_reducible assumption) | assumption)
                obtain ⟨ad108, e108, hx108_0, hx108_1, hx108_2, hx108_3, hx108_4⟩ := at_T25 HR0.out (ji26) p108 q108
                obtain rfl : ad101 = ad108 := (by injection e108)
                replace hx108_0 := (HB.out.cell (World.block_lt_of_cell? w _ hx108_0)).trans hx108_0
                replace hx108_1 := (HB.out.cell (World.block_lt_of_cell? w _ hx108_1)).trans hx108_1
                replace hx108_2 := (HB.out.cell (World.block_lt_of_cell? w _ hx108_2)).trans hx108_2
                replace hx108_3 := (HB.out.cell (World.block_lt_of_cell? w _ hx108_3)).trans hx108_3
                replace hx108_4 := (HB.out.cell (World.block_lt_of_cell? w _ hx108_4)).trans hx108_4
                replace p108 := eq_true p108
                replace q108 := eq_true q108
                have p109 : 0 ≤ ((ji26) : Int) := of_decide_eq_true (by first | (with_reducible assumption) | assumption)
                have q109 : (ji26) < (l0.length : Int) := of_decide_eq_true (by first | (with_reducible assumption) | assumption)
                obtain ⟨ad109, e109, hx109_0, hx109_1, hx109_2, hx109_3, hx109_4⟩ := at_T25 HR0.out (ji26) p109 q109
                obtain rfl : ad101 = ad109 := (by injection e109)
                replace hx109_0 := (HB.out.cell (World.block_lt_of_cell? w _ hx109_0)).trans hx109_0
                replace hx109_1 := (HB.out.cell (World.block_lt_of_cell? w _ hx109_1)).trans hx109_1
                replace hx109_2 := (HB.out.cell (World.block_lt_of_cell? w _ hx109_2)).trans hx109_2
                replace hx109_3 := (HB.out.cell (World.block_lt_of_cell? w _ hx109_3)).trans hx109_3
                replace hx109_4 := (HB.out.cell (World.block_lt_of_cell? w _ hx109_4)).trans hx109_4
                replace p109 := eq_true p109
                replace q109 := eq_true q109
                have p110 : 0 ≤ ((ji26) : Int) := of_decide_eq_true (by first | (with_reducible assumption) | assumption)
                have q110 : (ji26) < (l0.length : Int) := of_decide_eq_true (by first | (with_reducible assumption) | assumption)
                obtain ⟨ad110, e110, hx110_0, hx110_1, hx110_2, hx110_3, hx110_4⟩ := at_T25 HR0.out (ji26) p110 q110
                obtain rfl : ad101 = ad110 := (by injection e110)
                replace hx110_0 := (HB.out.cell (World.block_lt_of_cell? w _ hx110_0)).trans hx110_0
                replace hx110_1 := (HB.out.cell (World.block_lt_of_cell? w _ hx110_1)).trans hx110_1
                replace hx110_2 := (HB.out.cell (World.block_lt_of_cell? w _ hx110_2)).trans hx110_2
                replace hx110_3 := (HB.out.cell (World.block_lt_of_cell? w _ hx110_3)).trans hx110_3
                replace hx110_4 := (HB.out.cell (World.block_lt_of_cell? w _ hx110_4)).trans hx110_4
                replace p110 := eq_true p110
                replace q110 := eq_true q110
                go_wp2
                repeat (go_quiet (fail); try go_wp2)
                go_meet
                case rel => exact ⟨_, (decide (((rd_T25 l0 x13_1).f0) ≤ ((rd_T25 l0 (ji26)).f0))), (by first | rfl | (simp; done) | (simp only [← hji26] <;> (first | rfl | simp)) | (simp [*]; done)), H', ⟨by have := HK1.out; have := HJ5.out; first | omega | exact Nat.le_refl _⟩, ⟨by (with_reducible repeat (first | refine blk_drewN ?_ _ | refine blk_drew ?_ | refine blk_alloc ?_ _)); exact BK102.out⟩, ⟨by repeat (first | (with_reducible first | exact HB.out | apply below_alloc | apply pw_below_drewN | apply below_drew1 | refine below_set ?_ GE102.out) | exact HB.out)⟩, HX0, ⟨by repeat (first | (with_reducible exact HM.out) | (with_reducible refine Mpb.OwnsSet.drewN ?_ _) | (with_reducible refine Mpb.OwnsSet.drew ?_) | (refine Mpb.OwnsSet.setCell ?_ NBM.out _) | exact HM.out)⟩⟩
               ·rw [if_neg c31] at H
                have c31b0 : (((rd_T25 l0 x13_1).f2) == ((rd_T25 l0 (ji26)).f2)) = false := beq_eq_false_iff_ne.mpr c31
                have c31b1 : (((rd_T25 l0 x13_1).f2) != ((rd_T25 l0 (ji26)).f2)) = true := bne_iff_ne.mpr c31
                have H' := Aside0.mk H
                clear H
                have hcz33_0 : wc.cell? ⟨gb102, 0, none⟩ = some (.int .i64 ((rd_T25 l0 x13_1).f0)) := (blk_cell BK102.out 0).trans rfl
                have hcz33_1 : wc.cell? ⟨gb102, 1, none⟩ = some (.int .i64 ((rd_T25 l0 x13_1).f1)) := (blk_cell BK102.out 1).trans rfl
                have hcz33_2 : wc.cell? ⟨gb102, 2, none⟩ = some (.int .i64 ((rd_T25 l0 x13_1).f2)) := (blk_cell BK102.out 2).trans rfl
                have hcz33_3 : wc.cell? ⟨gb102, 3, none⟩ = some (.int .i64 ((rd_T25 l0 x13_1).f3)) := (blk_cell BK102.out 3).trans rfl
                have hcz33_4 : wc.cell? ⟨gb102, 4, none⟩ = some (.int .i64 ((rd_T25 l0 x13_1).f4)) := (blk_cell BK102.out 4).trans rfl
                have hfz33_0 := blk_frozen BK102.out 0
                have hfz33_1 := blk_frozen BK102.out 1
                have hfz33_2 := blk_frozen BK102.out 2
                have hfz33_3 := blk_frozen BK102.out 3
                have hfz33_4 := blk_frozen BK102.out 4
                have p108 : 0 ≤ ((ji26) : Int) := of_decide_eq_true (by first | (with_reducible assumption) | assumption)
                have q108 : (ji26) < (l0.length : Int) := of_decide_eq_true (by first | (with_reducible assumption) | assumption)
                obtain ⟨ad108, e108, hx108_0, hx108_1, hx108_2, hx108_3, hx108_4⟩ := at_T25 HR0.out (ji26) p108 q108
                obtain rfl : ad101 = ad108 := (by injection e108)
                replace hx108_0 := (HB.out.cell (World.block_lt_of_cell? w _ hx108_0)).trans hx108_0
                replace hx108_1 := (HB.out.cell (World.block_lt_of_cell? w _ hx108_1)).trans hx108_1
                replace hx108_2 := (HB.out.cell (World.block_lt_of_cell? w _ hx108_2)).trans hx108_2
                replace hx108_3 := (HB.out.cell (World.block_lt_of_cell? w _ hx108_3)).trans hx108_3
                replace hx108_4 := (HB.out.cell (World.block_lt_of_cell? w _ hx108_4)).trans hx108_4
                replace p108 := eq_true p108
                replace q108 := eq_true q108
                have p109 : 0 ≤ ((ji26) : Int) := of_decide_eq_true (by first | (with_reducible assumption) | assumption)
                have q109 : (ji26) < (l0.length : Int) := of_decide_eq_true (by first | (with_reducible assumption) | assumption)
                obtain ⟨ad109, e109, hx109_0, hx109_1, hx109_2, hx109_3, hx109_4⟩ := at_T25 HR0.out (ji26) p109 q109
                obtain rfl : ad101 = ad109 := (by injection e109)
                replace hx109_0 := (HB.out.cell (World.block_lt_of_cell? w _ hx109_0)).trans hx109_0
                replace hx109_1 := (HB.out.cell (World.block_lt_of_cell? w _ hx109_1)).trans hx109_1
                replace hx109_2 := (HB.out.cell (World.block_lt_of_cell? w _ hx109_2)).trans hx109_2
                replace hx109_3 := (HB.out.cell (World.block_lt_of_cell? w _ hx109_3)).trans hx109_3
                replace hx109_4 := (HB.out.cell (World.block_lt_of_cell? w _ hx109_4)).trans hx109_4
                replace p109 := eq_true p109
                replace q109 := eq_true q109
                go_wp2
                repeat (go_quiet (fail); try go_wp2)
                go_meet
                case rel => exact ⟨_, (false), (by first | rfl | (simp; done) | (simp [*]; done)), H', ⟨by have := HK1.out; have := HJ5.out; first | omega | exact Nat.le_refl _⟩, ⟨by (with_reducible repeat (first | refine blk_drewN ?_ _ | refine blk_drew ?_ | refine blk_alloc ?_ _)); exact BK102.out⟩, ⟨by repeat (first | (with_reducible first | exact HB.out | apply below_alloc | apply pw_below_drewN | apply below_drew1 | refine below_set ?_ GE102.out) | exact HB.out)⟩, HX0, ⟨by repeat (first | (with_reducible exact HM.out) | (with_reducible refine Mpb.OwnsSet.drewN ?_ _) | (with_reducible refine Mpb.OwnsSet.drew ?_) | (refine Mpb.OwnsSet.setCell ?_ NBM.out _) | exact HM.out)⟩⟩
             ·rw [if_neg c28] at H
              exact absurd H (by simp)
            ·rw [if_neg c27] at H
             exact absurd H (by simp)
           ·rw [if_neg c25] at H
            have c25b0 : decide (0 < x13_1) = false := decide_eq_false c25
            clear c25
            (first | rw [c25b0] | (simp only [i64_w, i32_w]; rw [c25b0]) | skip)
            have H' := Aside0.mk H
            clear H
            go_wp2
            repeat (go_quiet (fail); try go_wp2)
            go_meet
            case rel => exact ⟨_, (false), (by first | rfl | (simp; done) | (simp [*]; done)), H', ⟨by have := HK1.out; have := HJ5.out; first | omega | exact Nat.le_refl _⟩, ⟨by (with_reducible repeat (first | refine blk_drewN ?_ _ | refine blk_drew ?_ | refine blk_alloc ?_ _)); exact BK102.out⟩, ⟨by repeat (first | (with_reducible first | exact HB.out | apply below_alloc | apply pw_below_drewN | apply below_drew1 | refine below_set ?_ GE102.out) | exact HB.out)⟩, HX0, ⟨by repeat (first | (with_reducible exact HM.out) | (with_reducible refine Mpb.OwnsSet.drewN ?_ _) | (with_reducible refine Mpb.OwnsSet.drew ?_) | (refine Mpb.OwnsSet.setCell ?_ NBM.out _) | exact HM.out)⟩⟩
          case rest =>
           clear HC24
           obtain ⟨kq, x48_23, rfl, HA, HJ23, BK102, HB, HX0, HM⟩ := hcut
           cases kq with
           | zero => exact absurd HA.out (by simp [relief_Items.j2])
           | succ kj23 =>
            have H := HA.out; clear HA
            simp only [relief_Items.j2] at H
            by_cases c34 : x48_23 = true
            ·subst c34
             have H1 : (some (x13_1, 5)) = some (r1, r2) := by rw [if_pos rfl] at H; exact H
             clear H; have H := H1; clear H1
             simp only [Option.some.injEq, Prod.mk.injEq] at H
             obtain ⟨rfl, rfl⟩ := H
             go_wp2
             repeat (go_quiet (fail); try go_wp2)
             go_ret2
             exact ⟨by first | rfl | (simp [errW_none, errW_some] <;> rfl) | (simp [*, errW_none, errW_some] <;> rfl), by repeat (first | (with_reducible first | exact HB.out | apply below_alloc | apply pw_below_drewN | apply below_drew1 | refine below_set ?_ GE102.out) | exact HB.out)⟩
            ·replace c34 := Bool.eq_false_iff.mpr c34
             subst c34
             have H1 : (if (0 ≤ ((rd_T25 l0 x13_1).f0) ∧ ((rd_T25 l0 x13_1).f0) ≤ 1073741824) then (if seen25 l0 x13_1 ((rd_T25 l0 x13_1).f0) = true then (some (x13_1, 6)) else (relief_Items.l0 kj23 l0 l0 (l0.length : Int) (wrap64 (x13_1 + 1)))) else (none)) = some (r1, r2) := by rw [if_neg (show ¬ (false = true) by decide)] at H; exact H
             clear H; have H := H1; clear H1
             have csz : 0 ≤ ((rd_T25 l0 x13_1).f0) ∧ ((rd_T25 l0 x13_1).f0) ≤ 1073741824 := by
              by_cases csz : 0 ≤ ((rd_T25 l0 x13_1).f0) ∧ ((rd_T25 l0 x13_1).f0) ≤ 1073741824
              ·exact csz
              ·rw [if_neg csz] at H
               exact absurd H (by simp)
             rw [if_pos csz] at H
             have CSZ := Aside0.mk csz
             clear csz
             by_cases c35 : seen25 l0 x13_1 ((rd_T25 l0 x13_1).f0) = true
             ·rw [if_pos c35] at H
              have c35u : ((keys25 l0 x13_1.toNat).any fun y => y.sameKey (.int .i64 ((rd_T25 l0 x13_1).f0))) = true := c35
              have C35U := Aside0.mk c35u
              clear c35 c35u
              simp only [Option.some.injEq, Prod.mk.injEq] at H
              obtain ⟨rfl, rfl⟩ := H
              have hcz36_0 : wc.cell? ⟨gb102, 0, none⟩ = some (.int .i64 ((rd_T25 l0 x13_1).f0)) := (blk_cell BK102.out 0).trans rfl
              have hcz36_1 : wc.cell? ⟨gb102, 1, none⟩ = some (.int .i64 ((rd_T25 l0 x13_1).f1)) := (blk_cell BK102.out 1).trans rfl
              have hcz36_2 : wc.cell? ⟨gb102, 2, none⟩ = some (.int .i64 ((rd_T25 l0 x13_1).f2)) := (blk_cell BK102.out 2).trans rfl
              have hcz36_3 : wc.cell? ⟨gb102, 3, none⟩ = some (.int .i64 ((rd_T25 l0 x13_1).f3)) := (blk_cell BK102.out 3).trans rfl
              have hcz36_4 : wc.cell? ⟨gb102, 4, none⟩ = some (.int .i64 ((rd_T25 l0 x13_1).f4)) := (blk_cell BK102.out 4).trans rfl
              have hfz36_0 := blk_frozen BK102.out 0
              have hfz36_1 := blk_frozen BK102.out 1
              have hfz36_2 := blk_frozen BK102.out 2
              have hfz36_3 := blk_frozen BK102.out 3
              have hfz36_4 := blk_frozen BK102.out 4
              go_wp2_with (first | (at_lookup; refine Mpb.look_set (k := 3) (e := 4) (b := w.heap.size) (n := x13_1.toNat) (acc := keys25 l0 x13_1.toNat) rfl _ _ rfl (Go.Maps.int_keyed Try.underlying3) Try.underlying61 Try.underlying4 (zero4 _) rfl ?hown ?hk _ (.int .i64 ((rd_T25 l0 x13_1).f0)) rfl ?hkey ?_; (case hown => repeat (first | (with_reducible exact HM.out) | (with_reducible refine Mpb.OwnsSet.drewN ?_ _) | (with_reducible refine Mpb.OwnsSet.drew ?_) | (refine Mpb.OwnsSet.setCell ?_ NBM.out _) | exact HM.out)); (case hk => exact keys25_lit _ _); (case hkey => exact Go.Maps.keyOf_int_mk Try.underlying3 (wf25 CSZ.out)); rw [C35U.out]) | (at_mapUpdate; refine Mpb.store_set (k := 3) (e := 4) (b := w.heap.size) (n := x13_1.toNat) (acc := keys25 l0 x13_1.toNat) rfl _ _ _ rfl (Go.Maps.int_keyed Try.underlying3) Try.underlying61 Try.underlying4 rfl ?hown ?hn _ (.int .i64 ((rd_T25 l0 x13_1).f0)) rfl rfl ?hkey ?_; (case hown => repeat (first | (with_reducible exact HM.out) | (with_reducible refine Mpb.OwnsSet.drewN ?_ _) | (with_reducible refine Mpb.OwnsSet.drew ?_) | (refine Mpb.OwnsSet.setCell ?_ NBM.out _) | exact HM.out)); (case hn => have := HL64.out; have := XL.out; unfold maxLen; omega); (case hkey => exact Go.Maps.keyOf_int_mk Try.underlying3 (wf25 CSZ.out)); intro w1 hm1 hg1; have n0_ := Aside0.mk (Below.grown (by repeat (first | (with_reducible first | exact HB.out | apply below_alloc | apply pw_below_drewN | apply below_drew1 | refine below_set ?_ GE102.out) | exact HB.out)) hg1 (below_size (by repeat (first | (with_reducible first | exact HB.out | apply below_alloc | apply pw_below_drewN | apply below_drew1 | refine below_set ?_ GE102.out) | exact HB.out))) (fun j hj => by cases hj; exact Nat.le_refl _)); clear HB HM; have HB := n0_; have HM := Aside0.mk hm1; clear n0_ hm1 hg1))
              repeat (go_quiet (fail); try go_wp2)
              go_ret2
              exact ⟨by first | rfl | (simp [errW_none, errW_some] <;> rfl) | (simp [*, errW_none, errW_some] <;> rfl), by repeat (first | (with_reducible first | exact HB.out | apply below_alloc | apply pw_below_drewN | apply below_drew1 | refine below_set ?_ GE102.out) | exact HB.out)⟩
             ·rw [if_neg c35] at H
              have c35u : ((keys25 l0 x13_1.toNat).any fun y => y.sameKey (.int .i64 ((rd_T25 l0 x13_1).f0))) = false := Bool.eq_false_iff.mpr c35
              have C35U := Aside0.mk c35u
              clear c35 c35u
              have H' := Aside0.mk H
              clear H
              have hcz37_0 : wc.cell? ⟨gb102, 0, none⟩ = some (.int .i64 ((rd_T25 l0 x13_1).f0)) := (blk_cell BK102.out 0).trans rfl
              have hcz37_1 : wc.cell? ⟨gb102, 1, none⟩ = some (.int .i64 ((rd_T25 l0 x13_1).f1)) := (blk_cell BK102.out 1).trans rfl
              have hcz37_2 : wc.cell? ⟨gb102, 2, none⟩ = some (.int .i64 ((rd_T25 l0 x13_1).f2)) := (blk_cell BK102.out 2).trans rfl
              have hcz37_3 : wc.cell? ⟨gb102, 3, none⟩ = some (.int .i64 ((rd_T25 l0 x13_1).f3)) := (blk_cell BK102.out 3).trans rfl
              have hcz37_4 : wc.cell? ⟨gb102, 4, none⟩ = some (.int .i64 ((rd_T25 l0 x13_1).f4)) := (blk_cell BK102.out 4).trans rfl
              have hfz37_0 := blk_frozen BK102.out 0
              have hfz37_1 := blk_frozen BK102.out 1
              have hfz37_2 := blk_frozen BK102.out 2
              have hfz37_3 := blk_frozen BK102.out 3
              have hfz37_4 := blk_frozen BK102.out 4
              go_wp2_with (first | (at_lookup; refine Mpb.look_set (k := 3) (e := 4) (b := w.heap.size) (n := x13_1.toNat) (acc := keys25 l0 x13_1.toNat) rfl _ _ rfl (Go.Maps.int_keyed Try.underlying3) Try.underlying61 Try.underlying4 (zero4 _) rfl ?hown ?hk _ (.int .i64 ((rd_T25 l0 x13_1).f0)) rfl ?hkey ?_; (case hown => repeat (first | (with_reducible exact HM.out) | (with_reducible refine Mpb.OwnsSet.drewN ?_ _) | (with_reducible refine Mpb.OwnsSet.drew ?_) | (refine Mpb.OwnsSet.setCell ?_ NBM.out _) | exact HM.out)); (case hk => exact keys25_lit _ _); (case hkey => exact Go.Maps.keyOf_int_mk Try.underlying3 (wf25 CSZ.out)); rw [C35U.out]) | (at_mapUpdate; refine Mpb.store_set (k := 3) (e := 4) (b := w.heap.size) (n := x13_1.toNat) (acc := keys25 l0 x13_1.toNat) rfl _ _ _ rfl (Go.Maps.int_keyed Try.underlying3) Try.underlying61 Try.underlying4 rfl ?hown ?hn _ (.int .i64 ((rd_T25 l0 x13_1).f0)) rfl rfl ?hkey ?_; (case hown => repeat (first | (with_reducible exact HM.out) | (with_reducible refine Mpb.OwnsSet.drewN ?_ _) | (with_reducible refine Mpb.OwnsSet.drew ?_) | (refine Mpb.OwnsSet.setCell ?_ NBM.out _) | exact HM.out)); (case hn => have := HL64.out; have := XL.out; unfold maxLen; omega); (case hkey => exact Go.Maps.keyOf_int_mk Try.underlying3 (wf25 CSZ.out)); intro w1 hm1 hg1; have n0_ := Aside0.mk (Below.grown (by repeat (first | (with_reducible first | exact HB.out | apply below_alloc | apply pw_below_drewN | apply below_drew1 | refine below_set ?_ GE102.out) | exact HB.out)) hg1 (below_size (by repeat (first | (with_reducible first | exact HB.out | apply below_alloc | apply pw_below_drewN | apply below_drew1 | refine below_set ?_ GE102.out) | exact HB.out))) (fun j hj => by cases hj; exact Nat.le_refl _)); clear HB HM; have HB := n0_; have HM := Aside0.mk hm1; clear n0_ hm1 hg1))
              repeat (go_quiet (fail); try go_wp2)
              go_roundg kj23
              case measure => have := HK1.out; have := HJ5.out; have := HJ23.out; omega
              case rel => exact ⟨(wrap64 (x13_1 + 1)), (by first | rfl | (simp; done) | (simp [*]; done)), H', ⟨by have := HK1.out; have := HJ5.out; have := HJ23.out; omega⟩, ⟨by repeat (first | (with_reducible first | exact HB.out | apply below_alloc | apply pw_below_drewN | apply below_drew1 | refine below_set ?_ GE102.out) | exact HB.out)⟩, ⟨nonneg25 HX0.out XL.out HL64.out⟩, ⟨step25 HX0.out XL.out HL64.out HM.out⟩⟩
      ·rw [if_neg c5] at H
       exact absurd H (by simp)
     ·rw [if_neg c4] at H
      exact absurd H (by simp)
    ·rw [if_neg c3] at H
     have c3b0 : decide (x13_1 < (l0.length : Int)) = false := decide_eq_false c3
     clear c3
     simp only [Option.some.injEq, Prod.mk.injEq] at H
     obtain ⟨rfl, rfl⟩ := H
     go_wp2
     repeat (go_quiet (fail); try go_wp2)
     go_ret2
     exact ⟨by first | rfl | (simp [errW_none, errW_some] <;> rfl) | (simp [*, errW_none, errW_some] <;> rfl), by repeat (first | (with_reducible first | exact HB.out | apply below_alloc | apply pw_below_drewN | apply below_drew1) | exact HB.out)⟩
end Go.Proofs.Ytccocolcgdiglaa.X
