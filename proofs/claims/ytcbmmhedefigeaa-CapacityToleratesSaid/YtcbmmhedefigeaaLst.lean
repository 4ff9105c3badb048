-- Written by a program of this work, over the kit's print of the translation. Not trusted: Lean checks it.
import Derived.Test.YtcbmmhedefigeaaXx0
import Derived.Test.YtcbmmhedefigeaaXx3
import Derived.Test.YtcbmmhedefigeaaMpb
namespace Go.Proofs.Ytcbmmhedefigeaa.X
open Go.RowKit Go.Proofs.YtcbmmhedefigeaaW.PrintWords Go.Proofs.YtcbmmhedefigeaaW.PrintLast Go.Proofs.YtcbmmhedefigeaaW.PrintMore
attribute [local go_sem] max2_int min2_int max_two min_two max_three min_three max_four min_four   -- for this text's walks alone
set_option linter.unusedVariables false
set_option linter.unusedSimpArgs false
def keys40 (l : List S40) (i : Nat) : List Lit := (l.take i).map fun c => .string c.f0.data.toList
def seen40 (l : List S40) (i : Int) : Bool := (keys40 l i.toNat).any fun y => y.sameKey (.string (rd_T40 l i).f0.data.toList)
theorem keys40_lit (l : List S40) (i : Nat) : ∀ y ∈ keys40 l i, WideAt.IsKeyLit y := by
 intro y hy
 obtain ⟨c, _, rfl⟩ := List.mem_map.1 hy
 trivial
theorem zero4 (w : World) : (zeroValue 4).run Try.prog w = .ok (.bool false) w := by kernel_rfl
theorem wrap40 {l : List S40} {x : Int} (h0 : 0 ≤ x) (h1 : x < (l.length : Int)) (h2 : l.length ≤ 32) : wrap64 (x + 1) = x + 1 := by unfold wrap64; omega
theorem nonneg40 {l : List S40} {x : Int} (h0 : 0 ≤ x) (h1 : x < (l.length : Int)) (h2 : l.length ≤ 32) : 0 ≤ wrap64 (x + 1) := by rw [wrap40 h0 h1 h2]; omega
theorem step40 {l : List S40} {x : Int} {w : World} {b : Nat} (h0 : 0 ≤ x) (h1 : x < (l.length : Int)) (h2 : l.length ≤ 32) (h : Mpb.OwnsSet Try.prog 9 4 w b (x.toNat + 1) (keys40 l x.toNat ++ [.string (rd_T40 l x).f0.data.toList])) :
  Mpb.OwnsSet Try.prog 9 4 w b (wrap64 (x + 1)).toNat (keys40 l (wrap64 (x + 1)).toNat) := by
 rw [wrap40 h0 h1 h2, show (x + 1).toNat = x.toNat + 1 by omega]
 have e : keys40 l (x.toNat + 1) = keys40 l x.toNat ++ [.string (rd_T40 l x).f0.data.toList] := by
  unfold keys40 rd_T40
  rw [List.take_add_one, List.getElem?_eq_getElem (by omega), List.map_append, List.getD_eq_getElem?_getD, List.getElem?_eq_getElem (by omega)]
  rfl
 rw [e]; exact h
/-! ### cask_List: function 43 -/
mutual
def cask_List.l0 : Nat → List (S40) → List (S40) → Int → Int → Option (Int)
 | 0, _, _, _, _ => none
 | k + 1, x0, x12, x13, x14 => if x14 < x13 then (if 0 ≤ x14 then (if x14 < (x12.length : Int) then ((cask_Check.f k ((rd_T40 x12 x14).f0) ((rd_T40 x12 x14).f1) ((rd_T40 x12 x14).f2) ((rd_T40 x12 x14).f3)).bind fun t124 => (if t124 = 0 then (cask_List.l0 k x0 x12 x13 (wrap64 (x14 + 1))) else (some t124))) else (none)) else (none)) else (cask_List.l1 k x0 (x0.length : Int) 0)
def cask_List.l1 : Nat → List (S40) → Int → Int → Option (Int)
 | 0, _, _, _ => none
 | k + 1, x25, x26, x27 => if x27 < x26 then (if 0 ≤ x27 then (if x27 < (x25.length : Int) then (if ((rd_T40 x25 x27).f0).size ≤ 1000 then (if seen40 x25 x27 = true then (some 6) else (cask_List.l1 k x25 x26 (wrap64 (x27 + 1)))) else (none)) else (none)) else (none)) else (some 0)
end
def cask_List.f (k : Nat) (l0 : List (S40)) : Option (Int) := if (l0.length : Int) > 32 then (some 8) else (cask_List.l0 k l0 l0 (l0.length : Int) 0)
theorem cask_List.mono_l : ∀ k, (∀ y0 y1 y2 y3, LeO (cask_List.l0 k y0 y1 y2 y3) (cask_List.l0 (k + 1) y0 y1 y2 y3)) ∧ (∀ y0 y1 y2, LeO (cask_List.l1 k y0 y1 y2) (cask_List.l1 (k + 1) y0 y1 y2))
 | 0 => ⟨fun _ _ _ _ r h => by simp [cask_List.l0] at h, fun _ _ _ r h => by simp [cask_List.l1] at h⟩
 | k + 1 => by
  obtain ⟨ih0, ih1⟩ := cask_List.mono_l k
  refine ⟨?_, ?_⟩
  ·intro y0 y1 y2 y3
   unfold cask_List.l0
   repeat' first
   | (with_reducible exact ih0 _ _ _ _)
   | (with_reducible exact ih1 _ _ _)
   | (with_reducible exact cask_Check.mono _ _ _ _ _)
   | (with_reducible exact LeO.refl _)
   | (with_reducible exact LeO.none _)
   | (with_reducible refine LeO.ite ?_ ?_)
   | (with_reducible refine LeO.bind ?_ (fun _ => ?_))
   | exact ih0 _ _ _ _
   | exact ih1 _ _ _
   | exact cask_Check.mono _ _ _ _ _
   | exact LeO.none _
   | refine LeO.ite ?_ ?_
   | refine LeO.bind ?_ (fun _ => ?_)
  ·intro y0 y1 y2
   unfold cask_List.l1
   repeat' first
   | (with_reducible exact ih0 _ _ _ _)
   | (with_reducible exact ih1 _ _ _)
   | (with_reducible exact cask_Check.mono _ _ _ _ _)
   | (with_reducible exact LeO.refl _)
   | (with_reducible exact LeO.none _)
   | (with_reducible refine LeO.ite ?_ ?_)
   | (with_reducible refine LeO.bind ?_ (fun _ => ?_))
   | exact ih0 _ _ _ _
   | exact ih1 _ _ _
   | exact cask_Check.mono _ _ _ _ _
   | exact LeO.none _
   | refine LeO.ite ?_ ?_
   | refine LeO.bind ?_ (fun _ => ?_)
theorem cask_List.mono : ∀ a0 k, LeO (cask_List.f k a0) (cask_List.f (k + 1) a0) := by
 intro a0 k
 obtain ⟨ih0, ih1⟩ := cask_List.mono_l k
 unfold cask_List.f
 repeat' first
   | (with_reducible exact ih0 _ _ _ _)
   | (with_reducible exact ih1 _ _ _)
   | (with_reducible exact cask_Check.mono _ _ _ _ _)
   | (with_reducible exact LeO.refl _)
   | (with_reducible exact LeO.none _)
   | (with_reducible refine LeO.ite ?_ ?_)
   | (with_reducible refine LeO.bind ?_ (fun _ => ?_))
   | exact ih0 _ _ _ _
   | exact ih1 _ _ _
   | exact cask_Check.mono _ _ _ _ _
   | exact LeO.none _
   | refine LeO.ite ?_ ?_
   | refine LeO.bind ?_ (fun _ => ?_)
set_option maxHeartbeats 8000000 in
set_option maxRecDepth 100000 in
theorem cask_List.calls (k : Nat) (A0 : Option Addr) (c0 : Nat) (l0 : List (S40)) (r : Int) (w : World) (hr0 : Kd.C k40 w A0 l0.length l0) (hc0 : l0.length ≤ c0) (h : cask_List.f k l0 = some r) :
  Calls Try.prog 43 #[.slice A0 l0.length c0] w fun e w' => e = .returned (.int .i64 r) ∧ Below w.heap.size w w' := by
 have hu40 := Try.underlying40
 have HR0 := Aside0.mk hr0
 have HC0 := Aside0.mk hc0
 clear hr0 hc0; have HB := Aside0.mk (Below.refl w.heap.size w)
 have H : (if (l0.length : Int) > 32 then (some 8) else (cask_List.l0 k l0 l0 (l0.length : Int) 0)) = some r := h
 clear h
 by_cases c2 : (l0.length : Int) > 32
 ·rw [if_pos c2] at H
  have c2b0 : decide (32 < (l0.length : Int)) = true := decide_eq_true c2
  have c2b1 : decide (32 < l0.length) = true := decide_eq_true (by omega)
  clear c2
  obtain rfl := Option.some.inj H
  go_enter Try.func43, Try.ntmps43
  go_wp2
  go_ret
  exact ⟨by first | rfl | (simp [errW_none, errW_some] <;> rfl) | (simp [*, errW_none, errW_some] <;> rfl), by repeat (first | (with_reducible first | exact HB.out | apply below_alloc | apply pw_below_drewN | apply below_drew1) | exact HB.out)⟩
 ·rw [if_neg c2] at H
  have c2b0 : decide (32 < (l0.length : Int)) = false := decide_eq_false c2
  have c2b1 : decide (32 < l0.length) = false := decide_eq_false (by omega)
  have HL32 := Aside0.mk (show l0.length ≤ 32 by omega); clear c2
  have H' := Aside0.mk H
  clear H
  go_enter Try.func43, Try.ntmps43
  go_wp2
  go_loopg [14] k (fun kq v14 w' => ∃ (x14_1 : Int), v14 = .int .i64 x14_1 ∧ Aside0 (cask_List.l0 kq l0 l0 (l0.length : Int) x14_1 = some r) ∧ Aside0 (kq ≤ k) ∧ Aside0 (Below w.heap.size w w'))
  case atStart => exact ⟨(0), (by first | rfl | (simp; done) | (simp [*]; done)), H', ⟨Nat.le_refl _⟩, ⟨by repeat (first | (with_reducible first | exact HB.out | apply below_alloc | apply pw_below_drewN | apply below_drew1) | exact HB.out)⟩⟩
  case round =>
   clear H'
   obtain ⟨x14_1, rfl, HA, HK1, HB⟩ := hrel
   cases gk with
   | zero => exact absurd HA.out (by simp [cask_List.l0])
   | succ k1 =>
    have H := HA.out; clear HA
    simp only [cask_List.l0] at H
    by_cases c3 : x14_1 < (l0.length : Int)
    ·rw [if_pos c3] at H
     have c3b0 : decide (x14_1 < (l0.length : Int)) = true := decide_eq_true c3
     clear c3
     by_cases c4 : 0 ≤ x14_1
     ·rw [if_pos c4] at H
      have c4b0 : decide (0 ≤ x14_1) = true := decide_eq_true c4
      clear c4
      by_cases c5 : x14_1 < (l0.length : Int)
      ·rw [if_pos c5] at H
       have c5b0 : decide (x14_1 < (l0.length : Int)) = true := decide_eq_true c5
       clear c5
       replace H := Option.bind_eq_some_iff.mp H
       obtain ⟨t124, A60, H⟩ := H
       replace H : (if t124 = 0 then (cask_List.l0 k1 l0 l0 (l0.length : Int) (wrap64 (x14_1 + 1))) else (some t124)) = some r := H
       have A6 := Aside0.mk A60
       clear A60
       by_cases c7 : t124 = 0
       ·rw [if_pos c7] at H
        have c7b0 : (t124 == 0) = true := beq_iff_eq.mpr c7
        have c7b1 : (t124 != 0) = false := bne_eq_false_iff_eq.mpr c7
        clear c7
        have H' := Aside0.mk H
        clear H
        have p122 : 0 ≤ (x14_1 : Int) := of_decide_eq_true (by first | (with_reducible assumption) | assumption)
        have q122 : x14_1 < (l0.length : Int) := of_decide_eq_true (by first | (with_reducible assumption) | assumption)
        obtain ⟨ad122, A122_2, c122_2, e122, hx122_0, hx122_1, hx122_2, hx122_3, hl122_2, hi122_2⟩ := at_T40 HR0.out x14_1 p122 q122
        cases e122
        replace hx122_0 := (HB.out.cell (World.block_lt_of_cell? w _ hx122_0)).trans hx122_0
        replace hx122_1 := (HB.out.cell (World.block_lt_of_cell? w _ hx122_1)).trans hx122_1
        replace hx122_2 := (HB.out.cell (World.block_lt_of_cell? w _ hx122_2)).trans hx122_2
        replace hx122_3 := (HB.out.cell (World.block_lt_of_cell? w _ hx122_3)).trans hx122_3
        have HR122_2 := Aside0.mk hi122_2
        have HC122_2 := Aside0.mk hl122_2
        clear hi122_2 hl122_2
        replace p122 := eq_true p122
        replace q122 := eq_true q122
        go_wp2_with (first | ((with_reducible refine gate_dst (N := 4) rfl ?_); refine box_event ?hg (N := 4) ?hd (cs := #[.string (⟨#[]⟩ : ByteArray), .int .i64 0, .slice none 0 0, .int .i64 0]) (t := 40) ?hr ?_; (case hd => rfl); (case hg => rfl); (case hr => first | (go_simp; done) | (go_simp; rfl)); intro gb123 hg w8 hbox hb; have n0_ := Aside0.mk (below_step (by repeat (first | (with_reducible first | exact HB.out | apply below_alloc | apply pw_below_drewN | apply below_drew1) | exact HB.out)) hb); have n1_ := Aside0.mk (hbox); have n2_ := Aside0.mk ((by rw [hg]; exact (below_size (by repeat (first | (with_reducible first | exact HB.out | apply below_alloc | apply pw_below_drewN | apply below_drew1) | exact HB.out))) : w.heap.size ≤ gb123)); have n3_ := Aside0.mk ((by rw [hg]; exact (below_size (by repeat (first | (with_reducible first | exact HB.out | apply below_alloc | apply pw_below_drewN | apply below_drew1) | exact HB.out))) : w.heap.size ≤ gb123)); clear HB; have HB := n0_; have BK123 := n1_; have GW123 := n2_; have GE123 := n3_; clear n0_ n1_ n2_ n3_; clear hb hbox hg; have hcz9_0 : w8.cell? ⟨gb123, 0, none⟩ = some (.string (⟨#[]⟩ : ByteArray)) := (blk_cell BK123.out 0).trans rfl; have hcz9_1 : w8.cell? ⟨gb123, 1, none⟩ = some (.int .i64 0) := (blk_cell BK123.out 1).trans rfl; have hcz9_2 : w8.cell? ⟨gb123, 2, none⟩ = some (.slice none 0 0) := (blk_cell BK123.out 2).trans rfl; have hcz9_3 : w8.cell? ⟨gb123, 3, none⟩ = some (.int .i64 0) := (blk_cell BK123.out 3).trans rfl; have hfz9_0 := blk_frozen BK123.out 0; have hfz9_1 := blk_frozen BK123.out 1; have hfz9_2 := blk_frozen BK123.out 2; have hfz9_3 := blk_frozen BK123.out 3) | ((with_reducible refine gate_callee (f := 37) rfl ?_); refine goesL_ (some 19) rfl rfl Try.func37 (by kernel_rfl) rfl #[.agg #[.string ((rd_T40 l0 x14_1).f0), .int .i64 ((rd_T40 l0 x14_1).f1), .slice A122_2 ((rd_T40 l0 x14_1).f2).length c122_2, .int .i64 ((rd_T40 l0 x14_1).f3)]] rfl (by (try simp only [List.map_toArray, List.map_cons, List.map_nil]); first | done | rfl | (simp only [List.length_drop, List.length_take]; rfl)) ?_; (with_reducible refine (cask_Check.calls k1 ((rd_T40 l0 x14_1).f0) ((rd_T40 l0 x14_1).f1) _ _ ((rd_T40 l0 x14_1).f2) ((rd_T40 l0 x14_1).f3) t124 _ ?side1 ?side2 A6.out).mono ?_); (case side1 => exact Kd.C_below HR122_2.out (by repeat (first | (with_reducible first | exact HB.out | apply below_alloc | apply pw_below_drewN | apply below_drew1 | refine below_set ?_ GE123.out) | exact HB.out))); (case side2 => exact HC122_2.out); rintro e w10 ⟨rfl, hb⟩; refine ⟨_, rfl, ?_⟩; have n0_ := Aside0.mk (blk_below (g := gb123) (o := .cells #[.string ((rd_T40 l0 x14_1).f0), .int .i64 ((rd_T40 l0 x14_1).f1), .slice A122_2 ((rd_T40 l0 x14_1).f2).length c122_2, .int .i64 ((rd_T40 l0 x14_1).f3)] 40 (0, 0)) (by (with_reducible repeat (first | refine blk_drewN ?_ _ | refine blk_drew ?_ | refine blk_alloc ?_ _)); refine blk_put (cs := #[.string ((rd_T40 l0 x14_1).f0), .int .i64 ((rd_T40 l0 x14_1).f1), .slice A122_2 ((rd_T40 l0 x14_1).f2).length c122_2, .int .i64 0]) ?_ 3 _ rfl; (with_reducible repeat (first | refine blk_drewN ?_ _ | refine blk_drew ?_ | refine blk_alloc ?_ _)); refine blk_put (cs := #[.string ((rd_T40 l0 x14_1).f0), .int .i64 ((rd_T40 l0 x14_1).f1), .slice none 0 0, .int .i64 0]) ?_ 2 _ rfl; (with_reducible repeat (first | refine blk_drewN ?_ _ | refine blk_drew ?_ | refine blk_alloc ?_ _)); refine blk_put (cs := #[.string ((rd_T40 l0 x14_1).f0), .int .i64 0, .slice none 0 0, .int .i64 0]) ?_ 1 _ rfl; (with_reducible repeat (first | refine blk_drewN ?_ _ | refine blk_drew ?_ | refine blk_alloc ?_ _)); refine blk_put (cs := #[.string (⟨#[]⟩ : ByteArray), .int .i64 0, .slice none 0 0, .int .i64 0]) ?_ 0 _ rfl; (with_reducible repeat (first | refine blk_drewN ?_ _ | refine blk_drew ?_ | refine blk_alloc ?_ _)); exact BK123.out) hb); have n1_ := Aside0.mk (below_step (by repeat (first | (with_reducible first | exact HB.out | apply below_alloc | apply pw_below_drewN | apply below_drew1 | refine below_set ?_ GE123.out) | exact HB.out)) hb); clear BK123; clear HB; have BK123 := n0_; have HB := n1_; clear n0_ n1_; (try clear hb); (try clear hb2); (try clear hk); (try clear hi)))
        go_roundg k1
        case measure => have := HK1.out; omega
        case rel => exact ⟨(wrap64 (x14_1 + 1)), (by first | rfl | (simp; done) | (simp [*]; done)), H', ⟨by have := HK1.out; omega⟩, ⟨by repeat (first | (with_reducible first | exact HB.out | apply below_alloc | apply pw_below_drewN | apply below_drew1 | refine below_set ?_ GE123.out) | exact HB.out)⟩⟩
       ·rw [if_neg c7] at H
        have c7b0 : (t124 == 0) = false := beq_eq_false_iff_ne.mpr c7
        have c7b1 : (t124 != 0) = true := bne_iff_ne.mpr c7
        obtain rfl := Option.some.inj H
        have p122 : 0 ≤ (x14_1 : Int) := of_decide_eq_true (by first | (with_reducible assumption) | assumption)
        have q122 : x14_1 < (l0.length : Int) := of_decide_eq_true (by first | (with_reducible assumption) | assumption)
        obtain ⟨ad122, A122_2, c122_2, e122, hx122_0, hx122_1, hx122_2, hx122_3, hl122_2, hi122_2⟩ := at_T40 HR0.out x14_1 p122 q122
        cases e122
        replace hx122_0 := (HB.out.cell (World.block_lt_of_cell? w _ hx122_0)).trans hx122_0
        replace hx122_1 := (HB.out.cell (World.block_lt_of_cell? w _ hx122_1)).trans hx122_1
        replace hx122_2 := (HB.out.cell (World.block_lt_of_cell? w _ hx122_2)).trans hx122_2
        replace hx122_3 := (HB.out.cell (World.block_lt_of_cell? w _ hx122_3)).trans hx122_3
        have HR122_2 := Aside0.mk hi122_2
        have HC122_2 := Aside0.mk hl122_2
        clear hi122_2 hl122_2
        replace p122 := eq_true p122
        replace q122 := eq_true q122
        go_wp2_with (first | ((with_reducible refine gate_dst (N := 4) rfl ?_); refine box_event ?hg (N := 4) ?hd (cs := #[.string (⟨#[]⟩ : ByteArray), .int .i64 0, .slice none 0 0, .int .i64 0]) (t := 40) ?hr ?_; (case hd => rfl); (case hg => rfl); (case hr => first | (go_simp; done) | (go_simp; rfl)); intro gb123 hg w11 hbox hb; have n0_ := Aside0.mk (below_step (by repeat (first | (with_reducible first | exact HB.out | apply below_alloc | apply pw_below_drewN | apply below_drew1) | exact HB.out)) hb); have n1_ := Aside0.mk (hbox); have n2_ := Aside0.mk ((by rw [hg]; exact (below_size (by repeat (first | (with_reducible first | exact HB.out | apply below_alloc | apply pw_below_drewN | apply below_drew1) | exact HB.out))) : w.heap.size ≤ gb123)); have n3_ := Aside0.mk ((by rw [hg]; exact (below_size (by repeat (first | (with_reducible first | exact HB.out | apply below_alloc | apply pw_below_drewN | apply below_drew1) | exact HB.out))) : w.heap.size ≤ gb123)); clear HB; have HB := n0_; have BK123 := n1_; have GW123 := n2_; have GE123 := n3_; clear n0_ n1_ n2_ n3_; clear hb hbox hg; have hcz12_0 : w11.cell? ⟨gb123, 0, none⟩ = some (.string (⟨#[]⟩ : ByteArray)) := (blk_cell BK123.out 0).trans rfl; have hcz12_1 : w11.cell? ⟨gb123, 1, none⟩ = some (.int .i64 0) := (blk_cell BK123.out 1).trans rfl; have hcz12_2 : w11.cell? ⟨gb123, 2, none⟩ = some (.slice none 0 0) := (blk_cell BK123.out 2).trans rfl; have hcz12_3 : w11.cell? ⟨gb123, 3, none⟩ = some (.int .i64 0) := (blk_cell BK123.out 3).trans rfl; have hfz12_0 := blk_frozen BK123.out 0; have hfz12_1 := blk_frozen BK123.out 1; have hfz12_2 := blk_frozen BK123.out 2; have hfz12_3 := blk_frozen BK123.out 3) | ((with_reducible refine gate_callee (f := 37) rfl ?_); refine goesL_ (some 19) rfl rfl Try.func37 (by kernel_rfl) rfl #[.agg #[.string ((rd_T40 l0 x14_1).f0), .int .i64 ((rd_T40 l0 x14_1).f1), .slice A122_2 ((rd_T40 l0 x14_1).f2).length c122_2, .int .i64 ((rd_T40 l0 x14_1).f3)]] rfl (by (try simp only [List.map_toArray, List.map_cons, List.map_nil]); first | done | rfl | (simp only [List.length_drop, List.length_take]; rfl)) ?_; (with_reducible refine (cask_Check.calls k1 ((rd_T40 l0 x14_1).f0) ((rd_T40 l0 x14_1).f1) _ _ ((rd_T40 l0 x14_1).f2) ((rd_T40 l0 x14_1).f3) t124 _ ?side1 ?side2 A6.out).mono ?_); (case side1 => exact Kd.C_below HR122_2.out (by repeat (first | (with_reducible first | exact HB.out | apply below_alloc | apply pw_below_drewN | apply below_drew1 | refine below_set ?_ GE123.out) | exact HB.out))); (case side2 => exact HC122_2.out); rintro e w13 ⟨rfl, hb⟩; refine ⟨_, rfl, ?_⟩; have n0_ := Aside0.mk (blk_below (g := gb123) (o := .cells #[.string ((rd_T40 l0 x14_1).f0), .int .i64 ((rd_T40 l0 x14_1).f1), .slice A122_2 ((rd_T40 l0 x14_1).f2).length c122_2, .int .i64 ((rd_T40 l0 x14_1).f3)] 40 (0, 0)) (by (with_reducible repeat (first | refine blk_drewN ?_ _ | refine blk_drew ?_ | refine blk_alloc ?_ _)); refine blk_put (cs := #[.string ((rd_T40 l0 x14_1).f0), .int .i64 ((rd_T40 l0 x14_1).f1), .slice A122_2 ((rd_T40 l0 x14_1).f2).length c122_2, .int .i64 0]) ?_ 3 _ rfl; (with_reducible repeat (first | refine blk_drewN ?_ _ | refine blk_drew ?_ | refine blk_alloc ?_ _)); refine blk_put (cs := #[.string ((rd_T40 l0 x14_1).f0), .int .i64 ((rd_T40 l0 x14_1).f1), .slice none 0 0, .int .i64 0]) ?_ 2 _ rfl; (with_reducible repeat (first | refine blk_drewN ?_ _ | refine blk_drew ?_ | refine blk_alloc ?_ _)); refine blk_put (cs := #[.string ((rd_T40 l0 x14_1).f0), .int .i64 0, .slice none 0 0, .int .i64 0]) ?_ 1 _ rfl; (with_reducible repeat (first | refine blk_drewN ?_ _ | refine blk_drew ?_ | refine blk_alloc ?_ _)); refine blk_put (cs := #[.string (⟨#[]⟩ : ByteArray), .int .i64 0, .slice none 0 0, .int .i64 0]) ?_ 0 _ rfl; (with_reducible repeat (first | refine blk_drewN ?_ _ | refine blk_drew ?_ | refine blk_alloc ?_ _)); exact BK123.out) hb); have n1_ := Aside0.mk (below_step (by repeat (first | (with_reducible first | exact HB.out | apply below_alloc | apply pw_below_drewN | apply below_drew1 | refine below_set ?_ GE123.out) | exact HB.out)) hb); clear BK123; clear HB; have BK123 := n0_; have HB := n1_; clear n0_ n1_; (try clear hb); (try clear hb2); (try clear hk); (try clear hi)))
        go_ret
        exact ⟨by first | rfl | (simp [errW_none, errW_some] <;> rfl) | (simp [*, errW_none, errW_some] <;> rfl), by repeat (first | (with_reducible first | exact HB.out | apply below_alloc | apply pw_below_drewN | apply below_drew1 | refine below_set ?_ GE123.out) | exact HB.out)⟩
      ·rw [if_neg c5] at H
       exact absurd H (by simp)
     ·rw [if_neg c4] at H
      exact absurd H (by simp)
    ·rw [if_neg c3] at H
     have c3b0 : decide (x14_1 < (l0.length : Int)) = false := decide_eq_false c3
     clear c3
     have H' := Aside0.mk H
     clear H
     have hmm := @run_makeMap Try.prog
     go_wp2
     clear hmm
     have HM0 := Mpb.OwnsSet.made wr Try.prog 9 4
     have HG0 := HB.out.size
     obtain ⟨gbM, hgM⟩ : ∃ g, wr.heap.size = g := ⟨_, rfl⟩
     rw [hgM] at HM0 HG0
     have HM := Aside0.mk HM0
     have GBM := Aside0.mk HG0
     clear HM0 HG0
     simp only [hgM]
     go_loopg [27] k1 (fun kq v27 w' => ∃ (x27_2 : Int), v27 = .int .i64 x27_2 ∧ Aside0 (cask_List.l1 kq l0 (l0.length : Int) x27_2 = some r) ∧ Aside0 (kq ≤ k1) ∧ Aside0 (0 ≤ x27_2) ∧ Aside0 (Mpb.OwnsSet Try.prog 9 4 w' gbM x27_2.toNat (keys40 l0 x27_2.toNat)) ∧ Aside0 (Below w.heap.size w w'))
     case atStart => exact ⟨(0), (by first | rfl | (simp; done) | (simp [*]; done)), H', ⟨Nat.le_refl _⟩, ⟨Int.le_refl _⟩, HM, ⟨by repeat (first | (with_reducible first | exact HB.out | apply below_alloc | apply pw_below_drewN | apply below_drew1) | exact HB.out)⟩⟩
     case round =>
      clear H' HM hgM
      obtain ⟨x27_2, rfl, HA, HK2, HX0, HM, HB⟩ := hrel
      cases gk with
      | zero => exact absurd HA.out (by simp [cask_List.l1])
      | succ k2 =>
       have H := HA.out; clear HA
       simp only [cask_List.l1] at H
       by_cases c14 : x27_2 < (l0.length : Int)
       ·rw [if_pos c14] at H
        have c14b0 : decide (x27_2 < (l0.length : Int)) = true := decide_eq_true c14
        clear c14
        by_cases c15 : 0 ≤ x27_2
        ·rw [if_pos c15] at H
         have c15b0 : decide (0 ≤ x27_2) = true := decide_eq_true c15
         clear c15
         by_cases c16 : x27_2 < (l0.length : Int)
         ·rw [if_pos c16] at H
          have c16b0 : decide (x27_2 < (l0.length : Int)) = true := decide_eq_true c16
          clear c16
          have csz : ((rd_T40 l0 x27_2).f0).size ≤ 1000 := by
           by_cases csz : ((rd_T40 l0 x27_2).f0).size ≤ 1000
           ·exact csz
           ·rw [if_neg csz] at H
            exact absurd H (by simp)
          rw [if_pos csz] at H
          have CSZ := Aside0.mk csz
          clear csz
          by_cases c17 : seen40 l0 x27_2 = true
          ·rw [if_pos c17] at H
           have c17u : ((keys40 l0 x27_2.toNat).any fun y => y.sameKey (.string (rd_T40 l0 x27_2).f0.data.toList)) = true := c17
           have C17U := Aside0.mk c17u
           clear c17 c17u
           obtain rfl := Option.some.inj H
           have p125 : 0 ≤ (x27_2 : Int) := of_decide_eq_true (by first | (with_reducible assumption) | assumption)
           have q125 : x27_2 < (l0.length : Int) := of_decide_eq_true (by first | (with_reducible assumption) | assumption)
           obtain ⟨ad125, A125_2, c125_2, e125, hx125_0, hx125_1, hx125_2, hx125_3, hl125_2, hi125_2⟩ := at_T40 HR0.out x27_2 p125 q125
           cases e125
           replace hx125_0 := (HB.out.cell (World.block_lt_of_cell? w _ hx125_0)).trans hx125_0
           replace hx125_1 := (HB.out.cell (World.block_lt_of_cell? w _ hx125_1)).trans hx125_1
           replace hx125_2 := (HB.out.cell (World.block_lt_of_cell? w _ hx125_2)).trans hx125_2
           replace hx125_3 := (HB.out.cell (World.block_lt_of_cell? w _ hx125_3)).trans hx125_3
           have HR125_2 := Aside0.mk hi125_2
           have HC125_2 := Aside0.mk hl125_2
           clear hi125_2 hl125_2
           replace p125 := eq_true p125
           replace q125 := eq_true q125
           go_wp2_with (first | ((with_reducible refine gate_dst (N := 8) rfl ?_); refine box_event ?hg (N := 8) ?hd (cs := #[.string (⟨#[]⟩ : ByteArray), .int .i64 0, .slice none 0 0, .int .i64 0]) (t := 40) ?hr ?_; (case hd => rfl); (case hg => rfl); (case hr => first | (go_simp; done) | (go_simp; rfl)); intro gb126 hg w18 hbox hb; have NBM := Aside0.mk (show gbM ≠ gb126 by rw [hg]; exact Nat.ne_of_lt HM.out.lt); have nm_ := Aside0.mk (Mpb.OwnsSet.below HM.out hb); clear HM; have HM := nm_; clear nm_; have n0_ := Aside0.mk (below_step (by repeat (first | (with_reducible first | exact HB.out | apply below_alloc | apply pw_below_drewN | apply below_drew1) | exact HB.out)) hb); have n1_ := Aside0.mk (hbox); have n2_ := Aside0.mk ((by rw [hg]; exact (below_size (by repeat (first | (with_reducible first | exact HB.out | apply below_alloc | apply pw_below_drewN | apply below_drew1) | exact HB.out))) : w.heap.size ≤ gb126)); have n3_ := Aside0.mk ((by rw [hg]; exact (below_size (by repeat (first | (with_reducible first | exact HB.out | apply below_alloc | apply pw_below_drewN | apply below_drew1) | exact HB.out))) : w.heap.size ≤ gb126)); clear HB; have HB := n0_; have BK126 := n1_; have GW126 := n2_; have GE126 := n3_; clear n0_ n1_ n2_ n3_; clear hb hbox hg; have hcz19_0 : w18.cell? ⟨gb126, 0, none⟩ = some (.string (⟨#[]⟩ : ByteArray)) := (blk_cell BK126.out 0).trans rfl; have hcz19_1 : w18.cell? ⟨gb126, 1, none⟩ = some (.int .i64 0) := (blk_cell BK126.out 1).trans rfl; have hcz19_2 : w18.cell? ⟨gb126, 2, none⟩ = some (.slice none 0 0) := (blk_cell BK126.out 2).trans rfl; have hcz19_3 : w18.cell? ⟨gb126, 3, none⟩ = some (.int .i64 0) := (blk_cell BK126.out 3).trans rfl; have hfz19_0 := blk_frozen BK126.out 0; have hfz19_1 := blk_frozen BK126.out 1; have hfz19_2 := blk_frozen BK126.out 2; have hfz19_3 := blk_frozen BK126.out 3) | (at_lookup; refine Mpb.look_set (k := 9) (e := 4) (b := gbM) (n := x27_2.toNat) (acc := keys40 l0 x27_2.toNat) rfl _ _ rfl (Go.Maps.string_keyed Try.underlying9) Try.underlying69 Try.underlying4 (zero4 _) rfl ?hown ?hk _ (.string (rd_T40 l0 x27_2).f0.data.toList) rfl ?hkey ?_; (case hown => repeat (first | exact HM.out | refine Mpb.OwnsSet.setCell ?_ NBM.out _ | refine Mpb.OwnsSet.drew ?_)); (case hk => exact keys40_lit _ _); (case hkey => exact Go.WideMaps.keyOf_string_mk Try.underlying9 (by have := CSZ.out; unfold maxLen; omega)); rw [C17U.out]) | (at_mapUpdate; refine Mpb.store_set (k := 9) (e := 4) (b := gbM) (n := x27_2.toNat) (acc := keys40 l0 x27_2.toNat) rfl _ _ _ rfl (Go.Maps.string_keyed Try.underlying9) Try.underlying69 Try.underlying4 rfl ?hown ?hn _ (.string (rd_T40 l0 x27_2).f0.data.toList) rfl rfl ?hkey ?_; (case hown => repeat (first | exact HM.out | refine Mpb.OwnsSet.setCell ?_ NBM.out _ | refine Mpb.OwnsSet.drew ?_)); (case hn => have := HL32.out; have := of_decide_eq_true c14b0; unfold maxLen; omega); (case hkey => exact Go.WideMaps.keyOf_string_mk Try.underlying9 (by have := CSZ.out; unfold maxLen; omega)); intro w1 hm1 hg1; have n0_ := Aside0.mk (Below.grown (by repeat (first | (with_reducible first | exact HB.out | apply below_alloc | apply pw_below_drewN | apply below_drew1 | refine below_set ?_ GE126.out) | exact HB.out)) hg1 (below_size (by repeat (first | (with_reducible first | exact HB.out | apply below_alloc | apply pw_below_drewN | apply below_drew1 | refine below_set ?_ GE126.out) | exact HB.out))) (fun j hj => by cases hj; exact GBM.out)); clear HB HM; have HB := n0_; have HM := Aside0.mk hm1; clear n0_ hm1 hg1))
           go_ret
           exact ⟨by first | rfl | (simp [errW_none, errW_some] <;> rfl) | (simp [*, errW_none, errW_some] <;> rfl), by repeat (first | (with_reducible first | exact HB.out | apply below_alloc | apply pw_below_drewN | apply below_drew1 | refine below_set ?_ GE126.out) | exact HB.out)⟩
          ·rw [if_neg c17] at H
           have c17u : ((keys40 l0 x27_2.toNat).any fun y => y.sameKey (.string (rd_T40 l0 x27_2).f0.data.toList)) = false := Bool.eq_false_iff.mpr c17
           have C17U := Aside0.mk c17u
           clear c17 c17u
           have H' := Aside0.mk H
           clear H
           have p125 : 0 ≤ (x27_2 : Int) := of_decide_eq_true (by first | (with_reducible assumption) | assumption)
           have q125 : x27_2 < (l0.length : Int) := of_decide_eq_true (by first | (with_reducible assumption) | assumption)
           obtain ⟨ad125, A125_2, c125_2, e125, hx125_0, hx125_1, hx125_2, hx125_3, hl125_2, hi125_2⟩ := at_T40 HR0.out x27_2 p125 q125
           cases e125
           replace hx125_0 := (HB.out.cell (World.block_lt_of_cell? w _ hx125_0)).trans hx125_0
           replace hx125_1 := (HB.out.cell (World.block_lt_of_cell? w _ hx125_1)).trans hx125_1
           replace hx125_2 := (HB.out.cell (World.block_lt_of_cell? w _ hx125_2)).trans hx125_2
           replace hx125_3 := (HB.out.cell (World.block_lt_of_cell? w _ hx125_3)).trans hx125_3
           have HR125_2 := Aside0.mk hi125_2
           have HC125_2 := Aside0.mk hl125_2
           clear hi125_2 hl125_2
           replace p125 := eq_true p125
           replace q125 := eq_true q125
           go_wp2_with (first | ((with_reducible refine gate_dst (N := 8) rfl ?_); refine box_event ?hg (N := 8) ?hd (cs := #[.string (⟨#[]⟩ : ByteArray), .int .i64 0, .slice none 0 0, .int .i64 0]) (t := 40) ?hr ?_; (case hd => rfl); (case hg => rfl); (case hr => first | (go_simp; done) | (go_simp; rfl)); intro gb126 hg w20 hbox hb; have NBM := Aside0.mk (show gbM ≠ gb126 by rw [hg]; exact Nat.ne_of_lt HM.out.lt); have nm_ := Aside0.mk (Mpb.OwnsSet.below HM.out hb); clear HM; have HM := nm_; clear nm_; have n0_ := Aside0.mk (below_step (by repeat (first | (with_reducible first | exact HB.out | apply below_alloc | apply pw_below_drewN | apply below_drew1) | exact HB.out)) hb); have n1_ := Aside0.mk (hbox); have n2_ := Aside0.mk ((by rw [hg]; exact (below_size (by repeat (first | (with_reducible first | exact HB.out | apply below_alloc | apply pw_below_drewN | apply below_drew1) | exact HB.out))) : w.heap.size ≤ gb126)); have n3_ := Aside0.mk ((by rw [hg]; exact (below_size (by repeat (first | (with_reducible first | exact HB.out | apply below_alloc | apply pw_below_drewN | apply below_drew1) | exact HB.out))) : w.heap.size ≤ gb126)); clear HB; have HB := n0_; have BK126 := n1_; have GW126 := n2_; have GE126 := n3_; clear n0_ n1_ n2_ n3_; clear hb hbox hg; have hcz21_0 : w20.cell? ⟨gb126, 0, none⟩ = some (.string (⟨#[]⟩ : ByteArray)) := (blk_cell BK126.out 0).trans rfl; have hcz21_1 : w20.cell? ⟨gb126, 1, none⟩ = some (.int .i64 0) := (blk_cell BK126.out 1).trans rfl; have hcz21_2 : w20.cell? ⟨gb126, 2, none⟩ = some (.slice none 0 0) := (blk_cell BK126.out 2).trans rfl; have hcz21_3 : w20.cell? ⟨gb126, 3, none⟩ = some (.int .i64 0) := (blk_cell BK126.out 3).trans rfl; have hfz21_0 := blk_frozen BK126.out 0; have hfz21_1 := blk_frozen BK126.out 1; have hfz21_2 := blk_frozen BK126.out 2; have hfz21_3 := blk_frozen BK126.out 3) | (at_lookup; refine Mpb.look_set (k := 9) (e := 4) (b := gbM) (n := x27_2.toNat) (acc := keys40 l0 x27_2.toNat) rfl _ _ rfl (Go.Maps.string_keyed Try.underlying9) Try.underlying69 Try.underlying4 (zero4 _) rfl ?hown ?hk _ (.string (rd_T40 l0 x27_2).f0.data.toList) rfl ?hkey ?_; (case hown => repeat (first | exact HM.out | refine Mpb.OwnsSet.setCell ?_ NBM.out _ | refine Mpb.OwnsSet.drew ?_)); (case hk => exact keys40_lit _ _); (case hkey => exact Go.WideMaps.keyOf_string_mk Try.underlying9 (by have := CSZ.out; unfold maxLen; omega)); rw [C17U.out]) | (at_mapUpdate; refine Mpb.store_set (k := 9) (e := 4) (b := gbM) (n := x27_2.toNat) (acc := keys40 l0 x27_2.toNat) rfl _ _ _ rfl (Go.Maps.string_keyed Try.underlying9) Try.underlying69 Try.underlying4 rfl ?hown ?hn _ (.string (rd_T40 l0 x27_2).f0.data.toList) rfl rfl ?hkey ?_; (case hown => repeat (first | exact HM.out | refine Mpb.OwnsSet.setCell ?_ NBM.out _ | refine Mpb.OwnsSet.drew ?_)); (case hn => have := HL32.out; have := of_decide_eq_true c14b0; unfold maxLen; omega); (case hkey => exact Go.WideMaps.keyOf_string_mk Try.underlying9 (by have := CSZ.out; unfold maxLen; omega)); intro w1 hm1 hg1; have n0_ := Aside0.mk (Below.grown (by repeat (first | (with_reducible first | exact HB.out | apply below_alloc | apply pw_below_drewN | apply below_drew1 | refine below_set ?_ GE126.out) | exact HB.out)) hg1 (below_size (by repeat (first | (with_reducible first | exact HB.out | apply below_alloc | apply pw_below_drewN | apply below_drew1 | refine below_set ?_ GE126.out) | exact HB.out))) (fun j hj => by cases hj; exact GBM.out)); clear HB HM; have HB := n0_; have HM := Aside0.mk hm1; clear n0_ hm1 hg1))
           go_roundg k2
           case measure => have := HK1.out; have := HK2.out; omega
           case rel => exact ⟨(wrap64 (x27_2 + 1)), (by first | rfl | (simp; done) | (simp [*]; done)), H', ⟨by have := HK1.out; have := HK2.out; omega⟩, ⟨nonneg40 HX0.out (of_decide_eq_true c14b0) HL32.out⟩, ⟨step40 HX0.out (of_decide_eq_true c14b0) HL32.out HM.out⟩, ⟨by repeat (first | (with_reducible first | exact HB.out | apply below_alloc | apply pw_below_drewN | apply below_drew1 | refine below_set ?_ GE126.out) | exact HB.out)⟩⟩
         ·rw [if_neg c16] at H
          exact absurd H (by simp)
        ·rw [if_neg c15] at H
         exact absurd H (by simp)
       ·rw [if_neg c14] at H
        have c14b0 : decide (x27_2 < (l0.length : Int)) = false := decide_eq_false c14
        clear c14
        obtain rfl := Option.some.inj H
        go_wp2
        go_ret
        exact ⟨by first | rfl | (simp [errW_none, errW_some] <;> rfl) | (simp [*, errW_none, errW_some] <;> rfl), by repeat (first | (with_reducible first | exact HB.out | apply below_alloc | apply pw_below_drewN | apply below_drew1) | exact HB.out)⟩
end Go.Proofs.Ytcbmmhedefigeaa.X
