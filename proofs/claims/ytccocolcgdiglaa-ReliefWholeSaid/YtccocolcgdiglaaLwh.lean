-- Written by a program of this work, over the kit's print of the translation. Not trusted: Lean checks it.
import Derived.Test.YtccocolcgdiglaaXx0
import Derived.Test.YtccocolcgdiglaaXx3
import Derived.Test.YtccocolcgdiglaaAwk
import Derived.Test.YtccocolcgdiglaaChr
import Derived.Test.YtccocolcgdiglaaCli
import Derived.Test.YtccocolcgdiglaaClr
import Derived.Test.YtccocolcgdiglaaGrl
import Derived.Test.YtccocolcgdiglaaItm
namespace Go.Proofs.Ytccocolcgdiglaa.X
open Go.RowKit Go.Proofs.YtccocolcgdiglaaW.PrintWords Go.Proofs.YtccocolcgdiglaaW.PrintLast Go.Proofs.YtccocolcgdiglaaW.PrintMore
attribute [local go_sem] max2_int min2_int max_two min_two max_three min_three max_four min_four   -- for this text's walks alone
set_option linter.unusedVariables false
set_option linter.unusedSimpArgs false
/-! ### spilelaw47_ReliefWhole: function 9 -/
mutual
def spilelaw47_ReliefWhole.j0 : Nat → List (S33) → List (S25) → Int → Bool → Option (Bool)
 | 0, _, _, _, _ => none
 | k + 1, x0, x1, x2, x32 => if x32 = true then ((spilelaw47_awake.f k).bind fun t361 => (some t361)) else ((api_Relief_13.f x0).bind fun t362 => (if 1 ≤ (x1.length : Int) then ((api_Item_14.f (x1.take 1)).bind fun t369 => (if (t362.length : Int) = 0 then (none) else (if 0 ≤ (Int.tmod (wrap64 (x2)) (t362.length : Int)) then (if (Int.tmod (wrap64 (x2)) (t362.length : Int)) < (t362.length : Int) then ((some (t362.set ((Int.tmod (wrap64 (x2)) (t362.length : Int)) : Int).toNat (⟨(rd_T33 t362 (Int.tmod (wrap64 (x2)) (t362.length : Int))).f0, (rd_T33 t362 (Int.tmod (wrap64 (x2)) (t362.length : Int))).f1, (rd_T33 t362 (Int.tmod (wrap64 (x2)) (t362.length : Int))).f2, (rd_T33 t362 (Int.tmod (wrap64 (x2)) (t362.length : Int))).f3, (rd_T33 t362 (Int.tmod (wrap64 (x2)) (t362.length : Int))).f4, 10000, (rd_T33 t362 (Int.tmod (wrap64 (x2)) (t362.length : Int))).f6⟩ : S33) : List (S33))).bind fun y372 => ((some (y372.set ((Int.tmod (wrap64 (x2)) (t362.length : Int)) : Int).toNat (⟨(rd_T33 y372 (Int.tmod (wrap64 (x2)) (t362.length : Int))).f0, (rd_T33 y372 (Int.tmod (wrap64 (x2)) (t362.length : Int))).f1, (rd_T33 y372 (Int.tmod (wrap64 (x2)) (t362.length : Int))).f2, (rd_T33 y372 (Int.tmod (wrap64 (x2)) (t362.length : Int))).f3, (rd_T33 y372 (Int.tmod (wrap64 (x2)) (t362.length : Int))).f4, (rd_T33 y372 (Int.tmod (wrap64 (x2)) (t362.length : Int))).f5, 0⟩ : S33) : List (S33))).bind fun y373 => (if 0 < (t369.length : Int) then ((some (t369.set (0 : Int).toNat (⟨(rd_T25 t369 0).f0, (rd_T25 t369 0).f1, (rd_T25 t369 0).f2, (rd_T25 t369 0).f3, (rd_T33 y373 (Int.tmod (wrap64 (x2)) (t362.length : Int))).f0⟩ : S25) : List (S25))).bind fun y375 => ((api_Relief_13.f y373).bind fun t376 => ((relief_Check.f k t376).bind fun bt379 => ((api_Item_14.f y375).bind fun t381 => ((relief_Items.f k t381).bind fun bt384 => ((api_Relief_13.f y373).bind fun t386 => ((api_Item_14.f y375).bind fun t389 => ((relief_Grant.f k t386 t389).bind fun bt392 => (if bt379.2 = 0 then (spilelaw47_ReliefWhole.j1 k y373 y375 (Int.tmod (wrap64 (x2)) (t362.length : Int)) bt392.1 bt392.2.1 bt392.2.2 (bt384.2 != 0)) else (spilelaw47_ReliefWhole.j1 k y373 y375 (Int.tmod (wrap64 (x2)) (t362.length : Int)) bt392.1 bt392.2.1 bt392.2.2 true)))))))))) else (none)))) else (none)) else (none)))) else (none)))
def spilelaw47_ReliefWhole.j1 : Nat → List (S33) → List (S25) → Int → List Int → Int → Int → Bool → Option (Bool)
 | 0, _, _, _, _, _, _, _ => none
 | k + 1, x0, x1, x7, x12, x13, x14, x86 => if x86 = true then (if x14 = 1 then (if x13 = (-1) then (some ((x12.length : Int) == 0)) else (some false)) else (some false)) else (if 0 ≤ x7 then (if x7 < (x0.length : Int) then (if 0 < (x1.length : Int) then ((relief_Applies.f ((rd_T33 x0 x7).f0) ((rd_T33 x0 x7).f1) ((rd_T33 x0 x7).f2) ((rd_T33 x0 x7).f3) ((rd_T33 x0 x7).f4) ((rd_T33 x0 x7).f5) ((rd_T33 x0 x7).f6) ((rd_T25 x1 0).f0) ((rd_T25 x1 0).f1) ((rd_T25 x1 0).f2) ((rd_T25 x1 0).f3) ((rd_T25 x1 0).f4)).bind fun t399 => (if t399 = true then (if x14 = 0 then (if (x12.length : Int) = 1 then (if 0 < (x12.length : Int) then (some ((rd x12 0) == ((rd_T25 x1 0).f3))) else (none)) else (some false)) else (some false)) else (if x14 = 19 then (some (x13 == 0)) else (some false)))) else (none)) else (none)) else (none))
end
def spilelaw47_ReliefWhole.f (k : Nat) (l0 : List (S33)) (l1 : List (S25)) (a2 : Int) : Option (Bool) := (spilelaw47_awake.f k).bind fun t359 => (if t359 = true then ((spileref47_Few.f k l0 l1).bind fun t360 => (if t360 = true then (if (l0.length : Int) = 0 then (spilelaw47_ReliefWhole.j0 k l0 l1 a2 true) else (spilelaw47_ReliefWhole.j0 k l0 l1 a2 ((l1.length : Int) == 0))) else (spilelaw47_ReliefWhole.j0 k l0 l1 a2 true))) else (spilelaw47_ReliefWhole.j0 k l0 l1 a2 true))
theorem spilelaw47_ReliefWhole.mono_l : ∀ k, (∀ y0 y1 y2 y3, LeO (spilelaw47_ReliefWhole.j0 k y0 y1 y2 y3) (spilelaw47_ReliefWhole.j0 (k + 1) y0 y1 y2 y3)) ∧ (∀ y0 y1 y2 y3 y4 y5 y6, LeO (spilelaw47_ReliefWhole.j1 k y0 y1 y2 y3 y4 y5 y6) (spilelaw47_ReliefWhole.j1 (k + 1) y0 y1 y2 y3 y4 y5 y6))
 | 0 => ⟨fun _ _ _ _ r h => by simp [spilelaw47_ReliefWhole.j0] at h, fun _ _ _ _ _ _ _ r h => by simp [spilelaw47_ReliefWhole.j1] at h⟩
 | k + 1 => by
  obtain ⟨ih0, ih1⟩ := spilelaw47_ReliefWhole.mono_l k
  refine ⟨?_, ?_⟩
  ·intro y0 y1 y2 y3
   unfold spilelaw47_ReliefWhole.j0
   repeat' first
   | (with_reducible exact ih0 _ _ _ _)
   | (with_reducible exact ih1 _ _ _ _ _ _ _)
   | (with_reducible exact relief_Check.mono _ _)
   | (with_reducible exact relief_Grant.mono _ _ _)
   | (with_reducible exact relief_Items.mono _ _)
   | (with_reducible exact spilelaw47_awake.mono _)
   | (with_reducible exact spileref47_Few.mono _ _ _)
   | (with_reducible exact LeO.refl _)
   | (with_reducible exact LeO.none _)
   | (with_reducible refine LeO.ite ?_ ?_)
   | (with_reducible refine LeO.bind ?_ (fun _ => ?_))
   | exact ih0 _ _ _ _
   | exact ih1 _ _ _ _ _ _ _
   | exact relief_Check.mono _ _
   | exact relief_Grant.mono _ _ _
   | exact relief_Items.mono _ _
   | exact spilelaw47_awake.mono _
   | exact spileref47_Few.mono _ _ _
   | exact LeO.none _
   | refine LeO.ite ?_ ?_
   | refine LeO.bind ?_ (fun _ => ?_)
  ·intro y0 y1 y2 y3 y4 y5 y6
   unfold spilelaw47_ReliefWhole.j1
   repeat' first
   | (with_reducible exact ih0 _ _ _ _)
   | (with_reducible exact ih1 _ _ _ _ _ _ _)
   | (with_reducible exact relief_Check.mono _ _)
   | (with_reducible exact relief_Grant.mono _ _ _)
   | (with_reducible exact relief_Items.mono _ _)
   | (with_reducible exact spilelaw47_awake.mono _)
   | (with_reducible exact spileref47_Few.mono _ _ _)
   | (with_reducible exact LeO.refl _)
   | (with_reducible exact LeO.none _)
   | (with_reducible refine LeO.ite ?_ ?_)
   | (with_reducible refine LeO.bind ?_ (fun _ => ?_))
   | exact ih0 _ _ _ _
   | exact ih1 _ _ _ _ _ _ _
   | exact relief_Check.mono _ _
   | exact relief_Grant.mono _ _ _
   | exact relief_Items.mono _ _
   | exact spilelaw47_awake.mono _
   | exact spileref47_Few.mono _ _ _
   | exact LeO.none _
   | refine LeO.ite ?_ ?_
   | refine LeO.bind ?_ (fun _ => ?_)
theorem spilelaw47_ReliefWhole.mono : ∀ a0 a1 a2 k, LeO (spilelaw47_ReliefWhole.f k a0 a1 a2) (spilelaw47_ReliefWhole.f (k + 1) a0 a1 a2) := by
 intro a0 a1 a2 k
 obtain ⟨ih0, ih1⟩ := spilelaw47_ReliefWhole.mono_l k
 unfold spilelaw47_ReliefWhole.f
 repeat' first
   | (with_reducible exact ih0 _ _ _ _)
   | (with_reducible exact ih1 _ _ _ _ _ _ _)
   | (with_reducible exact relief_Check.mono _ _)
   | (with_reducible exact relief_Grant.mono _ _ _)
   | (with_reducible exact relief_Items.mono _ _)
   | (with_reducible exact spilelaw47_awake.mono _)
   | (with_reducible exact spileref47_Few.mono _ _ _)
   | (with_reducible exact LeO.refl _)
   | (with_reducible exact LeO.none _)
   | (with_reducible refine LeO.ite ?_ ?_)
   | (with_reducible refine LeO.bind ?_ (fun _ => ?_))
   | exact ih0 _ _ _ _
   | exact ih1 _ _ _ _ _ _ _
   | exact relief_Check.mono _ _
   | exact relief_Grant.mono _ _ _
   | exact relief_Items.mono _ _
   | exact spilelaw47_awake.mono _
   | exact spileref47_Few.mono _ _ _
   | exact LeO.none _
   | refine LeO.ite ?_ ?_
   | refine LeO.bind ?_ (fun _ => ?_)
def spilelaw47_ReliefWhole.T12 : Bool × List (List Nat × List Nat) := (true, [([], []), ([], []), ([0, 1], [0, 1]), ([2], [2]), ([], []), ([4], [4]), ([5], [5]), ([3, 6], [3, 6]), ([7], [7])])
def spilelaw47_ReliefWhole.B12 : List Nat := [0, 0, 3, 7, 0, 16, 48, 127, 255]
theorem spilelaw47_ReliefWhole.tab12 : rtab .any (opsOf Try.f9 12) = spilelaw47_ReliefWhole.T12 := by kernel_rfl
theorem spilelaw47_ReliefWhole.bits12 : waitsOk spilelaw47_ReliefWhole.T12.2 spilelaw47_ReliefWhole.B12 = true := by kernel_rfl
def spilelaw47_ReliefWhole.T14 : Bool × List (List Nat × List Nat) := (true, [([], []), ([0], [0]), ([1], [1]), ([2], [2]), ([3, 2], [2, 3]), ([4, 2], [2, 4]), ([2, 5], [2, 5]), ([6, 2], [6]), ([7], [7]), ([8, 7], [7, 8]), ([9, 7], [7, 9]), ([7], [7]), ([11, 7], [7, 11]), ([12, 7], [7, 12]), ([13, 7], [7, 13]), ([10, 14, 7], [7, 10, 14]), ([7, 15], [7, 15]), ([16, 7, 0, 1, 2, 3, 4, 5, 6, 7, 8, 9, 10, 11, 12, 13, 14, 15, 16], [16])])
def spilelaw47_ReliefWhole.B14 : List Nat := [0, 1, 3, 7, 15, 31, 63, 127, 255, 511, 1023, 255, 2303, 6399, 14591, 32767, 65535, 131071]
theorem spilelaw47_ReliefWhole.tab14 : rtab .any (opsOf Try.f9 14) = spilelaw47_ReliefWhole.T14 := by kernel_rfl
theorem spilelaw47_ReliefWhole.bits14 : waitsOk spilelaw47_ReliefWhole.T14.2 spilelaw47_ReliefWhole.B14 = true := by kernel_rfl
set_option maxHeartbeats 8000000 in
set_option maxRecDepth 100000 in
theorem spilelaw47_ReliefWhole.calls (k : Nat) (A0 : Option Addr) (c0 : Nat) (l0 : List (S33)) (A1 : Option Addr) (c1 : Nat) (l1 : List (S25)) (a2 : Int) (r : Bool) (w : World) (hr0 : Kd.C k33 w A0 l0.length l0) (hc0 : l0.length ≤ c0) (hr1 : Kd.C k25 w A1 l1.length l1) (hc1 : l1.length ≤ c1) (h : spilelaw47_ReliefWhole.f k l0 l1 a2 = some r) (hr_ : r = true) :
  Calls Try.prog 9 #[.slice A0 l0.length c0, .slice A1 l1.length c1, .int .u8 a2] w fun e w' => e = .returned (.bool r) ∧ Below w.heap.size w w' := by
 have hu33 := Try.underlying33; have hu25 := Try.underlying25
 have HR0 := Aside0.mk hr0
 have HC0 := Aside0.mk hc0
 clear hr0 hc0
 have HR1 := Aside0.mk hr1
 have HC1 := Aside0.mk hc1
 clear hr1 hc1; have HB := Aside0.mk (Below.refl w.heap.size w)
 have H : ((spilelaw47_awake.f k).bind fun t359 => (if t359 = true then ((spileref47_Few.f k l0 l1).bind fun t360 => (if t360 = true then (if (l0.length : Int) = 0 then (spilelaw47_ReliefWhole.j0 k l0 l1 a2 true) else (spilelaw47_ReliefWhole.j0 k l0 l1 a2 ((l1.length : Int) == 0))) else (spilelaw47_ReliefWhole.j0 k l0 l1 a2 true))) else (spilelaw47_ReliefWhole.j0 k l0 l1 a2 true))) = some r := h
 clear h
 have HC4 := Aside0.mk H
 clear H
 go_enter Try.func9, Try.ntmps9
 go_upto_region 1 with (fail)
 go_cut [32] (fun v32 wc => ∃ (kq : Nat) (x32_3 : Bool), v32 = .bool x32_3 ∧ Aside0 (spilelaw47_ReliefWhole.j0 kq l0 l1 a2 x32_3 = some r) ∧ Aside0 (kq ≤ k) ∧ Aside0 (Below w.heap.size w wc))
 case first =>
  have H := HC4.out; clear HC4
  replace H := Option.bind_eq_some_iff.mp H
  obtain ⟨t359, A50, H⟩ := H
  try dsimp only at H
  have A5 := Aside0.mk A50
  clear A50
  by_cases c6 : t359 = true
  ·subst c6
   have H1 : ((spileref47_Few.f k l0 l1).bind fun t360 => (if t360 = true then (if (l0.length : Int) = 0 then (spilelaw47_ReliefWhole.j0 k l0 l1 a2 true) else (spilelaw47_ReliefWhole.j0 k l0 l1 a2 ((l1.length : Int) == 0))) else (spilelaw47_ReliefWhole.j0 k l0 l1 a2 true))) = some r := by rw [if_pos rfl] at H; exact H
   clear H; have H := H1; clear H1
   replace H := Option.bind_eq_some_iff.mp H
   obtain ⟨t360, A70, H⟩ := H
   try dsimp only at H
   have A7 := Aside0.mk A70
   clear A70
   by_cases c8 : t360 = true
   ·subst c8
    have H1 : (if (l0.length : Int) = 0 then (spilelaw47_ReliefWhole.j0 k l0 l1 a2 true) else (spilelaw47_ReliefWhole.j0 k l0 l1 a2 ((l1.length : Int) == 0))) = some r := by rw [if_pos rfl] at H; exact H
    clear H; have H := H1; clear H1
    by_cases c9 : (l0.length : Int) = 0
    ·rw [if_pos c9] at H
     have c9b0 : ((l0.length : Int) == 0) = true := beq_iff_eq.mpr c9
     have c9b1 : ((l0.length : Int) != 0) = false := bne_eq_false_iff_eq.mpr c9
     clear c9
     (first | rw [c9b0] | (simp only [i64_w, i32_w]; rw [c9b0]) | skip)
     have H' := Aside0.mk H
     clear H
     go_wp2_with (first | ((with_reducible refine gate_callee (f := 10) rfl ?_); refine goesL_ (some 15) rfl rfl Try.func10 (by kernel_rfl) rfl #[] rfl (by (try simp only [List.map_toArray, List.map_cons, List.map_nil]); first | done | rfl | (simp only [List.length_drop, List.length_take]; rfl)) ?_; (with_reducible refine (spilelaw47_awake.calls k  true _ A5.out).mono ?_); rintro e w10 ⟨rfl, hb⟩; refine ⟨_, rfl, ?_⟩; have n0_ := Aside0.mk (below_step (by repeat (first | (with_reducible first | exact HB.out | apply below_alloc | apply pw_below_drewN | apply below_drew1) | exact HB.out)) hb); clear HB; have HB := n0_; clear n0_; (try clear hb); (try clear hb2); (try clear hk); (try clear hi)) | (go_at_call 11; (with_reducible refine (spileref47_Few.calls k _ _ l0 _ _ l1 true _ ?side1 ?side2 ?side3 ?side4 A7.out).mono ?_); (case side1 => repeat (first | exact (Kd.C_below HR0.out HB.out) | (with_reducible refine Kd.C_alloc ?_ _) | (with_reducible refine Kd.C_drewN ?_ _) | (with_reducible refine Kd.C_drew ?_))); (case side2 => exact HC0.out); (case side3 => repeat (first | exact (Kd.C_below HR1.out HB.out) | (with_reducible refine Kd.C_alloc ?_ _) | (with_reducible refine Kd.C_drewN ?_ _) | (with_reducible refine Kd.C_drew ?_))); (case side4 => exact HC1.out); rintro e w' ⟨rfl, ⟨nd, rfl⟩⟩))
     go_meet
     case rel => exact ⟨_, (true), (by first | rfl | (simp; done) | (simp [*]; done)), H', ⟨by first | omega | exact Nat.le_refl _⟩, ⟨by repeat (first | (with_reducible first | exact HB.out | apply below_alloc | apply pw_below_drewN | apply below_drew1) | exact HB.out)⟩⟩
    ·rw [if_neg c9] at H
     have c9b0 : ((l0.length : Int) == 0) = false := beq_eq_false_iff_ne.mpr c9
     have c9b1 : ((l0.length : Int) != 0) = true := bne_iff_ne.mpr c9
     have c9b2 : ¬ (l0 = []) := fun h_ => c9 (by rw [h_]; rfl)
     (first | rw [c9b0] | (simp only [i64_w, i32_w]; rw [c9b0]) | skip)
     have H' := Aside0.mk H
     clear H
     go_wp2_with (first | ((with_reducible refine gate_callee (f := 10) rfl ?_); refine goesL_ (some 15) rfl rfl Try.func10 (by kernel_rfl) rfl #[] rfl (by (try simp only [List.map_toArray, List.map_cons, List.map_nil]); first | done | rfl | (simp only [List.length_drop, List.length_take]; rfl)) ?_; (with_reducible refine (spilelaw47_awake.calls k  true _ A5.out).mono ?_); rintro e w11 ⟨rfl, hb⟩; refine ⟨_, rfl, ?_⟩; have n0_ := Aside0.mk (below_step (by repeat (first | (with_reducible first | exact HB.out | apply below_alloc | apply pw_below_drewN | apply below_drew1) | exact HB.out)) hb); clear HB; have HB := n0_; clear n0_; (try clear hb); (try clear hb2); (try clear hk); (try clear hi)) | (go_at_call 11; (with_reducible refine (spileref47_Few.calls k _ _ l0 _ _ l1 true _ ?side1 ?side2 ?side3 ?side4 A7.out).mono ?_); (case side1 => repeat (first | exact (Kd.C_below HR0.out HB.out) | (with_reducible refine Kd.C_alloc ?_ _) | (with_reducible refine Kd.C_drewN ?_ _) | (with_reducible refine Kd.C_drew ?_))); (case side2 => exact HC0.out); (case side3 => repeat (first | exact (Kd.C_below HR1.out HB.out) | (with_reducible refine Kd.C_alloc ?_ _) | (with_reducible refine Kd.C_drewN ?_ _) | (with_reducible refine Kd.C_drew ?_))); (case side4 => exact HC1.out); rintro e w' ⟨rfl, ⟨nd, rfl⟩⟩))
     go_meet
     case rel => exact ⟨_, (((l1.length : Int) == 0)), (by first | rfl | (simp; done) | (simp [*]; done)), H', ⟨by first | omega | exact Nat.le_refl _⟩, ⟨by repeat (first | (with_reducible first | exact HB.out | apply below_alloc | apply pw_below_drewN | apply below_drew1) | exact HB.out)⟩⟩
   ·replace c8 := Bool.eq_false_iff.mpr c8
    subst c8
    have H1 : (spilelaw47_ReliefWhole.j0 k l0 l1 a2 true) = some r := by rw [if_neg (show ¬ (false = true) by decide)] at H; exact H
    clear H; have H := H1; clear H1
    have H' := Aside0.mk H
    clear H
    go_wp2_with (first | ((with_reducible refine gate_callee (f := 10) rfl ?_); refine goesL_ (some 15) rfl rfl Try.func10 (by kernel_rfl) rfl #[] rfl (by (try simp only [List.map_toArray, List.map_cons, List.map_nil]); first | done | rfl | (simp only [List.length_drop, List.length_take]; rfl)) ?_; (with_reducible refine (spilelaw47_awake.calls k  true _ A5.out).mono ?_); rintro e w12 ⟨rfl, hb⟩; refine ⟨_, rfl, ?_⟩; have n0_ := Aside0.mk (below_step (by repeat (first | (with_reducible first | exact HB.out | apply below_alloc | apply pw_below_drewN | apply below_drew1) | exact HB.out)) hb); clear HB; have HB := n0_; clear n0_; (try clear hb); (try clear hb2); (try clear hk); (try clear hi)) | (go_at_call 11; (with_reducible refine (spileref47_Few.calls k _ _ l0 _ _ l1 false _ ?side1 ?side2 ?side3 ?side4 A7.out).mono ?_); (case side1 => repeat (first | exact (Kd.C_below HR0.out HB.out) | (with_reducible refine Kd.C_alloc ?_ _) | (with_reducible refine Kd.C_drewN ?_ _) | (with_reducible refine Kd.C_drew ?_))); (case side2 => exact HC0.out); (case side3 => repeat (first | exact (Kd.C_below HR1.out HB.out) | (with_reducible refine Kd.C_alloc ?_ _) | (with_reducible refine Kd.C_drewN ?_ _) | (with_reducible refine Kd.C_drew ?_))); (case side4 => exact HC1.out); rintro e w' ⟨rfl, ⟨nd, rfl⟩⟩))
    go_meet
    case rel => exact ⟨_, (true), (by first | rfl | (simp; done) | (simp [*]; done)), H', ⟨by first | omega | exact Nat.le_refl _⟩, ⟨by repeat (first | (with_reducible first | exact HB.out | apply below_alloc | apply pw_below_drewN | apply below_drew1) | exact HB.out)⟩⟩
  ·replace c6 := Bool.eq_false_iff.mpr c6
   subst c6
   have H1 : (spilelaw47_ReliefWhole.j0 k l0 l1 a2 true) = some r := by rw [if_neg (show ¬ (false = true) by decide)] at H; exact H
   clear H; have H := H1; clear H1
   have H' := Aside0.mk H
   clear H
   go_wp2_with (first | ((with_reducible refine gate_callee (f := 10) rfl ?_); refine goesL_ (some 15) rfl rfl Try.func10 (by kernel_rfl) rfl #[] rfl (by (try simp only [List.map_toArray, List.map_cons, List.map_nil]); first | done | rfl | (simp only [List.length_drop, List.length_take]; rfl)) ?_; (with_reducible refine (spilelaw47_awake.calls k  false _ A5.out).mono ?_); rintro e w13 ⟨rfl, hb⟩; refine ⟨_, rfl, ?_⟩; have n0_ := Aside0.mk (below_step (by repeat (first | (with_reducible first | exact HB.out | apply below_alloc | apply pw_below_drewN | apply below_drew1) | exact HB.out)) hb); clear HB; have HB := n0_; clear n0_; (try clear hb); (try clear hb2); (try clear hk); (try clear hi)))
   go_meet
   case rel => exact ⟨_, (true), (by first | rfl | (simp; done) | (simp [*]; done)), H', ⟨by first | omega | exact Nat.le_refl _⟩, ⟨by repeat (first | (with_reducible first | exact HB.out | apply below_alloc | apply pw_below_drewN | apply below_drew1) | exact HB.out)⟩⟩
 case rest =>
  clear HC4
  obtain ⟨kq, x32_3, rfl, HA, HJ3, HB⟩ := hcut
  cases kq with
  | zero => exact absurd HA.out (by simp [spilelaw47_ReliefWhole.j0])
  | succ kj3 =>
   have H := HA.out; clear HA
   simp only [spilelaw47_ReliefWhole.j0] at H
   by_cases c14 : x32_3 = true
   ·subst c14
    have H1 : ((spilelaw47_awake.f kj3).bind fun t361 => (some t361)) = some r := by rw [if_pos rfl] at H; exact H
    clear H; have H := H1; clear H1
    replace H := Option.bind_eq_some_iff.mp H
    obtain ⟨t361, A150, H⟩ := H
    try dsimp only at H
    have A15 := Aside0.mk A150
    clear A150
    obtain rfl := Option.some.inj H
    go_wp2_with (first | ((with_reducible refine gate_callee (f := 10) rfl ?_); refine goesL_ (some 33) rfl rfl Try.func10 (by kernel_rfl) rfl #[] rfl (by (try simp only [List.map_toArray, List.map_cons, List.map_nil]); first | done | rfl | (simp only [List.length_drop, List.length_take]; rfl)) ?_; (with_reducible refine (spilelaw47_awake.calls kj3  t361 _ A15.out).mono ?_); rintro e w16 ⟨rfl, hb⟩; refine ⟨_, rfl, ?_⟩; have n0_ := Aside0.mk (below_step (by repeat (first | (with_reducible first | exact HB.out | apply below_alloc | apply pw_below_drewN | apply below_drew1) | exact HB.out)) hb); clear HB; have HB := n0_; clear n0_; (try clear hb); (try clear hb2); (try clear hk); (try clear hi)))
    go_ret
    exact ⟨by first | rfl | (simp [errW_none, errW_some] <;> rfl) | (simp [*, errW_none, errW_some] <;> rfl), by repeat (first | (with_reducible first | exact HB.out | apply below_alloc | apply pw_below_drewN | apply below_drew1) | exact HB.out)⟩
   ·replace c14 := Bool.eq_false_iff.mpr c14
    subst c14
    have H1 : ((api_Relief_13.f l0).bind fun t362 => (if 1 ≤ (l1.length : Int) then ((api_Item_14.f (l1.take 1)).bind fun t369 => (if (t362.length : Int) = 0 then (none) else (if 0 ≤ (Int.tmod (wrap64 (a2)) (t362.length : Int)) then (if (Int.tmod (wrap64 (a2)) (t362.length : Int)) < (t362.length : Int) then ((some (t362.set ((Int.tmod (wrap64 (a2)) (t362.length : Int)) : Int).toNat (⟨(rd_T33 t362 (Int.tmod (wrap64 (a2)) (t362.length : Int))).f0, (rd_T33 t362 (Int.tmod (wrap64 (a2)) (t362.length : Int))).f1, (rd_T33 t362 (Int.tmod (wrap64 (a2)) (t362.length : Int))).f2, (rd_T33 t362 (Int.tmod (wrap64 (a2)) (t362.length : Int))).f3, (rd_T33 t362 (Int.tmod (wrap64 (a2)) (t362.length : Int))).f4, 10000, (rd_T33 t362 (Int.tmod (wrap64 (a2)) (t362.length : Int))).f6⟩ : S33) : List (S33))).bind fun y372 => ((some (y372.set ((Int.tmod (wrap64 (a2)) (t362.length : Int)) : Int).toNat (⟨(rd_T33 y372 (Int.tmod (wrap64 (a2)) (t362.length : Int))).f0, (rd_T33 y372 (Int.tmod (wrap64 (a2)) (t362.length : Int))).f1, (rd_T33 y372 (Int.tmod (wrap64 (a2)) (t362.length : Int))).f2, (rd_T33 y372 (Int.tmod (wrap64 (a2)) (t362.length : Int))).f3, (rd_T33 y372 (Int.tmod (wrap64 (a2)) (t362.length : Int))).f4, (rd_T33 y372 (Int.tmod (wrap64 (a2)) (t362.length : Int))).f5, 0⟩ : S33) : List (S33))).bind fun y373 => (if 0 < (t369.length : Int) then ((some (t369.set (0 : Int).toNat (⟨(rd_T25 t369 0).f0, (rd_T25 t369 0).f1, (rd_T25 t369 0).f2, (rd_T25 t369 0).f3, (rd_T33 y373 (Int.tmod (wrap64 (a2)) (t362.length : Int))).f0⟩ : S25) : List (S25))).bind fun y375 => ((api_Relief_13.f y373).bind fun t376 => ((relief_Check.f kj3 t376).bind fun bt379 => ((api_Item_14.f y375).bind fun t381 => ((relief_Items.f kj3 t381).bind fun bt384 => ((api_Relief_13.f y373).bind fun t386 => ((api_Item_14.f y375).bind fun t389 => ((relief_Grant.f kj3 t386 t389).bind fun bt392 => (if bt379.2 = 0 then (spilelaw47_ReliefWhole.j1 kj3 y373 y375 (Int.tmod (wrap64 (a2)) (t362.length : Int)) bt392.1 bt392.2.1 bt392.2.2 (bt384.2 != 0)) else (spilelaw47_ReliefWhole.j1 kj3 y373 y375 (Int.tmod (wrap64 (a2)) (t362.length : Int)) bt392.1 bt392.2.1 bt392.2.2 true)))))))))) else (none)))) else (none)) else (none)))) else (none))) = some r := by rw [if_neg (show ¬ (false = true) by decide)] at H; exact H
    clear H; have H := H1; clear H1
    replace H := Option.bind_eq_some_iff.mp H
    obtain ⟨t362, A170, H⟩ := H
    try dsimp only at H
    have A17 := Aside0.mk A170
    clear A170
    by_cases c18 : 1 ≤ (l1.length : Int)
    ·rw [if_pos c18] at H
     have c18b0 := eq_true c18
     have c18b1 : decide (1 ≤ (l1.length : Int)) = true := decide_eq_true c18
     clear c18
     obtain ⟨y365, hy365⟩ : ∃ y_ : List (S25), y_ = (l1.take 1) := ⟨_, rfl⟩
     replace H : ((api_Item_14.f y365).bind fun t369 => (if (t362.length : Int) = 0 then (none) else (if 0 ≤ (Int.tmod (wrap64 (a2)) (t362.length : Int)) then (if (Int.tmod (wrap64 (a2)) (t362.length : Int)) < (t362.length : Int) then ((some (t362.set ((Int.tmod (wrap64 (a2)) (t362.length : Int)) : Int).toNat (⟨(rd_T33 t362 (Int.tmod (wrap64 (a2)) (t362.length : Int))).f0, (rd_T33 t362 (Int.tmod (wrap64 (a2)) (t362.length : Int))).f1, (rd_T33 t362 (Int.tmod (wrap64 (a2)) (t362.length : Int))).f2, (rd_T33 t362 (Int.tmod (wrap64 (a2)) (t362.length : Int))).f3, (rd_T33 t362 (Int.tmod (wrap64 (a2)) (t362.length : Int))).f4, 10000, (rd_T33 t362 (Int.tmod (wrap64 (a2)) (t362.length : Int))).f6⟩ : S33) : List (S33))).bind fun y372 => ((some (y372.set ((Int.tmod (wrap64 (a2)) (t362.length : Int)) : Int).toNat (⟨(rd_T33 y372 (Int.tmod (wrap64 (a2)) (t362.length : Int))).f0, (rd_T33 y372 (Int.tmod (wrap64 (a2)) (t362.length : Int))).f1, (rd_T33 y372 (Int.tmod (wrap64 (a2)) (t362.length : Int))).f2, (rd_T33 y372 (Int.tmod (wrap64 (a2)) (t362.length : Int))).f3, (rd_T33 y372 (Int.tmod (wrap64 (a2)) (t362.length : Int))).f4, (rd_T33 y372 (Int.tmod (wrap64 (a2)) (t362.length : Int))).f5, 0⟩ : S33) : List (S33))).bind fun y373 => (if 0 < (t369.length : Int) then ((some (t369.set (0 : Int).toNat (⟨(rd_T25 t369 0).f0, (rd_T25 t369 0).f1, (rd_T25 t369 0).f2, (rd_T25 t369 0).f3, (rd_T33 y373 (Int.tmod (wrap64 (a2)) (t362.length : Int))).f0⟩ : S25) : List (S25))).bind fun y375 => ((api_Relief_13.f y373).bind fun t376 => ((relief_Check.f kj3 t376).bind fun bt379 => ((api_Item_14.f y375).bind fun t381 => ((relief_Items.f kj3 t381).bind fun bt384 => ((api_Relief_13.f y373).bind fun t386 => ((api_Item_14.f y375).bind fun t389 => ((relief_Grant.f kj3 t386 t389).bind fun bt392 => (if bt379.2 = 0 then (spilelaw47_ReliefWhole.j1 kj3 y373 y375 (Int.tmod (wrap64 (a2)) (t362.length : Int)) bt392.1 bt392.2.1 bt392.2.2 (bt384.2 != 0)) else (spilelaw47_ReliefWhole.j1 kj3 y373 y375 (Int.tmod (wrap64 (a2)) (t362.length : Int)) bt392.1 bt392.2.1 bt392.2.2 true)))))))))) else (none)))) else (none)) else (none)))) = some r := by first | (rw [hy365]; with_reducible exact H) | (have H2_ := (Option.bind_some _ _).symm.trans H; rw [hy365]; with_reducible exact H2_) | (have H2_ := (Option.bind_some _ _).symm.trans H; with_reducible exact H2_) | with_reducible exact H | (rw [hy365]; exact H) | exact H
     have Ny365 := Aside0.mk hy365
     clear hy365
     replace H := Option.bind_eq_some_iff.mp H
     obtain ⟨t369, A190, H⟩ := H
     try dsimp only at H
     have A19 := Aside0.mk A190
     clear A190
     by_cases c20 : (t362.length : Int) = 0
     ·rw [if_pos c20] at H
      exact absurd H (by simp)
     ·rw [if_neg c20] at H
      have c20b0 : ((t362.length : Int) == 0) = false := beq_eq_false_iff_ne.mpr c20
      have c20b1 : ((t362.length : Int) != 0) = true := bne_iff_ne.mpr c20
      have c20b2 : ¬ (t362 = []) := fun h_ => c20 (by rw [h_]; rfl)
      obtain ⟨ji21, hji21⟩ : ∃ j_ : Int, (Int.tmod (wrap64 (a2)) (t362.length : Int)) = j_ := ⟨_, rfl⟩
      replace H : (if 0 ≤ (ji21) then (if (ji21) < (t362.length : Int) then ((some (t362.set ((ji21) : Int).toNat (⟨(rd_T33 t362 (ji21)).f0, (rd_T33 t362 (ji21)).f1, (rd_T33 t362 (ji21)).f2, (rd_T33 t362 (ji21)).f3, (rd_T33 t362 (ji21)).f4, 10000, (rd_T33 t362 (ji21)).f6⟩ : S33) : List (S33))).bind fun y372 => ((some (y372.set ((ji21) : Int).toNat (⟨(rd_T33 y372 (ji21)).f0, (rd_T33 y372 (ji21)).f1, (rd_T33 y372 (ji21)).f2, (rd_T33 y372 (ji21)).f3, (rd_T33 y372 (ji21)).f4, (rd_T33 y372 (ji21)).f5, 0⟩ : S33) : List (S33))).bind fun y373 => (if 0 < (t369.length : Int) then ((some (t369.set (0 : Int).toNat (⟨(rd_T25 t369 0).f0, (rd_T25 t369 0).f1, (rd_T25 t369 0).f2, (rd_T25 t369 0).f3, (rd_T33 y373 (ji21)).f0⟩ : S25) : List (S25))).bind fun y375 => ((api_Relief_13.f y373).bind fun t376 => ((relief_Check.f kj3 t376).bind fun bt379 => ((api_Item_14.f y375).bind fun t381 => ((relief_Items.f kj3 t381).bind fun bt384 => ((api_Relief_13.f y373).bind fun t386 => ((api_Item_14.f y375).bind fun t389 => ((relief_Grant.f kj3 t386 t389).bind fun bt392 => (if bt379.2 = 0 then (spilelaw47_ReliefWhole.j1 kj3 y373 y375 ji21 bt392.1 bt392.2.1 bt392.2.2 (bt384.2 != 0)) else (spilelaw47_ReliefWhole.j1 kj3 y373 y375 ji21 bt392.1 bt392.2.1 bt392.2.2 true)))))))))) else (none)))) else (none)) else (none)) = some r := by first | (rw [hji21] at H; exact H) | (simp only [hji21] at H ⊢; exact H)
      (try rw [hji21] at A17)
      (try rw [hji21] at A19)
      by_cases c22 : 0 ≤ (ji21)
      ·rw [if_pos c22] at H
       have c22b0 : decide (0 ≤ (ji21)) = true := decide_eq_true c22
       clear c22
       by_cases c23 : (ji21) < (t362.length : Int)
       ·rw [if_pos c23] at H
        have c23b0 : decide ((ji21) < (t362.length : Int)) = true := decide_eq_true c23
        clear c23
        obtain ⟨y372, hy372⟩ : ∃ y_ : List (S33), y_ = (t362.set ((ji21) : Int).toNat (⟨(rd_T33 t362 (ji21)).f0, (rd_T33 t362 (ji21)).f1, (rd_T33 t362 (ji21)).f2, (rd_T33 t362 (ji21)).f3, (rd_T33 t362 (ji21)).f4, 10000, (rd_T33 t362 (ji21)).f6⟩ : S33)) := ⟨_, rfl⟩
        replace H : ((some (y372.set ((ji21) : Int).toNat (⟨(rd_T33 y372 (ji21)).f0, (rd_T33 y372 (ji21)).f1, (rd_T33 y372 (ji21)).f2, (rd_T33 y372 (ji21)).f3, (rd_T33 y372 (ji21)).f4, (rd_T33 y372 (ji21)).f5, 0⟩ : S33) : List (S33))).bind fun y373 => (if 0 < (t369.length : Int) then ((some (t369.set (0 : Int).toNat (⟨(rd_T25 t369 0).f0, (rd_T25 t369 0).f1, (rd_T25 t369 0).f2, (rd_T25 t369 0).f3, (rd_T33 y373 (ji21)).f0⟩ : S25) : List (S25))).bind fun y375 => ((api_Relief_13.f y373).bind fun t376 => ((relief_Check.f kj3 t376).bind fun bt379 => ((api_Item_14.f y375).bind fun t381 => ((relief_Items.f kj3 t381).bind fun bt384 => ((api_Relief_13.f y373).bind fun t386 => ((api_Item_14.f y375).bind fun t389 => ((relief_Grant.f kj3 t386 t389).bind fun bt392 => (if bt379.2 = 0 then (spilelaw47_ReliefWhole.j1 kj3 y373 y375 ji21 bt392.1 bt392.2.1 bt392.2.2 (bt384.2 != 0)) else (spilelaw47_ReliefWhole.j1 kj3 y373 y375 ji21 bt392.1 bt392.2.1 bt392.2.2 true)))))))))) else (none))) = some r := by first | (rw [hy372]; with_reducible exact H) | (have H2_ := (Option.bind_some _ _).symm.trans H; rw [hy372]; with_reducible exact H2_) | (have H2_ := (Option.bind_some _ _).symm.trans H; with_reducible exact H2_) | with_reducible exact H | (rw [hy372]; exact H) | exact H
        have Ny372 := Aside0.mk hy372
        clear hy372
        obtain ⟨y373, hy373⟩ : ∃ y_ : List (S33), y_ = (y372.set ((ji21) : Int).toNat (⟨(rd_T33 y372 (ji21)).f0, (rd_T33 y372 (ji21)).f1, (rd_T33 y372 (ji21)).f2, (rd_T33 y372 (ji21)).f3, (rd_T33 y372 (ji21)).f4, (rd_T33 y372 (ji21)).f5, 0⟩ : S33)) := ⟨_, rfl⟩
        replace H : (if 0 < (t369.length : Int) then ((some (t369.set (0 : Int).toNat (⟨(rd_T25 t369 0).f0, (rd_T25 t369 0).f1, (rd_T25 t369 0).f2, (rd_T25 t369 0).f3, (rd_T33 y373 (ji21)).f0⟩ : S25) : List (S25))).bind fun y375 => ((api_Relief_13.f y373).bind fun t376 => ((relief_Check.f kj3 t376).bind fun bt379 => ((api_Item_14.f y375).bind fun t381 => ((relief_Items.f kj3 t381).bind fun bt384 => ((api_Relief_13.f y373).bind fun t386 => ((api_Item_14.f y375).bind fun t389 => ((relief_Grant.f kj3 t386 t389).bind fun bt392 => (if bt379.2 = 0 then (spilelaw47_ReliefWhole.j1 kj3 y373 y375 ji21 bt392.1 bt392.2.1 bt392.2.2 (bt384.2 != 0)) else (spilelaw47_ReliefWhole.j1 kj3 y373 y375 ji21 bt392.1 bt392.2.1 bt392.2.2 true)))))))))) else (none)) = some r := by first | (rw [hy373]; with_reducible exact H) | (have H2_ := (Option.bind_some _ _).symm.trans H; rw [hy373]; with_reducible exact H2_) | (have H2_ := (Option.bind_some _ _).symm.trans H; with_reducible exact H2_) | with_reducible exact H | (rw [hy373]; exact H) | exact H
        have Ny373 := Aside0.mk hy373
        clear hy373
        by_cases c26 : 0 < (t369.length : Int)
        ·rw [if_pos c26] at H
         have c26b0 : decide (0 < (t369.length : Int)) = true := decide_eq_true c26
         have c26b1 : decide (0 < t369.length) = true := decide_eq_true (by omega)
         clear c26
         obtain ⟨y375, hy375⟩ : ∃ y_ : List (S25), y_ = (t369.set (0 : Int).toNat (⟨(rd_T25 t369 0).f0, (rd_T25 t369 0).f1, (rd_T25 t369 0).f2, (rd_T25 t369 0).f3, (rd_T33 y373 (ji21)).f0⟩ : S25)) := ⟨_, rfl⟩
         replace H : ((api_Relief_13.f y373).bind fun t376 => ((relief_Check.f kj3 t376).bind fun bt379 => ((api_Item_14.f y375).bind fun t381 => ((relief_Items.f kj3 t381).bind fun bt384 => ((api_Relief_13.f y373).bind fun t386 => ((api_Item_14.f y375).bind fun t389 => ((relief_Grant.f kj3 t386 t389).bind fun bt392 => (if bt379.2 = 0 then (spilelaw47_ReliefWhole.j1 kj3 y373 y375 ji21 bt392.1 bt392.2.1 bt392.2.2 (bt384.2 != 0)) else (spilelaw47_ReliefWhole.j1 kj3 y373 y375 ji21 bt392.1 bt392.2.1 bt392.2.2 true))))))))) = some r := by first | (rw [hy375]; with_reducible exact H) | (have H2_ := (Option.bind_some _ _).symm.trans H; rw [hy375]; with_reducible exact H2_) | (have H2_ := (Option.bind_some _ _).symm.trans H; with_reducible exact H2_) | with_reducible exact H | (rw [hy375]; exact H) | exact H
         have Ny375 := Aside0.mk hy375
         clear hy375
         replace H := Option.bind_eq_some_iff.mp H
         obtain ⟨t376, A280, H⟩ := H
         try dsimp only at H
         have A28 := Aside0.mk A280
         clear A280
         replace H := Option.bind_eq_some_iff.mp H
         obtain ⟨⟨t379, t380⟩, A290, H⟩ := H
         try dsimp only at H
         have A29 := Aside0.mk A290
         clear A290
         replace H := Option.bind_eq_some_iff.mp H
         obtain ⟨t381, A300, H⟩ := H
         try dsimp only at H
         have A30 := Aside0.mk A300
         clear A300
         replace H := Option.bind_eq_some_iff.mp H
         obtain ⟨⟨t384, t385⟩, A310, H⟩ := H
         try dsimp only at H
         have A31 := Aside0.mk A310
         clear A310
         replace H := Option.bind_eq_some_iff.mp H
         obtain ⟨t386, A320, H⟩ := H
         try dsimp only at H
         have A32 := Aside0.mk A320
         clear A320
         replace H := Option.bind_eq_some_iff.mp H
         obtain ⟨t389, A330, H⟩ := H
         try dsimp only at H
         have A33 := Aside0.mk A330
         clear A330
         replace H := Option.bind_eq_some_iff.mp H
         obtain ⟨⟨t392, t393, t394⟩, A340, H⟩ := H
         try dsimp only at H
         have A34 := Aside0.mk A340
         clear A340
         have HC35 := Aside0.mk H
         clear H
         try go_wp2
         have n0_ := Aside0.mk (below_drew1 HB.out); clear HB; have HB := n0_; clear n0_
         have q37 : (1 : Int) ≤ ((l1.length : Int) : Int) := of_decide_eq_true (by first | (with_reducible assumption) | assumption)
         obtain ⟨i037, hi037, _, hsz37, _⟩ := info_parts info25
         have hroom37 : l1.length ≤ c1 := HC1.out
         have hC37 : Kd.C k25 _ A1 l1.length l1 := HR1.out
         have hcut37 := cut_to (P := Try.prog) 23 25 .i64 Try.underlying23 hi037 A1 l1.length c1 1 (by omega) q37 hroom37
         have hr37 := Kd.C_take (m := 1) hC37 (by omega)
         have hy37 : y365.length = (1 : Int).toNat := (by rw [Ny365.out, List.length_take]; omega)
         rw [← Ny365.out] at hr37
         rw [← hy37] at hcut37
         have HR368 := Aside0.mk hr37
         have HC368 := Aside0.mk (show y365.length ≤ c1 from by omega); clear hr37 hC37 hroom37 hi037 hsz37
         have KY37 := Aside0.mk hy37
         clear hy37
         replace q37 := eq_true q37
         refine start_ (n := 7) (S := fun w' => True) (ds := []) #[false, false, false, false, false, false, false] (by kernel_rfl) rfl rfl trivial (fun hHeld => ?_)
         generalize wc.drew = w36 at HB HR368 hHeld ⊢
         refine pure_ (i := 0) (N := some 34) (v := ?_) (a' := ?_) #[true, false, false, false, false, false, false] rfl rfl (by kernel_rfl) (fun _ _ _ h => h) (Or.inl ⟨by rfl, ?_⟩) ?_ ?_
         rotate_left
         ·intro w'
          go_simp
          with_reducible rfl
         rotate_left
         ·simp only [Act.put, List.setIfInBounds_toArray, List.set_cons_zero, List.set_cons_succ, i64_w, i32_w]
          rfl
         refine pure_ (i := 2) (N := some 36) (v := ?_) (a' := ?_) #[true, false, true, false, false, false, false] rfl rfl (by kernel_rfl) (fun _ _ _ h => h) (Or.inl ⟨by rfl, ?_⟩) ?_ ?_
         rotate_left
         ·intro w'
          go_simp
          with_reducible rfl
         rotate_left
         ·simp only [Act.put, List.setIfInBounds_toArray, List.set_cons_zero, List.set_cons_succ, i64_w, i32_w]
          rfl
         refine pure_ (i := 3) (N := some 37) (v := ?_) (a' := ?_) #[true, false, true, true, false, false, false] rfl rfl (by kernel_rfl) (fun _ _ _ h => h) (Or.inl ⟨by rfl, ?_⟩) ?_ ?_
         rotate_left
         ·intro w'
          go_simp
          with_reducible rfl
         rotate_left
         ·simp only [Act.put, List.setIfInBounds_toArray, List.set_cons_zero, List.set_cons_succ, i64_w, i32_w]
          rfl
         refine one_ (i := 1) (N := some 35) #[true, true, true, true, false, false, false] rfl rfl (by kernel_rfl) (by decide) (fun K hK => ?_)
         refine goes_ Try.func13 (by kernel_rfl) rfl #[.slice A0 l0.length c0] (by rfl) rfl rfl (by (try simp only [List.map_toArray, List.map_cons, List.map_nil]); first | done | rfl | (simp only [List.length_drop, List.length_take]; rfl)) ?_
         with_reducible refine (api_Relief_13.calls _ _ l0 t362 _ ?side1 ?side2 A17.out).mono ?_
         (case side1 => repeat (first | exact (Kd.C_below HR0.out HB.out) | (with_reducible refine Kd.C_alloc ?_ _) | (with_reducible refine Kd.C_drewN ?_ _) | (with_reducible refine Kd.C_drew ?_)))
         (case side2 => exact HC0.out)
         rintro e w38 ⟨v363, rfl, ho0, hb⟩
         refine ⟨_, rfl, ?_⟩
         have n0_ := Aside0.mk (Kd.R_lower ho0 (below_size (by repeat (first | (with_reducible first | exact HB.out | apply below_alloc | apply pw_below_drewN | apply below_drew1) | exact HB.out)))); have n1_ := Aside0.mk (below_step (by repeat (first | (with_reducible first | exact HB.out | apply below_alloc | apply pw_below_drewN | apply below_drew1) | exact HB.out)) hb); clear HB; have HO364 := n0_; have HB := n1_; clear n0_ n1_; (try clear hb); (try clear hb2); (try clear hk); (try clear hi); (try clear ho0)
         refine hK.out _ _ trivial (fun hHeld => ?_)
         clear hK K
         refine norm_ (a' := ?_) ?_ ?_
         rotate_left
         ·show Act.put _ (some 35) _ = _
          simp only [Act.put, List.setIfInBounds_toArray, List.set_cons_zero, List.set_cons_succ, i64_w, i32_w]
          rfl
         refine one_ (i := 4) (N := some 38) #[true, true, true, true, true, false, false] rfl rfl (by kernel_rfl) (by decide) (fun K hK => ?_)
         refine goes_ Try.func14 (by kernel_rfl) rfl #[.slice A1 y365.length c1] (by rfl) rfl rfl (by (try simp only [List.map_toArray, List.map_cons, List.map_nil]); first | done | rfl | (simp only [List.length_drop, List.length_take]; rfl)) ?_
         with_reducible refine (api_Item_14.calls _ _ y365 t369 _ ?side1 ?side2 A19.out).mono ?_
         (case side1 => repeat (first | exact (Kd.C_below HR368.out HB.out) | (with_reducible refine Kd.C_alloc ?_ _) | (with_reducible refine Kd.C_drewN ?_ _) | (with_reducible refine Kd.C_drew ?_)))
         (case side2 => exact HC368.out)
         rintro e w39 ⟨v370, rfl, ho0, hb⟩
         refine ⟨_, rfl, ?_⟩
         have n0_ := Aside0.mk (Kd.R_below (by (with_reducible repeat (first | apply Kd.R_alloc | apply Kd.R_drewN | apply Kd.R_drew)); exact HO364.out) hb); have n1_ := Aside0.mk (Kd.R_lower ho0 (below_size (by repeat (first | (with_reducible first | exact HB.out | apply below_alloc | apply pw_below_drewN | apply below_drew1) | exact HB.out)))); have n2_ := Aside0.mk (below_step (by repeat (first | (with_reducible first | exact HB.out | apply below_alloc | apply pw_below_drewN | apply below_drew1) | exact HB.out)) hb); clear HO364 HB; have HO364 := n0_; have HO371 := n1_; have HB := n2_; clear n0_ n1_ n2_; (try clear hb); (try clear hb2); (try clear hk); (try clear hi); (try clear ho0)
         refine hK.out _ _ trivial (fun hHeld => ?_)
         clear hK K
         refine norm_ (a' := ?_) ?_ ?_
         rotate_left
         ·show Act.put _ (some 38) _ = _
          simp only [Act.put, List.setIfInBounds_toArray, List.set_cons_zero, List.set_cons_succ, i64_w, i32_w]
          rfl
         refine pure_ (i := 5) (N := some 0) (v := ?_) (a' := ?_) #[true, true, true, true, true, true, false] rfl rfl (by kernel_rfl) (fun _ _ _ h => h) (Or.inl ⟨by rfl, ?_⟩) ?_ ?_
         rotate_left
         ·intro w'
          go_simp
          with_reducible rfl
         rotate_left
         ·simp only [Act.put, List.setIfInBounds_toArray, List.set_cons_zero, List.set_cons_succ, i64_w, i32_w]
          rfl
         refine pure_ (i := 6) (N := some 1) (v := ?_) (a' := ?_) #[true, true, true, true, true, true, true] rfl rfl (by kernel_rfl) (fun _ _ _ h => h) (Or.inl ⟨by rfl, ?_⟩) ?_ ?_
         rotate_left
         ·intro w'
          go_simp
          with_reducible rfl
         rotate_left
         ·simp only [Act.put, List.setIfInBounds_toArray, List.set_cons_zero, List.set_cons_succ, i64_w, i32_w]
          rfl
         refine done_ (by kernel_rfl) ?_
         obtain ⟨Ao40, co40, eo40⟩ := Kd.R_slice HO364.out
         subst eo40
         have p24 : 0 ≤ ((ji21) : Int) := of_decide_eq_true (by first | (with_reducible assumption) | assumption)
         have q24 : ((ji21) : Int) < ((t362.length : Int) : Int) := of_decide_eq_true (by first | (with_reducible assumption) | assumption)
         obtain ⟨go24, co24, eo24, gb24, gl24, cl24, HG24⟩ := Kd.R_form HO364.out (by omega)
         (first | cases eo24 | (injection eo24 with ea_ en_ ec_; (first | subst ea_ | (injection ea_ with ea_; subst ea_)); subst ec_; clear en_))
         have GB24 := Aside0.mk gb24
         have GG24 := Aside0.mk HG24
         clear gb24 gl24 HG24
         obtain ⟨ce24, hcl24, hM24, hcc24, hfr24⟩ := Kd.R_elem HO364.out z33 ((ji21) : Int) p24 q24
         obtain rfl := k33_openM hM24
         have hx24_0 : w39.cell? ⟨go24, ((ji21) : Int).toNat * 7, none⟩ = some (.int .i64 ((rd_T33 t362 (ji21)).f0)) := hcc24 0 _ rfl
         have hx24_1 : w39.cell? ⟨go24, ((ji21) : Int).toNat * 7 + 1, none⟩ = some (.string ((rd_T33 t362 (ji21)).f1)) := hcc24 1 _ rfl
         have hx24_2 : w39.cell? ⟨go24, ((ji21) : Int).toNat * 7 + 2, none⟩ = some (.int .i64 ((rd_T33 t362 (ji21)).f2)) := hcc24 2 _ rfl
         have hx24_3 : w39.cell? ⟨go24, ((ji21) : Int).toNat * 7 + 3, none⟩ = some (.int .i64 ((rd_T33 t362 (ji21)).f3)) := hcc24 3 _ rfl
         have hx24_4 : w39.cell? ⟨go24, ((ji21) : Int).toNat * 7 + 4, none⟩ = some (.int .i64 ((rd_T33 t362 (ji21)).f4)) := hcc24 4 _ rfl
         have hx24_5 : w39.cell? ⟨go24, ((ji21) : Int).toNat * 7 + 5, none⟩ = some (.int .i64 ((rd_T33 t362 (ji21)).f5)) := hcc24 5 _ rfl
         have hx24_6 : w39.cell? ⟨go24, ((ji21) : Int).toNat * 7 + 6, none⟩ = some (.int .i64 ((rd_T33 t362 (ji21)).f6)) := hcc24 6 _ rfl
         have hf24_0 : w39.frozen? ⟨go24, ((ji21) : Int).toNat * 7, none⟩ = false := hfr24 0
         have hf24_1 : w39.frozen? ⟨go24, ((ji21) : Int).toNat * 7 + 1, none⟩ = false := hfr24 1
         have hf24_2 : w39.frozen? ⟨go24, ((ji21) : Int).toNat * 7 + 2, none⟩ = false := hfr24 2
         have hf24_3 : w39.frozen? ⟨go24, ((ji21) : Int).toNat * 7 + 3, none⟩ = false := hfr24 3
         have hf24_4 : w39.frozen? ⟨go24, ((ji21) : Int).toNat * 7 + 4, none⟩ = false := hfr24 4
         have hf24_5 : w39.frozen? ⟨go24, ((ji21) : Int).toNat * 7 + 5, none⟩ = false := hfr24 5
         have hf24_6 : w39.frozen? ⟨go24, ((ji21) : Int).toNat * 7 + 6, none⟩ = false := hfr24 6
         clear hcl24 hcc24 hfr24 hM24
         replace p24 := eq_true p24
         replace q24 := eq_true q24
         have HX41 := Aside0.mk (show Kd.R k33 33 w39 w.heap.size (fun _ => True) (.slice (some ⟨go24, 0, none⟩) t362.length co40) t362 from (by (with_reducible repeat (first | apply Kd.R_alloc | apply Kd.R_drewN | apply Kd.R_drew)); exact HO364.out))
         obtain ⟨ce41, hcl41, hM41, hcc41, hfr41⟩ := Kd.R_elem HX41.out z33 ((ji21) : Int) (of_decide_eq_true (by first | (with_reducible assumption) | assumption)) (by have h_ : ((ji21) : Int) < ((t362.length : Int) : Int) := of_decide_eq_true (by first | (with_reducible assumption) | assumption); first | exact h_ | (have e_ := (Kd.R_reads' HO364.out).1; omega) | simpa using h_)
         obtain rfl := k33_openM hM41
         have HP41 := Kd.R_seg HX41.out ((ji21) : Int) (of_decide_eq_true (by first | (with_reducible assumption) | assumption)) (by have h_ : ((ji21) : Int) < ((t362.length : Int) : Int) := of_decide_eq_true (by first | (with_reducible assumption) | assumption); first | exact h_ | (have e_ := (Kd.R_reads' HO364.out).1; omega) | simpa using h_) (seg := [.int .i64 10000]) (j := 5) hcl41 hcc41 (show 6 ≤ 7 from by decide) (x' := (⟨(rd_T33 t362 (ji21)).f0, (rd_T33 t362 (ji21)).f1, (rd_T33 t362 (ji21)).f2, (rd_T33 t362 (ji21)).f3, (rd_T33 t362 (ji21)).f4, 10000, (rd_T33 t362 (ji21)).f6⟩ : S33)) (k33_mkM _ _ _ (⟨(rd_T33 t362 (ji21)).f0, (rd_T33 t362 (ji21)).f1, (rd_T33 t362 (ji21)).f2, (rd_T33 t362 (ji21)).f3, (rd_T33 t362 (ji21)).f4, 10000, (rd_T33 t362 (ji21)).f6⟩ : S33) ) (fun _ hk => hk)
         have hx41_5 := hcc41 5 _ rfl
         (try simp only [show (k33).sz = 7 from rfl, Nat.mul_one, Nat.add_zero] at hx41_5)
         have hf41_5 := hfr41 5
         (try simp only [show (k33).sz = 7 from rfl, Nat.mul_one, Nat.add_zero] at hf41_5)
         clear hcl41 hcc41 hfr41 hM41
         go_upto_region 10 with (first | ((with_reducible refine gate_store (t := 3) (p := 49) rfl ?_); refine store_event (t := 3) (p := 49) (v := ?vo_w42) (w1 := (w39.setCell ⟨go24, ((ji21) : Int).toNat * 7 + 5, none⟩ (.int .i64 10000))) ?hg ?ho ?hn ?hr ?_; (case ho => rfl); (case hg => rfl); (case hn => rfl); (case hr => first | (go_simp; done) | (go_simp; rfl)); intro w42 hw; have hg : w39.grownBy w42 (some go24) := (by rw [hw]; exact HP41.2); have hp_ : Kd.R k33 33 w42 w.heap.size (fun _ => True) (.slice (some ⟨go24, 0, none⟩) t362.length co40) y372 := (by rw [hw, Ny372.out]; exact HP41.1); clear HP41; have n0_ := Aside0.mk (hp_); have n1_ := Aside0.mk (Kd.R_over' (v := (.slice (some ⟨go24, 0, none⟩) t362.length co40)) (by (with_reducible repeat (first | apply Kd.R_alloc | apply Kd.R_drewN | apply Kd.R_drew)); exact HO371.out) (Kd.R_typed HO364.out) (by decide) hg); have n2_ := Aside0.mk ((by rw [hw]; exact below_set (HB.out) GB24.out : Below w.heap.size w w42)); clear HO364; clear HO371; clear HB; have HO364 := n0_; have HO371 := n1_; have HB := n2_; clear n0_ n1_ n2_; clear hg hw hp_; have p25 : 0 ≤ ((ji21) : Int) := of_decide_eq_true (by first | (with_reducible assumption) | assumption); have q25 : ((ji21) : Int) < ((t362.length : Int) : Int) := of_decide_eq_true (by first | (with_reducible assumption) | assumption); obtain ⟨ce25, hcl25, hM25, hcc25, hfr25⟩ := Kd.R_elem HO364.out z33 ((ji21) : Int) p25 q25; obtain rfl := k33_openM hM25; have hx25_0 : w42.cell? ⟨go24, ((ji21) : Int).toNat * 7, none⟩ = some (.int .i64 ((rd_T33 y372 (ji21)).f0)) := hcc25 0 _ rfl; have hx25_1 : w42.cell? ⟨go24, ((ji21) : Int).toNat * 7 + 1, none⟩ = some (.string ((rd_T33 y372 (ji21)).f1)) := hcc25 1 _ rfl; have hx25_2 : w42.cell? ⟨go24, ((ji21) : Int).toNat * 7 + 2, none⟩ = some (.int .i64 ((rd_T33 y372 (ji21)).f2)) := hcc25 2 _ rfl; have hx25_3 : w42.cell? ⟨go24, ((ji21) : Int).toNat * 7 + 3, none⟩ = some (.int .i64 ((rd_T33 y372 (ji21)).f3)) := hcc25 3 _ rfl; have hx25_4 : w42.cell? ⟨go24, ((ji21) : Int).toNat * 7 + 4, none⟩ = some (.int .i64 ((rd_T33 y372 (ji21)).f4)) := hcc25 4 _ rfl; have hx25_5 : w42.cell? ⟨go24, ((ji21) : Int).toNat * 7 + 5, none⟩ = some (.int .i64 ((rd_T33 y372 (ji21)).f5)) := hcc25 5 _ rfl; have hx25_6 : w42.cell? ⟨go24, ((ji21) : Int).toNat * 7 + 6, none⟩ = some (.int .i64 ((rd_T33 y372 (ji21)).f6)) := hcc25 6 _ rfl; have hf25_0 : w42.frozen? ⟨go24, ((ji21) : Int).toNat * 7, none⟩ = false := hfr25 0; have hf25_1 : w42.frozen? ⟨go24, ((ji21) : Int).toNat * 7 + 1, none⟩ = false := hfr25 1; have hf25_2 : w42.frozen? ⟨go24, ((ji21) : Int).toNat * 7 + 2, none⟩ = false := hfr25 2; have hf25_3 : w42.frozen? ⟨go24, ((ji21) : Int).toNat * 7 + 3, none⟩ = false := hfr25 3; have hf25_4 : w42.frozen? ⟨go24, ((ji21) : Int).toNat * 7 + 4, none⟩ = false := hfr25 4; have hf25_5 : w42.frozen? ⟨go24, ((ji21) : Int).toNat * 7 + 5, none⟩ = false := hfr25 5; have hf25_6 : w42.frozen? ⟨go24, ((ji21) : Int).toNat * 7 + 6, none⟩ = false := hfr25 6; clear hcl25 hcc25 hfr25 hM25; replace p25 := eq_true p25; replace q25 := eq_true q25; have HX43 := Aside0.mk (show Kd.R k33 33 w42 w.heap.size (fun _ => True) (.slice (some ⟨go24, 0, none⟩) t362.length co40) y372 from (by (with_reducible repeat (first | apply Kd.R_alloc | apply Kd.R_drewN | apply Kd.R_drew)); exact HO364.out)); obtain ⟨ce43, hcl43, hM43, hcc43, hfr43⟩ := Kd.R_elem HX43.out z33 ((ji21) : Int) (of_decide_eq_true (by first | (with_reducible assumption) | assumption)) (by have h_ : ((ji21) : Int) < ((t362.length : Int) : Int) := of_decide_eq_true (by first | (with_reducible assumption) | assumption); first | exact h_ | (have e_ := (Kd.R_reads' HO364.out).1; omega) | simpa using h_); obtain rfl := k33_openM hM43; have HP43 := Kd.R_seg HX43.out ((ji21) : Int) (of_decide_eq_true (by first | (with_reducible assumption) | assumption)) (by have h_ : ((ji21) : Int) < ((t362.length : Int) : Int) := of_decide_eq_true (by first | (with_reducible assumption) | assumption); first | exact h_ | (have e_ := (Kd.R_reads' HO364.out).1; omega) | simpa using h_) (seg := [.int .i64 0]) (j := 6) hcl43 hcc43 (show 7 ≤ 7 from by decide) (x' := (⟨(rd_T33 y372 (ji21)).f0, (rd_T33 y372 (ji21)).f1, (rd_T33 y372 (ji21)).f2, (rd_T33 y372 (ji21)).f3, (rd_T33 y372 (ji21)).f4, (rd_T33 y372 (ji21)).f5, 0⟩ : S33)) (k33_mkM _ _ _ (⟨(rd_T33 y372 (ji21)).f0, (rd_T33 y372 (ji21)).f1, (rd_T33 y372 (ji21)).f2, (rd_T33 y372 (ji21)).f3, (rd_T33 y372 (ji21)).f4, (rd_T33 y372 (ji21)).f5, 0⟩ : S33) ) (fun _ hk => hk); have hx43_6 := hcc43 6 _ rfl; (try simp only [show (k33).sz = 7 from rfl, Nat.mul_one, Nat.add_zero] at hx43_6); have hf43_6 := hfr43 6; (try simp only [show (k33).sz = 7 from rfl, Nat.mul_one, Nat.add_zero] at hf43_6); clear hcl43 hcc43 hfr43 hM43) | ((with_reducible refine gate_store (t := 3) (p := 51) rfl ?_); refine store_event (t := 3) (p := 51) (v := ?vo_w44) (w1 := (w42.setCell ⟨go24, ((ji21) : Int).toNat * 7 + 6, none⟩ (.int .i64 0))) ?hg ?ho ?hn ?hr ?_; (case ho => rfl); (case hg => rfl); (case hn => rfl); (case hr => first | (go_simp; done) | (go_simp; rfl)); intro w44 hw; have hg : w42.grownBy w44 (some go24) := (by rw [hw]; exact HP43.2); have hp_ : Kd.R k33 33 w44 w.heap.size (fun _ => True) (.slice (some ⟨go24, 0, none⟩) t362.length co40) y373 := (by rw [hw, Ny373.out]; exact HP43.1); clear HP43; have n0_ := Aside0.mk (hp_); have n1_ := Aside0.mk (Kd.R_over' (v := (.slice (some ⟨go24, 0, none⟩) t362.length co40)) (by (with_reducible repeat (first | apply Kd.R_alloc | apply Kd.R_drewN | apply Kd.R_drew)); exact HO371.out) (Kd.R_typed HO364.out) (by decide) hg); have n2_ := Aside0.mk ((by rw [hw]; exact below_set (HB.out) GB24.out : Below w.heap.size w w44)); clear HO364; clear HO371; clear HB; have HO364 := n0_; have HO371 := n1_; have HB := n2_; clear n0_ n1_ n2_; clear hg hw hp_; have p374 : 0 ≤ ((ji21) : Int) := of_decide_eq_true (by first | (with_reducible assumption) | assumption); have q374 : (ji21) < (y373.length : Int) := (by have h_ : ((ji21) : Int) < ((t362.length : Int) : Int) := of_decide_eq_true (by first | (with_reducible assumption) | assumption); first | (have e_ := (Kd.R_reads' HO364.out).1; omega) | simpa only [Ny372.out, Ny373.out, List.length_set] using h_); have ql374 : (((ji21) : Int) < ((t362.length : Int) : Int)) = True := eq_true (of_decide_eq_true (by first | (with_reducible assumption) | assumption)); obtain ⟨ad374, e374, hx374_0, hx374_1, hx374_2, hx374_3, hx374_4, hx374_5, hx374_6⟩ := at_T33 (Kd.R_reads' HO364.out).2.2 (ji21) p374 q374; obtain rfl : (⟨go24, 0, none⟩ : Addr) = ad374 := (by injection e374); (first | simp only [add_plain] at hx374_0 | simp only [add_at] at hx374_0 | simp only [Addr.add, Nat.zero_add] at hx374_0 | skip); (first | simp only [add_plain] at hx374_1 | simp only [add_at] at hx374_1 | simp only [Addr.add, Nat.zero_add] at hx374_1 | skip); (first | simp only [add_plain] at hx374_2 | simp only [add_at] at hx374_2 | simp only [Addr.add, Nat.zero_add] at hx374_2 | skip); (first | simp only [add_plain] at hx374_3 | simp only [add_at] at hx374_3 | simp only [Addr.add, Nat.zero_add] at hx374_3 | skip); (first | simp only [add_plain] at hx374_4 | simp only [add_at] at hx374_4 | simp only [Addr.add, Nat.zero_add] at hx374_4 | skip); (first | simp only [add_plain] at hx374_5 | simp only [add_at] at hx374_5 | simp only [Addr.add, Nat.zero_add] at hx374_5 | skip); (first | simp only [add_plain] at hx374_6 | simp only [add_at] at hx374_6 | simp only [Addr.add, Nat.zero_add] at hx374_6 | skip); replace p374 := eq_true p374; replace q374 := eq_true q374; have p27 : 0 ≤ (0 : Int) := (by omega); have q27 : (0 : Int) < ((t369.length : Int) : Int) := of_decide_eq_true (by first | (with_reducible assumption) | assumption); have qi27 : (0 < t369.length) = True := eq_true (by omega); obtain ⟨go27, co27, eo27, gb27, gl27, cl27, HG27⟩ := Kd.R_form HO371.out (by omega); (first | cases eo27 | (injection eo27 with ea_ en_ ec_; (first | subst ea_ | (injection ea_ with ea_; subst ea_)); subst ec_; clear en_)); have GB27 := Aside0.mk gb27; have GG27 := Aside0.mk HG27; clear gb27 gl27 HG27; obtain ⟨ce27, hcl27, hM27, hcc27, hfr27⟩ := Kd.R_elem HO371.out z25 (0 : Int) p27 q27; obtain rfl := k25_openM hM27; have hx27_0 : w44.cell? ⟨go27, (0 : Int).toNat * 5, none⟩ = some (.int .i64 ((rd_T25 t369 0).f0)) := hcc27 0 _ rfl; have hx27_1 : w44.cell? ⟨go27, (0 : Int).toNat * 5 + 1, none⟩ = some (.int .i64 ((rd_T25 t369 0).f1)) := hcc27 1 _ rfl; have hx27_2 : w44.cell? ⟨go27, (0 : Int).toNat * 5 + 2, none⟩ = some (.int .i64 ((rd_T25 t369 0).f2)) := hcc27 2 _ rfl; have hx27_3 : w44.cell? ⟨go27, (0 : Int).toNat * 5 + 3, none⟩ = some (.int .i64 ((rd_T25 t369 0).f3)) := hcc27 3 _ rfl; have hx27_4 : w44.cell? ⟨go27, (0 : Int).toNat * 5 + 4, none⟩ = some (.int .i64 ((rd_T25 t369 0).f4)) := hcc27 4 _ rfl; have hf27_0 : w44.frozen? ⟨go27, (0 : Int).toNat * 5, none⟩ = false := hfr27 0; have hf27_1 : w44.frozen? ⟨go27, (0 : Int).toNat * 5 + 1, none⟩ = false := hfr27 1; have hf27_2 : w44.frozen? ⟨go27, (0 : Int).toNat * 5 + 2, none⟩ = false := hfr27 2; have hf27_3 : w44.frozen? ⟨go27, (0 : Int).toNat * 5 + 3, none⟩ = false := hfr27 3; have hf27_4 : w44.frozen? ⟨go27, (0 : Int).toNat * 5 + 4, none⟩ = false := hfr27 4; clear hcl27 hcc27 hfr27 hM27; (try rw [show ((0 : Int)).toNat = 0 from rfl] at hx27_0); (try simp only [Nat.reduceMul, Nat.zero_mul, Nat.zero_add, Nat.reduceAdd] at hx27_0); (try rw [show ((0 : Int)).toNat = 0 from rfl] at hf27_0); (try simp only [Nat.reduceMul, Nat.zero_mul, Nat.zero_add, Nat.reduceAdd] at hf27_0); (try rw [show ((0 : Int)).toNat = 0 from rfl] at hx27_1); (try simp only [Nat.reduceMul, Nat.zero_mul, Nat.zero_add, Nat.reduceAdd] at hx27_1); (try rw [show ((0 : Int)).toNat = 0 from rfl] at hf27_1); (try simp only [Nat.reduceMul, Nat.zero_mul, Nat.zero_add, Nat.reduceAdd] at hf27_1); (try rw [show ((0 : Int)).toNat = 0 from rfl] at hx27_2); (try simp only [Nat.reduceMul, Nat.zero_mul, Nat.zero_add, Nat.reduceAdd] at hx27_2); (try rw [show ((0 : Int)).toNat = 0 from rfl] at hf27_2); (try simp only [Nat.reduceMul, Nat.zero_mul, Nat.zero_add, Nat.reduceAdd] at hf27_2); (try rw [show ((0 : Int)).toNat = 0 from rfl] at hx27_3); (try simp only [Nat.reduceMul, Nat.zero_mul, Nat.zero_add, Nat.reduceAdd] at hx27_3); (try rw [show ((0 : Int)).toNat = 0 from rfl] at hf27_3); (try simp only [Nat.reduceMul, Nat.zero_mul, Nat.zero_add, Nat.reduceAdd] at hf27_3); (try rw [show ((0 : Int)).toNat = 0 from rfl] at hx27_4); (try simp only [Nat.reduceMul, Nat.zero_mul, Nat.zero_add, Nat.reduceAdd] at hx27_4); (try rw [show ((0 : Int)).toNat = 0 from rfl] at hf27_4); (try simp only [Nat.reduceMul, Nat.zero_mul, Nat.zero_add, Nat.reduceAdd] at hf27_4); replace p27 := eq_true p27; replace q27 := eq_true q27; have HX45 := Aside0.mk (show Kd.R k25 25 w44 w.heap.size (fun _ => True) (.slice (some ⟨go27, 0, none⟩) t369.length co27) t369 from (by (with_reducible repeat (first | apply Kd.R_alloc | apply Kd.R_drewN | apply Kd.R_drew)); exact HO371.out)); obtain ⟨ce45, hcl45, hM45, hcc45, hfr45⟩ := Kd.R_elem HX45.out z25 (0 : Int) (by omega) (by have h_ : (0 : Int) < ((t369.length : Int) : Int) := of_decide_eq_true (by first | (with_reducible assumption) | assumption); first | exact h_ | (have e_ := (Kd.R_reads' HO371.out).1; omega) | simpa using h_); obtain rfl := k25_openM hM45; have HP45 := Kd.R_seg HX45.out (0 : Int) (by omega) (by have h_ : (0 : Int) < ((t369.length : Int) : Int) := of_decide_eq_true (by first | (with_reducible assumption) | assumption); first | exact h_ | (have e_ := (Kd.R_reads' HO371.out).1; omega) | simpa using h_) (seg := [.int .i64 ((rd_T33 y373 (ji21)).f0)]) (j := 4) hcl45 hcc45 (show 5 ≤ 5 from by decide) (x' := (⟨(rd_T25 t369 0).f0, (rd_T25 t369 0).f1, (rd_T25 t369 0).f2, (rd_T25 t369 0).f3, (rd_T33 y373 (ji21)).f0⟩ : S25)) (k25_mkM _ _ _ (⟨(rd_T25 t369 0).f0, (rd_T25 t369 0).f1, (rd_T25 t369 0).f2, (rd_T25 t369 0).f3, (rd_T33 y373 (ji21)).f0⟩ : S25) ) (fun _ hk => hk); have hx45_4 := hcc45 4 _ rfl; (try simp only [show (k25).sz = 5 from rfl, Nat.mul_one, Nat.add_zero] at hx45_4); (try rw [show ((0 : Int)).toNat = 0 from rfl] at hx45_4); (try simp only [Nat.reduceMul, Nat.zero_mul, Nat.zero_add, Nat.reduceAdd] at hx45_4); have hf45_4 := hfr45 4; (try simp only [show (k25).sz = 5 from rfl, Nat.mul_one, Nat.add_zero] at hf45_4); (try rw [show ((0 : Int)).toNat = 0 from rfl] at hf45_4); (try simp only [Nat.reduceMul, Nat.zero_mul, Nat.zero_add, Nat.reduceAdd] at hf45_4); clear hcl45 hcc45 hfr45 hM45) | ((with_reducible refine gate_store (t := 3) (p := 59) rfl ?_); refine store_event (t := 3) (p := 59) (v := ?vo_w46) (w1 := (w44.setCell ⟨go27, 4, none⟩ (.int .i64 ((rd_T33 y373 (ji21)).f0)))) ?hg ?ho ?hn ?hr ?_; (case ho => rfl); (case hg => rfl); (case hn => rfl); (case hr => first | (go_simp; done) | (go_simp; rfl)); intro w46 hw; have hg : w44.grownBy w46 (some go27) := (by rw [hw]; exact HP45.2); have hp_ : Kd.R k25 25 w46 w.heap.size (fun _ => True) (.slice (some ⟨go27, 0, none⟩) t369.length co27) y375 := (by rw [hw, Ny375.out]; exact HP45.1); clear HP45; have n0_ := Aside0.mk (Kd.R_over' (v := (.slice (some ⟨go27, 0, none⟩) t369.length co27)) (by (with_reducible repeat (first | apply Kd.R_alloc | apply Kd.R_drewN | apply Kd.R_drew)); exact HO364.out) (Kd.R_typed HO371.out) (by decide) hg); have n1_ := Aside0.mk (hp_); have n2_ := Aside0.mk ((by rw [hw]; exact below_set (HB.out) GB27.out : Below w.heap.size w w46)); clear HO364; clear HO371; clear HB; have HO364 := n0_; have HO371 := n1_; have HB := n2_; clear n0_ n1_ n2_; clear hg hw hp_) | ((with_reducible refine gate_callee (f := 13) rfl ?_); refine goesL_ (some 62) rfl rfl Try.func13 (by kernel_rfl) rfl #[.slice (some ⟨go24, 0, none⟩) y373.length co40] rfl (by (try simp only [List.map_toArray, List.map_cons, List.map_nil]); first | done | (rw [show y373.length = t362.length from (Kd.R_reads' HO364.out).1.symm] <;> rfl) | rfl | (simp only [List.length_drop, List.length_take]; rfl)) ?_; (with_reducible refine (api_Relief_13.calls _ _ y373 t376 _ ?side1 ?side2 A28.out).mono ?_); (case side1 => repeat (first | exact (Kd.R_reads' HO364.out).2.2 | (with_reducible refine Kd.C_alloc ?_ _) | (with_reducible refine Kd.C_drewN ?_ _) | (with_reducible refine Kd.C_drew ?_))); (case side2 => rw [show y373.length = t362.length from (Kd.R_reads' HO364.out).1.symm]; exact (Kd.R_reads' HO364.out).2.1); rintro e w47 ⟨v377, rfl, ho0, hb⟩; refine ⟨_, rfl, ?_⟩; have n0_ := Aside0.mk (Kd.R_elder' (by (with_reducible repeat (first | apply Kd.R_alloc | apply Kd.R_drewN | apply Kd.R_drew)); exact HO364.out) (Kd.R_base ho0) hb); have n1_ := Aside0.mk (Kd.R_below (by (with_reducible repeat (first | apply Kd.R_alloc | apply Kd.R_drewN | apply Kd.R_drew)); exact HO371.out) hb); have n2_ := Aside0.mk (Kd.R_lower (Kd.R_new' ho0 (Kd.R_lt (by (with_reducible repeat (first | apply Kd.R_alloc | apply Kd.R_drewN | apply Kd.R_drew)); exact HO364.out))) (below_size (by repeat (first | (with_reducible first | exact HB.out | apply below_alloc | apply pw_below_drewN | apply below_drew1) | exact HB.out)))); have n3_ := Aside0.mk (below_step (by repeat (first | (with_reducible first | exact HB.out | apply below_alloc | apply pw_below_drewN | apply below_drew1) | exact HB.out)) hb); clear HO364; clear HO371; clear HB; have HO364 := n0_; have HO371 := n1_; have HO378 := n2_; have HB := n3_; clear n0_ n1_ n2_ n3_; (try clear hb); (try clear hb2); (try clear hk); (try clear hi); (try clear ho0); obtain ⟨Ao48, co48, eo48⟩ := Kd.R_slice HO378.out; subst eo48) | ((with_reducible refine gate_callee (f := 16) rfl ?_); refine goesL_ (some 63) rfl rfl Try.func16 (by kernel_rfl) rfl #[.slice Ao48 t376.length co48] rfl (by (try simp only [List.map_toArray, List.map_cons, List.map_nil]); first | done | rfl | (simp only [List.length_drop, List.length_take]; rfl)) ?_; (with_reducible refine (relief_Check.calls kj3 _ _ t376 t379 t380 _ ?side1 ?side2 A29.out).mono ?_); (case side1 => repeat (first | exact (Kd.R_reads' HO378.out).2.2 | (with_reducible refine Kd.C_alloc ?_ _) | (with_reducible refine Kd.C_drewN ?_ _) | (with_reducible refine Kd.C_drew ?_))); (case side2 => exact (Kd.R_reads' HO378.out).2.1); rintro e w49 ⟨rfl, hb⟩; refine ⟨_, rfl, ?_⟩; have n0_ := Aside0.mk (Kd.R_below (by (with_reducible repeat (first | apply Kd.R_alloc | apply Kd.R_drewN | apply Kd.R_drew)); exact HO364.out) hb); have n1_ := Aside0.mk (Kd.R_below (by (with_reducible repeat (first | apply Kd.R_alloc | apply Kd.R_drewN | apply Kd.R_drew)); exact HO371.out) hb); have n2_ := Aside0.mk (Kd.R_below (by (with_reducible repeat (first | apply Kd.R_alloc | apply Kd.R_drewN | apply Kd.R_drew)); exact HO378.out) hb); have n3_ := Aside0.mk (below_step (by repeat (first | (with_reducible first | exact HB.out | apply below_alloc | apply pw_below_drewN | apply below_drew1) | exact HB.out)) hb); clear HO364; clear HO371; clear HO378; clear HB; have HO364 := n0_; have HO371 := n1_; have HO378 := n2_; have HB := n3_; clear n0_ n1_ n2_ n3_; (try clear hb); (try clear hb2); (try clear hk); (try clear hi)) | ((with_reducible refine gate_callee (f := 14) rfl ?_); refine goesL_ (some 68) rfl rfl Try.func14 (by kernel_rfl) rfl #[.slice (some ⟨go27, 0, none⟩) y375.length co27] rfl (by (try simp only [List.map_toArray, List.map_cons, List.map_nil]); first | done | (rw [show y375.length = t369.length from (Kd.R_reads' HO371.out).1.symm] <;> rfl) | rfl | (simp only [List.length_drop, List.length_take]; rfl)) ?_; (with_reducible refine (api_Item_14.calls _ _ y375 t381 _ ?side1 ?side2 A30.out).mono ?_); (case side1 => repeat (first | exact (Kd.R_reads' HO371.out).2.2 | (with_reducible refine Kd.C_alloc ?_ _) | (with_reducible refine Kd.C_drewN ?_ _) | (with_reducible refine Kd.C_drew ?_))); (case side2 => rw [show y375.length = t369.length from (Kd.R_reads' HO371.out).1.symm]; exact (Kd.R_reads' HO371.out).2.1); rintro e w50 ⟨v382, rfl, ho0, hb⟩; refine ⟨_, rfl, ?_⟩; have n0_ := Aside0.mk (Kd.R_below (by (with_reducible repeat (first | apply Kd.R_alloc | apply Kd.R_drewN | apply Kd.R_drew)); exact HO364.out) hb); have n1_ := Aside0.mk (Kd.R_elder' (by (with_reducible repeat (first | apply Kd.R_alloc | apply Kd.R_drewN | apply Kd.R_drew)); exact HO371.out) (Kd.R_base ho0) hb); have n2_ := Aside0.mk (Kd.R_below (by (with_reducible repeat (first | apply Kd.R_alloc | apply Kd.R_drewN | apply Kd.R_drew)); exact HO378.out) hb); have n3_ := Aside0.mk (Kd.R_lower (Kd.R_new' ho0 (Kd.R_lt (by (with_reducible repeat (first | apply Kd.R_alloc | apply Kd.R_drewN | apply Kd.R_drew)); exact HO371.out))) (below_size (by repeat (first | (with_reducible first | exact HB.out | apply below_alloc | apply pw_below_drewN | apply below_drew1) | exact HB.out)))); have n4_ := Aside0.mk (below_step (by repeat (first | (with_reducible first | exact HB.out | apply below_alloc | apply pw_below_drewN | apply below_drew1) | exact HB.out)) hb); clear HO364; clear HO371; clear HO378; clear HB; have HO364 := n0_; have HO371 := n1_; have HO378 := n2_; have HO383 := n3_; have HB := n4_; clear n0_ n1_ n2_ n3_ n4_; (try clear hb); (try clear hb2); (try clear hk); (try clear hi); (try clear ho0); obtain ⟨Ao51, co51, eo51⟩ := Kd.R_slice HO383.out; subst eo51) | ((with_reducible refine gate_callee (f := 18) rfl ?_); refine goesL_ (some 69) rfl rfl Try.func18 (by kernel_rfl) rfl #[.slice Ao51 t381.length co51] rfl (by (try simp only [List.map_toArray, List.map_cons, List.map_nil]); first | done | rfl | (simp only [List.length_drop, List.length_take]; rfl)) ?_; (with_reducible refine (relief_Items.calls kj3 _ _ t381 t384 t385 _ ?side1 ?side2 A31.out).mono ?_); (case side1 => repeat (first | exact (Kd.R_reads' HO383.out).2.2 | (with_reducible refine Kd.C_alloc ?_ _) | (with_reducible refine Kd.C_drewN ?_ _) | (with_reducible refine Kd.C_drew ?_))); (case side2 => exact (Kd.R_reads' HO383.out).2.1); rintro e w52 ⟨rfl, hb⟩; refine ⟨_, rfl, ?_⟩; have n0_ := Aside0.mk (Kd.R_below (by (with_reducible repeat (first | apply Kd.R_alloc | apply Kd.R_drewN | apply Kd.R_drew)); exact HO364.out) hb); have n1_ := Aside0.mk (Kd.R_below (by (with_reducible repeat (first | apply Kd.R_alloc | apply Kd.R_drewN | apply Kd.R_drew)); exact HO371.out) hb); have n2_ := Aside0.mk (Kd.R_below (by (with_reducible repeat (first | apply Kd.R_alloc | apply Kd.R_drewN | apply Kd.R_drew)); exact HO378.out) hb); have n3_ := Aside0.mk (Kd.R_below (by (with_reducible repeat (first | apply Kd.R_alloc | apply Kd.R_drewN | apply Kd.R_drew)); exact HO383.out) hb); have n4_ := Aside0.mk (below_step (by repeat (first | (with_reducible first | exact HB.out | apply below_alloc | apply pw_below_drewN | apply below_drew1) | exact HB.out)) hb); clear HO364; clear HO371; clear HO378; clear HO383; clear HB; have HO364 := n0_; have HO371 := n1_; have HO378 := n2_; have HO383 := n3_; have HB := n4_; clear n0_ n1_ n2_ n3_ n4_; (try clear hb); (try clear hb2); (try clear hk); (try clear hi)) | ((with_reducible refine gate_callee (f := 13) rfl ?_); refine goesL_ (some 74) rfl rfl Try.func13 (by kernel_rfl) rfl #[.slice (some ⟨go24, 0, none⟩) y373.length co40] rfl (by (try simp only [List.map_toArray, List.map_cons, List.map_nil]); first | done | (rw [show y373.length = t362.length from (Kd.R_reads' HO364.out).1.symm] <;> rfl) | rfl | (simp only [List.length_drop, List.length_take]; rfl)) ?_; (with_reducible refine (api_Relief_13.calls _ _ y373 t386 _ ?side1 ?side2 A32.out).mono ?_); (case side1 => repeat (first | exact (Kd.R_reads' HO364.out).2.2 | (with_reducible refine Kd.C_alloc ?_ _) | (with_reducible refine Kd.C_drewN ?_ _) | (with_reducible refine Kd.C_drew ?_))); (case side2 => rw [show y373.length = t362.length from (Kd.R_reads' HO364.out).1.symm]; exact (Kd.R_reads' HO364.out).2.1); rintro e w53 ⟨v387, rfl, ho0, hb⟩; refine ⟨_, rfl, ?_⟩; have n0_ := Aside0.mk (Kd.R_elder' (by (with_reducible repeat (first | apply Kd.R_alloc | apply Kd.R_drewN | apply Kd.R_drew)); exact HO364.out) (Kd.R_base ho0) hb); have n1_ := Aside0.mk (Kd.R_below (by (with_reducible repeat (first | apply Kd.R_alloc | apply Kd.R_drewN | apply Kd.R_drew)); exact HO371.out) hb); have n2_ := Aside0.mk (Kd.R_elder' (by (with_reducible repeat (first | apply Kd.R_alloc | apply Kd.R_drewN | apply Kd.R_drew)); exact HO378.out) (Kd.R_base ho0) hb); have n3_ := Aside0.mk (Kd.R_below (by (with_reducible repeat (first | apply Kd.R_alloc | apply Kd.R_drewN | apply Kd.R_drew)); exact HO383.out) hb); have n4_ := Aside0.mk (Kd.R_lower (Kd.R_new' (Kd.R_new' ho0 (Kd.R_lt (by (with_reducible repeat (first | apply Kd.R_alloc | apply Kd.R_drewN | apply Kd.R_drew)); exact HO364.out))) (Kd.R_lt (by (with_reducible repeat (first | apply Kd.R_alloc | apply Kd.R_drewN | apply Kd.R_drew)); exact HO378.out))) (below_size (by repeat (first | (with_reducible first | exact HB.out | apply below_alloc | apply pw_below_drewN | apply below_drew1) | exact HB.out)))); have n5_ := Aside0.mk (below_step (by repeat (first | (with_reducible first | exact HB.out | apply below_alloc | apply pw_below_drewN | apply below_drew1) | exact HB.out)) hb); clear HO364; clear HO371; clear HO378; clear HO383; clear HB; have HO364 := n0_; have HO371 := n1_; have HO378 := n2_; have HO383 := n3_; have HO388 := n4_; have HB := n5_; clear n0_ n1_ n2_ n3_ n4_ n5_; (try clear hb); (try clear hb2); (try clear hk); (try clear hi); (try clear ho0)) | ((with_reducible refine gate_callee (f := 14) rfl ?_); refine goesL_ (some 76) rfl rfl Try.func14 (by kernel_rfl) rfl #[.slice (some ⟨go27, 0, none⟩) y375.length co27] rfl (by (try simp only [List.map_toArray, List.map_cons, List.map_nil]); first | done | (rw [show y375.length = t369.length from (Kd.R_reads' HO371.out).1.symm] <;> rfl) | rfl | (simp only [List.length_drop, List.length_take]; rfl)) ?_; (with_reducible refine (api_Item_14.calls _ _ y375 t389 _ ?side1 ?side2 A33.out).mono ?_); (case side1 => repeat (first | exact (Kd.R_reads' HO371.out).2.2 | (with_reducible refine Kd.C_alloc ?_ _) | (with_reducible refine Kd.C_drewN ?_ _) | (with_reducible refine Kd.C_drew ?_))); (case side2 => rw [show y375.length = t369.length from (Kd.R_reads' HO371.out).1.symm]; exact (Kd.R_reads' HO371.out).2.1); rintro e w54 ⟨v390, rfl, ho0, hb⟩; refine ⟨_, rfl, ?_⟩; have n0_ := Aside0.mk (Kd.R_below (by (with_reducible repeat (first | apply Kd.R_alloc | apply Kd.R_drewN | apply Kd.R_drew)); exact HO364.out) hb); have n1_ := Aside0.mk (Kd.R_elder' (by (with_reducible repeat (first | apply Kd.R_alloc | apply Kd.R_drewN | apply Kd.R_drew)); exact HO371.out) (Kd.R_base ho0) hb); have n2_ := Aside0.mk (Kd.R_below (by (with_reducible repeat (first | apply Kd.R_alloc | apply Kd.R_drewN | apply Kd.R_drew)); exact HO378.out) hb); have n3_ := Aside0.mk (Kd.R_elder' (by (with_reducible repeat (first | apply Kd.R_alloc | apply Kd.R_drewN | apply Kd.R_drew)); exact HO383.out) (Kd.R_base ho0) hb); have n4_ := Aside0.mk (Kd.R_below (by (with_reducible repeat (first | apply Kd.R_alloc | apply Kd.R_drewN | apply Kd.R_drew)); exact HO388.out) hb); have n5_ := Aside0.mk (Kd.R_lower (Kd.R_new' (Kd.R_new' ho0 (Kd.R_lt (by (with_reducible repeat (first | apply Kd.R_alloc | apply Kd.R_drewN | apply Kd.R_drew)); exact HO371.out))) (Kd.R_lt (by (with_reducible repeat (first | apply Kd.R_alloc | apply Kd.R_drewN | apply Kd.R_drew)); exact HO383.out))) (below_size (by repeat (first | (with_reducible first | exact HB.out | apply below_alloc | apply pw_below_drewN | apply below_drew1) | exact HB.out)))); have n6_ := Aside0.mk (below_step (by repeat (first | (with_reducible first | exact HB.out | apply below_alloc | apply pw_below_drewN | apply below_drew1) | exact HB.out)) hb); clear HO364; clear HO371; clear HO378; clear HO383; clear HO388; clear HB; have HO364 := n0_; have HO371 := n1_; have HO378 := n2_; have HO383 := n3_; have HO388 := n4_; have HO391 := n5_; have HB := n6_; clear n0_ n1_ n2_ n3_ n4_ n5_ n6_; (try clear hb); (try clear hb2); (try clear hk); (try clear hi); (try clear ho0); obtain ⟨Ao55, co55, eo55⟩ := Kd.R_slice HO388.out; subst eo55; obtain ⟨Ao56, co56, eo56⟩ := Kd.R_slice HO391.out; subst eo56) | ((with_reducible refine gate_callee (f := 15) rfl ?_); refine goesL_ (some 77) rfl rfl Try.func15 (by kernel_rfl) rfl #[.slice Ao55 t386.length co55, .slice Ao56 t389.length co56] rfl (by (try simp only [List.map_toArray, List.map_cons, List.map_nil]); first | done | rfl | (simp only [List.length_drop, List.length_take]; rfl)) ?_; (with_reducible refine (relief_Grant.calls kj3 _ _ t386 _ _ t389 t392 t393 t394 _ ?side1 ?side2 ?side3 ?side4 A34.out).mono ?_); (case side1 => repeat (first | exact (Kd.R_reads' HO388.out).2.2 | (with_reducible refine Kd.C_alloc ?_ _) | (with_reducible refine Kd.C_drewN ?_ _) | (with_reducible refine Kd.C_drew ?_))); (case side2 => exact (Kd.R_reads' HO388.out).2.1); (case side3 => repeat (first | exact (Kd.R_reads' HO391.out).2.2 | (with_reducible refine Kd.C_alloc ?_ _) | (with_reducible refine Kd.C_drewN ?_ _) | (with_reducible refine Kd.C_drew ?_))); (case side4 => exact (Kd.R_reads' HO391.out).2.1); rintro e w57 ⟨v395, rfl, ho0, hb⟩; refine ⟨_, rfl, ?_⟩; have n0_ := Aside0.mk (Kd.R_below (by (with_reducible repeat (first | apply Kd.R_alloc | apply Kd.R_drewN | apply Kd.R_drew)); exact HO364.out) hb); have n1_ := Aside0.mk (Kd.R_below (by (with_reducible repeat (first | apply Kd.R_alloc | apply Kd.R_drewN | apply Kd.R_drew)); exact HO371.out) hb); have n2_ := Aside0.mk (Kd.R_below (by (with_reducible repeat (first | apply Kd.R_alloc | apply Kd.R_drewN | apply Kd.R_drew)); exact HO378.out) hb); have n3_ := Aside0.mk (Kd.R_below (by (with_reducible repeat (first | apply Kd.R_alloc | apply Kd.R_drewN | apply Kd.R_drew)); exact HO383.out) hb); have n4_ := Aside0.mk (Kd.R_below (by (with_reducible repeat (first | apply Kd.R_alloc | apply Kd.R_drewN | apply Kd.R_drew)); exact HO388.out) hb); have n5_ := Aside0.mk (Kd.R_below (by (with_reducible repeat (first | apply Kd.R_alloc | apply Kd.R_drewN | apply Kd.R_drew)); exact HO391.out) hb); have n6_ := Aside0.mk (Kd.R_lower ho0 (below_size (by repeat (first | (with_reducible first | exact HB.out | apply below_alloc | apply pw_below_drewN | apply below_drew1) | exact HB.out)))); have n7_ := Aside0.mk (below_step (by repeat (first | (with_reducible first | exact HB.out | apply below_alloc | apply pw_below_drewN | apply below_drew1) | exact HB.out)) hb); clear HO364; clear HO371; clear HO378; clear HO383; clear HO388; clear HO391; clear HB; have HO364 := n0_; have HO371 := n1_; have HO378 := n2_; have HO383 := n3_; have HO388 := n4_; have HO391 := n5_; have HO396 := n6_; have HB := n7_; clear n0_ n1_ n2_ n3_ n4_ n5_ n6_ n7_; (try clear hb); (try clear hb2); (try clear hk); (try clear hi); (try clear ho0)))
         (try simp only [Act.put, List.setIfInBounds_toArray, List.set_cons_zero, List.set_cons_succ])
         go_cut [86] (fun v86 wc => ∃ (kq : Nat) (x86_34 : Bool), v86 = .bool x86_34 ∧ Aside0 (spilelaw47_ReliefWhole.j1 kq y373 y375 ji21 t392 t393 t394 x86_34 = some r) ∧ Aside0 (kq ≤ kj3) ∧ Aside0 (Kd.R k33 33 wc w.heap.size (fun _ => True) (.slice (some ⟨go24, 0, none⟩) t362.length co40) y373) ∧ Aside0 (Kd.R k25 25 wc w.heap.size (fun _ => True) (.slice (some ⟨go27, 0, none⟩) t369.length co27) y375) ∧ Aside0 (Kd.R (Kd.int .i64) 3 wc w.heap.size (fun _ => True) v395 t392) ∧ Aside0 (Below w.heap.size w wc))
         case first =>
          have H := HC35.out; clear HC35
          by_cases c58 : t380 = 0
          ·rw [if_pos c58] at H
           have c58b0 : (t380 == 0) = true := beq_iff_eq.mpr c58
           have c58b1 : (t380 != 0) = false := bne_eq_false_iff_eq.mpr c58
           clear c58
           (first | rw [c58b0] | (simp only [i64_w, i32_w]; rw [c58b0]) | skip)
           have H' := Aside0.mk H
           clear H
           go_wp2
           go_meet
           case rel => exact ⟨_, ((t385 != 0)), (by first | rfl | (simp; done) | (simp [*]; done)), H', ⟨by have := HJ3.out; first | omega | exact Nat.le_refl _⟩, ⟨by (with_reducible repeat (first | apply Kd.R_alloc | apply Kd.R_drewN | apply Kd.R_drew)); exact Kd.R_mono HO364.out (fun _ hk => trivial)⟩, ⟨by (with_reducible repeat (first | apply Kd.R_alloc | apply Kd.R_drewN | apply Kd.R_drew)); exact Kd.R_mono HO371.out (fun _ hk => trivial)⟩, ⟨by (with_reducible repeat (first | apply Kd.R_alloc | apply Kd.R_drewN | apply Kd.R_drew)); exact HO396.out⟩, ⟨by repeat (first | (with_reducible first | exact HB.out | apply below_alloc | apply pw_below_drewN | apply below_drew1) | exact HB.out)⟩⟩
          ·rw [if_neg c58] at H
           have c58b0 : (t380 == 0) = false := beq_eq_false_iff_ne.mpr c58
           have c58b1 : (t380 != 0) = true := bne_iff_ne.mpr c58
           (first | rw [c58b0] | (simp only [i64_w, i32_w]; rw [c58b0]) | skip)
           have H' := Aside0.mk H
           clear H
           go_wp2
           go_meet
           case rel => exact ⟨_, (true), (by first | rfl | (simp; done) | (simp [*]; done)), H', ⟨by have := HJ3.out; first | omega | exact Nat.le_refl _⟩, ⟨by (with_reducible repeat (first | apply Kd.R_alloc | apply Kd.R_drewN | apply Kd.R_drew)); exact Kd.R_mono HO364.out (fun _ hk => trivial)⟩, ⟨by (with_reducible repeat (first | apply Kd.R_alloc | apply Kd.R_drewN | apply Kd.R_drew)); exact Kd.R_mono HO371.out (fun _ hk => trivial)⟩, ⟨by (with_reducible repeat (first | apply Kd.R_alloc | apply Kd.R_drewN | apply Kd.R_drew)); exact HO396.out⟩, ⟨by repeat (first | (with_reducible first | exact HB.out | apply below_alloc | apply pw_below_drewN | apply below_drew1) | exact HB.out)⟩⟩
         case rest =>
          clear HC35
          obtain ⟨kq, x86_34, rfl, HA, HJ34, HO_0, HO_1, HO_12, HB⟩ := hcut
          have hl0_34 := (Kd.R_reads' HO_0.out).1
          rw [hl0_34] at HO_0
          (try simp only [hl0_34])
          (try simp only [hl0_34] at HO_1)
          (try simp only [hl0_34] at HO_12)
          have hl1_34 := (Kd.R_reads' HO_1.out).1
          rw [hl1_34] at HO_1
          (try simp only [hl1_34])
          (try simp only [hl1_34] at HO_0)
          (try simp only [hl1_34] at HO_12)
          cases kq with
          | zero => exact absurd HA.out (by simp [spilelaw47_ReliefWhole.j1])
          | succ kj34 =>
           have H := HA.out; clear HA
           simp only [spilelaw47_ReliefWhole.j1] at H
           by_cases c59 : x86_34 = true
           ·subst c59
            have H1 : (if t394 = 1 then (if t393 = (-1) then (some ((t392.length : Int) == 0)) else (some false)) else (some false)) = some r := by rw [if_pos rfl] at H; exact H
            clear H; have H := H1; clear H1
            by_cases c60 : t394 = 1
            ·rw [if_pos c60] at H
             have c60b0 : (t394 == 1) = true := beq_iff_eq.mpr c60
             have c60b1 : (t394 != 1) = false := bne_eq_false_iff_eq.mpr c60
             clear c60
             by_cases c61 : t393 = (-1)
             ·rw [if_pos c61] at H
              have c61b0 : (t393 == (-1)) = true := beq_iff_eq.mpr c61
              have c61b1 : (t393 != (-1)) = false := bne_eq_false_iff_eq.mpr c61
              clear c61
              obtain rfl := Option.some.inj H
              obtain ⟨Ao62, co62, eo62⟩ := Kd.R_slice HO_12.out
              subst eo62
              go_wp2
              go_ret
              exact ⟨by first | rfl | (simp [errW_none, errW_some] <;> rfl) | (simp only [← hji21]; first | rfl | (simp [errW_none, errW_some] <;> rfl)) | (simp [*, errW_none, errW_some] <;> rfl), by repeat (first | (with_reducible first | exact HB.out | apply below_alloc | apply pw_below_drewN | apply below_drew1) | exact HB.out)⟩
             ·rw [if_neg c61] at H
              have c61b0 : (t393 == (-1)) = false := beq_eq_false_iff_ne.mpr c61
              have c61b1 : (t393 != (-1)) = true := bne_iff_ne.mpr c61
              rw [hr_] at H; exact absurd H (by simp)
            ·rw [if_neg c60] at H
             have c60b0 : (t394 == 1) = false := beq_eq_false_iff_ne.mpr c60
             have c60b1 : (t394 != 1) = true := bne_iff_ne.mpr c60
             rw [hr_] at H; exact absurd H (by simp)
           ·replace c59 := Bool.eq_false_iff.mpr c59
            subst c59
            have H1 : (if 0 ≤ ji21 then (if ji21 < (y373.length : Int) then (if 0 < (y375.length : Int) then ((relief_Applies.f ((rd_T33 y373 ji21).f0) ((rd_T33 y373 ji21).f1) ((rd_T33 y373 ji21).f2) ((rd_T33 y373 ji21).f3) ((rd_T33 y373 ji21).f4) ((rd_T33 y373 ji21).f5) ((rd_T33 y373 ji21).f6) ((rd_T25 y375 0).f0) ((rd_T25 y375 0).f1) ((rd_T25 y375 0).f2) ((rd_T25 y375 0).f3) ((rd_T25 y375 0).f4)).bind fun t399 => (if t399 = true then (if t394 = 0 then (if (t392.length : Int) = 1 then (if 0 < (t392.length : Int) then (some ((rd t392 0) == ((rd_T25 y375 0).f3))) else (none)) else (some false)) else (some false)) else (if t394 = 19 then (some (t393 == 0)) else (some false)))) else (none)) else (none)) else (none)) = some r := by rw [if_neg (show ¬ (false = true) by decide)] at H; exact H
            clear H; have H := H1; clear H1
            by_cases c63 : 0 ≤ ji21
            ·rw [if_pos c63] at H
             have c63b0 : decide (0 ≤ ji21) = true := decide_eq_true c63
             clear c63
             by_cases c64 : ji21 < (y373.length : Int)
             ·rw [if_pos c64] at H
              have c64b0 : decide (ji21 < (y373.length : Int)) = true := decide_eq_true c64
              clear c64
              by_cases c65 : 0 < (y375.length : Int)
              ·rw [if_pos c65] at H
               have c65b0 : decide (0 < (y375.length : Int)) = true := decide_eq_true c65
               have c65b1 : decide (0 < y375.length) = true := decide_eq_true (by omega)
               clear c65
               replace H := Option.bind_eq_some_iff.mp H
               obtain ⟨t399, A660, H⟩ := H
               try dsimp only at H
               have A66 := Aside0.mk A660
               clear A660
               by_cases c67 : t399 = true
               ·subst c67
                have H1 : (if t394 = 0 then (if (t392.length : Int) = 1 then (if 0 < (t392.length : Int) then (some ((rd t392 0) == ((rd_T25 y375 0).f3))) else (none)) else (some false)) else (some false)) = some r := by rw [if_pos rfl] at H; exact H
                clear H; have H := H1; clear H1
                by_cases c68 : t394 = 0
                ·rw [if_pos c68] at H
                 have c68b0 : (t394 == 0) = true := beq_iff_eq.mpr c68
                 have c68b1 : (t394 != 0) = false := bne_eq_false_iff_eq.mpr c68
                 clear c68
                 by_cases c69 : (t392.length : Int) = 1
                 ·rw [if_pos c69] at H
                  have c69b0 : ((t392.length : Int) == 1) = true := beq_iff_eq.mpr c69
                  have c69b1 : ((t392.length : Int) != 1) = false := bne_eq_false_iff_eq.mpr c69
                  clear c69
                  by_cases c70 : 0 < (t392.length : Int)
                  ·rw [if_pos c70] at H
                   have c70b0 : decide (0 < (t392.length : Int)) = true := decide_eq_true c70
                   have c70b1 : decide (0 < t392.length) = true := decide_eq_true (by omega)
                   clear c70
                   obtain rfl := Option.some.inj H
                   try go_wp2
                   have n0_ := Aside0.mk (Kd.R_drew HO_0.out); have n1_ := Aside0.mk (Kd.R_drew HO_1.out); have n2_ := Aside0.mk (Kd.R_drew HO_12.out); have n3_ := Aside0.mk (below_drew1 HB.out); clear HO_0 HO_1 HO_12 HB; have HO_0 := n0_; have HO_1 := n1_; have HO_12 := n2_; have HB := n3_; clear n0_ n1_ n2_ n3_
                   have p397 : 0 ≤ (ji21 : Int) := of_decide_eq_true (by first | (with_reducible assumption) | assumption)
                   have q397 : ji21 < (y373.length : Int) := of_decide_eq_true (by first | (with_reducible assumption) | assumption)
                   obtain ⟨ad397, e397, hx397_0, hx397_1, hx397_2, hx397_3, hx397_4, hx397_5, hx397_6⟩ := at_T33 (Kd.R_reads' HO_0.out).2.2 ji21 p397 q397
                   obtain rfl : (⟨go24, 0, none⟩ : Addr) = ad397 := (by injection e397)
                   (first | simp only [add_plain] at hx397_0 | simp only [add_at] at hx397_0 | simp only [Addr.add, Nat.zero_add] at hx397_0 | skip)
                   (first | simp only [add_plain] at hx397_1 | simp only [add_at] at hx397_1 | simp only [Addr.add, Nat.zero_add] at hx397_1 | skip)
                   (first | simp only [add_plain] at hx397_2 | simp only [add_at] at hx397_2 | simp only [Addr.add, Nat.zero_add] at hx397_2 | skip)
                   (first | simp only [add_plain] at hx397_3 | simp only [add_at] at hx397_3 | simp only [Addr.add, Nat.zero_add] at hx397_3 | skip)
                   (first | simp only [add_plain] at hx397_4 | simp only [add_at] at hx397_4 | simp only [Addr.add, Nat.zero_add] at hx397_4 | skip)
                   (first | simp only [add_plain] at hx397_5 | simp only [add_at] at hx397_5 | simp only [Addr.add, Nat.zero_add] at hx397_5 | skip)
                   (first | simp only [add_plain] at hx397_6 | simp only [add_at] at hx397_6 | simp only [Addr.add, Nat.zero_add] at hx397_6 | skip)
                   replace p397 := eq_true p397
                   replace q397 := eq_true q397
                   have p398 : 0 ≤ (0 : Int) := (by omega)
                   have q398 : 0 < (y375.length : Int) := of_decide_eq_true (by first | (with_reducible assumption) | assumption)
                   obtain ⟨ad398, e398, hx398_0, hx398_1, hx398_2, hx398_3, hx398_4⟩ := at_T25 (Kd.R_reads' HO_1.out).2.2 0 p398 q398
                   obtain rfl : (⟨go27, 0, none⟩ : Addr) = ad398 := (by injection e398)
                   (first | simp only [add_plain] at hx398_0 | simp only [add_at] at hx398_0 | simp only [Addr.add, Nat.zero_add] at hx398_0 | skip)
                   (first | simp only [add_plain] at hx398_1 | simp only [add_at] at hx398_1 | simp only [Addr.add, Nat.zero_add] at hx398_1 | skip)
                   (first | simp only [add_plain] at hx398_2 | simp only [add_at] at hx398_2 | simp only [Addr.add, Nat.zero_add] at hx398_2 | skip)
                   (first | simp only [add_plain] at hx398_3 | simp only [add_at] at hx398_3 | simp only [Addr.add, Nat.zero_add] at hx398_3 | skip)
                   (first | simp only [add_plain] at hx398_4 | simp only [add_at] at hx398_4 | simp only [Addr.add, Nat.zero_add] at hx398_4 | skip)
                   have qi398 : (0 < y375.length) = True := eq_true (by omega)
                   (try rw [show ((0 : Int)).toNat = 0 from rfl] at hx398_0)
                   (try rw [show 0 * 5 = 0 from rfl] at hx398_0)
                   (try rw [Addr.add_zero'] at hx398_0)
                   (try rw [show ((0 : Int)).toNat = 0 from rfl] at hx398_1)
                   (try rw [show 0 * 5 = 0 from rfl] at hx398_1)
                   (try rw [Addr.add_zero'] at hx398_1)
                   (try rw [show ((0 : Int)).toNat = 0 from rfl] at hx398_2)
                   (try rw [show 0 * 5 = 0 from rfl] at hx398_2)
                   (try rw [Addr.add_zero'] at hx398_2)
                   (try rw [show ((0 : Int)).toNat = 0 from rfl] at hx398_3)
                   (try rw [show 0 * 5 = 0 from rfl] at hx398_3)
                   (try rw [Addr.add_zero'] at hx398_3)
                   (try rw [show ((0 : Int)).toNat = 0 from rfl] at hx398_4)
                   (try rw [show 0 * 5 = 0 from rfl] at hx398_4)
                   (try rw [Addr.add_zero'] at hx398_4)
                   replace p398 := eq_true p398
                   replace q398 := eq_true q398
                   refine start_ (n := 9) (S := fun w' => w'.cell? ⟨go24, (ji21).toNat * 7, none⟩ = some (.int .i64 ((rd_T33 y373 ji21).f0)) ∧ w'.cell? ⟨go24, (ji21).toNat * 7 + 1, none⟩ = some (.string ((rd_T33 y373 ji21).f1)) ∧ w'.cell? ⟨go24, (ji21).toNat * 7 + 2, none⟩ = some (.int .i64 ((rd_T33 y373 ji21).f2)) ∧ w'.cell? ⟨go24, (ji21).toNat * 7 + 3, none⟩ = some (.int .i64 ((rd_T33 y373 ji21).f3)) ∧ w'.cell? ⟨go24, (ji21).toNat * 7 + 4, none⟩ = some (.int .i64 ((rd_T33 y373 ji21).f4)) ∧ w'.cell? ⟨go24, (ji21).toNat * 7 + 5, none⟩ = some (.int .i64 ((rd_T33 y373 ji21).f5)) ∧ w'.cell? ⟨go24, (ji21).toNat * 7 + 6, none⟩ = some (.int .i64 ((rd_T33 y373 ji21).f6)) ∧ w'.cell? ⟨go27, 0, none⟩ = some (.int .i64 ((rd_T25 y375 0).f0)) ∧ w'.cell? ⟨go27, 1, none⟩ = some (.int .i64 ((rd_T25 y375 0).f1)) ∧ w'.cell? ⟨go27, 2, none⟩ = some (.int .i64 ((rd_T25 y375 0).f2)) ∧ w'.cell? ⟨go27, 3, none⟩ = some (.int .i64 ((rd_T25 y375 0).f3)) ∧ w'.cell? ⟨go27, 4, none⟩ = some (.int .i64 ((rd_T25 y375 0).f4))) (ds := []) #[false, false, false, false, false, false, false, false, false] (by kernel_rfl) rfl rfl ⟨hx397_0, hx397_1, hx397_2, hx397_3, hx397_4, hx397_5, hx397_6, hx398_0, hx398_1, hx398_2, hx398_3, hx398_4⟩ (fun hHeld => ?_); refine with_tabW spilelaw47_ReliefWhole.tab12 spilelaw47_ReliefWhole.bits12 (fun HT_ HW_ => ?_)
                   generalize wc.drew = w71 at HO_0 HO_1 HO_12 HB hx397_0 hx397_1 hx397_2 hx397_3 hx397_4 hx397_5 hx397_6 hx398_0 hx398_1 hx398_2 hx398_3 hx398_4 hHeld ⊢
                   refine pure_ (i := 0) (N := some 98) (v := ?_) (a' := ?_) #[true, false, false, false, false, false, false, false, false] rfl rfl (any_of HT_.out (by kernel_rfl)) (fun _ _ _ h => h) (Or.inl ⟨by rfl, ?_⟩) ?_ ?_
                   rotate_left
                   ·intro w'
                    go_simp
                    with_reducible rfl
                   rotate_left
                   ·simp only [Act.put, List.setIfInBounds_toArray, List.set_cons_zero, List.set_cons_succ, i64_w, i32_w]
                    rfl
                   refine pure_ (i := 1) (N := some 99) (v := ?_) (a' := ?_) #[true, true, false, false, false, false, false, false, false] rfl rfl (any_of HT_.out (by kernel_rfl)) (fun _ _ _ h => h) (Or.inl ⟨by rfl, ?_⟩) ?_ ?_
                   rotate_left
                   ·intro w'
                    go_simp
                    with_reducible rfl
                   rotate_left
                   ·simp only [Act.put, List.setIfInBounds_toArray, List.set_cons_zero, List.set_cons_succ, i64_w, i32_w]
                    rfl
                   refine pure_ (i := 2) (N := some 100) (v := ?_) (a' := ?_) #[true, true, true, false, false, false, false, false, false] rfl rfl (any_of HT_.out (by kernel_rfl)) (fun _ _ _ h => h) (Or.inl ⟨by rfl, ?_⟩) ?_ ?_
                   rotate_left
                   ·intro w'
                    go_simp
                    with_reducible rfl
                   rotate_left
                   ·simp only [Act.put, List.setIfInBounds_toArray, List.set_cons_zero, List.set_cons_succ, i64_w, i32_w]
                    rfl
                   refine pure_ (i := 4) (N := some 102) (v := ?_) (a' := ?_) #[true, true, true, false, true, false, false, false, false] rfl rfl (any_of HT_.out (by kernel_rfl)) (fun _ _ _ h => h) (Or.inl ⟨by rfl, ?_⟩) ?_ ?_
                   rotate_left
                   ·intro w'
                    go_simp
                    with_reducible rfl
                   rotate_left
                   ·simp only [Act.put, List.setIfInBounds_toArray, List.set_cons_zero, List.set_cons_succ, i64_w, i32_w]
                    rfl
                   refine pure_ (i := 5) (N := some 103) (v := ?_) (a' := ?_) #[true, true, true, false, true, true, false, false, false] rfl rfl (any_of HT_.out (by kernel_rfl)) (fun _ _ _ h => h) (Or.inl ⟨by rfl, ?_⟩) ?_ ?_
                   rotate_left
                   ·intro w'
                    go_simp
                    with_reducible rfl
                   rotate_left
                   ·simp only [Act.put, List.setIfInBounds_toArray, List.set_cons_zero, List.set_cons_succ, i64_w, i32_w]
                    rfl
                   refine take_ (i := 3) (N := some 101) (v := ?_) (a' := ?_) #[true, true, true, true, true, true, false, false, false] rfl rfl (take_ofW HT_.out HW_.out (by kernel_rfl)) (fun _ _ _ h => h) (Or.inl ⟨by rfl, ?_⟩) hHeld ?_ ?_
                   rotate_left
                   ·rintro w' ⟨s0, s1, s2, s3, s4, s5, s6, s7, s8, s9, s10, s11⟩
                    go_simp
                    with_reducible rfl
                   rotate_left
                   ·simp only [Act.put, List.setIfInBounds_toArray, List.set_cons_zero, List.set_cons_succ, i64_w, i32_w]
                    rfl
                   refine take_ (i := 6) (N := some 104) (v := ?_) (a' := ?_) #[true, true, true, true, true, true, true, false, false] rfl rfl (take_ofW HT_.out HW_.out (by kernel_rfl)) (fun _ _ _ h => h) (Or.inl ⟨by rfl, ?_⟩) hHeld ?_ ?_
                   rotate_left
                   ·rintro w' ⟨s0, s1, s2, s3, s4, s5, s6, s7, s8, s9, s10, s11⟩
                    go_simp
                    with_reducible rfl
                   rotate_left
                   ·simp only [Act.put, List.setIfInBounds_toArray, List.set_cons_zero, List.set_cons_succ, i64_w, i32_w]
                    rfl
                   refine one_ (i := 7) (N := some 105) #[true, true, true, true, true, true, true, true, false] rfl rfl (one_of HT_.out (by kernel_rfl)) (by decide) (fun K hK => ?_)
                   refine goes_ Try.func20 (by kernel_rfl) rfl #[.agg #[.int .i64 ((rd_T33 y373 ji21).f0), .string ((rd_T33 y373 ji21).f1), .int .i64 ((rd_T33 y373 ji21).f2), .int .i64 ((rd_T33 y373 ji21).f3), .int .i64 ((rd_T33 y373 ji21).f4), .int .i64 ((rd_T33 y373 ji21).f5), .int .i64 ((rd_T33 y373 ji21).f6)], .agg #[.int .i64 ((rd_T25 y375 0).f0), .int .i64 ((rd_T25 y375 0).f1), .int .i64 ((rd_T25 y375 0).f2), .int .i64 ((rd_T25 y375 0).f3), .int .i64 ((rd_T25 y375 0).f4)]] (by rfl) rfl rfl (by (try simp only [List.map_toArray, List.map_cons, List.map_nil]); first | done | (simp only [hji21]; rfl) | rfl | (simp only [List.length_drop, List.length_take]; rfl)) ?_
                   with_reducible refine (relief_Applies.calls ((rd_T33 y373 ji21).f0) ((rd_T33 y373 ji21).f1) ((rd_T33 y373 ji21).f2) ((rd_T33 y373 ji21).f3) ((rd_T33 y373 ji21).f4) ((rd_T33 y373 ji21).f5) ((rd_T33 y373 ji21).f6) ((rd_T25 y375 0).f0) ((rd_T25 y375 0).f1) ((rd_T25 y375 0).f2) ((rd_T25 y375 0).f3) ((rd_T25 y375 0).f4) true _ A66.out).mono ?_
                   rintro e w72 ⟨rfl, hb⟩
                   have HS0_ := (hb.cell (World.block_lt_of_cell? _ _ (hHeld.1))).trans (hHeld.1); have HS1_ := (hb.cell (World.block_lt_of_cell? _ _ (hHeld.2.1))).trans (hHeld.2.1); have HS2_ := (hb.cell (World.block_lt_of_cell? _ _ (hHeld.2.2.1))).trans (hHeld.2.2.1); have HS3_ := (hb.cell (World.block_lt_of_cell? _ _ (hHeld.2.2.2.1))).trans (hHeld.2.2.2.1); have HS4_ := (hb.cell (World.block_lt_of_cell? _ _ (hHeld.2.2.2.2.1))).trans (hHeld.2.2.2.2.1); have HS5_ := (hb.cell (World.block_lt_of_cell? _ _ (hHeld.2.2.2.2.2.1))).trans (hHeld.2.2.2.2.2.1); have HS6_ := (hb.cell (World.block_lt_of_cell? _ _ (hHeld.2.2.2.2.2.2.1))).trans (hHeld.2.2.2.2.2.2.1); have HS7_ := (hb.cell (World.block_lt_of_cell? _ _ (hHeld.2.2.2.2.2.2.2.1))).trans (hHeld.2.2.2.2.2.2.2.1); have HS8_ := (hb.cell (World.block_lt_of_cell? _ _ (hHeld.2.2.2.2.2.2.2.2.1))).trans (hHeld.2.2.2.2.2.2.2.2.1); have HS9_ := (hb.cell (World.block_lt_of_cell? _ _ (hHeld.2.2.2.2.2.2.2.2.2.1))).trans (hHeld.2.2.2.2.2.2.2.2.2.1); have HS10_ := (hb.cell (World.block_lt_of_cell? _ _ (hHeld.2.2.2.2.2.2.2.2.2.2.1))).trans (hHeld.2.2.2.2.2.2.2.2.2.2.1); have HS11_ := (hb.cell (World.block_lt_of_cell? _ _ (hHeld.2.2.2.2.2.2.2.2.2.2.2))).trans (hHeld.2.2.2.2.2.2.2.2.2.2.2)
                   refine ⟨_, rfl, ?_⟩
                   have n0_ := Aside0.mk (Kd.R_below (by (with_reducible repeat (first | apply Kd.R_alloc | apply Kd.R_drewN | apply Kd.R_drew)); exact HO_0.out) hb); have n1_ := Aside0.mk (Kd.R_below (by (with_reducible repeat (first | apply Kd.R_alloc | apply Kd.R_drewN | apply Kd.R_drew)); exact HO_1.out) hb); have n2_ := Aside0.mk (Kd.R_below (by (with_reducible repeat (first | apply Kd.R_alloc | apply Kd.R_drewN | apply Kd.R_drew)); exact HO_12.out) hb); have n3_ := Aside0.mk (below_step (by repeat (first | (with_reducible first | exact HB.out | apply below_alloc | apply pw_below_drewN | apply below_drew1) | exact HB.out)) hb); clear HO_0 HO_1 HO_12 HB; have HO_0 := n0_; have HO_1 := n1_; have HO_12 := n2_; have HB := n3_; clear n0_ n1_ n2_ n3_; (try clear hb); (try clear hb2); (try clear hk); (try clear hi)
                   refine hK.out _ _ ⟨HS0_, HS1_, HS2_, HS3_, HS4_, HS5_, HS6_, HS7_, HS8_, HS9_, HS10_, HS11_⟩ (fun hHeld => ?_)
                   clear hK K
                   refine norm_ (a' := ?_) ?_ ?_
                   rotate_left
                   ·show Act.put _ (some 105) _ = _
                    simp only [Act.put, List.setIfInBounds_toArray, List.set_cons_zero, List.set_cons_succ, i64_w, i32_w]
                    rfl
                   refine pure_ (i := 8) (N := some 106) (v := ?_) (a' := ?_) #[true, true, true, true, true, true, true, true, true] rfl rfl (any_of HT_.out (by kernel_rfl)) (fun _ _ _ h => h) (Or.inl ⟨by rfl, ?_⟩) ?_ ?_
                   rotate_left
                   ·intro w'
                    go_simp
                    with_reducible rfl
                   rotate_left
                   ·simp only [Act.put, List.setIfInBounds_toArray, List.set_cons_zero, List.set_cons_succ, i64_w, i32_w]
                    rfl
                   refine done_ (done_of HT_.out (by kernel_rfl)) ?_
                   try go_wp2
                   have n0_ := Aside0.mk (Kd.R_drew HO_0.out); have n1_ := Aside0.mk (Kd.R_drew HO_1.out); have n2_ := Aside0.mk (Kd.R_drew HO_12.out); have n3_ := Aside0.mk (below_drew1 HB.out); clear HO_0 HO_1 HO_12 HB; have HO_0 := n0_; have HO_1 := n1_; have HO_12 := n2_; have HB := n3_; clear n0_ n1_ n2_ n3_
                   obtain ⟨Ao74, co74, eo74⟩ := Kd.R_slice HO_12.out
                   (first | subst eo74 | (injection eo74 with f1_ f2_ f3_; have f4_ := f1_.symm; have f5_ := f3_.symm; clear f1_ f2_ f3_; subst f4_; subst f5_))
                   have p400 : 0 ≤ (0 : Int) := (by omega)
                   have q400 : 0 < (t392.length : Int) := of_decide_eq_true (by first | (with_reducible assumption) | assumption)
                   obtain ⟨ad400, e400, hx400_0⟩ := Kd.at_int (Kd.R_reads' HO_12.out).2.2 0 p400 q400
                   cases e400
                   have qi400 : (0 < t392.length) = True := eq_true (by omega)
                   (try rw [show ((0 : Int)).toNat = 0 from rfl] at hx400_0)
                   (try rw [Addr.add_zero'] at hx400_0)
                   replace p400 := eq_true p400
                   replace q400 := eq_true q400
                   have p401 : 0 ≤ (0 : Int) := (by omega)
                   have q401 : 0 < (y375.length : Int) := of_decide_eq_true (by first | (with_reducible assumption) | assumption)
                   obtain ⟨ad401, e401, hx401_0, hx401_1, hx401_2, hx401_3, hx401_4⟩ := at_T25 (Kd.R_reads' HO_1.out).2.2 0 p401 q401
                   obtain rfl : (⟨go27, 0, none⟩ : Addr) = ad401 := (by injection e401)
                   (first | simp only [add_plain] at hx401_0 | simp only [add_at] at hx401_0 | simp only [Addr.add, Nat.zero_add] at hx401_0 | skip)
                   (first | simp only [add_plain] at hx401_1 | simp only [add_at] at hx401_1 | simp only [Addr.add, Nat.zero_add] at hx401_1 | skip)
                   (first | simp only [add_plain] at hx401_2 | simp only [add_at] at hx401_2 | simp only [Addr.add, Nat.zero_add] at hx401_2 | skip)
                   (first | simp only [add_plain] at hx401_3 | simp only [add_at] at hx401_3 | simp only [Addr.add, Nat.zero_add] at hx401_3 | skip)
                   (first | simp only [add_plain] at hx401_4 | simp only [add_at] at hx401_4 | simp only [Addr.add, Nat.zero_add] at hx401_4 | skip)
                   have qi401 : (0 < y375.length) = True := eq_true (by omega)
                   (try rw [show ((0 : Int)).toNat = 0 from rfl] at hx401_0)
                   (try rw [show 0 * 5 = 0 from rfl] at hx401_0)
                   (try rw [Addr.add_zero'] at hx401_0)
                   (try rw [show ((0 : Int)).toNat = 0 from rfl] at hx401_1)
                   (try rw [show 0 * 5 = 0 from rfl] at hx401_1)
                   (try rw [Addr.add_zero'] at hx401_1)
                   (try rw [show ((0 : Int)).toNat = 0 from rfl] at hx401_2)
                   (try rw [show 0 * 5 = 0 from rfl] at hx401_2)
                   (try rw [Addr.add_zero'] at hx401_2)
                   (try rw [show ((0 : Int)).toNat = 0 from rfl] at hx401_3)
                   (try rw [show 0 * 5 = 0 from rfl] at hx401_3)
                   (try rw [Addr.add_zero'] at hx401_3)
                   (try rw [show ((0 : Int)).toNat = 0 from rfl] at hx401_4)
                   (try rw [show 0 * 5 = 0 from rfl] at hx401_4)
                   (try rw [Addr.add_zero'] at hx401_4)
                   replace p401 := eq_true p401
                   replace q401 := eq_true q401
                   refine start_ (n := 18) (S := fun w' => w'.cell? ad400 = some (.int .i64 (rd t392 0)) ∧ w'.cell? ⟨go27, 0, none⟩ = some (.int .i64 ((rd_T25 y375 0).f0)) ∧ w'.cell? ⟨go27, 1, none⟩ = some (.int .i64 ((rd_T25 y375 0).f1)) ∧ w'.cell? ⟨go27, 2, none⟩ = some (.int .i64 ((rd_T25 y375 0).f2)) ∧ w'.cell? ⟨go27, 3, none⟩ = some (.int .i64 ((rd_T25 y375 0).f3)) ∧ w'.cell? ⟨go27, 4, none⟩ = some (.int .i64 ((rd_T25 y375 0).f4))) (ds := []) #[false, false, false, false, false, false, false, false, false, false, false, false, false, false, false, false, false, false] (by kernel_rfl) rfl rfl ⟨hx400_0, hx401_0, hx401_1, hx401_2, hx401_3, hx401_4⟩ (fun hHeld => ?_); refine with_tabW spilelaw47_ReliefWhole.tab14 spilelaw47_ReliefWhole.bits14 (fun HT_ HW_ => ?_)
                   generalize w72.drew = w73 at HO_0 HO_1 HO_12 HB hx400_0 hx401_0 hx401_1 hx401_2 hx401_3 hx401_4 hHeld ⊢
                   refine pure_ (i := 0) (N := some 113) (v := ?_) (a' := ?_) #[true, false, false, false, false, false, false, false, false, false, false, false, false, false, false, false, false, false] rfl rfl (any_of HT_.out (by kernel_rfl)) (fun _ _ _ h => h) (Or.inl ⟨by rfl, ?_⟩) ?_ ?_
                   rotate_left
                   ·intro w'
                    go_simp
                    with_reducible rfl
                   rotate_left
                   ·simp only [Act.put, List.setIfInBounds_toArray, List.set_cons_zero, List.set_cons_succ, i64_w, i32_w]
                    rfl
                   refine pure_ (i := 1) (N := some 114) (v := ?_) (a' := ?_) #[true, true, false, false, false, false, false, false, false, false, false, false, false, false, false, false, false, false] rfl rfl (any_of HT_.out (by kernel_rfl)) (fun _ _ _ h => h) (Or.inl ⟨by rfl, ?_⟩) ?_ ?_
                   rotate_left
                   ·intro w'
                    go_simp
                    with_reducible rfl
                   rotate_left
                   ·simp only [Act.put, List.setIfInBounds_toArray, List.set_cons_zero, List.set_cons_succ, i64_w, i32_w]
                    rfl
                   refine pure_ (i := 2) (N := some 115) (v := ?_) (a' := ?_) #[true, true, true, false, false, false, false, false, false, false, false, false, false, false, false, false, false, false] rfl rfl (any_of HT_.out (by kernel_rfl)) (fun _ _ _ h => h) (Or.inl ⟨by rfl, ?_⟩) ?_ ?_
                   rotate_left
                   ·intro w'
                    go_simp
                    with_reducible rfl
                   rotate_left
                   ·simp only [Act.put, List.setIfInBounds_toArray, List.set_cons_zero, List.set_cons_succ, i64_w, i32_w]
                    rfl
                   refine pure_ (i := 3) (N := some 116) (v := ?_) (a' := ?_) #[true, true, true, true, false, false, false, false, false, false, false, false, false, false, false, false, false, false] rfl rfl (any_of HT_.out (by kernel_rfl)) (fun _ _ _ h => h) (Or.inl ⟨by rfl, ?_⟩) ?_ ?_
                   rotate_left
                   ·intro w'
                    go_simp
                    with_reducible rfl
                   rotate_left
                   ·simp only [Act.put, List.setIfInBounds_toArray, List.set_cons_zero, List.set_cons_succ, i64_w, i32_w]
                    rfl
                   refine pure_ (i := 4) (N := some 117) (v := ?_) (a' := ?_) #[true, true, true, true, true, false, false, false, false, false, false, false, false, false, false, false, false, false] rfl rfl (any_of HT_.out (by kernel_rfl)) (fun _ _ _ h => h) (Or.inl ⟨by rfl, ?_⟩) ?_ ?_
                   rotate_left
                   ·intro w'
                    go_simp
                    with_reducible rfl
                   rotate_left
                   ·simp only [Act.put, List.setIfInBounds_toArray, List.set_cons_zero, List.set_cons_succ, i64_w, i32_w]
                    rfl
                   refine pure_ (i := 5) (N := some 118) (v := ?_) (a' := ?_) #[true, true, true, true, true, true, false, false, false, false, false, false, false, false, false, false, false, false] rfl rfl (any_of HT_.out (by kernel_rfl)) (fun _ _ _ h => h) (Or.inl ⟨by rfl, ?_⟩) ?_ ?_
                   rotate_left
                   ·intro w'
                    go_simp
                    with_reducible rfl
                   rotate_left
                   ·simp only [Act.put, List.setIfInBounds_toArray, List.set_cons_zero, List.set_cons_succ, i64_w, i32_w]
                    rfl
                   refine pure_ (i := 6) (N := some 119) (v := ?_) (a' := ?_) #[true, true, true, true, true, true, true, false, false, false, false, false, false, false, false, false, false, false] rfl rfl (any_of HT_.out (by kernel_rfl)) (fun _ _ _ h => h) (Or.inl ⟨by rfl, ?_⟩) ?_ ?_
                   rotate_left
                   ·intro w'
                    go_simp
                    with_reducible rfl
                   rotate_left
                   ·simp only [Act.put, List.setIfInBounds_toArray, List.set_cons_zero, List.set_cons_succ, i64_w, i32_w]
                    rfl
                   refine pure_ (i := 7) (N := some 120) (v := ?_) (a' := ?_) #[true, true, true, true, true, true, true, true, false, false, false, false, false, false, false, false, false, false] rfl rfl (any_of HT_.out (by kernel_rfl)) (fun _ _ _ h => h) (Or.inl ⟨by rfl, ?_⟩) ?_ ?_
                   rotate_left
                   ·intro w'
                    go_simp
                    with_reducible rfl
                   rotate_left
                   ·simp only [Act.put, List.setIfInBounds_toArray, List.set_cons_zero, List.set_cons_succ, i64_w, i32_w]
                    rfl
                   refine pure_ (i := 8) (N := some 121) (v := ?_) (a' := ?_) #[true, true, true, true, true, true, true, true, true, false, false, false, false, false, false, false, false, false] rfl rfl (any_of HT_.out (by kernel_rfl)) (fun _ _ _ h => h) (Or.inl ⟨by rfl, ?_⟩) ?_ ?_
                   rotate_left
                   ·intro w'
                    go_simp
                    with_reducible rfl
                   rotate_left
                   ·simp only [Act.put, List.setIfInBounds_toArray, List.set_cons_zero, List.set_cons_succ, i64_w, i32_w]
                    rfl
                   refine pure_ (i := 9) (N := some 122) (v := ?_) (a' := ?_) #[true, true, true, true, true, true, true, true, true, true, false, false, false, false, false, false, false, false] rfl rfl (any_of HT_.out (by kernel_rfl)) (fun _ _ _ h => h) (Or.inl ⟨by rfl, ?_⟩) ?_ ?_
                   rotate_left
                   ·intro w'
                    go_simp
                    with_reducible rfl
                   rotate_left
                   ·simp only [Act.put, List.setIfInBounds_toArray, List.set_cons_zero, List.set_cons_succ, i64_w, i32_w]
                    rfl
                   refine pure_ (i := 11) (N := some 124) (v := ?_) (a' := ?_) #[true, true, true, true, true, true, true, true, true, true, false, true, false, false, false, false, false, false] rfl rfl (any_of HT_.out (by kernel_rfl)) (fun _ _ _ h => h) (Or.inl ⟨by rfl, ?_⟩) ?_ ?_
                   rotate_left
                   ·intro w'
                    go_simp
                    with_reducible rfl
                   rotate_left
                   ·simp only [Act.put, List.setIfInBounds_toArray, List.set_cons_zero, List.set_cons_succ, i64_w, i32_w]
                    rfl
                   refine pure_ (i := 12) (N := some 125) (v := ?_) (a' := ?_) #[true, true, true, true, true, true, true, true, true, true, false, true, true, false, false, false, false, false] rfl rfl (any_of HT_.out (by kernel_rfl)) (fun _ _ _ h => h) (Or.inl ⟨by rfl, ?_⟩) ?_ ?_
                   rotate_left
                   ·intro w'
                    go_simp
                    with_reducible rfl
                   rotate_left
                   ·simp only [Act.put, List.setIfInBounds_toArray, List.set_cons_zero, List.set_cons_succ, i64_w, i32_w]
                    rfl
                   refine pure_ (i := 13) (N := some 126) (v := ?_) (a' := ?_) #[true, true, true, true, true, true, true, true, true, true, false, true, true, true, false, false, false, false] rfl rfl (any_of HT_.out (by kernel_rfl)) (fun _ _ _ h => h) (Or.inl ⟨by rfl, ?_⟩) ?_ ?_
                   rotate_left
                   ·intro w'
                    go_simp
                    with_reducible rfl
                   rotate_left
                   ·simp only [Act.put, List.setIfInBounds_toArray, List.set_cons_zero, List.set_cons_succ, i64_w, i32_w]
                    rfl
                   refine take_ (i := 10) (N := some 123) (v := ?_) (a' := ?_) #[true, true, true, true, true, true, true, true, true, true, true, true, true, true, false, false, false, false] rfl rfl (take_ofW HT_.out HW_.out (by kernel_rfl)) (fun _ _ _ h => h) (Or.inl ⟨by rfl, ?_⟩) hHeld ?_ ?_
                   rotate_left
                   ·rintro w' ⟨s0, s1, s2, s3, s4, s5⟩
                    go_simp
                    with_reducible rfl
                   rotate_left
                   ·simp only [Act.put, List.setIfInBounds_toArray, List.set_cons_zero, List.set_cons_succ, i64_w, i32_w]
                    rfl
                   refine take_ (i := 14) (N := some 127) (v := ?_) (a' := ?_) #[true, true, true, true, true, true, true, true, true, true, true, true, true, true, true, false, false, false] rfl rfl (take_ofW HT_.out HW_.out (by kernel_rfl)) (fun _ _ _ h => h) (Or.inl ⟨by rfl, ?_⟩) hHeld ?_ ?_
                   rotate_left
                   ·rintro w' ⟨s0, s1, s2, s3, s4, s5⟩
                    go_simp
                    with_reducible rfl
                   rotate_left
                   ·simp only [Act.put, List.setIfInBounds_toArray, List.set_cons_zero, List.set_cons_succ, i64_w, i32_w]
                    rfl
                   refine pure_ (i := 15) (N := some 128) (v := ?_) (a' := ?_) #[true, true, true, true, true, true, true, true, true, true, true, true, true, true, true, true, false, false] rfl rfl (any_of HT_.out (by kernel_rfl)) (fun _ _ _ h => h) (Or.inl ⟨by rfl, ?_⟩) ?_ ?_
                   rotate_left
                   ·intro w'
                    go_simp
                    with_reducible rfl
                   rotate_left
                   ·simp only [Act.put, List.setIfInBounds_toArray, List.set_cons_zero, List.set_cons_succ, i64_w, i32_w]
                    rfl
                   refine pure_ (i := 16) (N := some 129) (v := ?_) (a' := ?_) #[true, true, true, true, true, true, true, true, true, true, true, true, true, true, true, true, true, false] rfl rfl (any_of HT_.out (by kernel_rfl)) (fun _ _ _ h => h) (Or.inl ⟨by rfl, ?_⟩) ?_ ?_
                   rotate_left
                   ·intro w'
                    go_simp
                    with_reducible rfl
                   rotate_left
                   ·simp only [Act.put, List.setIfInBounds_toArray, List.set_cons_zero, List.set_cons_succ, i64_w, i32_w]
                    rfl
                   refine pure_ (i := 17) (N := some 6) (v := ?_) (a' := ?_) #[true, true, true, true, true, true, true, true, true, true, true, true, true, true, true, true, true, true] rfl rfl (any_of HT_.out (by kernel_rfl)) (fun _ _ _ h => h) (Or.inl ⟨by rfl, ?_⟩) ?_ ?_
                   rotate_left
                   ·intro w'
                    go_simp
                    with_reducible rfl
                   rotate_left
                   ·simp only [Act.put, List.setIfInBounds_toArray, List.set_cons_zero, List.set_cons_succ, i64_w, i32_w]
                    rfl
                   refine done_ (done_of HT_.out (by kernel_rfl)) ?_
                   try go_wp2
                   go_ret
                   exact ⟨by first | rfl | (simp [errW_none, errW_some] <;> rfl) | (simp only [← hji21]; first | rfl | (simp [errW_none, errW_some] <;> rfl)) | (simp [*, errW_none, errW_some] <;> rfl), by repeat (first | (with_reducible first | exact HB.out | apply below_alloc | apply pw_below_drewN | apply below_drew1) | exact HB.out)⟩
                  ·rw [if_neg c70] at H
                   exact absurd H (by simp)
                 ·rw [if_neg c69] at H
                  have c69b0 : ((t392.length : Int) == 1) = false := beq_eq_false_iff_ne.mpr c69
                  have c69b1 : ((t392.length : Int) != 1) = true := bne_iff_ne.mpr c69
                  rw [hr_] at H; exact absurd H (by simp)
                ·rw [if_neg c68] at H
                 have c68b0 : (t394 == 0) = false := beq_eq_false_iff_ne.mpr c68
                 have c68b1 : (t394 != 0) = true := bne_iff_ne.mpr c68
                 rw [hr_] at H; exact absurd H (by simp)
               ·replace c67 := Bool.eq_false_iff.mpr c67
                subst c67
                have H1 : (if t394 = 19 then (some (t393 == 0)) else (some false)) = some r := by rw [if_neg (show ¬ (false = true) by decide)] at H; exact H
                clear H; have H := H1; clear H1
                by_cases c82 : t394 = 19
                ·rw [if_pos c82] at H
                 have c82b0 : (t394 == 19) = true := beq_iff_eq.mpr c82
                 have c82b1 : (t394 != 19) = false := bne_eq_false_iff_eq.mpr c82
                 clear c82
                 obtain rfl := Option.some.inj H
                 try go_wp2
                 have n0_ := Aside0.mk (Kd.R_drew HO_0.out); have n1_ := Aside0.mk (Kd.R_drew HO_1.out); have n2_ := Aside0.mk (Kd.R_drew HO_12.out); have n3_ := Aside0.mk (below_drew1 HB.out); clear HO_0 HO_1 HO_12 HB; have HO_0 := n0_; have HO_1 := n1_; have HO_12 := n2_; have HB := n3_; clear n0_ n1_ n2_ n3_
                 have p397 : 0 ≤ (ji21 : Int) := of_decide_eq_true (by first | (with_reducible assumption) | assumption)
                 have q397 : ji21 < (y373.length : Int) := of_decide_eq_true (by first | (with_reducible assumption) | assumption)
                 obtain ⟨ad397, e397, hx397_0, hx397_1, hx397_2, hx397_3, hx397_4, hx397_5, hx397_6⟩ := at_T33 (Kd.R_reads' HO_0.out).2.2 ji21 p397 q397
                 obtain rfl : (⟨go24, 0, none⟩ : Addr) = ad397 := (by injection e397)
                 (first | simp only [add_plain] at hx397_0 | simp only [add_at] at hx397_0 | simp only [Addr.add, Nat.zero_add] at hx397_0 | skip)
                 (first | simp only [add_plain] at hx397_1 | simp only [add_at] at hx397_1 | simp only [Addr.add, Nat.zero_add] at hx397_1 | skip)
                 (first | simp only [add_plain] at hx397_2 | simp only [add_at] at hx397_2 | simp only [Addr.add, Nat.zero_add] at hx397_2 | skip)
                 (first | simp only [add_plain] at hx397_3 | simp only [add_at] at hx397_3 | simp only [Addr.add, Nat.zero_add] at hx397_3 | skip)
                 (first | simp only [add_plain] at hx397_4 | simp only [add_at] at hx397_4 | simp only [Addr.add, Nat.zero_add] at hx397_4 | skip)
                 (first | simp only [add_plain] at hx397_5 | simp only [add_at] at hx397_5 | simp only [Addr.add, Nat.zero_add] at hx397_5 | skip)
                 (first | simp only [add_plain] at hx397_6 | simp only [add_at] at hx397_6 | simp only [Addr.add, Nat.zero_add] at hx397_6 | skip)
                 replace p397 := eq_true p397
                 replace q397 := eq_true q397
                 have p398 : 0 ≤ (0 : Int) := (by omega)
                 have q398 : 0 < (y375.length : Int) := of_decide_eq_true (by first | (with_reducible assumption) | assumption)
                 obtain ⟨ad398, e398, hx398_0, hx398_1, hx398_2, hx398_3, hx398_4⟩ := at_T25 (Kd.R_reads' HO_1.out).2.2 0 p398 q398
                 obtain rfl : (⟨go27, 0, none⟩ : Addr) = ad398 := (by injection e398)
                 (first | simp only [add_plain] at hx398_0 | simp only [add_at] at hx398_0 | simp only [Addr.add, Nat.zero_add] at hx398_0 | skip)
                 (first | simp only [add_plain] at hx398_1 | simp only [add_at] at hx398_1 | simp only [Addr.add, Nat.zero_add] at hx398_1 | skip)
                 (first | simp only [add_plain] at hx398_2 | simp only [add_at] at hx398_2 | simp only [Addr.add, Nat.zero_add] at hx398_2 | skip)
                 (first | simp only [add_plain] at hx398_3 | simp only [add_at] at hx398_3 | simp only [Addr.add, Nat.zero_add] at hx398_3 | skip)
                 (first | simp only [add_plain] at hx398_4 | simp only [add_at] at hx398_4 | simp only [Addr.add, Nat.zero_add] at hx398_4 | skip)
                 have qi398 : (0 < y375.length) = True := eq_true (by omega)
                 (try rw [show ((0 : Int)).toNat = 0 from rfl] at hx398_0)
                 (try rw [show 0 * 5 = 0 from rfl] at hx398_0)
                 (try rw [Addr.add_zero'] at hx398_0)
                 (try rw [show ((0 : Int)).toNat = 0 from rfl] at hx398_1)
                 (try rw [show 0 * 5 = 0 from rfl] at hx398_1)
                 (try rw [Addr.add_zero'] at hx398_1)
                 (try rw [show ((0 : Int)).toNat = 0 from rfl] at hx398_2)
                 (try rw [show 0 * 5 = 0 from rfl] at hx398_2)
                 (try rw [Addr.add_zero'] at hx398_2)
                 (try rw [show ((0 : Int)).toNat = 0 from rfl] at hx398_3)
                 (try rw [show 0 * 5 = 0 from rfl] at hx398_3)
                 (try rw [Addr.add_zero'] at hx398_3)
                 (try rw [show ((0 : Int)).toNat = 0 from rfl] at hx398_4)
                 (try rw [show 0 * 5 = 0 from rfl] at hx398_4)
                 (try rw [Addr.add_zero'] at hx398_4)
                 replace p398 := eq_true p398
                 replace q398 := eq_true q398
                 refine start_ (n := 9) (S := fun w' => w'.cell? ⟨go24, (ji21).toNat * 7, none⟩ = some (.int .i64 ((rd_T33 y373 ji21).f0)) ∧ w'.cell? ⟨go24, (ji21).toNat * 7 + 1, none⟩ = some (.string ((rd_T33 y373 ji21).f1)) ∧ w'.cell? ⟨go24, (ji21).toNat * 7 + 2, none⟩ = some (.int .i64 ((rd_T33 y373 ji21).f2)) ∧ w'.cell? ⟨go24, (ji21).toNat * 7 + 3, none⟩ = some (.int .i64 ((rd_T33 y373 ji21).f3)) ∧ w'.cell? ⟨go24, (ji21).toNat * 7 + 4, none⟩ = some (.int .i64 ((rd_T33 y373 ji21).f4)) ∧ w'.cell? ⟨go24, (ji21).toNat * 7 + 5, none⟩ = some (.int .i64 ((rd_T33 y373 ji21).f5)) ∧ w'.cell? ⟨go24, (ji21).toNat * 7 + 6, none⟩ = some (.int .i64 ((rd_T33 y373 ji21).f6)) ∧ w'.cell? ⟨go27, 0, none⟩ = some (.int .i64 ((rd_T25 y375 0).f0)) ∧ w'.cell? ⟨go27, 1, none⟩ = some (.int .i64 ((rd_T25 y375 0).f1)) ∧ w'.cell? ⟨go27, 2, none⟩ = some (.int .i64 ((rd_T25 y375 0).f2)) ∧ w'.cell? ⟨go27, 3, none⟩ = some (.int .i64 ((rd_T25 y375 0).f3)) ∧ w'.cell? ⟨go27, 4, none⟩ = some (.int .i64 ((rd_T25 y375 0).f4))) (ds := []) #[false, false, false, false, false, false, false, false, false] (by kernel_rfl) rfl rfl ⟨hx397_0, hx397_1, hx397_2, hx397_3, hx397_4, hx397_5, hx397_6, hx398_0, hx398_1, hx398_2, hx398_3, hx398_4⟩ (fun hHeld => ?_); refine with_tabW spilelaw47_ReliefWhole.tab12 spilelaw47_ReliefWhole.bits12 (fun HT_ HW_ => ?_)
                 generalize wc.drew = w83 at HO_0 HO_1 HO_12 HB hx397_0 hx397_1 hx397_2 hx397_3 hx397_4 hx397_5 hx397_6 hx398_0 hx398_1 hx398_2 hx398_3 hx398_4 hHeld ⊢
                 refine pure_ (i := 0) (N := some 98) (v := ?_) (a' := ?_) #[true, false, false, false, false, false, false, false, false] rfl rfl (any_of HT_.out (by kernel_rfl)) (fun _ _ _ h => h) (Or.inl ⟨by rfl, ?_⟩) ?_ ?_
                 rotate_left
                 ·intro w'
                  go_simp
                  with_reducible rfl
                 rotate_left
                 ·simp only [Act.put, List.setIfInBounds_toArray, List.set_cons_zero, List.set_cons_succ, i64_w, i32_w]
                  rfl
                 refine pure_ (i := 1) (N := some 99) (v := ?_) (a' := ?_) #[true, true, false, false, false, false, false, false, false] rfl rfl (any_of HT_.out (by kernel_rfl)) (fun _ _ _ h => h) (Or.inl ⟨by rfl, ?_⟩) ?_ ?_
                 rotate_left
                 ·intro w'
                  go_simp
                  with_reducible rfl
                 rotate_left
                 ·simp only [Act.put, List.setIfInBounds_toArray, List.set_cons_zero, List.set_cons_succ, i64_w, i32_w]
                  rfl
                 refine pure_ (i := 2) (N := some 100) (v := ?_) (a' := ?_) #[true, true, true, false, false, false, false, false, false] rfl rfl (any_of HT_.out (by kernel_rfl)) (fun _ _ _ h => h) (Or.inl ⟨by rfl, ?_⟩) ?_ ?_
                 rotate_left
                 ·intro w'
                  go_simp
                  with_reducible rfl
                 rotate_left
                 ·simp only [Act.put, List.setIfInBounds_toArray, List.set_cons_zero, List.set_cons_succ, i64_w, i32_w]
                  rfl
                 refine pure_ (i := 4) (N := some 102) (v := ?_) (a' := ?_) #[true, true, true, false, true, false, false, false, false] rfl rfl (any_of HT_.out (by kernel_rfl)) (fun _ _ _ h => h) (Or.inl ⟨by rfl, ?_⟩) ?_ ?_
                 rotate_left
                 ·intro w'
                  go_simp
                  with_reducible rfl
                 rotate_left
                 ·simp only [Act.put, List.setIfInBounds_toArray, List.set_cons_zero, List.set_cons_succ, i64_w, i32_w]
                  rfl
                 refine pure_ (i := 5) (N := some 103) (v := ?_) (a' := ?_) #[true, true, true, false, true, true, false, false, false] rfl rfl (any_of HT_.out (by kernel_rfl)) (fun _ _ _ h => h) (Or.inl ⟨by rfl, ?_⟩) ?_ ?_
                 rotate_left
                 ·intro w'
                  go_simp
                  with_reducible rfl
                 rotate_left
                 ·simp only [Act.put, List.setIfInBounds_toArray, List.set_cons_zero, List.set_cons_succ, i64_w, i32_w]
                  rfl
                 refine take_ (i := 3) (N := some 101) (v := ?_) (a' := ?_) #[true, true, true, true, true, true, false, false, false] rfl rfl (take_ofW HT_.out HW_.out (by kernel_rfl)) (fun _ _ _ h => h) (Or.inl ⟨by rfl, ?_⟩) hHeld ?_ ?_
                 rotate_left
                 ·rintro w' ⟨s0, s1, s2, s3, s4, s5, s6, s7, s8, s9, s10, s11⟩
                  go_simp
                  with_reducible rfl
                 rotate_left
                 ·simp only [Act.put, List.setIfInBounds_toArray, List.set_cons_zero, List.set_cons_succ, i64_w, i32_w]
                  rfl
                 refine take_ (i := 6) (N := some 104) (v := ?_) (a' := ?_) #[true, true, true, true, true, true, true, false, false] rfl rfl (take_ofW HT_.out HW_.out (by kernel_rfl)) (fun _ _ _ h => h) (Or.inl ⟨by rfl, ?_⟩) hHeld ?_ ?_
                 rotate_left
                 ·rintro w' ⟨s0, s1, s2, s3, s4, s5, s6, s7, s8, s9, s10, s11⟩
                  go_simp
                  with_reducible rfl
                 rotate_left
                 ·simp only [Act.put, List.setIfInBounds_toArray, List.set_cons_zero, List.set_cons_succ, i64_w, i32_w]
                  rfl
                 refine one_ (i := 7) (N := some 105) #[true, true, true, true, true, true, true, true, false] rfl rfl (one_of HT_.out (by kernel_rfl)) (by decide) (fun K hK => ?_)
                 refine goes_ Try.func20 (by kernel_rfl) rfl #[.agg #[.int .i64 ((rd_T33 y373 ji21).f0), .string ((rd_T33 y373 ji21).f1), .int .i64 ((rd_T33 y373 ji21).f2), .int .i64 ((rd_T33 y373 ji21).f3), .int .i64 ((rd_T33 y373 ji21).f4), .int .i64 ((rd_T33 y373 ji21).f5), .int .i64 ((rd_T33 y373 ji21).f6)], .agg #[.int .i64 ((rd_T25 y375 0).f0), .int .i64 ((rd_T25 y375 0).f1), .int .i64 ((rd_T25 y375 0).f2), .int .i64 ((rd_T25 y375 0).f3), .int .i64 ((rd_T25 y375 0).f4)]] (by rfl) rfl rfl (by (try simp only [List.map_toArray, List.map_cons, List.map_nil]); first | done | (simp only [hji21]; rfl) | rfl | (simp only [List.length_drop, List.length_take]; rfl)) ?_
                 with_reducible refine (relief_Applies.calls ((rd_T33 y373 ji21).f0) ((rd_T33 y373 ji21).f1) ((rd_T33 y373 ji21).f2) ((rd_T33 y373 ji21).f3) ((rd_T33 y373 ji21).f4) ((rd_T33 y373 ji21).f5) ((rd_T33 y373 ji21).f6) ((rd_T25 y375 0).f0) ((rd_T25 y375 0).f1) ((rd_T25 y375 0).f2) ((rd_T25 y375 0).f3) ((rd_T25 y375 0).f4) false _ A66.out).mono ?_
                 rintro e w84 ⟨rfl, hb⟩
                 have HS0_ := (hb.cell (World.block_lt_of_cell? _ _ (hHeld.1))).trans (hHeld.1); have HS1_ := (hb.cell (World.block_lt_of_cell? _ _ (hHeld.2.1))).trans (hHeld.2.1); have HS2_ := (hb.cell (World.block_lt_of_cell? _ _ (hHeld.2.2.1))).trans (hHeld.2.2.1); have HS3_ := (hb.cell (World.block_lt_of_cell? _ _ (hHeld.2.2.2.1))).trans (hHeld.2.2.2.1); have HS4_ := (hb.cell (World.block_lt_of_cell? _ _ (hHeld.2.2.2.2.1))).trans (hHeld.2.2.2.2.1); have HS5_ := (hb.cell (World.block_lt_of_cell? _ _ (hHeld.2.2.2.2.2.1))).trans (hHeld.2.2.2.2.2.1); have HS6_ := (hb.cell (World.block_lt_of_cell? _ _ (hHeld.2.2.2.2.2.2.1))).trans (hHeld.2.2.2.2.2.2.1); have HS7_ := (hb.cell (World.block_lt_of_cell? _ _ (hHeld.2.2.2.2.2.2.2.1))).trans (hHeld.2.2.2.2.2.2.2.1); have HS8_ := (hb.cell (World.block_lt_of_cell? _ _ (hHeld.2.2.2.2.2.2.2.2.1))).trans (hHeld.2.2.2.2.2.2.2.2.1); have HS9_ := (hb.cell (World.block_lt_of_cell? _ _ (hHeld.2.2.2.2.2.2.2.2.2.1))).trans (hHeld.2.2.2.2.2.2.2.2.2.1); have HS10_ := (hb.cell (World.block_lt_of_cell? _ _ (hHeld.2.2.2.2.2.2.2.2.2.2.1))).trans (hHeld.2.2.2.2.2.2.2.2.2.2.1); have HS11_ := (hb.cell (World.block_lt_of_cell? _ _ (hHeld.2.2.2.2.2.2.2.2.2.2.2))).trans (hHeld.2.2.2.2.2.2.2.2.2.2.2)
                 refine ⟨_, rfl, ?_⟩
                 have n0_ := Aside0.mk (Kd.R_below (by (with_reducible repeat (first | apply Kd.R_alloc | apply Kd.R_drewN | apply Kd.R_drew)); exact HO_0.out) hb); have n1_ := Aside0.mk (Kd.R_below (by (with_reducible repeat (first | apply Kd.R_alloc | apply Kd.R_drewN | apply Kd.R_drew)); exact HO_1.out) hb); have n2_ := Aside0.mk (Kd.R_below (by (with_reducible repeat (first | apply Kd.R_alloc | apply Kd.R_drewN | apply Kd.R_drew)); exact HO_12.out) hb); have n3_ := Aside0.mk (below_step (by repeat (first | (with_reducible first | exact HB.out | apply below_alloc | apply pw_below_drewN | apply below_drew1) | exact HB.out)) hb); clear HO_0 HO_1 HO_12 HB; have HO_0 := n0_; have HO_1 := n1_; have HO_12 := n2_; have HB := n3_; clear n0_ n1_ n2_ n3_; (try clear hb); (try clear hb2); (try clear hk); (try clear hi)
                 refine hK.out _ _ ⟨HS0_, HS1_, HS2_, HS3_, HS4_, HS5_, HS6_, HS7_, HS8_, HS9_, HS10_, HS11_⟩ (fun hHeld => ?_)
                 clear hK K
                 refine norm_ (a' := ?_) ?_ ?_
                 rotate_left
                 ·show Act.put _ (some 105) _ = _
                  simp only [Act.put, List.setIfInBounds_toArray, List.set_cons_zero, List.set_cons_succ, i64_w, i32_w]
                  rfl
                 refine pure_ (i := 8) (N := some 106) (v := ?_) (a' := ?_) #[true, true, true, true, true, true, true, true, true] rfl rfl (any_of HT_.out (by kernel_rfl)) (fun _ _ _ h => h) (Or.inl ⟨by rfl, ?_⟩) ?_ ?_
                 rotate_left
                 ·intro w'
                  go_simp
                  with_reducible rfl
                 rotate_left
                 ·simp only [Act.put, List.setIfInBounds_toArray, List.set_cons_zero, List.set_cons_succ, i64_w, i32_w]
                  rfl
                 refine done_ (done_of HT_.out (by kernel_rfl)) ?_
                 try go_wp2
                 go_ret
                 exact ⟨by first | rfl | (simp [errW_none, errW_some] <;> rfl) | (simp only [← hji21]; first | rfl | (simp [errW_none, errW_some] <;> rfl)) | (simp [*, errW_none, errW_some] <;> rfl), by repeat (first | (with_reducible first | exact HB.out | apply below_alloc | apply pw_below_drewN | apply below_drew1) | exact HB.out)⟩
                ·rw [if_neg c82] at H
                 have c82b0 : (t394 == 19) = false := beq_eq_false_iff_ne.mpr c82
                 have c82b1 : (t394 != 19) = true := bne_iff_ne.mpr c82
                 rw [hr_] at H; exact absurd H (by simp)
              ·rw [if_neg c65] at H
               exact absurd H (by simp)
             ·rw [if_neg c64] at H
              exact absurd H (by simp)
            ·rw [if_neg c63] at H
             exact absurd H (by simp)
        ·rw [if_neg c26] at H
         exact absurd H (by simp)
       ·rw [if_neg c23] at H
        exact absurd H (by simp)
      ·rw [if_neg c22] at H
       exact absurd H (by simp)
    ·rw [if_neg c18] at H
     exact absurd H (by simp)
end Go.Proofs.Ytccocolcgdiglaa.X
