-- Written by a program of this work, over the kit's print of the translation. Not trusted: Lean checks it.
import Derived.Test.YthbkbokfngbocaaXx0
import Derived.Test.YthbkbokfngbocaaXx1
import Derived.Test.YthbkbokfngbocaaAre
import Derived.Test.YthbkbokfngbocaaAwk
import Derived.Test.YthbkbokfngbocaaChk
import Derived.Test.YthbkbokfngbocaaCln
import Derived.Test.YthbkbokfngbocaaRef
namespace Go.Proofs.Ythbkbokfngbocaa.X
open Go.RowKit Go.Proofs.YthbkbokfngbocaaW.PrintWords Go.Proofs.YthbkbokfngbocaaW.PrintLast Go.Proofs.YthbkbokfngbocaaW.PrintMore
attribute [local go_sem] max2_int min2_int max_two min_two max_three min_three max_four min_four   -- for this text's walks alone
set_option linter.unusedVariables false
set_option linter.unusedSimpArgs false

attribute [local go_sem high] eqA24
/-! ### spilelaw07_SegmentFiner: function 6 -/
mutual
def spilelaw07_SegmentFiner.j0 : Nat → Int → Int → List Int → Int → List Int → Int → Bool → Int → Int → Option (Bool)
  | 0, _, _, _, _, _, _, _, _, _ => none
  | k + 1, x0, x1, x2, x8, x9, x10, x39, x255000, x255001 => if x39 = true then (if x8 = 0 then (if x10 = 0 then (some true) else (some ((x9.length : Int) == 0))) else (if (x255000 == 0 && (x255001 == 0)) = true then (if x10 = 0 then (some true) else (some ((x9.length : Int) == 0))) else (some false))) else ((slices_Clone_int_int.f x9).bind fun t262 => ((segment_Area.f x0 x1 t262).bind fun bt265 => (if bt265.2.2 = 0 then (if x255000 > bt265.1 then (spilelaw07_SegmentFiner.j1 k x2 x9 true) else (if bt265.1 > bt265.2.1 then (spilelaw07_SegmentFiner.j1 k x2 x9 true) else (if bt265.2.1 > x255001 then (spilelaw07_SegmentFiner.j1 k x2 x9 true) else (if (x9.length : Int) = (wrap64 ((wrap64 (2 * (x2.length : Int))) - 1)) then ((slices_Clone_int_int.f x9).bind fun t269 => ((segment_Check.f t269).bind fun t272 => (spilelaw07_SegmentFiner.j1 k x2 x9 (t272 != 0)))) else (spilelaw07_SegmentFiner.j1 k x2 x9 true))))) else (spilelaw07_SegmentFiner.j1 k x2 x9 true))))
def spilelaw07_SegmentFiner.j1 : Nat → List Int → List Int → Bool → Option (Bool)
  | 0, _, _, _ => none
  | k + 1, x2, x9, x101 => if x101 = true then (some false) else (spilelaw07_SegmentFiner.l0 k x9 x2 (x2.length : Int) 0)
def spilelaw07_SegmentFiner.l0 : Nat → List Int → List Int → Int → Int → Option (Bool)
  | 0, _, _, _, _ => none
  | k + 1, x9, x102, x103, x104 => if x104 < x103 then (if 0 ≤ x104 then (if x104 < (x102.length : Int) then (if 0 ≤ (wrap64 (2 * x104)) then (if (wrap64 (2 * x104)) < (x9.length : Int) then (if (rd x9 (wrap64 (2 * x104))) = (rd x102 x104) then (spilelaw07_SegmentFiner.l0 k x9 x102 x103 (wrap64 (x104 + 1))) else (some false)) else (none)) else (none)) else (none)) else (none)) else (some true)
end
def spilelaw07_SegmentFiner.f (k : Nat) (a0 : Int) (a1 : Int) (l2 : List Int) : Option (Bool) := (spilelaw07_awake.f k).bind fun t247 => (if t247 = true then (if (l2.length : Int) > 70 then (some true) else ((slices_Clone_int_int.f l2).bind fun t248 => ((segment_Area.f a0 a1 t248).bind fun bt251 => ((slices_Clone_int_int.f l2).bind fun t255 => ((segment_Refine.f t255).bind fun bt258 => (if bt251.2.2 = 0 then (spilelaw07_SegmentFiner.j0 k a0 a1 l2 bt251.2.2 bt258.1 bt258.2 (bt258.2 != 0) bt251.1 bt251.2.1) else (spilelaw07_SegmentFiner.j0 k a0 a1 l2 bt251.2.2 bt258.1 bt258.2 true bt251.1 bt251.2.1))))))) else (some false))
theorem spilelaw07_SegmentFiner.mono_l : ∀ k, (∀ y0 y1 y2 y3 y4 y5 y6 y7 y8, LeO (spilelaw07_SegmentFiner.j0 k y0 y1 y2 y3 y4 y5 y6 y7 y8) (spilelaw07_SegmentFiner.j0 (k + 1) y0 y1 y2 y3 y4 y5 y6 y7 y8)) ∧ (∀ y0 y1 y2, LeO (spilelaw07_SegmentFiner.j1 k y0 y1 y2) (spilelaw07_SegmentFiner.j1 (k + 1) y0 y1 y2)) ∧ (∀ y0 y1 y2 y3, LeO (spilelaw07_SegmentFiner.l0 k y0 y1 y2 y3) (spilelaw07_SegmentFiner.l0 (k + 1) y0 y1 y2 y3))
  | 0 => ⟨fun _ _ _ _ _ _ _ _ _ r h => by simp [spilelaw07_SegmentFiner.j0] at h, fun _ _ _ r h => by simp [spilelaw07_SegmentFiner.j1] at h, fun _ _ _ _ r h => by simp [spilelaw07_SegmentFiner.l0] at h⟩
  | k + 1 => by
    obtain ⟨ih0, ih1, ih2⟩ := spilelaw07_SegmentFiner.mono_l k
    refine ⟨?_, ?_, ?_⟩
    · intro y0 y1 y2 y3 y4 y5 y6 y7 y8
      unfold spilelaw07_SegmentFiner.j0
      repeat' first
      | (with_reducible exact ih0 _ _ _ _ _ _ _ _ _)
      | (with_reducible exact ih1 _ _ _)
      | (with_reducible exact ih2 _ _ _ _)
      | (with_reducible exact spilelaw07_awake.mono _)
      | (with_reducible exact LeO.refl _)
      | (with_reducible exact LeO.none _)
      | (with_reducible refine LeO.ite ?_ ?_)
      | (with_reducible refine LeO.bind ?_ (fun _ => ?_))
      | exact ih0 _ _ _ _ _ _ _ _ _
      | exact ih1 _ _ _
      | exact ih2 _ _ _ _
      | exact spilelaw07_awake.mono _
      | exact LeO.none _
      | refine LeO.ite ?_ ?_
      | refine LeO.bind ?_ (fun _ => ?_)
    · intro y0 y1 y2
      unfold spilelaw07_SegmentFiner.j1
      repeat' first
      | (with_reducible exact ih0 _ _ _ _ _ _ _ _ _)
      | (with_reducible exact ih1 _ _ _)
      | (with_reducible exact ih2 _ _ _ _)
      | (with_reducible exact spilelaw07_awake.mono _)
      | (with_reducible exact LeO.refl _)
      | (with_reducible exact LeO.none _)
      | (with_reducible refine LeO.ite ?_ ?_)
      | (with_reducible refine LeO.bind ?_ (fun _ => ?_))
      | exact ih0 _ _ _ _ _ _ _ _ _
      | exact ih1 _ _ _
      | exact ih2 _ _ _ _
      | exact spilelaw07_awake.mono _
      | exact LeO.none _
      | refine LeO.ite ?_ ?_
      | refine LeO.bind ?_ (fun _ => ?_)
    · intro y0 y1 y2 y3
      unfold spilelaw07_SegmentFiner.l0
      repeat' first
      | (with_reducible exact ih0 _ _ _ _ _ _ _ _ _)
      | (with_reducible exact ih1 _ _ _)
      | (with_reducible exact ih2 _ _ _ _)
      | (with_reducible exact spilelaw07_awake.mono _)
      | (with_reducible exact LeO.refl _)
      | (with_reducible exact LeO.none _)
      | (with_reducible refine LeO.ite ?_ ?_)
      | (with_reducible refine LeO.bind ?_ (fun _ => ?_))
      | exact ih0 _ _ _ _ _ _ _ _ _
      | exact ih1 _ _ _
      | exact ih2 _ _ _ _
      | exact spilelaw07_awake.mono _
      | exact LeO.none _
      | refine LeO.ite ?_ ?_
      | refine LeO.bind ?_ (fun _ => ?_)
theorem spilelaw07_SegmentFiner.mono : ∀ a0 a1 a2 k, LeO (spilelaw07_SegmentFiner.f k a0 a1 a2) (spilelaw07_SegmentFiner.f (k + 1) a0 a1 a2) := by
  intro a0 a1 a2 k
  obtain ⟨ih0, ih1, ih2⟩ := spilelaw07_SegmentFiner.mono_l k
  unfold spilelaw07_SegmentFiner.f
  repeat' first
      | (with_reducible exact ih0 _ _ _ _ _ _ _ _ _)
      | (with_reducible exact ih1 _ _ _)
      | (with_reducible exact ih2 _ _ _ _)
      | (with_reducible exact spilelaw07_awake.mono _)
      | (with_reducible exact LeO.refl _)
      | (with_reducible exact LeO.none _)
      | (with_reducible refine LeO.ite ?_ ?_)
      | (with_reducible refine LeO.bind ?_ (fun _ => ?_))
      | exact ih0 _ _ _ _ _ _ _ _ _
      | exact ih1 _ _ _
      | exact ih2 _ _ _ _
      | exact spilelaw07_awake.mono _
      | exact LeO.none _
      | refine LeO.ite ?_ ?_
      | refine LeO.bind ?_ (fun _ => ?_)
set_option maxHeartbeats 8000000 in
set_option maxRecDepth 100000 in
theorem spilelaw07_SegmentFiner.calls (k : Nat) (a0 : Int) (a1 : Int) (A2 : Option Addr) (c2 : Nat) (l2 : List Int) (r : Bool) (w : World) (hr2 : Kd.C (Kd.int .i64) w A2 l2.length l2) (hc2 : l2.length ≤ c2) (h : spilelaw07_SegmentFiner.f k a0 a1 l2 = some r) :
    Calls Try.prog 6 #[.int .i64 a0, .int .i64 a1, .slice A2 l2.length c2] w fun e w' => e = .returned (.bool r) ∧ Below w.heap.size w w' := by
  have hu24 := Try.underlying24
  have HR2 := Aside0.mk hr2
  have HC2 := Aside0.mk hc2
  clear hr2 hc2
  have HB := Aside0.mk (Below.refl w.heap.size w)
  have H : ((spilelaw07_awake.f k).bind fun t247 => (if t247 = true then (if (l2.length : Int) > 70 then (some true) else ((slices_Clone_int_int.f l2).bind fun t248 => ((segment_Area.f a0 a1 t248).bind fun bt251 => ((slices_Clone_int_int.f l2).bind fun t255 => ((segment_Refine.f t255).bind fun bt258 => (if bt251.2.2 = 0 then (spilelaw07_SegmentFiner.j0 k a0 a1 l2 bt251.2.2 bt258.1 bt258.2 (bt258.2 != 0) bt251.1 bt251.2.1) else (spilelaw07_SegmentFiner.j0 k a0 a1 l2 bt251.2.2 bt258.1 bt258.2 true bt251.1 bt251.2.1))))))) else (some false))) = some r := h
  clear h
  replace H := Option.bind_eq_some_iff.mp H
  obtain ⟨t247, A40, H⟩ := H
  replace H : (if t247 = true then (if (l2.length : Int) > 70 then (some true) else ((slices_Clone_int_int.f l2).bind fun t248 => ((segment_Area.f a0 a1 t248).bind fun bt251 => ((slices_Clone_int_int.f l2).bind fun t255 => ((segment_Refine.f t255).bind fun bt258 => (if bt251.2.2 = 0 then (spilelaw07_SegmentFiner.j0 k a0 a1 l2 bt251.2.2 bt258.1 bt258.2 (bt258.2 != 0) bt251.1 bt251.2.1) else (spilelaw07_SegmentFiner.j0 k a0 a1 l2 bt251.2.2 bt258.1 bt258.2 true bt251.1 bt251.2.1))))))) else (some false)) = some r := H
  have A4 := Aside0.mk A40
  clear A40
  by_cases c5 : t247 = true
  · subst c5
    have H1 : (if (l2.length : Int) > 70 then (some true) else ((slices_Clone_int_int.f l2).bind fun t248 => ((segment_Area.f a0 a1 t248).bind fun bt251 => ((slices_Clone_int_int.f l2).bind fun t255 => ((segment_Refine.f t255).bind fun bt258 => (if bt251.2.2 = 0 then (spilelaw07_SegmentFiner.j0 k a0 a1 l2 bt251.2.2 bt258.1 bt258.2 (bt258.2 != 0) bt251.1 bt251.2.1) else (spilelaw07_SegmentFiner.j0 k a0 a1 l2 bt251.2.2 bt258.1 bt258.2 true bt251.1 bt251.2.1))))))) = some r := by rw [if_pos rfl] at H; exact H
    clear H
    have H := H1
    clear H1
    by_cases c6 : (l2.length : Int) > 70
    · rw [if_pos c6] at H
      have c6b0 : decide (70 < (l2.length : Int)) = true := decide_eq_true c6
      have c6b1 : decide (70 < l2.length) = true := decide_eq_true (by omega)
      clear c6
      obtain rfl := Option.some.inj H
      go_enter Try.func6, Try.ntmps6
      go_wp2_with (first | ((with_reducible refine gate_callee (f := 9) rfl ?_); refine goesL_ (some 15) rfl rfl Try.func9 (by kernel_rfl) rfl #[] rfl (by (try simp only [List.map_toArray, List.map_cons, List.map_nil]); first | done | rfl | (simp only [List.length_drop, List.length_take]; rfl)) ?_; (with_reducible refine (spilelaw07_awake.calls k  true _ A4.out).mono ?_); rintro e w7 ⟨rfl, hb⟩; refine ⟨_, rfl, ?_⟩; have n0_ := Aside0.mk (below_step (by repeat (first | (with_reducible first | exact HB.out | apply below_alloc | apply pw_below_drewN | apply below_drew1) | exact HB.out)) hb); clear HB; have HB := n0_; clear n0_; (try clear hb); (try clear hb2); (try clear hk); (try clear hi)))
      go_ret
      exact ⟨by first | rfl | (simp [errW_none, errW_some] <;> rfl) | (simp [*, errW_none, errW_some] <;> rfl), by repeat (first | (with_reducible first | exact HB.out | apply below_alloc | apply pw_below_drewN | apply below_drew1) | exact HB.out)⟩
    · rw [if_neg c6] at H
      have c6b0 : decide (70 < (l2.length : Int)) = false := decide_eq_false c6
      have c6b1 : decide (70 < l2.length) = false := decide_eq_false (by omega)
      clear c6
      replace H := Option.bind_eq_some_iff.mp H
      obtain ⟨t248, A80, H⟩ := H
      replace H : ((segment_Area.f a0 a1 t248).bind fun bt251 => ((slices_Clone_int_int.f l2).bind fun t255 => ((segment_Refine.f t255).bind fun bt258 => (if bt251.2.2 = 0 then (spilelaw07_SegmentFiner.j0 k a0 a1 l2 bt251.2.2 bt258.1 bt258.2 (bt258.2 != 0) bt251.1 bt251.2.1) else (spilelaw07_SegmentFiner.j0 k a0 a1 l2 bt251.2.2 bt258.1 bt258.2 true bt251.1 bt251.2.1))))) = some r := H
      have A8 := Aside0.mk A80
      clear A80
      replace H := Option.bind_eq_some_iff.mp H
      obtain ⟨⟨t251, t252, t253⟩, A90, H⟩ := H
      replace H : ((slices_Clone_int_int.f l2).bind fun t255 => ((segment_Refine.f t255).bind fun bt258 => (if t253 = 0 then (spilelaw07_SegmentFiner.j0 k a0 a1 l2 t253 bt258.1 bt258.2 (bt258.2 != 0) t251 t252) else (spilelaw07_SegmentFiner.j0 k a0 a1 l2 t253 bt258.1 bt258.2 true t251 t252)))) = some r := H
      have A9 := Aside0.mk A90
      clear A90
      replace H := Option.bind_eq_some_iff.mp H
      obtain ⟨t255, A100, H⟩ := H
      replace H : ((segment_Refine.f t255).bind fun bt258 => (if t253 = 0 then (spilelaw07_SegmentFiner.j0 k a0 a1 l2 t253 bt258.1 bt258.2 (bt258.2 != 0) t251 t252) else (spilelaw07_SegmentFiner.j0 k a0 a1 l2 t253 bt258.1 bt258.2 true t251 t252))) = some r := H
      have A10 := Aside0.mk A100
      clear A100
      replace H := Option.bind_eq_some_iff.mp H
      obtain ⟨⟨t258, t259⟩, A110, H⟩ := H
      replace H : (if t253 = 0 then (spilelaw07_SegmentFiner.j0 k a0 a1 l2 t253 t258 t259 (t259 != 0) t251 t252) else (spilelaw07_SegmentFiner.j0 k a0 a1 l2 t253 t258 t259 true t251 t252)) = some r := H
      have A11 := Aside0.mk A110
      clear A110
      have HC12 := Aside0.mk H
      clear H
      go_enter Try.func6, Try.ntmps6
      go_upto_region 7 with (first | ((with_reducible refine gate_callee (f := 9) rfl ?_); refine goesL_ (some 15) rfl rfl Try.func9 (by kernel_rfl) rfl #[] rfl (by (try simp only [List.map_toArray, List.map_cons, List.map_nil]); first | done | rfl | (simp only [List.length_drop, List.length_take]; rfl)) ?_; (with_reducible refine (spilelaw07_awake.calls k  true _ A4.out).mono ?_); rintro e w13 ⟨rfl, hb⟩; refine ⟨_, rfl, ?_⟩; have n0_ := Aside0.mk (below_step (by repeat (first | (with_reducible first | exact HB.out | apply below_alloc | apply pw_below_drewN | apply below_drew1) | exact HB.out)) hb); clear HB; have HB := n0_; clear n0_; (try clear hb); (try clear hb2); (try clear hk); (try clear hi)) | ((with_reducible refine gate_callee (f := 15) rfl ?_); refine goesL_ (some 24) rfl rfl Try.func15 (by kernel_rfl) rfl #[.slice A2 l2.length c2] rfl (by (try simp only [List.map_toArray, List.map_cons, List.map_nil]); first | done | rfl | (simp only [List.length_drop, List.length_take]; rfl)) ?_; (with_reducible refine (slices_Clone_int_int.calls _ _ l2 t248 _ ?side1 ?side2 A8.out).mono ?_); (case side1 => repeat (first | exact (Kd.C_below HR2.out HB.out) | (with_reducible refine Kd.C_alloc ?_ _) | (with_reducible refine Kd.C_drewN ?_ _) | (with_reducible refine Kd.C_drew ?_))); (case side2 => exact HC2.out); rintro e w14 ⟨v249, rfl, ho0, hb⟩; refine ⟨_, rfl, ?_⟩; have n0_ := Aside0.mk (Kd.R_lower ho0 (below_size (by repeat (first | (with_reducible first | exact HB.out | apply below_alloc | apply pw_below_drewN | apply below_drew1) | exact HB.out)))); have n1_ := Aside0.mk (below_step (by repeat (first | (with_reducible first | exact HB.out | apply below_alloc | apply pw_below_drewN | apply below_drew1) | exact HB.out)) hb); clear HB; have HO250 := n0_; have HB := n1_; clear n0_ n1_; (try clear hb); (try clear hb2); (try clear hk); (try clear hi); (try clear ho0); obtain ⟨Ao15, co15, eo15⟩ := Kd.R_slice HO250.out; subst eo15) | ((with_reducible refine gate_callee (f := 12) rfl ?_); refine goesL_ (some 25) rfl rfl Try.func12 (by kernel_rfl) rfl #[.int .i64 a0, .int .i64 a1, .slice Ao15 t248.length co15] rfl (by (try simp only [List.map_toArray, List.map_cons, List.map_nil]); first | done | rfl | (simp only [List.length_drop, List.length_take]; rfl)) ?_; (with_reducible refine (segment_Area.calls a0 a1 _ _ t248 t251 t252 t253 _ ?side1 ?side2 A9.out).mono ?_); (case side1 => repeat (first | exact (Kd.R_reads' HO250.out).2.2 | (with_reducible refine Kd.C_alloc ?_ _) | (with_reducible refine Kd.C_drewN ?_ _) | (with_reducible refine Kd.C_drew ?_))); (case side2 => exact (Kd.R_reads' HO250.out).2.1); rintro e w16 ⟨rfl, hb⟩; refine ⟨_, rfl, ?_⟩; have n0_ := Aside0.mk (Kd.R_below (by (with_reducible repeat (first | apply Kd.R_alloc | apply Kd.R_drewN | apply Kd.R_drew)); exact HO250.out) hb); have n1_ := Aside0.mk (below_step (by repeat (first | (with_reducible first | exact HB.out | apply below_alloc | apply pw_below_drewN | apply below_drew1) | exact HB.out)) hb); clear HO250; clear HB; have HO250 := n0_; have HB := n1_; clear n0_ n1_; (try clear hb); (try clear hb2); (try clear hk); (try clear hi)) | ((with_reducible refine gate_dst (N := 7) rfl ?_); (try (refine gate_guard (by rfl) ?_; dsimp only)); refine box_event ?hg (N := 7) ?hd (cs := #[.int .i64 0, .int .i64 0]) (t := 24) ?hr ?_; (case hd => rfl); (case hg => rfl); (case hr => first | (go_simp; done) | (go_simp; rfl)); intro gb254 hg w17 hbox hb; have n0_ := Aside0.mk (Kd.R_below (by (with_reducible repeat (first | apply Kd.R_alloc | apply Kd.R_drewN | apply Kd.R_drew)); exact HO250.out) hb); have n1_ := Aside0.mk (below_step (by repeat (first | (with_reducible first | exact HB.out | apply below_alloc | apply pw_below_drewN | apply below_drew1) | exact HB.out)) hb); have n2_ := Aside0.mk (hbox); have n3_ := Aside0.mk ((by rw [hg]; exact (below_size (by repeat (first | (with_reducible first | exact HB.out | apply below_alloc | apply pw_below_drewN | apply below_drew1) | exact HB.out))) : w.heap.size ≤ gb254)); have n4_ := Aside0.mk ((by rw [hg]; exact (below_size (by repeat (first | (with_reducible first | exact HB.out | apply below_alloc | apply pw_below_drewN | apply below_drew1) | exact HB.out))) : w.heap.size ≤ gb254)); clear HO250; clear HB; have HO250 := n0_; have HB := n1_; have BK254 := n2_; have GW254 := n3_; have GE254 := n4_; clear n0_ n1_ n2_ n3_ n4_; clear hb hbox hg; have hcz18_0 : w17.cell? ⟨gb254, 0, none⟩ = some (.int .i64 0) := (blk_cell BK254.out 0).trans rfl; have hcz18_1 : w17.cell? ⟨gb254, 1, none⟩ = some (.int .i64 0) := (blk_cell BK254.out 1).trans rfl; have hfz18_0 := blk_frozen BK254.out 0; have hfz18_1 := blk_frozen BK254.out 1) | ((with_reducible refine gate_callee (f := 15) rfl ?_); refine goesL_ (some 30) rfl rfl Try.func15 (by kernel_rfl) rfl #[.slice A2 l2.length c2] rfl (by (try simp only [List.map_toArray, List.map_cons, List.map_nil]); first | done | rfl | (simp only [List.length_drop, List.length_take]; rfl)) ?_; (with_reducible refine (slices_Clone_int_int.calls _ _ l2 t255 _ ?side1 ?side2 A10.out).mono ?_); (case side1 => exact Kd.C_below HR2.out (by repeat (first | (with_reducible first | exact HB.out | apply below_alloc | apply pw_below_drewN | apply below_drew1 | refine below_set ?_ GE254.out) | exact HB.out))); (case side2 => exact HC2.out); rintro e w19 ⟨v256, rfl, ho0, hb⟩; refine ⟨_, rfl, ?_⟩; have n0_ := Aside0.mk (Kd.R_elder' (by (with_reducible repeat (first | apply Kd.R_alloc | apply Kd.R_drewN | apply Kd.R_drew)); exact (Kd.R_mono (Kd.R_far (p := ⟨gb254, 1, none⟩) (Kd.R_far (p := ⟨gb254, 0, none⟩) (Kd.R_types HO250.out BK254.out (by decide)) (fun _ hk => hk.2) (.int .i64 t251)) (fun _ hk => hk.2) (.int .i64 t252)) (fun _ h_ => h_.1))) (Kd.R_base ho0) hb); have n1_ := Aside0.mk (Kd.R_lower (Kd.R_new' ho0 (Kd.R_lt (by (with_reducible repeat (first | apply Kd.R_alloc | apply Kd.R_drewN | apply Kd.R_drew)); exact (Kd.R_mono (Kd.R_far (p := ⟨gb254, 1, none⟩) (Kd.R_far (p := ⟨gb254, 0, none⟩) (Kd.R_types HO250.out BK254.out (by decide)) (fun _ hk => hk.2) (.int .i64 t251)) (fun _ hk => hk.2) (.int .i64 t252)) (fun _ h_ => h_.1))))) (below_size (by repeat (first | (with_reducible first | exact HB.out | apply below_alloc | apply pw_below_drewN | apply below_drew1 | refine below_set ?_ GE254.out) | exact HB.out)))); have n2_ := Aside0.mk (blk_below (g := gb254) (o := .cells #[.int .i64 t251, .int .i64 t252] 24 (0, 0)) (by (with_reducible repeat (first | refine blk_drewN ?_ _ | refine blk_drew ?_ | refine blk_alloc ?_ _)); refine blk_put (cs := #[.int .i64 t251, .int .i64 0]) ?_ 1 _ rfl; (with_reducible repeat (first | refine blk_drewN ?_ _ | refine blk_drew ?_ | refine blk_alloc ?_ _)); refine blk_put (cs := #[.int .i64 0, .int .i64 0]) ?_ 0 _ rfl; (with_reducible repeat (first | refine blk_drewN ?_ _ | refine blk_drew ?_ | refine blk_alloc ?_ _)); exact BK254.out) hb); have n3_ := Aside0.mk (below_step (by repeat (first | (with_reducible first | exact HB.out | apply below_alloc | apply pw_below_drewN | apply below_drew1 | refine below_set ?_ GE254.out) | exact HB.out)) hb); clear HO250; clear BK254; clear HB; have HO250 := n0_; have HO257 := n1_; have BK254 := n2_; have HB := n3_; clear n0_ n1_ n2_ n3_; (try clear hb); (try clear hb2); (try clear hk); (try clear hi); (try clear ho0); obtain ⟨Ao20, co20, eo20⟩ := Kd.R_slice HO257.out; subst eo20) | ((with_reducible refine gate_callee (f := 14) rfl ?_); refine goesL_ (some 31) rfl rfl Try.func14 (by kernel_rfl) rfl #[.slice Ao20 t255.length co20] rfl (by (try simp only [List.map_toArray, List.map_cons, List.map_nil]); first | done | rfl | (simp only [List.length_drop, List.length_take]; rfl)) ?_; (with_reducible refine (segment_Refine.calls _ _ t255 t258 t259 _ ?side1 ?side2 A11.out).mono ?_); (case side1 => repeat (first | exact (Kd.R_reads' HO257.out).2.2 | (with_reducible refine Kd.C_alloc ?_ _) | (with_reducible refine Kd.C_drewN ?_ _) | (with_reducible refine Kd.C_drew ?_))); (case side2 => exact (Kd.R_reads' HO257.out).2.1); rintro e w21 ⟨v260, rfl, ho0, hb⟩; refine ⟨_, rfl, ?_⟩; have n0_ := Aside0.mk (Kd.R_elder' (by (with_reducible repeat (first | apply Kd.R_alloc | apply Kd.R_drewN | apply Kd.R_drew)); exact HO250.out) (Kd.R_base ho0) hb); have n1_ := Aside0.mk (Kd.R_elder' (by (with_reducible repeat (first | apply Kd.R_alloc | apply Kd.R_drewN | apply Kd.R_drew)); exact HO257.out) (Kd.R_base ho0) hb); have n2_ := Aside0.mk (Kd.R_lower (Kd.R_new' (Kd.R_new' ho0 (Kd.R_lt (by (with_reducible repeat (first | apply Kd.R_alloc | apply Kd.R_drewN | apply Kd.R_drew)); exact HO250.out))) (Kd.R_lt (by (with_reducible repeat (first | apply Kd.R_alloc | apply Kd.R_drewN | apply Kd.R_drew)); exact HO257.out))) (below_size (by repeat (first | (with_reducible first | exact HB.out | apply below_alloc | apply pw_below_drewN | apply below_drew1 | refine below_set ?_ GE254.out) | exact HB.out)))); have n3_ := Aside0.mk (blk_below (g := gb254) (o := .cells #[.int .i64 t251, .int .i64 t252] 24 (0, 0)) (by (with_reducible repeat (first | refine blk_drewN ?_ _ | refine blk_drew ?_ | refine blk_alloc ?_ _)); exact BK254.out) hb); have n4_ := Aside0.mk (below_step (by repeat (first | (with_reducible first | exact HB.out | apply below_alloc | apply pw_below_drewN | apply below_drew1 | refine below_set ?_ GE254.out) | exact HB.out)) hb); clear HO250; clear HO257; clear BK254; clear HB; have HO250 := n0_; have HO257 := n1_; have HO261 := n2_; have BK254 := n3_; have HB := n4_; clear n0_ n1_ n2_ n3_ n4_; (try clear hb); (try clear hb2); (try clear hk); (try clear hi); (try clear ho0)))
      (try simp only [Act.put, List.setIfInBounds_toArray, List.set_cons_zero, List.set_cons_succ])
      go_cut [39] (fun v39 wc => ∃ (kq : Nat) (x39_11 : Bool), v39 = .bool x39_11 ∧ Aside0 (spilelaw07_SegmentFiner.j0 kq a0 a1 l2 t253 t258 t259 x39_11 t251 t252 = some r) ∧ Aside0 (kq ≤ k) ∧ Aside0 (Kd.R (Kd.int .i64) 3 wc w.heap.size (fun _ => True) v260 t258) ∧ Aside0 (wc.heap[gb254]? = some (.cells #[.int .i64 t251, .int .i64 t252] 24 (0, 0))) ∧ Aside0 (Below w.heap.size w wc))
      case first =>
        have H := HC12.out
        clear HC12
        by_cases c22 : t253 = 0
        · rw [if_pos c22] at H
          have c22b0 : (t253 == 0) = true := beq_iff_eq.mpr c22
          have c22b1 : (t253 != 0) = false := bne_eq_false_iff_eq.mpr c22
          clear c22
          (first | rw [c22b0] | (simp only [i64_w, i32_w]; rw [c22b0]) | skip)
          have H' := Aside0.mk H
          clear H
          go_wp2
          go_meet
          case rel => exact ⟨_, ((t259 != 0)), (by first | rfl | (simp; done) | (simp [*]; done)), H', ⟨by first | omega | exact Nat.le_refl _⟩, ⟨by (with_reducible repeat (first | apply Kd.R_alloc | apply Kd.R_drewN | apply Kd.R_drew)); exact Kd.R_mono HO261.out (fun _ hk => trivial)⟩, ⟨by (with_reducible repeat (first | refine blk_drewN ?_ _ | refine blk_drew ?_ | refine blk_alloc ?_ _)); exact BK254.out⟩, ⟨by repeat (first | (with_reducible first | exact HB.out | apply below_alloc | apply pw_below_drewN | apply below_drew1 | refine below_set ?_ GE254.out) | exact HB.out)⟩⟩
        · rw [if_neg c22] at H
          have c22b0 : (t253 == 0) = false := beq_eq_false_iff_ne.mpr c22
          have c22b1 : (t253 != 0) = true := bne_iff_ne.mpr c22
          (first | rw [c22b0] | (simp only [i64_w, i32_w]; rw [c22b0]) | skip)
          have H' := Aside0.mk H
          clear H
          go_wp2
          go_meet
          case rel => exact ⟨_, (true), (by first | rfl | (simp; done) | (simp [*]; done)), H', ⟨by first | omega | exact Nat.le_refl _⟩, ⟨by (with_reducible repeat (first | apply Kd.R_alloc | apply Kd.R_drewN | apply Kd.R_drew)); exact Kd.R_mono HO261.out (fun _ hk => trivial)⟩, ⟨by (with_reducible repeat (first | refine blk_drewN ?_ _ | refine blk_drew ?_ | refine blk_alloc ?_ _)); exact BK254.out⟩, ⟨by repeat (first | (with_reducible first | exact HB.out | apply below_alloc | apply pw_below_drewN | apply below_drew1 | refine below_set ?_ GE254.out) | exact HB.out)⟩⟩
      case rest =>
        clear HC12
        try clear c1
        try clear c2
        try clear p2
        try clear c5
        try clear c6
        try clear c6b0
        try clear c6b1
        try clear c9
        try clear c12
        try clear c14
        try clear c15
        try clear c22
        try clear c22b0
        try clear c22b1
        try clear hcz18_0
        try clear hcz18_1
        try clear hfz18_0
        try clear hfz18_1
        obtain ⟨kq, x39_11, rfl, HA, HJ11, HO_9, BK254, HB⟩ := hcut
        cases kq with
        | zero => exact absurd HA.out (by simp [spilelaw07_SegmentFiner.j0])
        | succ kj11 =>
          have H := HA.out
          clear HA
          simp only [spilelaw07_SegmentFiner.j0] at H
          by_cases c23 : x39_11 = true
          · subst c23
            have H1 : (if t253 = 0 then (if t259 = 0 then (some true) else (some ((t258.length : Int) == 0))) else (if (t251 == 0 && (t252 == 0)) = true then (if t259 = 0 then (some true) else (some ((t258.length : Int) == 0))) else (some false))) = some r := by rw [if_pos rfl] at H; exact H
            clear H
            have H := H1
            clear H1
            by_cases c24 : t253 = 0
            · rw [if_pos c24] at H
              have c24b0 : (t253 == 0) = true := beq_iff_eq.mpr c24
              have c24b1 : (t253 != 0) = false := bne_eq_false_iff_eq.mpr c24
              clear c24
              by_cases c25 : t259 = 0
              · rw [if_pos c25] at H
                have c25b0 : (t259 == 0) = true := beq_iff_eq.mpr c25
                have c25b1 : (t259 != 0) = false := bne_eq_false_iff_eq.mpr c25
                clear c25
                obtain rfl := Option.some.inj H
                go_wp2
                go_ret
                exact ⟨by first | rfl | (simp [errW_none, errW_some] <;> rfl) | (simp [*, errW_none, errW_some] <;> rfl), by repeat (first | (with_reducible first | exact HB.out | apply below_alloc | apply pw_below_drewN | apply below_drew1 | refine below_set ?_ GE254.out) | exact HB.out)⟩
              · rw [if_neg c25] at H
                have c25b0 : (t259 == 0) = false := beq_eq_false_iff_ne.mpr c25
                have c25b1 : (t259 != 0) = true := bne_iff_ne.mpr c25
                obtain rfl := Option.some.inj H
                obtain ⟨Ao26, co26, eo26⟩ := Kd.R_slice HO_9.out
                subst eo26
                go_wp2
                go_ret
                exact ⟨by first | rfl | (simp [errW_none, errW_some] <;> rfl) | (simp [*, errW_none, errW_some] <;> rfl), by repeat (first | (with_reducible first | exact HB.out | apply below_alloc | apply pw_below_drewN | apply below_drew1 | refine below_set ?_ GE254.out) | exact HB.out)⟩
            · rw [if_neg c24] at H
              have c24b0 : (t253 == 0) = false := beq_eq_false_iff_ne.mpr c24
              have c24b1 : (t253 != 0) = true := bne_iff_ne.mpr c24
              by_cases c27 : (t251 == 0 && (t252 == 0)) = true
              · rw [if_pos c27] at H
                have c27b0 : (t251 == 0 && (t252 == 0)) = true := c27
                (try (have c27b1 : decide (t251 = 0 && (t252 == 0)) = true := by simpa using c27))
                (try (have c27b2 : (t251 == 0 && (t252 == 0)) = true := by simpa using c27))
                clear c27
                by_cases c28 : t259 = 0
                · rw [if_pos c28] at H
                  have c28b0 : (t259 == 0) = true := beq_iff_eq.mpr c28
                  have c28b1 : (t259 != 0) = false := bne_eq_false_iff_eq.mpr c28
                  clear c28
                  obtain rfl := Option.some.inj H
                  have hcz29_0 : wc.cell? ⟨gb254, 0, none⟩ = some (.int .i64 t251) := (blk_cell BK254.out 0).trans rfl
                  have hcz29_1 : wc.cell? ⟨gb254, 1, none⟩ = some (.int .i64 t252) := (blk_cell BK254.out 1).trans rfl
                  have hfz29_0 := blk_frozen BK254.out 0
                  have hfz29_1 := blk_frozen BK254.out 1
                  go_wp2
                  go_ret
                  exact ⟨by first | rfl | (simp [errW_none, errW_some] <;> rfl) | (simp [*, errW_none, errW_some] <;> rfl), by repeat (first | (with_reducible first | exact HB.out | apply below_alloc | apply pw_below_drewN | apply below_drew1 | refine below_set ?_ GE254.out) | exact HB.out)⟩
                · rw [if_neg c28] at H
                  have c28b0 : (t259 == 0) = false := beq_eq_false_iff_ne.mpr c28
                  have c28b1 : (t259 != 0) = true := bne_iff_ne.mpr c28
                  obtain rfl := Option.some.inj H
                  have hcz30_0 : wc.cell? ⟨gb254, 0, none⟩ = some (.int .i64 t251) := (blk_cell BK254.out 0).trans rfl
                  have hcz30_1 : wc.cell? ⟨gb254, 1, none⟩ = some (.int .i64 t252) := (blk_cell BK254.out 1).trans rfl
                  have hfz30_0 := blk_frozen BK254.out 0
                  have hfz30_1 := blk_frozen BK254.out 1
                  obtain ⟨Ao31, co31, eo31⟩ := Kd.R_slice HO_9.out
                  subst eo31
                  go_wp2
                  go_ret
                  exact ⟨by first | rfl | (simp [errW_none, errW_some] <;> rfl) | (simp [*, errW_none, errW_some] <;> rfl), by repeat (first | (with_reducible first | exact HB.out | apply below_alloc | apply pw_below_drewN | apply below_drew1 | refine below_set ?_ GE254.out) | exact HB.out)⟩
              · rw [if_neg c27] at H
                have c27b0 : (t251 == 0 && (t252 == 0)) = false := by simpa using c27
                (try (have c27b1 : decide (t251 = 0 && (t252 == 0)) = false := by simpa using c27))
                (try (have c27b2 : (t251 == 0 && (t252 == 0)) = false := by simpa using c27))
                (try (have c27b3 : ¬ (t251 = 0 && (t252 == 0)) := by simpa using c27))
                clear c27
                obtain rfl := Option.some.inj H
                have hcz32_0 : wc.cell? ⟨gb254, 0, none⟩ = some (.int .i64 t251) := (blk_cell BK254.out 0).trans rfl
                have hcz32_1 : wc.cell? ⟨gb254, 1, none⟩ = some (.int .i64 t252) := (blk_cell BK254.out 1).trans rfl
                have hfz32_0 := blk_frozen BK254.out 0
                have hfz32_1 := blk_frozen BK254.out 1
                go_wp2
                go_ret
                exact ⟨by first | rfl | (simp [errW_none, errW_some] <;> rfl) | (simp [*, errW_none, errW_some] <;> rfl), by repeat (first | (with_reducible first | exact HB.out | apply below_alloc | apply pw_below_drewN | apply below_drew1 | refine below_set ?_ GE254.out) | exact HB.out)⟩
          · replace c23 := Bool.eq_false_iff.mpr c23
            subst c23
            have H1 : ((slices_Clone_int_int.f t258).bind fun t262 => ((segment_Area.f a0 a1 t262).bind fun bt265 => (if bt265.2.2 = 0 then (if t251 > bt265.1 then (spilelaw07_SegmentFiner.j1 kj11 l2 t258 true) else (if bt265.1 > bt265.2.1 then (spilelaw07_SegmentFiner.j1 kj11 l2 t258 true) else (if bt265.2.1 > t252 then (spilelaw07_SegmentFiner.j1 kj11 l2 t258 true) else (if (t258.length : Int) = (wrap64 ((wrap64 (2 * (l2.length : Int))) - 1)) then ((slices_Clone_int_int.f t258).bind fun t269 => ((segment_Check.f t269).bind fun t272 => (spilelaw07_SegmentFiner.j1 kj11 l2 t258 (t272 != 0)))) else (spilelaw07_SegmentFiner.j1 kj11 l2 t258 true))))) else (spilelaw07_SegmentFiner.j1 kj11 l2 t258 true)))) = some r := by rw [if_neg (show ¬ (false = true) by decide)] at H; exact H
            clear H
            have H := H1
            clear H1
            replace H := Option.bind_eq_some_iff.mp H
            obtain ⟨t262, A330, H⟩ := H
            replace H : ((segment_Area.f a0 a1 t262).bind fun bt265 => (if bt265.2.2 = 0 then (if t251 > bt265.1 then (spilelaw07_SegmentFiner.j1 kj11 l2 t258 true) else (if bt265.1 > bt265.2.1 then (spilelaw07_SegmentFiner.j1 kj11 l2 t258 true) else (if bt265.2.1 > t252 then (spilelaw07_SegmentFiner.j1 kj11 l2 t258 true) else (if (t258.length : Int) = (wrap64 ((wrap64 (2 * (l2.length : Int))) - 1)) then ((slices_Clone_int_int.f t258).bind fun t269 => ((segment_Check.f t269).bind fun t272 => (spilelaw07_SegmentFiner.j1 kj11 l2 t258 (t272 != 0)))) else (spilelaw07_SegmentFiner.j1 kj11 l2 t258 true))))) else (spilelaw07_SegmentFiner.j1 kj11 l2 t258 true))) = some r := H
            have A33 := Aside0.mk A330
            clear A330
            replace H := Option.bind_eq_some_iff.mp H
            obtain ⟨⟨t265, t266, t267⟩, A340, H⟩ := H
            replace H : (if t267 = 0 then (if t251 > t265 then (spilelaw07_SegmentFiner.j1 kj11 l2 t258 true) else (if t265 > t266 then (spilelaw07_SegmentFiner.j1 kj11 l2 t258 true) else (if t266 > t252 then (spilelaw07_SegmentFiner.j1 kj11 l2 t258 true) else (if (t258.length : Int) = (wrap64 ((wrap64 (2 * (l2.length : Int))) - 1)) then ((slices_Clone_int_int.f t258).bind fun t269 => ((segment_Check.f t269).bind fun t272 => (spilelaw07_SegmentFiner.j1 kj11 l2 t258 (t272 != 0)))) else (spilelaw07_SegmentFiner.j1 kj11 l2 t258 true))))) else (spilelaw07_SegmentFiner.j1 kj11 l2 t258 true)) = some r := H
            have A34 := Aside0.mk A340
            clear A340
            have HC35 := Aside0.mk H
            clear H
            obtain ⟨Ao36, co36, eo36⟩ := Kd.R_slice HO_9.out
            subst eo36
            go_upto_region 10 with (first | ((with_reducible refine gate_callee (f := 15) rfl ?_); refine goesL_ (some 60) rfl rfl Try.func15 (by kernel_rfl) rfl #[.slice Ao36 t258.length co36] rfl (by (try simp only [List.map_toArray, List.map_cons, List.map_nil]); first | done | rfl | (simp only [List.length_drop, List.length_take]; rfl)) ?_; (with_reducible refine (slices_Clone_int_int.calls _ _ t258 t262 _ ?side1 ?side2 A33.out).mono ?_); (case side1 => repeat (first | exact (Kd.R_reads' HO_9.out).2.2 | (with_reducible refine Kd.C_alloc ?_ _) | (with_reducible refine Kd.C_drewN ?_ _) | (with_reducible refine Kd.C_drew ?_))); (case side2 => exact (Kd.R_reads' HO_9.out).2.1); rintro e w37 ⟨v263, rfl, ho0, hb⟩; refine ⟨_, rfl, ?_⟩; have n0_ := Aside0.mk (Kd.R_elder' (by (with_reducible repeat (first | apply Kd.R_alloc | apply Kd.R_drewN | apply Kd.R_drew)); exact HO_9.out) (Kd.R_base ho0) hb); have n1_ := Aside0.mk (Kd.R_lower (Kd.R_new' ho0 (Kd.R_lt (by (with_reducible repeat (first | apply Kd.R_alloc | apply Kd.R_drewN | apply Kd.R_drew)); exact HO_9.out))) (below_size (by repeat (first | (with_reducible first | exact HB.out | apply below_alloc | apply pw_below_drewN | apply below_drew1 | refine below_set ?_ GE254.out) | exact HB.out)))); have n2_ := Aside0.mk (blk_below (g := gb254) (o := .cells #[.int .i64 t251, .int .i64 t252] 24 (0, 0)) (by (with_reducible repeat (first | refine blk_drewN ?_ _ | refine blk_drew ?_ | refine blk_alloc ?_ _)); exact BK254.out) hb); have n3_ := Aside0.mk (below_step (by repeat (first | (with_reducible first | exact HB.out | apply below_alloc | apply pw_below_drewN | apply below_drew1 | refine below_set ?_ GE254.out) | exact HB.out)) hb); clear HO_9; clear BK254; clear HB; have HO_9 := n0_; have HO264 := n1_; have BK254 := n2_; have HB := n3_; clear n0_ n1_ n2_ n3_; (try clear hb); (try clear hb2); (try clear hk); (try clear hi); (try clear ho0); obtain ⟨Ao38, co38, eo38⟩ := Kd.R_slice HO264.out; subst eo38) | ((with_reducible refine gate_callee (f := 12) rfl ?_); refine goesL_ (some 61) rfl rfl Try.func12 (by kernel_rfl) rfl #[.int .i64 a0, .int .i64 a1, .slice Ao38 t262.length co38] rfl (by (try simp only [List.map_toArray, List.map_cons, List.map_nil]); first | done | rfl | (simp only [List.length_drop, List.length_take]; rfl)) ?_; (with_reducible refine (segment_Area.calls a0 a1 _ _ t262 t265 t266 t267 _ ?side1 ?side2 A34.out).mono ?_); (case side1 => repeat (first | exact (Kd.R_reads' HO264.out).2.2 | (with_reducible refine Kd.C_alloc ?_ _) | (with_reducible refine Kd.C_drewN ?_ _) | (with_reducible refine Kd.C_drew ?_))); (case side2 => exact (Kd.R_reads' HO264.out).2.1); rintro e w39 ⟨rfl, hb⟩; refine ⟨_, rfl, ?_⟩; have n0_ := Aside0.mk (Kd.R_below (by (with_reducible repeat (first | apply Kd.R_alloc | apply Kd.R_drewN | apply Kd.R_drew)); exact HO_9.out) hb); have n1_ := Aside0.mk (Kd.R_below (by (with_reducible repeat (first | apply Kd.R_alloc | apply Kd.R_drewN | apply Kd.R_drew)); exact HO264.out) hb); have n2_ := Aside0.mk (blk_below (g := gb254) (o := .cells #[.int .i64 t251, .int .i64 t252] 24 (0, 0)) (by (with_reducible repeat (first | refine blk_drewN ?_ _ | refine blk_drew ?_ | refine blk_alloc ?_ _)); exact BK254.out) hb); have n3_ := Aside0.mk (below_step (by repeat (first | (with_reducible first | exact HB.out | apply below_alloc | apply pw_below_drewN | apply below_drew1 | refine below_set ?_ GE254.out) | exact HB.out)) hb); clear HO_9; clear HO264; clear BK254; clear HB; have HO_9 := n0_; have HO264 := n1_; have BK254 := n2_; have HB := n3_; clear n0_ n1_ n2_ n3_; (try clear hb); (try clear hb2); (try clear hk); (try clear hi)) | ((with_reducible refine gate_dst (N := 11) rfl ?_); (try (refine gate_guard (by rfl) ?_; dsimp only)); refine box_event ?hg (N := 11) ?hd (cs := #[.int .i64 0, .int .i64 0]) (t := 24) ?hr ?_; (case hd => rfl); (case hg => rfl); (case hr => first | (go_simp; done) | (go_simp; rfl)); intro gb268 hg w40 hbox hb; have n0_ := Aside0.mk (Kd.R_below (by (with_reducible repeat (first | apply Kd.R_alloc | apply Kd.R_drewN | apply Kd.R_drew)); exact HO_9.out) hb); have n1_ := Aside0.mk (Kd.R_below (by (with_reducible repeat (first | apply Kd.R_alloc | apply Kd.R_drewN | apply Kd.R_drew)); exact HO264.out) hb); have n2_ := Aside0.mk (blk_below (g := gb254) (o := .cells #[.int .i64 t251, .int .i64 t252] 24 (0, 0)) (by (with_reducible repeat (first | refine blk_drewN ?_ _ | refine blk_drew ?_ | refine blk_alloc ?_ _)); exact BK254.out) hb); have n3_ := Aside0.mk (below_step (by repeat (first | (with_reducible first | exact HB.out | apply below_alloc | apply pw_below_drewN | apply below_drew1 | refine below_set ?_ GE254.out) | exact HB.out)) hb); have n4_ := Aside0.mk (hbox); have n5_ := Aside0.mk ((by rw [hg]; exact (below_size (by repeat (first | (with_reducible first | exact HB.out | apply below_alloc | apply pw_below_drewN | apply below_drew1 | refine below_set ?_ GE254.out) | exact HB.out))) : w.heap.size ≤ gb268)); have n6_ := Aside0.mk ((by rw [hg]; exact (below_size (by repeat (first | (with_reducible first | exact HB.out | apply below_alloc | apply pw_below_drewN | apply below_drew1 | refine below_set ?_ GE254.out) | exact HB.out))) : w.heap.size ≤ gb268)); have n7_ := Aside0.mk ((by rw [hg]; exact Nat.ne_of_lt (blk_lt (g := gb254) (o := .cells #[.int .i64 t251, .int .i64 t252] 24 (0, 0)) (by (with_reducible repeat (first | refine blk_drewN ?_ _ | refine blk_drew ?_ | refine blk_alloc ?_ _)); exact BK254.out)) : gb254 ≠ gb268)); have n8_ := Aside0.mk ((by rw [hg]; exact Nat.ne_of_gt (blk_lt (g := gb254) (o := .cells #[.int .i64 t251, .int .i64 t252] 24 (0, 0)) (by (with_reducible repeat (first | refine blk_drewN ?_ _ | refine blk_drew ?_ | refine blk_alloc ?_ _)); exact BK254.out)) : gb268 ≠ gb254)); clear HO_9; clear HO264; clear BK254; clear HB; have HO_9 := n0_; have HO264 := n1_; have BK254 := n2_; have HB := n3_; have BK268 := n4_; have GW268 := n5_; have GE268 := n6_; have NB254_268 := n7_; have NB268_254 := n8_; clear n0_ n1_ n2_ n3_ n4_ n5_ n6_ n7_ n8_; clear hb hbox hg; have hnb41 := NB268_254.out; have hnc41 := NB254_268.out; have hcz42_0 : w40.cell? ⟨gb268, 0, none⟩ = some (.int .i64 0) := (blk_cell BK268.out 0).trans rfl; have hcz42_1 : w40.cell? ⟨gb268, 1, none⟩ = some (.int .i64 0) := (blk_cell BK268.out 1).trans rfl; have hfz42_0 := blk_frozen BK268.out 0; have hfz42_1 := blk_frozen BK268.out 1))
            (try simp only [Act.put, List.setIfInBounds_toArray, List.set_cons_zero, List.set_cons_succ])
            go_cut [101] (fun v101 wc => ∃ (kq : Nat) (x101_34 : Bool), v101 = .bool x101_34 ∧ Aside0 (spilelaw07_SegmentFiner.j1 kq l2 t258 x101_34 = some r) ∧ Aside0 (kq ≤ kj11) ∧ Aside0 (Kd.R (Kd.int .i64) 3 wc w.heap.size (fun _ => True) (.slice Ao36 t258.length co36) t258) ∧ Aside0 (wc.heap[gb254]? = some (.cells #[.int .i64 t251, .int .i64 t252] 24 (0, 0))) ∧ Aside0 (wc.heap[gb268]? = some (.cells #[.int .i64 t265, .int .i64 t266] 24 (0, 0))) ∧ Aside0 (Below w.heap.size w wc))
            case first =>
              have H := HC35.out
              clear HC35
              by_cases c43 : t267 = 0
              · rw [if_pos c43] at H
                have c43b0 : (t267 == 0) = true := beq_iff_eq.mpr c43
                have c43b1 : (t267 != 0) = false := bne_eq_false_iff_eq.mpr c43
                clear c43
                (first | rw [c43b0] | (simp only [i64_w, i32_w]; rw [c43b0]) | skip)
                by_cases c44 : t251 > t265
                · rw [if_pos c44] at H
                  have c44b0 : decide (t265 < t251) = true := decide_eq_true c44
                  clear c44
                  have H' := Aside0.mk H
                  clear H
                  have hnb45 := NB254_268.out
                  have hnc45 := NB268_254.out
                  have hcz46_0 : w40.cell? ⟨gb254, 0, none⟩ = some (.int .i64 t251) := (blk_cell BK254.out 0).trans rfl
                  have hcz46_1 : w40.cell? ⟨gb254, 1, none⟩ = some (.int .i64 t252) := (blk_cell BK254.out 1).trans rfl
                  have hfz46_0 := blk_frozen BK254.out 0
                  have hfz46_1 := blk_frozen BK254.out 1
                  have hcz47_0 : w40.cell? ⟨gb268, 0, none⟩ = some (.int .i64 0) := (blk_cell BK268.out 0).trans rfl
                  have hcz47_1 : w40.cell? ⟨gb268, 1, none⟩ = some (.int .i64 0) := (blk_cell BK268.out 1).trans rfl
                  have hfz47_0 := blk_frozen BK268.out 0
                  have hfz47_1 := blk_frozen BK268.out 1
                  go_wp2
                  go_meet
                  case rel => exact ⟨_, (true), (by first | rfl | (simp; done) | (simp [*]; done)), H', ⟨by have := HJ11.out; first | omega | exact Nat.le_refl _⟩, ⟨by (with_reducible repeat (first | apply Kd.R_alloc | apply Kd.R_drewN | apply Kd.R_drew)); exact Kd.R_mono (Kd.R_far (p := ⟨gb268, 1, none⟩) (Kd.R_far (p := ⟨gb268, 0, none⟩) (Kd.R_types HO_9.out BK268.out (by decide)) (fun _ hk => hk.2) (.int .i64 t265)) (fun _ hk => hk.2) (.int .i64 t266)) (fun _ hk => trivial)⟩, ⟨by (with_reducible repeat (first | refine blk_drewN ?_ _ | refine blk_drew ?_ | refine blk_alloc ?_ _)); refine blk_far ?_ NB254_268.out _; (with_reducible repeat (first | refine blk_drewN ?_ _ | refine blk_drew ?_ | refine blk_alloc ?_ _)); refine blk_far ?_ NB254_268.out _; (with_reducible repeat (first | refine blk_drewN ?_ _ | refine blk_drew ?_ | refine blk_alloc ?_ _)); exact BK254.out⟩, ⟨by (with_reducible repeat (first | refine blk_drewN ?_ _ | refine blk_drew ?_ | refine blk_alloc ?_ _)); refine blk_put (cs := #[.int .i64 t265, .int .i64 0]) ?_ 1 _ rfl; (with_reducible repeat (first | refine blk_drewN ?_ _ | refine blk_drew ?_ | refine blk_alloc ?_ _)); refine blk_put (cs := #[.int .i64 0, .int .i64 0]) ?_ 0 _ rfl; (with_reducible repeat (first | refine blk_drewN ?_ _ | refine blk_drew ?_ | refine blk_alloc ?_ _)); exact BK268.out⟩, ⟨by repeat (first | (with_reducible first | exact HB.out | apply below_alloc | apply pw_below_drewN | apply below_drew1 | refine below_set ?_ GE254.out | refine below_set ?_ GE268.out) | exact HB.out)⟩⟩
                · rw [if_neg c44] at H
                  have c44b0 : decide (t265 < t251) = false := decide_eq_false c44
                  clear c44
                  by_cases c48 : t265 > t266
                  · rw [if_pos c48] at H
                    have c48b0 : decide (t266 < t265) = true := decide_eq_true c48
                    clear c48
                    have H' := Aside0.mk H
                    clear H
                    have hnb49 := NB254_268.out
                    have hnc49 := NB268_254.out
                    have hcz50_0 : w40.cell? ⟨gb254, 0, none⟩ = some (.int .i64 t251) := (blk_cell BK254.out 0).trans rfl
                    have hcz50_1 : w40.cell? ⟨gb254, 1, none⟩ = some (.int .i64 t252) := (blk_cell BK254.out 1).trans rfl
                    have hfz50_0 := blk_frozen BK254.out 0
                    have hfz50_1 := blk_frozen BK254.out 1
                    have hcz51_0 : w40.cell? ⟨gb268, 0, none⟩ = some (.int .i64 0) := (blk_cell BK268.out 0).trans rfl
                    have hcz51_1 : w40.cell? ⟨gb268, 1, none⟩ = some (.int .i64 0) := (blk_cell BK268.out 1).trans rfl
                    have hfz51_0 := blk_frozen BK268.out 0
                    have hfz51_1 := blk_frozen BK268.out 1
                    go_wp2
                    go_meet
                    case rel => exact ⟨_, (true), (by first | rfl | (simp; done) | (simp [*]; done)), H', ⟨by have := HJ11.out; first | omega | exact Nat.le_refl _⟩, ⟨by (with_reducible repeat (first | apply Kd.R_alloc | apply Kd.R_drewN | apply Kd.R_drew)); exact Kd.R_mono (Kd.R_far (p := ⟨gb268, 1, none⟩) (Kd.R_far (p := ⟨gb268, 0, none⟩) (Kd.R_types HO_9.out BK268.out (by decide)) (fun _ hk => hk.2) (.int .i64 t265)) (fun _ hk => hk.2) (.int .i64 t266)) (fun _ hk => trivial)⟩, ⟨by (with_reducible repeat (first | refine blk_drewN ?_ _ | refine blk_drew ?_ | refine blk_alloc ?_ _)); refine blk_far ?_ NB254_268.out _; (with_reducible repeat (first | refine blk_drewN ?_ _ | refine blk_drew ?_ | refine blk_alloc ?_ _)); refine blk_far ?_ NB254_268.out _; (with_reducible repeat (first | refine blk_drewN ?_ _ | refine blk_drew ?_ | refine blk_alloc ?_ _)); exact BK254.out⟩, ⟨by (with_reducible repeat (first | refine blk_drewN ?_ _ | refine blk_drew ?_ | refine blk_alloc ?_ _)); refine blk_put (cs := #[.int .i64 t265, .int .i64 0]) ?_ 1 _ rfl; (with_reducible repeat (first | refine blk_drewN ?_ _ | refine blk_drew ?_ | refine blk_alloc ?_ _)); refine blk_put (cs := #[.int .i64 0, .int .i64 0]) ?_ 0 _ rfl; (with_reducible repeat (first | refine blk_drewN ?_ _ | refine blk_drew ?_ | refine blk_alloc ?_ _)); exact BK268.out⟩, ⟨by repeat (first | (with_reducible first | exact HB.out | apply below_alloc | apply pw_below_drewN | apply below_drew1 | refine below_set ?_ GE254.out | refine below_set ?_ GE268.out) | exact HB.out)⟩⟩
                  · rw [if_neg c48] at H
                    have c48b0 : decide (t266 < t265) = false := decide_eq_false c48
                    clear c48
                    by_cases c52 : t266 > t252
                    · rw [if_pos c52] at H
                      have c52b0 : decide (t252 < t266) = true := decide_eq_true c52
                      clear c52
                      have H' := Aside0.mk H
                      clear H
                      have hnb53 := NB254_268.out
                      have hnc53 := NB268_254.out
                      have hcz54_0 : w40.cell? ⟨gb254, 0, none⟩ = some (.int .i64 t251) := (blk_cell BK254.out 0).trans rfl
                      have hcz54_1 : w40.cell? ⟨gb254, 1, none⟩ = some (.int .i64 t252) := (blk_cell BK254.out 1).trans rfl
                      have hfz54_0 := blk_frozen BK254.out 0
                      have hfz54_1 := blk_frozen BK254.out 1
                      have hcz55_0 : w40.cell? ⟨gb268, 0, none⟩ = some (.int .i64 0) := (blk_cell BK268.out 0).trans rfl
                      have hcz55_1 : w40.cell? ⟨gb268, 1, none⟩ = some (.int .i64 0) := (blk_cell BK268.out 1).trans rfl
                      have hfz55_0 := blk_frozen BK268.out 0
                      have hfz55_1 := blk_frozen BK268.out 1
                      go_wp2
                      go_meet
                      case rel => exact ⟨_, (true), (by first | rfl | (simp; done) | (simp [*]; done)), H', ⟨by have := HJ11.out; first | omega | exact Nat.le_refl _⟩, ⟨by (with_reducible repeat (first | apply Kd.R_alloc | apply Kd.R_drewN | apply Kd.R_drew)); exact Kd.R_mono (Kd.R_far (p := ⟨gb268, 1, none⟩) (Kd.R_far (p := ⟨gb268, 0, none⟩) (Kd.R_types HO_9.out BK268.out (by decide)) (fun _ hk => hk.2) (.int .i64 t265)) (fun _ hk => hk.2) (.int .i64 t266)) (fun _ hk => trivial)⟩, ⟨by (with_reducible repeat (first | refine blk_drewN ?_ _ | refine blk_drew ?_ | refine blk_alloc ?_ _)); refine blk_far ?_ NB254_268.out _; (with_reducible repeat (first | refine blk_drewN ?_ _ | refine blk_drew ?_ | refine blk_alloc ?_ _)); refine blk_far ?_ NB254_268.out _; (with_reducible repeat (first | refine blk_drewN ?_ _ | refine blk_drew ?_ | refine blk_alloc ?_ _)); exact BK254.out⟩, ⟨by (with_reducible repeat (first | refine blk_drewN ?_ _ | refine blk_drew ?_ | refine blk_alloc ?_ _)); refine blk_put (cs := #[.int .i64 t265, .int .i64 0]) ?_ 1 _ rfl; (with_reducible repeat (first | refine blk_drewN ?_ _ | refine blk_drew ?_ | refine blk_alloc ?_ _)); refine blk_put (cs := #[.int .i64 0, .int .i64 0]) ?_ 0 _ rfl; (with_reducible repeat (first | refine blk_drewN ?_ _ | refine blk_drew ?_ | refine blk_alloc ?_ _)); exact BK268.out⟩, ⟨by repeat (first | (with_reducible first | exact HB.out | apply below_alloc | apply pw_below_drewN | apply below_drew1 | refine below_set ?_ GE254.out | refine below_set ?_ GE268.out) | exact HB.out)⟩⟩
                    · rw [if_neg c52] at H
                      have c52b0 : decide (t252 < t266) = false := decide_eq_false c52
                      clear c52
                      by_cases c56 : (t258.length : Int) = (wrap64 ((wrap64 (2 * (l2.length : Int))) - 1))
                      · rw [if_pos c56] at H
                        have c56b0 : ((t258.length : Int) == (wrap64 ((wrap64 (2 * (l2.length : Int))) - 1))) = true := beq_iff_eq.mpr c56
                        have c56b1 : ((t258.length : Int) != (wrap64 ((wrap64 (2 * (l2.length : Int))) - 1))) = false := bne_eq_false_iff_eq.mpr c56
                        clear c56
                        replace H := Option.bind_eq_some_iff.mp H
                        obtain ⟨t269, A570, H⟩ := H
                        replace H : ((segment_Check.f t269).bind fun t272 => (spilelaw07_SegmentFiner.j1 kj11 l2 t258 (t272 != 0))) = some r := H
                        have A57 := Aside0.mk A570
                        clear A570
                        replace H := Option.bind_eq_some_iff.mp H
                        obtain ⟨t272, A580, H⟩ := H
                        replace H : (spilelaw07_SegmentFiner.j1 kj11 l2 t258 (t272 != 0)) = some r := H
                        have A58 := Aside0.mk A580
                        clear A580
                        have H' := Aside0.mk H
                        clear H
                        have hnb59 := NB254_268.out
                        have hnc59 := NB268_254.out
                        have hcz60_0 : w40.cell? ⟨gb254, 0, none⟩ = some (.int .i64 t251) := (blk_cell BK254.out 0).trans rfl
                        have hcz60_1 : w40.cell? ⟨gb254, 1, none⟩ = some (.int .i64 t252) := (blk_cell BK254.out 1).trans rfl
                        have hfz60_0 := blk_frozen BK254.out 0
                        have hfz60_1 := blk_frozen BK254.out 1
                        have hcz61_0 : w40.cell? ⟨gb268, 0, none⟩ = some (.int .i64 0) := (blk_cell BK268.out 0).trans rfl
                        have hcz61_1 : w40.cell? ⟨gb268, 1, none⟩ = some (.int .i64 0) := (blk_cell BK268.out 1).trans rfl
                        have hfz61_0 := blk_frozen BK268.out 0
                        have hfz61_1 := blk_frozen BK268.out 1
                        go_wp2_with (first | (go_at_call 15; (with_reducible refine (slices_Clone_int_int.calls _ _ t258 t269 _ ?side1 ?side2 A57.out).mono ?_); (case side1 => refine (Kd.R_reads' (e := 3) (base := w.heap.size) (ok := fun k_ => (True ∧ some k_ ≠ (.slice Ao38 t262.length co38 : Value).ownBlock)) (n := t258.length) (c := co36) ?_).2.2; exact (by (with_reducible repeat (first | apply Kd.R_alloc | apply Kd.R_drewN | apply Kd.R_drew)); exact (Kd.R_mono (Kd.R_far (p := ⟨gb268, 1, none⟩) (Kd.R_far (p := ⟨gb268, 0, none⟩) (Kd.R_types HO_9.out BK268.out (by decide)) (fun _ hk => hk.2) (.int .i64 t265)) (fun _ hk => hk.2) (.int .i64 t266)) (fun _ h_ => h_.1)))); (case side2 => exact (Kd.R_reads' HO_9.out).2.1); rintro e w62 ⟨v270, rfl, ho0, hb⟩; have n0_ := Aside0.mk (Kd.R_elder' (by (with_reducible repeat (first | apply Kd.R_alloc | apply Kd.R_drewN | apply Kd.R_drew)); exact (Kd.R_mono (Kd.R_far (p := ⟨gb268, 1, none⟩) (Kd.R_far (p := ⟨gb268, 0, none⟩) (Kd.R_types HO_9.out BK268.out (by decide)) (fun _ hk => hk.2) (.int .i64 t265)) (fun _ hk => hk.2) (.int .i64 t266)) (fun _ h_ => h_.1))) (Kd.R_base ho0) hb); have n1_ := Aside0.mk (Kd.R_elder' (by (with_reducible repeat (first | apply Kd.R_alloc | apply Kd.R_drewN | apply Kd.R_drew)); exact (Kd.R_mono (Kd.R_far (p := ⟨gb268, 1, none⟩) (Kd.R_far (p := ⟨gb268, 0, none⟩) (Kd.R_types HO264.out BK268.out (by decide)) (fun _ hk => hk.2) (.int .i64 t265)) (fun _ hk => hk.2) (.int .i64 t266)) (fun _ h_ => h_.1))) (Kd.R_base ho0) hb); have n2_ := Aside0.mk (Kd.R_lower (Kd.R_new' (Kd.R_new' ho0 (Kd.R_lt (by (with_reducible repeat (first | apply Kd.R_alloc | apply Kd.R_drewN | apply Kd.R_drew)); exact (Kd.R_mono (Kd.R_far (p := ⟨gb268, 1, none⟩) (Kd.R_far (p := ⟨gb268, 0, none⟩) (Kd.R_types HO_9.out BK268.out (by decide)) (fun _ hk => hk.2) (.int .i64 t265)) (fun _ hk => hk.2) (.int .i64 t266)) (fun _ h_ => h_.1))))) (Kd.R_lt (by (with_reducible repeat (first | apply Kd.R_alloc | apply Kd.R_drewN | apply Kd.R_drew)); exact (Kd.R_mono (Kd.R_far (p := ⟨gb268, 1, none⟩) (Kd.R_far (p := ⟨gb268, 0, none⟩) (Kd.R_types HO264.out BK268.out (by decide)) (fun _ hk => hk.2) (.int .i64 t265)) (fun _ hk => hk.2) (.int .i64 t266)) (fun _ h_ => h_.1))))) (below_size (by repeat (first | (with_reducible first | exact HB.out | apply below_alloc | apply pw_below_drewN | apply below_drew1 | refine below_set ?_ GE254.out | refine below_set ?_ GE268.out) | exact HB.out)))); have n3_ := Aside0.mk (blk_below (g := gb254) (o := .cells #[.int .i64 t251, .int .i64 t252] 24 (0, 0)) (by (with_reducible repeat (first | refine blk_drewN ?_ _ | refine blk_drew ?_ | refine blk_alloc ?_ _)); refine blk_far ?_ NB254_268.out _; (with_reducible repeat (first | refine blk_drewN ?_ _ | refine blk_drew ?_ | refine blk_alloc ?_ _)); refine blk_far ?_ NB254_268.out _; (with_reducible repeat (first | refine blk_drewN ?_ _ | refine blk_drew ?_ | refine blk_alloc ?_ _)); exact BK254.out) hb); have n4_ := Aside0.mk (blk_below (g := gb268) (o := .cells #[.int .i64 t265, .int .i64 t266] 24 (0, 0)) (by (with_reducible repeat (first | refine blk_drewN ?_ _ | refine blk_drew ?_ | refine blk_alloc ?_ _)); refine blk_put (cs := #[.int .i64 t265, .int .i64 0]) ?_ 1 _ rfl; (with_reducible repeat (first | refine blk_drewN ?_ _ | refine blk_drew ?_ | refine blk_alloc ?_ _)); refine blk_put (cs := #[.int .i64 0, .int .i64 0]) ?_ 0 _ rfl; (with_reducible repeat (first | refine blk_drewN ?_ _ | refine blk_drew ?_ | refine blk_alloc ?_ _)); exact BK268.out) hb); have n5_ := Aside0.mk (below_step (by repeat (first | (with_reducible first | exact HB.out | apply below_alloc | apply pw_below_drewN | apply below_drew1 | refine below_set ?_ GE254.out | refine below_set ?_ GE268.out) | exact HB.out)) hb); clear HO_9; clear HO264; clear BK254; clear BK268; clear HB; have HO_9 := n0_; have HO264 := n1_; have HO271 := n2_; have BK254 := n3_; have BK268 := n4_; have HB := n5_; clear n0_ n1_ n2_ n3_ n4_ n5_; (try clear hb); (try clear hb2); (try clear hk); (try clear hi); (try clear ho0); obtain ⟨Ao63, co63, eo63⟩ := Kd.R_slice HO271.out; subst eo63) | (go_at_call 18; (with_reducible refine (segment_Check.calls _ _ t269 t272 _ ?side1 ?side2 A58.out).mono ?_); (case side1 => repeat (first | exact (Kd.R_reads' HO271.out).2.2 | (with_reducible refine Kd.C_alloc ?_ _) | (with_reducible refine Kd.C_drewN ?_ _) | (with_reducible refine Kd.C_drew ?_))); (case side2 => exact (Kd.R_reads' HO271.out).2.1); rintro e w64 ⟨rfl, hb⟩; have n0_ := Aside0.mk (Kd.R_below (by (with_reducible repeat (first | apply Kd.R_alloc | apply Kd.R_drewN | apply Kd.R_drew)); exact HO_9.out) hb); have n1_ := Aside0.mk (Kd.R_below (by (with_reducible repeat (first | apply Kd.R_alloc | apply Kd.R_drewN | apply Kd.R_drew)); exact HO264.out) hb); have n2_ := Aside0.mk (Kd.R_below (by (with_reducible repeat (first | apply Kd.R_alloc | apply Kd.R_drewN | apply Kd.R_drew)); exact HO271.out) hb); have n3_ := Aside0.mk (blk_below (g := gb254) (o := .cells #[.int .i64 t251, .int .i64 t252] 24 (0, 0)) (by (with_reducible repeat (first | refine blk_drewN ?_ _ | refine blk_drew ?_ | refine blk_alloc ?_ _)); exact BK254.out) hb); have n4_ := Aside0.mk (blk_below (g := gb268) (o := .cells #[.int .i64 t265, .int .i64 t266] 24 (0, 0)) (by (with_reducible repeat (first | refine blk_drewN ?_ _ | refine blk_drew ?_ | refine blk_alloc ?_ _)); exact BK268.out) hb); have n5_ := Aside0.mk (below_step (by repeat (first | (with_reducible first | exact HB.out | apply below_alloc | apply pw_below_drewN | apply below_drew1 | refine below_set ?_ GE254.out | refine below_set ?_ GE268.out) | exact HB.out)) hb); clear HO_9; clear HO264; clear HO271; clear BK254; clear BK268; clear HB; have HO_9 := n0_; have HO264 := n1_; have HO271 := n2_; have BK254 := n3_; have BK268 := n4_; have HB := n5_; clear n0_ n1_ n2_ n3_ n4_ n5_; (try clear hb); (try clear hb2); (try clear hk); (try clear hi)))
                        go_meet
                        case rel => exact ⟨_, ((t272 != 0)), (by first | rfl | (simp; done) | (simp [*]; done)), H', ⟨by have := HJ11.out; first | omega | exact Nat.le_refl _⟩, ⟨by (with_reducible repeat (first | apply Kd.R_alloc | apply Kd.R_drewN | apply Kd.R_drew)); exact Kd.R_mono HO_9.out (fun _ hk => trivial)⟩, ⟨by (with_reducible repeat (first | refine blk_drewN ?_ _ | refine blk_drew ?_ | refine blk_alloc ?_ _)); exact BK254.out⟩, ⟨by (with_reducible repeat (first | refine blk_drewN ?_ _ | refine blk_drew ?_ | refine blk_alloc ?_ _)); exact BK268.out⟩, ⟨by repeat (first | (with_reducible first | exact HB.out | apply below_alloc | apply pw_below_drewN | apply below_drew1 | refine below_set ?_ GE254.out | refine below_set ?_ GE268.out) | exact HB.out)⟩⟩
                      · rw [if_neg c56] at H
                        have c56b0 : ((t258.length : Int) == (wrap64 ((wrap64 (2 * (l2.length : Int))) - 1))) = false := beq_eq_false_iff_ne.mpr c56
                        have c56b1 : ((t258.length : Int) != (wrap64 ((wrap64 (2 * (l2.length : Int))) - 1))) = true := bne_iff_ne.mpr c56
                        have H' := Aside0.mk H
                        clear H
                        have hnb65 := NB254_268.out
                        have hnc65 := NB268_254.out
                        have hcz66_0 : w40.cell? ⟨gb254, 0, none⟩ = some (.int .i64 t251) := (blk_cell BK254.out 0).trans rfl
                        have hcz66_1 : w40.cell? ⟨gb254, 1, none⟩ = some (.int .i64 t252) := (blk_cell BK254.out 1).trans rfl
                        have hfz66_0 := blk_frozen BK254.out 0
                        have hfz66_1 := blk_frozen BK254.out 1
                        have hcz67_0 : w40.cell? ⟨gb268, 0, none⟩ = some (.int .i64 0) := (blk_cell BK268.out 0).trans rfl
                        have hcz67_1 : w40.cell? ⟨gb268, 1, none⟩ = some (.int .i64 0) := (blk_cell BK268.out 1).trans rfl
                        have hfz67_0 := blk_frozen BK268.out 0
                        have hfz67_1 := blk_frozen BK268.out 1
                        go_wp2
                        go_meet
                        case rel => exact ⟨_, (true), (by first | rfl | (simp; done) | (simp [*]; done)), H', ⟨by have := HJ11.out; first | omega | exact Nat.le_refl _⟩, ⟨by (with_reducible repeat (first | apply Kd.R_alloc | apply Kd.R_drewN | apply Kd.R_drew)); exact Kd.R_mono (Kd.R_far (p := ⟨gb268, 1, none⟩) (Kd.R_far (p := ⟨gb268, 0, none⟩) (Kd.R_types HO_9.out BK268.out (by decide)) (fun _ hk => hk.2) (.int .i64 t265)) (fun _ hk => hk.2) (.int .i64 t266)) (fun _ hk => trivial)⟩, ⟨by (with_reducible repeat (first | refine blk_drewN ?_ _ | refine blk_drew ?_ | refine blk_alloc ?_ _)); refine blk_far ?_ NB254_268.out _; (with_reducible repeat (first | refine blk_drewN ?_ _ | refine blk_drew ?_ | refine blk_alloc ?_ _)); refine blk_far ?_ NB254_268.out _; (with_reducible repeat (first | refine blk_drewN ?_ _ | refine blk_drew ?_ | refine blk_alloc ?_ _)); exact BK254.out⟩, ⟨by (with_reducible repeat (first | refine blk_drewN ?_ _ | refine blk_drew ?_ | refine blk_alloc ?_ _)); refine blk_put (cs := #[.int .i64 t265, .int .i64 0]) ?_ 1 _ rfl; (with_reducible repeat (first | refine blk_drewN ?_ _ | refine blk_drew ?_ | refine blk_alloc ?_ _)); refine blk_put (cs := #[.int .i64 0, .int .i64 0]) ?_ 0 _ rfl; (with_reducible repeat (first | refine blk_drewN ?_ _ | refine blk_drew ?_ | refine blk_alloc ?_ _)); exact BK268.out⟩, ⟨by repeat (first | (with_reducible first | exact HB.out | apply below_alloc | apply pw_below_drewN | apply below_drew1 | refine below_set ?_ GE254.out | refine below_set ?_ GE268.out) | exact HB.out)⟩⟩
              · rw [if_neg c43] at H
                have c43b0 : (t267 == 0) = false := beq_eq_false_iff_ne.mpr c43
                have c43b1 : (t267 != 0) = true := bne_iff_ne.mpr c43
                (first | rw [c43b0] | (simp only [i64_w, i32_w]; rw [c43b0]) | skip)
                have H' := Aside0.mk H
                clear H
                go_wp2
                go_meet
                case rel => exact ⟨_, (true), (by first | rfl | (simp; done) | (simp [*]; done)), H', ⟨by have := HJ11.out; first | omega | exact Nat.le_refl _⟩, ⟨by (with_reducible repeat (first | apply Kd.R_alloc | apply Kd.R_drewN | apply Kd.R_drew)); exact Kd.R_mono (Kd.R_far (p := ⟨gb268, 1, none⟩) (Kd.R_far (p := ⟨gb268, 0, none⟩) (Kd.R_types HO_9.out BK268.out (by decide)) (fun _ hk => hk.2) (.int .i64 t265)) (fun _ hk => hk.2) (.int .i64 t266)) (fun _ hk => trivial)⟩, ⟨by (with_reducible repeat (first | refine blk_drewN ?_ _ | refine blk_drew ?_ | refine blk_alloc ?_ _)); refine blk_far ?_ NB254_268.out _; (with_reducible repeat (first | refine blk_drewN ?_ _ | refine blk_drew ?_ | refine blk_alloc ?_ _)); refine blk_far ?_ NB254_268.out _; (with_reducible repeat (first | refine blk_drewN ?_ _ | refine blk_drew ?_ | refine blk_alloc ?_ _)); exact BK254.out⟩, ⟨by (with_reducible repeat (first | refine blk_drewN ?_ _ | refine blk_drew ?_ | refine blk_alloc ?_ _)); refine blk_put (cs := #[.int .i64 t265, .int .i64 0]) ?_ 1 _ rfl; (with_reducible repeat (first | refine blk_drewN ?_ _ | refine blk_drew ?_ | refine blk_alloc ?_ _)); refine blk_put (cs := #[.int .i64 0, .int .i64 0]) ?_ 0 _ rfl; (with_reducible repeat (first | refine blk_drewN ?_ _ | refine blk_drew ?_ | refine blk_alloc ?_ _)); exact BK268.out⟩, ⟨by repeat (first | (with_reducible first | exact HB.out | apply below_alloc | apply pw_below_drewN | apply below_drew1 | refine below_set ?_ GE254.out | refine below_set ?_ GE268.out) | exact HB.out)⟩⟩
            case rest =>
              clear HC35
              try clear c1
              try clear c2
              try clear p2
              try clear c4
              try clear c5
              try clear c6
              try clear c6b0
              try clear c6b1
              try clear p6
              try clear c9
              try clear c12
              try clear c14
              try clear c15
              try clear c22
              try clear c22b0
              try clear c22b1
              try clear c23
              try clear c24
              try clear c24b0
              try clear c24b1
              try clear c25
              try clear c25b0
              try clear c25b1
              try clear c27
              try clear c27b0
              try clear c27b1
              try clear c27b2
              try clear c28
              try clear c28b0
              try clear c28b1
              try clear c41
              try clear c43
              try clear c43b0
              try clear c43b1
              try clear c44
              try clear c44b0
              try clear c45
              try clear c48
              try clear c48b0
              try clear c49
              try clear c52
              try clear c52b0
              try clear c53
              try clear c56
              try clear c56b0
              try clear c56b1
              try clear c59
              try clear p64
              try clear c65
              try clear hcz18_0
              try clear hcz18_1
              try clear hcz29_0
              try clear hcz29_1
              try clear hcz30_0
              try clear hcz30_1
              try clear hcz32_0
              try clear hcz32_1
              try clear hcz42_0
              try clear hcz42_1
              try clear hcz46_0
              try clear hcz46_1
              try clear hcz47_0
              try clear hcz47_1
              try clear hcz50_0
              try clear hcz50_1
              try clear hcz51_0
              try clear hcz51_1
              try clear hcz54_0
              try clear hcz54_1
              try clear hcz55_0
              try clear hcz55_1
              try clear hcz60_0
              try clear hcz60_1
              try clear hcz61_0
              try clear hcz61_1
              try clear hcz66_0
              try clear hcz66_1
              try clear hcz67_0
              try clear hcz67_1
              try clear hfz18_0
              try clear hfz18_1
              try clear hfz29_0
              try clear hfz29_1
              try clear hfz30_0
              try clear hfz30_1
              try clear hfz32_0
              try clear hfz32_1
              try clear hfz42_0
              try clear hfz42_1
              try clear hfz46_0
              try clear hfz46_1
              try clear hfz47_0
              try clear hfz47_1
              try clear hfz50_0
              try clear hfz50_1
              try clear hfz51_0
              try clear hfz51_1
              try clear hfz54_0
              try clear hfz54_1
              try clear hfz55_0
              try clear hfz55_1
              try clear hfz60_0
              try clear hfz60_1
              try clear hfz61_0
              try clear hfz61_1
              try clear hfz66_0
              try clear hfz66_1
              try clear hfz67_0
              try clear hfz67_1
              try clear p2
              obtain ⟨kq, x101_34, rfl, HA, HJ34, HO_9, BK254, BK268, HB⟩ := hcut
              cases kq with
              | zero => exact absurd HA.out (by simp [spilelaw07_SegmentFiner.j1])
              | succ kj34 =>
                have H := HA.out
                clear HA
                simp only [spilelaw07_SegmentFiner.j1] at H
                by_cases c68 : x101_34 = true
                · subst c68
                  have H1 : (some false) = some r := by rw [if_pos rfl] at H; exact H
                  clear H
                  have H := H1
                  clear H1
                  obtain rfl := Option.some.inj H
                  go_wp2
                  go_ret
                  exact ⟨by first | rfl | (simp [errW_none, errW_some] <;> rfl) | (simp [*, errW_none, errW_some] <;> rfl), by repeat (first | (with_reducible first | exact HB.out | apply below_alloc | apply pw_below_drewN | apply below_drew1 | refine below_set ?_ GE254.out | refine below_set ?_ GE268.out) | exact HB.out)⟩
                · replace c68 := Bool.eq_false_iff.mpr c68
                  subst c68
                  have H1 : (spilelaw07_SegmentFiner.l0 kj34 t258 l2 (l2.length : Int) 0) = some r := by rw [if_neg (show ¬ (false = true) by decide)] at H; exact H
                  clear H
                  have H := H1
                  clear H1
                  have H' := Aside0.mk H
                  clear H
                  go_wp2
                  go_loopg [104] kj34 (fun kq v104 w' => ∃ (x104_3 : Int), v104 = .int .i64 x104_3 ∧ Aside0 (spilelaw07_SegmentFiner.l0 kq t258 l2 (l2.length : Int) x104_3 = some r) ∧ Aside0 (kq ≤ kj34) ∧ Aside0 (Kd.R (Kd.int .i64) 3 w' w.heap.size (fun _ => True) (.slice Ao36 t258.length co36) t258) ∧ Aside0 (w'.heap[gb254]? = some (.cells #[.int .i64 t251, .int .i64 t252] 24 (0, 0))) ∧ Aside0 (w'.heap[gb268]? = some (.cells #[.int .i64 t265, .int .i64 t266] 24 (0, 0))) ∧ Aside0 (Below w.heap.size w w'))
                  case atStart => exact ⟨(0), (by first | rfl | (simp; done) | (simp [*]; done)), H', ⟨Nat.le_refl _⟩, ⟨by (with_reducible repeat (first | apply Kd.R_alloc | apply Kd.R_drewN | apply Kd.R_drew)); exact HO_9.out⟩, ⟨by (with_reducible repeat (first | refine blk_drewN ?_ _ | refine blk_drew ?_ | refine blk_alloc ?_ _)); exact BK254.out⟩, ⟨by (with_reducible repeat (first | refine blk_drewN ?_ _ | refine blk_drew ?_ | refine blk_alloc ?_ _)); exact BK268.out⟩, ⟨by repeat (first | (with_reducible first | exact HB.out | apply below_alloc | apply pw_below_drewN | apply below_drew1 | refine below_set ?_ GE254.out | refine below_set ?_ GE268.out) | exact HB.out)⟩⟩
                  case round =>
                    clear H'
                    try clear c1
                    try clear c2
                    try clear p2
                    try clear c4
                    try clear c5
                    try clear c6
                    try clear c6b0
                    try clear c6b1
                    try clear p6
                    try clear c9
                    try clear c12
                    try clear c14
                    try clear c15
                    try clear c22
                    try clear c22b0
                    try clear c22b1
                    try clear c23
                    try clear c24
                    try clear c24b0
                    try clear c24b1
                    try clear c25
                    try clear c25b0
                    try clear c25b1
                    try clear c27
                    try clear c27b0
                    try clear c27b1
                    try clear c27b2
                    try clear c28
                    try clear c28b0
                    try clear c28b1
                    try clear c41
                    try clear c43
                    try clear c43b0
                    try clear c43b1
                    try clear c44
                    try clear c44b0
                    try clear c45
                    try clear c48
                    try clear c48b0
                    try clear c49
                    try clear c52
                    try clear c52b0
                    try clear c53
                    try clear c56
                    try clear c56b0
                    try clear c56b1
                    try clear c59
                    try clear p64
                    try clear c65
                    try clear c68
                    try clear hcz18_0
                    try clear hcz18_1
                    try clear hcz29_0
                    try clear hcz29_1
                    try clear hcz30_0
                    try clear hcz30_1
                    try clear hcz32_0
                    try clear hcz32_1
                    try clear hcz42_0
                    try clear hcz42_1
                    try clear hcz46_0
                    try clear hcz46_1
                    try clear hcz47_0
                    try clear hcz47_1
                    try clear hcz50_0
                    try clear hcz50_1
                    try clear hcz51_0
                    try clear hcz51_1
                    try clear hcz54_0
                    try clear hcz54_1
                    try clear hcz55_0
                    try clear hcz55_1
                    try clear hcz60_0
                    try clear hcz60_1
                    try clear hcz61_0
                    try clear hcz61_1
                    try clear hcz66_0
                    try clear hcz66_1
                    try clear hcz67_0
                    try clear hcz67_1
                    try clear hfz18_0
                    try clear hfz18_1
                    try clear hfz29_0
                    try clear hfz29_1
                    try clear hfz30_0
                    try clear hfz30_1
                    try clear hfz32_0
                    try clear hfz32_1
                    try clear hfz42_0
                    try clear hfz42_1
                    try clear hfz46_0
                    try clear hfz46_1
                    try clear hfz47_0
                    try clear hfz47_1
                    try clear hfz50_0
                    try clear hfz50_1
                    try clear hfz51_0
                    try clear hfz51_1
                    try clear hfz54_0
                    try clear hfz54_1
                    try clear hfz55_0
                    try clear hfz55_1
                    try clear hfz60_0
                    try clear hfz60_1
                    try clear hfz61_0
                    try clear hfz61_1
                    try clear hfz66_0
                    try clear hfz66_1
                    try clear hfz67_0
                    try clear hfz67_1
                    try clear p2
                    try clear p6
                    try clear p64
                    obtain ⟨x104_3, rfl, HA, HK3, HO_9, BK254, BK268, HB⟩ := hrel
                    cases gk with
                    | zero => exact absurd HA.out (by simp [spilelaw07_SegmentFiner.l0])
                    | succ k3 =>
                      have H := HA.out
                      clear HA
                      simp only [spilelaw07_SegmentFiner.l0] at H
                      by_cases c69 : x104_3 < (l2.length : Int)
                      · rw [if_pos c69] at H
                        have c69b0 : decide (x104_3 < (l2.length : Int)) = true := decide_eq_true c69
                        clear c69
                        by_cases c70 : 0 ≤ x104_3
                        · rw [if_pos c70] at H
                          have c70b0 : decide (0 ≤ x104_3) = true := decide_eq_true c70
                          clear c70
                          by_cases c71 : x104_3 < (l2.length : Int)
                          · rw [if_pos c71] at H
                            have c71b0 : decide (x104_3 < (l2.length : Int)) = true := decide_eq_true c71
                            clear c71
                            obtain ⟨ji72, hji72⟩ : ∃ j_ : Int, (wrap64 (2 * x104_3)) = j_ := ⟨_, rfl⟩
                            replace H : (if 0 ≤ (ji72) then (if (ji72) < (t258.length : Int) then (if (rd t258 (ji72)) = (rd l2 x104_3) then (spilelaw07_SegmentFiner.l0 k3 t258 l2 (l2.length : Int) (wrap64 (x104_3 + 1))) else (some false)) else (none)) else (none)) = some r := by first | (rw [hji72] at H; exact H) | (simp only [hji72] at H ⊢; exact H)
                            have hji72w : (IntKind.i64.wrap (2 * x104_3)) = ji72 := (i64_w _).trans hji72
                            by_cases c73 : 0 ≤ (ji72)
                            · rw [if_pos c73] at H
                              have c73b0 : decide (0 ≤ (ji72)) = true := decide_eq_true c73
                              clear c73
                              by_cases c74 : (ji72) < (t258.length : Int)
                              · rw [if_pos c74] at H
                                have c74b0 : decide ((ji72) < (t258.length : Int)) = true := decide_eq_true c74
                                clear c74
                                by_cases c75 : (rd t258 (ji72)) = (rd l2 x104_3)
                                · rw [if_pos c75] at H
                                  have c75b0 : ((rd t258 (ji72)) == (rd l2 x104_3)) = true := beq_iff_eq.mpr c75
                                  have c75b1 : ((rd t258 (ji72)) != (rd l2 x104_3)) = false := bne_eq_false_iff_eq.mpr c75
                                  clear c75
                                  have H' := Aside0.mk H
                                  clear H
                                  have p273 : 0 ≤ (x104_3 : Int) := of_decide_eq_true (by first | (with_reducible assumption) | assumption)
                                  have q273 : x104_3 < (l2.length : Int) := of_decide_eq_true (by first | (with_reducible assumption) | assumption)
                                  obtain ⟨ad273, e273, hx273_0⟩ := Kd.at_int HR2.out x104_3 p273 q273
                                  cases e273
                                  replace hx273_0 := (HB.out.cell (World.block_lt_of_cell? w _ hx273_0)).trans hx273_0
                                  replace p273 := eq_true p273
                                  replace q273 := eq_true q273
                                  have p274 : 0 ≤ ((ji72) : Int) := of_decide_eq_true (by first | (with_reducible assumption) | assumption)
                                  have q274 : (ji72) < (t258.length : Int) := of_decide_eq_true (by first | (with_reducible assumption) | assumption)
                                  obtain ⟨ad274, e274, hx274_0⟩ := Kd.at_int (Kd.R_reads' HO_9.out).2.2 (ji72) p274 q274
                                  cases e274
                                  replace p274 := eq_true p274
                                  replace q274 := eq_true q274
                                  go_wp2
                                  go_roundg k3
                                  case measure => have := HJ11.out; have := HJ34.out; have := HK3.out; omega
                                  case rel => exact ⟨(wrap64 (x104_3 + 1)), (by first | rfl | (simp; done) | (simp [*]; done)), H', ⟨by have := HJ11.out; have := HJ34.out; have := HK3.out; omega⟩, ⟨by (with_reducible repeat (first | apply Kd.R_alloc | apply Kd.R_drewN | apply Kd.R_drew)); exact HO_9.out⟩, ⟨by (with_reducible repeat (first | refine blk_drewN ?_ _ | refine blk_drew ?_ | refine blk_alloc ?_ _)); exact BK254.out⟩, ⟨by (with_reducible repeat (first | refine blk_drewN ?_ _ | refine blk_drew ?_ | refine blk_alloc ?_ _)); exact BK268.out⟩, ⟨by repeat (first | (with_reducible first | exact HB.out | apply below_alloc | apply pw_below_drewN | apply below_drew1 | refine below_set ?_ GE254.out | refine below_set ?_ GE268.out) | exact HB.out)⟩⟩
                                · rw [if_neg c75] at H
                                  have c75b0 : ((rd t258 (ji72)) == (rd l2 x104_3)) = false := beq_eq_false_iff_ne.mpr c75
                                  have c75b1 : ((rd t258 (ji72)) != (rd l2 x104_3)) = true := bne_iff_ne.mpr c75
                                  obtain rfl := Option.some.inj H
                                  have p273 : 0 ≤ (x104_3 : Int) := of_decide_eq_true (by first | (with_reducible assumption) | assumption)
                                  have q273 : x104_3 < (l2.length : Int) := of_decide_eq_true (by first | (with_reducible assumption) | assumption)
                                  obtain ⟨ad273, e273, hx273_0⟩ := Kd.at_int HR2.out x104_3 p273 q273
                                  cases e273
                                  replace hx273_0 := (HB.out.cell (World.block_lt_of_cell? w _ hx273_0)).trans hx273_0
                                  replace p273 := eq_true p273
                                  replace q273 := eq_true q273
                                  have p274 : 0 ≤ ((ji72) : Int) := of_decide_eq_true (by first | (with_reducible assumption) | assumption)
                                  have q274 : (ji72) < (t258.length : Int) := of_decide_eq_true (by first | (with_reducible assumption) | assumption)
                                  obtain ⟨ad274, e274, hx274_0⟩ := Kd.at_int (Kd.R_reads' HO_9.out).2.2 (ji72) p274 q274
                                  cases e274
                                  replace p274 := eq_true p274
                                  replace q274 := eq_true q274
                                  go_wp2
                                  go_ret
                                  exact ⟨by first | rfl | (simp [errW_none, errW_some] <;> rfl) | (simp only [← hji72]; first | rfl | (simp [errW_none, errW_some] <;> rfl)) | (simp [*, errW_none, errW_some] <;> rfl), by repeat (first | (with_reducible first | exact HB.out | apply below_alloc | apply pw_below_drewN | apply below_drew1 | refine below_set ?_ GE254.out | refine below_set ?_ GE268.out) | exact HB.out)⟩
                              · rw [if_neg c74] at H
                                exact absurd H (by simp)
                            · rw [if_neg c73] at H
                              exact absurd H (by simp)
                          · rw [if_neg c71] at H
                            exact absurd H (by simp)
                        · rw [if_neg c70] at H
                          exact absurd H (by simp)
                      · rw [if_neg c69] at H
                        have c69b0 : decide (x104_3 < (l2.length : Int)) = false := decide_eq_false c69
                        clear c69
                        obtain rfl := Option.some.inj H
                        go_wp2
                        go_ret
                        exact ⟨by first | rfl | (simp [errW_none, errW_some] <;> rfl) | (simp [*, errW_none, errW_some] <;> rfl), by repeat (first | (with_reducible first | exact HB.out | apply below_alloc | apply pw_below_drewN | apply below_drew1 | refine below_set ?_ GE254.out | refine below_set ?_ GE268.out) | exact HB.out)⟩
  · replace c5 := Bool.eq_false_iff.mpr c5
    subst c5
    have H1 : (some false) = some r := by rw [if_neg (show ¬ (false = true) by decide)] at H; exact H
    clear H
    have H := H1
    clear H1
    obtain rfl := Option.some.inj H
    go_enter Try.func6, Try.ntmps6
    go_wp2_with (first | ((with_reducible refine gate_callee (f := 9) rfl ?_); refine goesL_ (some 15) rfl rfl Try.func9 (by kernel_rfl) rfl #[] rfl (by (try simp only [List.map_toArray, List.map_cons, List.map_nil]); first | done | rfl | (simp only [List.length_drop, List.length_take]; rfl)) ?_; (with_reducible refine (spilelaw07_awake.calls k  false _ A4.out).mono ?_); rintro e w76 ⟨rfl, hb⟩; refine ⟨_, rfl, ?_⟩; have n0_ := Aside0.mk (below_step (by repeat (first | (with_reducible first | exact HB.out | apply below_alloc | apply pw_below_drewN | apply below_drew1) | exact HB.out)) hb); clear HB; have HB := n0_; clear n0_; (try clear hb); (try clear hb2); (try clear hk); (try clear hi)))
    go_ret
    exact ⟨by first | rfl | (simp [errW_none, errW_some] <;> rfl) | (simp [*, errW_none, errW_some] <;> rfl), by repeat (first | (with_reducible first | exact HB.out | apply below_alloc | apply pw_below_drewN | apply below_drew1) | exact HB.out)⟩

/-- THE ONE PURE STATEMENT of spilelaw07_SegmentFiner: yours. -/
def spilelaw07_SegmentFiner.Pure : Prop := ∀ (a0 : Int) (a1 : Int) (l2 : List Int), (Lit.int .i64 a0).wf = true → (Lit.int .i64 a1).wf = true → l2.length ≤ maxLen → l2.length * 8 ≤ 140737488351232 → (∀ x ∈ l2, (Lit.int .i64 x).wf = true) → ∃ k, spilelaw07_SegmentFiner.f k a0 a1 l2 = some true
theorem spilelaw07_SegmentFiner.walk (P : spilelaw07_SegmentFiner.Pure) (a0 : Int) (a1 : Int) (a2 : Option Addr) (len2 cap2 : Nat) (z2 : List Int) (w : World) (w0 : (Lit.int .i64 a0).wf = true) (w1 : (Lit.int .i64 a1).wf = true) (w2 : (a2 = none ∧ len2 = 0 ∧ cap2 = 0 ∧ z2 = []) ∨ ∃ x, a2 = some x ∧ len2 ≤ cap2 ∧ cap2 ≤ maxLen ∧ z2.length = cap2 ∧ (∀ i, i < z2.length → w.cell? (x.add i) = some (.int .i64 (z2.getD i 0))) ∧ ∀ n ∈ z2, (Lit.int .i64 n).wf = true) (y2 : len2 * 8 ≤ 140737488351232) :
    Calls Try.prog 6 #[.int .i64 a0, .int .i64 a1, .slice a2 len2 cap2] w fun e w' => e = .returned (.bool true) ∧ Below w.heap.size w w' := by
  obtain ⟨l2, rfl, hr2, hm2, hw2, hc2⟩ := ReadsInt.ofRowC w2
  obtain ⟨k, h⟩ := P a0 a1 l2 w0 w1 hm2 y2 hw2
  refine (spilelaw07_SegmentFiner.calls k a0 a1 _ _ l2 true w (Kd.C_of_reads (d := (0 : Int)) (h1 := fun _ => rfl) hr2) hc2 h).mono ?_
  rintro e w' ⟨rfl, hd⟩
  exact ⟨rfl, hd⟩

end Go.Proofs.Ythbkbokfngbocaa.X
