-- Written by a program of this work, over the kit's print of the translation. Not trusted: Lean checks it.
import Derived.Test.YtcbmmhedefigeaaXx0
import Derived.Test.YtcbmmhedefigeaaEq8
import Derived.Test.YtcbmmhedefigeaaXx2
import Derived.Test.YtcbmmhedefigeaaXx5
import Derived.Test.YtcbmmhedefigeaaAwk8
import Derived.Test.YtcbmmhedefigeaaCl8
import Derived.Test.YtcbmmhedefigeaaFru
import Derived.Test.YtcbmmhedefigeaaIns8
import Derived.Test.YtcbmmhedefigeaaTu8
namespace Go.Proofs.Ytcbmmhedefigeaa.X
open Go.RowKit Go.Proofs.YtcbmmhedefigeaaW.PrintWords Go.Proofs.YtcbmmhedefigeaaW.PrintLast Go.Proofs.YtcbmmhedefigeaaW.PrintMore
attribute [local go_sem] max2_int min2_int max_two min_two max_three min_three max_four min_four   -- for this text's walks alone
set_option linter.unusedVariables false
set_option linter.unusedSimpArgs false

attribute [local go_sem high] eqA32
/-! ### spilelaw10_CapacityNarrow: function 3 -/
mutual
def spilelaw10_CapacityNarrow.j0 : Nat → List (S30) → Int → Int → Int → Int → Bool → Int → Int → Option (Bool)
  | 0, _, _, _, _, _, _, _, _ => none
  | k + 1, x0, x1, x5, x6, x8, x39, x143000, x143001 => if x39 = true then (if x6 = x8 then (if x5 = 0 then (some (x143000 == 0 && (x143001 == 0))) else (some false)) else (some false)) else ((api_Point_13.f x0).bind fun t143 => ((profile_Turn.f k t143).bind fun bt146 => ((capacity_Frustums.f k bt146.1).bind fun bt150 => (if bt146.2 = 0 then (if bt150.2 = 0 then (if bt150.1 = x5 then (if x143000 > x143001 then (spilelaw10_CapacityNarrow.j1 k x0 x1 x5 true) else (if (wrap64 ((wrap64 ((wrap64 (x143001 - x143000)) - 2)) * 30000)) ≥ x143001 then (spilelaw10_CapacityNarrow.j1 k x0 x1 x5 (decide ((wrap64 (x143001 - x143000)) > 2))) else (spilelaw10_CapacityNarrow.j1 k x0 x1 x5 false))) else (spilelaw10_CapacityNarrow.j1 k x0 x1 x5 true)) else (spilelaw10_CapacityNarrow.j1 k x0 x1 x5 true)) else (spilelaw10_CapacityNarrow.j1 k x0 x1 x5 true)))))
def spilelaw10_CapacityNarrow.j1 : Nat → List (S30) → Int → Int → Bool → Option (Bool)
  | 0, _, _, _, _ => none
  | k + 1, x0, x1, x5, x100 => if x100 = true then (some false) else ((api_Point_13.f x0).bind fun t152 => ((profile_Insert.f k t152 x1).bind fun bt155 => (if bt155.2 = 0 then ((capacity_Frustums.f k bt155.1).bind fun bt159 => (if bt159.2 = 0 then (some (bt159.1 == x5)) else (some false))) else (some true))))
end
def spilelaw10_CapacityNarrow.f (k : Nat) (l0 : List (S30)) (a1 : Int) : Option (Bool) := (spilelaw10_awake.f k).bind fun t129 => (if t129 = true then ((spileref08_Few.f l0).bind fun t130 => (if t130 = true then ((api_Point_13.f l0).bind fun t131 => ((capacity_Frustums.f k t131).bind fun bt134 => ((api_Point_13.f l0).bind fun t136 => ((capacity_Space.f k t136).bind fun bt139 => (if bt134.2 = 0 then (spilelaw10_CapacityNarrow.j0 k l0 a1 bt134.1 bt134.2 bt139.2.2 (bt139.2.2 != 0) bt139.1 bt139.2.1) else (spilelaw10_CapacityNarrow.j0 k l0 a1 bt134.1 bt134.2 bt139.2.2 true bt139.1 bt139.2.1)))))) else (some true))) else (some false))
theorem spilelaw10_CapacityNarrow.mono_l : ∀ k, (∀ y0 y1 y2 y3 y4 y5 y6 y7, LeO (spilelaw10_CapacityNarrow.j0 k y0 y1 y2 y3 y4 y5 y6 y7) (spilelaw10_CapacityNarrow.j0 (k + 1) y0 y1 y2 y3 y4 y5 y6 y7)) ∧ (∀ y0 y1 y2 y3, LeO (spilelaw10_CapacityNarrow.j1 k y0 y1 y2 y3) (spilelaw10_CapacityNarrow.j1 (k + 1) y0 y1 y2 y3))
  | 0 => ⟨fun _ _ _ _ _ _ _ _ r h => by simp [spilelaw10_CapacityNarrow.j0] at h, fun _ _ _ _ r h => by simp [spilelaw10_CapacityNarrow.j1] at h⟩
  | k + 1 => by
    obtain ⟨ih0, ih1⟩ := spilelaw10_CapacityNarrow.mono_l k
    refine ⟨?_, ?_⟩
    · intro y0 y1 y2 y3 y4 y5 y6 y7
      unfold spilelaw10_CapacityNarrow.j0
      repeat' first
      | (with_reducible exact ih0 _ _ _ _ _ _ _ _)
      | (with_reducible exact ih1 _ _ _ _)
      | (with_reducible exact capacity_Frustums.mono _ _)
      | (with_reducible exact capacity_Space.mono _ _)
      | (with_reducible exact profile_Insert.mono _ _ _)
      | (with_reducible exact profile_Turn.mono _ _)
      | (with_reducible exact spilelaw10_awake.mono _)
      | (with_reducible exact LeO.refl _)
      | (with_reducible exact LeO.none _)
      | (with_reducible refine LeO.ite ?_ ?_)
      | (with_reducible refine LeO.bind ?_ (fun _ => ?_))
      | exact ih0 _ _ _ _ _ _ _ _
      | exact ih1 _ _ _ _
      | exact capacity_Frustums.mono _ _
      | exact capacity_Space.mono _ _
      | exact profile_Insert.mono _ _ _
      | exact profile_Turn.mono _ _
      | exact spilelaw10_awake.mono _
      | exact LeO.none _
      | refine LeO.ite ?_ ?_
      | refine LeO.bind ?_ (fun _ => ?_)
    · intro y0 y1 y2 y3
      unfold spilelaw10_CapacityNarrow.j1
      repeat' first
      | (with_reducible exact ih0 _ _ _ _ _ _ _ _)
      | (with_reducible exact ih1 _ _ _ _)
      | (with_reducible exact capacity_Frustums.mono _ _)
      | (with_reducible exact capacity_Space.mono _ _)
      | (with_reducible exact profile_Insert.mono _ _ _)
      | (with_reducible exact profile_Turn.mono _ _)
      | (with_reducible exact spilelaw10_awake.mono _)
      | (with_reducible exact LeO.refl _)
      | (with_reducible exact LeO.none _)
      | (with_reducible refine LeO.ite ?_ ?_)
      | (with_reducible refine LeO.bind ?_ (fun _ => ?_))
      | exact ih0 _ _ _ _ _ _ _ _
      | exact ih1 _ _ _ _
      | exact capacity_Frustums.mono _ _
      | exact capacity_Space.mono _ _
      | exact profile_Insert.mono _ _ _
      | exact profile_Turn.mono _ _
      | exact spilelaw10_awake.mono _
      | exact LeO.none _
      | refine LeO.ite ?_ ?_
      | refine LeO.bind ?_ (fun _ => ?_)
theorem spilelaw10_CapacityNarrow.mono : ∀ a0 a1 k, LeO (spilelaw10_CapacityNarrow.f k a0 a1) (spilelaw10_CapacityNarrow.f (k + 1) a0 a1) := by
  intro a0 a1 k
  obtain ⟨ih0, ih1⟩ := spilelaw10_CapacityNarrow.mono_l k
  unfold spilelaw10_CapacityNarrow.f
  repeat' first
      | (with_reducible exact ih0 _ _ _ _ _ _ _ _)
      | (with_reducible exact ih1 _ _ _ _)
      | (with_reducible exact capacity_Frustums.mono _ _)
      | (with_reducible exact capacity_Space.mono _ _)
      | (with_reducible exact profile_Insert.mono _ _ _)
      | (with_reducible exact profile_Turn.mono _ _)
      | (with_reducible exact spilelaw10_awake.mono _)
      | (with_reducible exact LeO.refl _)
      | (with_reducible exact LeO.none _)
      | (with_reducible refine LeO.ite ?_ ?_)
      | (with_reducible refine LeO.bind ?_ (fun _ => ?_))
      | exact ih0 _ _ _ _ _ _ _ _
      | exact ih1 _ _ _ _
      | exact capacity_Frustums.mono _ _
      | exact capacity_Space.mono _ _
      | exact profile_Insert.mono _ _ _
      | exact profile_Turn.mono _ _
      | exact spilelaw10_awake.mono _
      | exact LeO.none _
      | refine LeO.ite ?_ ?_
      | refine LeO.bind ?_ (fun _ => ?_)
set_option maxHeartbeats 8000000 in
set_option maxRecDepth 100000 in
theorem spilelaw10_CapacityNarrow.calls (k : Nat) (A0 : Option Addr) (c0 : Nat) (l0 : List (S30)) (a1 : Int) (r : Bool) (w : World) (hr0 : Kd.C k30 w A0 l0.length l0) (hc0 : l0.length ≤ c0) (h : spilelaw10_CapacityNarrow.f k l0 a1 = some r) :
    Calls Try.prog 3 #[.slice A0 l0.length c0, .int .i64 a1] w fun e w' => e = .returned (.bool r) ∧ Below w.heap.size w w' := by
  have hu32 := Try.underlying32
  have HR0 := Aside0.mk hr0
  have HC0 := Aside0.mk hc0
  clear hr0 hc0
  have HB := Aside0.mk (Below.refl w.heap.size w)
  have H : ((spilelaw10_awake.f k).bind fun t129 => (if t129 = true then ((spileref08_Few.f l0).bind fun t130 => (if t130 = true then ((api_Point_13.f l0).bind fun t131 => ((capacity_Frustums.f k t131).bind fun bt134 => ((api_Point_13.f l0).bind fun t136 => ((capacity_Space.f k t136).bind fun bt139 => (if bt134.2 = 0 then (spilelaw10_CapacityNarrow.j0 k l0 a1 bt134.1 bt134.2 bt139.2.2 (bt139.2.2 != 0) bt139.1 bt139.2.1) else (spilelaw10_CapacityNarrow.j0 k l0 a1 bt134.1 bt134.2 bt139.2.2 true bt139.1 bt139.2.1)))))) else (some true))) else (some false))) = some r := h
  clear h
  replace H := Option.bind_eq_some_iff.mp H
  obtain ⟨t129, A30, H⟩ := H
  replace H : (if t129 = true then ((spileref08_Few.f l0).bind fun t130 => (if t130 = true then ((api_Point_13.f l0).bind fun t131 => ((capacity_Frustums.f k t131).bind fun bt134 => ((api_Point_13.f l0).bind fun t136 => ((capacity_Space.f k t136).bind fun bt139 => (if bt134.2 = 0 then (spilelaw10_CapacityNarrow.j0 k l0 a1 bt134.1 bt134.2 bt139.2.2 (bt139.2.2 != 0) bt139.1 bt139.2.1) else (spilelaw10_CapacityNarrow.j0 k l0 a1 bt134.1 bt134.2 bt139.2.2 true bt139.1 bt139.2.1)))))) else (some true))) else (some false)) = some r := H
  have A3 := Aside0.mk A30
  clear A30
  by_cases c4 : t129 = true
  · subst c4
    have H1 : ((spileref08_Few.f l0).bind fun t130 => (if t130 = true then ((api_Point_13.f l0).bind fun t131 => ((capacity_Frustums.f k t131).bind fun bt134 => ((api_Point_13.f l0).bind fun t136 => ((capacity_Space.f k t136).bind fun bt139 => (if bt134.2 = 0 then (spilelaw10_CapacityNarrow.j0 k l0 a1 bt134.1 bt134.2 bt139.2.2 (bt139.2.2 != 0) bt139.1 bt139.2.1) else (spilelaw10_CapacityNarrow.j0 k l0 a1 bt134.1 bt134.2 bt139.2.2 true bt139.1 bt139.2.1)))))) else (some true))) = some r := by rw [if_pos rfl] at H; exact H
    clear H
    have H := H1
    clear H1
    replace H := Option.bind_eq_some_iff.mp H
    obtain ⟨t130, A50, H⟩ := H
    replace H : (if t130 = true then ((api_Point_13.f l0).bind fun t131 => ((capacity_Frustums.f k t131).bind fun bt134 => ((api_Point_13.f l0).bind fun t136 => ((capacity_Space.f k t136).bind fun bt139 => (if bt134.2 = 0 then (spilelaw10_CapacityNarrow.j0 k l0 a1 bt134.1 bt134.2 bt139.2.2 (bt139.2.2 != 0) bt139.1 bt139.2.1) else (spilelaw10_CapacityNarrow.j0 k l0 a1 bt134.1 bt134.2 bt139.2.2 true bt139.1 bt139.2.1)))))) else (some true)) = some r := H
    have A5 := Aside0.mk A50
    clear A50
    by_cases c6 : t130 = true
    · subst c6
      have H1 : ((api_Point_13.f l0).bind fun t131 => ((capacity_Frustums.f k t131).bind fun bt134 => ((api_Point_13.f l0).bind fun t136 => ((capacity_Space.f k t136).bind fun bt139 => (if bt134.2 = 0 then (spilelaw10_CapacityNarrow.j0 k l0 a1 bt134.1 bt134.2 bt139.2.2 (bt139.2.2 != 0) bt139.1 bt139.2.1) else (spilelaw10_CapacityNarrow.j0 k l0 a1 bt134.1 bt134.2 bt139.2.2 true bt139.1 bt139.2.1)))))) = some r := by rw [if_pos rfl] at H; exact H
      clear H
      have H := H1
      clear H1
      replace H := Option.bind_eq_some_iff.mp H
      obtain ⟨t131, A70, H⟩ := H
      replace H : ((capacity_Frustums.f k t131).bind fun bt134 => ((api_Point_13.f l0).bind fun t136 => ((capacity_Space.f k t136).bind fun bt139 => (if bt134.2 = 0 then (spilelaw10_CapacityNarrow.j0 k l0 a1 bt134.1 bt134.2 bt139.2.2 (bt139.2.2 != 0) bt139.1 bt139.2.1) else (spilelaw10_CapacityNarrow.j0 k l0 a1 bt134.1 bt134.2 bt139.2.2 true bt139.1 bt139.2.1))))) = some r := H
      have A7 := Aside0.mk A70
      clear A70
      replace H := Option.bind_eq_some_iff.mp H
      obtain ⟨⟨t134, t135⟩, A80, H⟩ := H
      replace H : ((api_Point_13.f l0).bind fun t136 => ((capacity_Space.f k t136).bind fun bt139 => (if t135 = 0 then (spilelaw10_CapacityNarrow.j0 k l0 a1 t134 t135 bt139.2.2 (bt139.2.2 != 0) bt139.1 bt139.2.1) else (spilelaw10_CapacityNarrow.j0 k l0 a1 t134 t135 bt139.2.2 true bt139.1 bt139.2.1)))) = some r := H
      have A8 := Aside0.mk A80
      clear A80
      replace H := Option.bind_eq_some_iff.mp H
      obtain ⟨t136, A90, H⟩ := H
      replace H : ((capacity_Space.f k t136).bind fun bt139 => (if t135 = 0 then (spilelaw10_CapacityNarrow.j0 k l0 a1 t134 t135 bt139.2.2 (bt139.2.2 != 0) bt139.1 bt139.2.1) else (spilelaw10_CapacityNarrow.j0 k l0 a1 t134 t135 bt139.2.2 true bt139.1 bt139.2.1))) = some r := H
      have A9 := Aside0.mk A90
      clear A90
      replace H := Option.bind_eq_some_iff.mp H
      obtain ⟨⟨t139, t140, t141⟩, A100, H⟩ := H
      replace H : (if t135 = 0 then (spilelaw10_CapacityNarrow.j0 k l0 a1 t134 t135 t141 (t141 != 0) t139 t140) else (spilelaw10_CapacityNarrow.j0 k l0 a1 t134 t135 t141 true t139 t140)) = some r := H
      have A10 := Aside0.mk A100
      clear A100
      have HC11 := Aside0.mk H
      clear H
      go_enter Try.func3, Try.ntmps3
      go_upto_region 7 with (first | ((with_reducible refine gate_callee (f := 10) rfl ?_); refine goesL_ (some 17) rfl rfl Try.func10 (by kernel_rfl) rfl #[] rfl (by (try simp only [List.map_toArray, List.map_cons, List.map_nil]); first | done | rfl | (simp only [List.length_drop, List.length_take]; rfl)) ?_; (with_reducible refine (spilelaw10_awake.calls k  true _ A3.out).mono ?_); rintro e w12 ⟨rfl, hb⟩; refine ⟨_, rfl, ?_⟩; have n0_ := Aside0.mk (below_step (by repeat (first | (with_reducible first | exact HB.out | apply below_alloc | apply pw_below_drewN | apply below_drew1) | exact HB.out)) hb); clear HB; have HB := n0_; clear n0_; (try clear hb); (try clear hb2); (try clear hk); (try clear hi)) | ((with_reducible refine gate_callee (f := 11) rfl ?_); refine goesL_ (some 20) rfl rfl Try.func11 (by kernel_rfl) rfl #[.slice A0 l0.length c0] rfl (by (try simp only [List.map_toArray, List.map_cons, List.map_nil]); first | done | rfl | (simp only [List.length_drop, List.length_take]; rfl)) ?_; (with_reducible refine (spileref08_Few.calls _ _ l0 true _ ?side1 ?side2 A5.out).mono ?_); (case side1 => repeat (first | exact (Kd.C_below HR0.out HB.out) | (with_reducible refine Kd.C_alloc ?_ _) | (with_reducible refine Kd.C_drewN ?_ _) | (with_reducible refine Kd.C_drew ?_))); (case side2 => exact HC0.out); rintro e w' ⟨rfl, ⟨nd, rfl⟩⟩; refine ⟨_, rfl, ?_⟩; (try (rw [drewN_self w12]; generalize hq_ : World.drewN w12 _ = w12; have n0_ : Aside0 (Below w.heap.size w w12) := ⟨by rw [← hq_]; exact (by repeat (first | (with_reducible first | exact HB.out | apply below_alloc | apply pw_below_drewN | apply below_drew1) | exact HB.out))⟩; clear HB hq_; have HB := n0_; clear n0_))) | ((with_reducible refine gate_callee (f := 13) rfl ?_); refine goesL_ (some 24) rfl rfl Try.func13 (by kernel_rfl) rfl #[.slice A0 l0.length c0] rfl (by (try simp only [List.map_toArray, List.map_cons, List.map_nil]); first | done | rfl | (simp only [List.length_drop, List.length_take]; rfl)) ?_; (with_reducible refine (api_Point_13.calls _ _ l0 t131 _ ?side1 ?side2 A7.out).mono ?_); (case side1 => repeat (first | exact (Kd.C_below HR0.out HB.out) | (with_reducible refine Kd.C_alloc ?_ _) | (with_reducible refine Kd.C_drewN ?_ _) | (with_reducible refine Kd.C_drew ?_))); (case side2 => exact HC0.out); rintro e w13 ⟨v132, rfl, ho0, hb⟩; refine ⟨_, rfl, ?_⟩; have n0_ := Aside0.mk (Kd.R_lower ho0 (below_size (by repeat (first | (with_reducible first | exact HB.out | apply below_alloc | apply pw_below_drewN | apply below_drew1) | exact HB.out)))); have n1_ := Aside0.mk (below_step (by repeat (first | (with_reducible first | exact HB.out | apply below_alloc | apply pw_below_drewN | apply below_drew1) | exact HB.out)) hb); clear HB; have HO133 := n0_; have HB := n1_; clear n0_ n1_; (try clear hb); (try clear hb2); (try clear hk); (try clear hi); (try clear ho0); obtain ⟨Ao14, co14, eo14⟩ := Kd.R_slice HO133.out; subst eo14) | ((with_reducible refine gate_callee (f := 12) rfl ?_); refine goesL_ (some 25) rfl rfl Try.func12 (by kernel_rfl) rfl #[.slice Ao14 t131.length co14] rfl (by (try simp only [List.map_toArray, List.map_cons, List.map_nil]); first | done | rfl | (simp only [List.length_drop, List.length_take]; rfl)) ?_; (with_reducible refine (capacity_Frustums.calls k _ _ t131 t134 t135 _ ?side1 ?side2 A8.out).mono ?_); (case side1 => repeat (first | exact (Kd.R_reads' HO133.out).2.2 | (with_reducible refine Kd.C_alloc ?_ _) | (with_reducible refine Kd.C_drewN ?_ _) | (with_reducible refine Kd.C_drew ?_))); (case side2 => exact (Kd.R_reads' HO133.out).2.1); rintro e w15 ⟨rfl, hb⟩; refine ⟨_, rfl, ?_⟩; have n0_ := Aside0.mk (Kd.R_below (by (with_reducible repeat (first | apply Kd.R_alloc | apply Kd.R_drewN | apply Kd.R_drew)); exact HO133.out) hb); have n1_ := Aside0.mk (below_step (by repeat (first | (with_reducible first | exact HB.out | apply below_alloc | apply pw_below_drewN | apply below_drew1) | exact HB.out)) hb); clear HO133; clear HB; have HO133 := n0_; have HB := n1_; clear n0_ n1_; (try clear hb); (try clear hb2); (try clear hk); (try clear hi)) | ((with_reducible refine gate_callee (f := 13) rfl ?_); refine goesL_ (some 30) rfl rfl Try.func13 (by kernel_rfl) rfl #[.slice A0 l0.length c0] rfl (by (try simp only [List.map_toArray, List.map_cons, List.map_nil]); first | done | rfl | (simp only [List.length_drop, List.length_take]; rfl)) ?_; (with_reducible refine (api_Point_13.calls _ _ l0 t136 _ ?side1 ?side2 A9.out).mono ?_); (case side1 => repeat (first | exact (Kd.C_below HR0.out HB.out) | (with_reducible refine Kd.C_alloc ?_ _) | (with_reducible refine Kd.C_drewN ?_ _) | (with_reducible refine Kd.C_drew ?_))); (case side2 => exact HC0.out); rintro e w16 ⟨v137, rfl, ho0, hb⟩; refine ⟨_, rfl, ?_⟩; have n0_ := Aside0.mk (Kd.R_elder' (by (with_reducible repeat (first | apply Kd.R_alloc | apply Kd.R_drewN | apply Kd.R_drew)); exact HO133.out) (Kd.R_base ho0) hb); have n1_ := Aside0.mk (Kd.R_lower (Kd.R_new' ho0 (Kd.R_lt (by (with_reducible repeat (first | apply Kd.R_alloc | apply Kd.R_drewN | apply Kd.R_drew)); exact HO133.out))) (below_size (by repeat (first | (with_reducible first | exact HB.out | apply below_alloc | apply pw_below_drewN | apply below_drew1) | exact HB.out)))); have n2_ := Aside0.mk (below_step (by repeat (first | (with_reducible first | exact HB.out | apply below_alloc | apply pw_below_drewN | apply below_drew1) | exact HB.out)) hb); clear HO133; clear HB; have HO133 := n0_; have HO138 := n1_; have HB := n2_; clear n0_ n1_ n2_; (try clear hb); (try clear hb2); (try clear hk); (try clear hi); (try clear ho0); obtain ⟨Ao17, co17, eo17⟩ := Kd.R_slice HO138.out; subst eo17) | ((with_reducible refine gate_callee (f := 14) rfl ?_); refine goesL_ (some 31) rfl rfl Try.func14 (by kernel_rfl) rfl #[.slice Ao17 t136.length co17] rfl (by (try simp only [List.map_toArray, List.map_cons, List.map_nil]); first | done | rfl | (simp only [List.length_drop, List.length_take]; rfl)) ?_; (with_reducible refine (capacity_Space.calls k _ _ t136 t139 t140 t141 _ ?side1 ?side2 A10.out).mono ?_); (case side1 => repeat (first | exact (Kd.R_reads' HO138.out).2.2 | (with_reducible refine Kd.C_alloc ?_ _) | (with_reducible refine Kd.C_drewN ?_ _) | (with_reducible refine Kd.C_drew ?_))); (case side2 => exact (Kd.R_reads' HO138.out).2.1); rintro e w18 ⟨rfl, hb⟩; refine ⟨_, rfl, ?_⟩; have n0_ := Aside0.mk (Kd.R_below (by (with_reducible repeat (first | apply Kd.R_alloc | apply Kd.R_drewN | apply Kd.R_drew)); exact HO133.out) hb); have n1_ := Aside0.mk (Kd.R_below (by (with_reducible repeat (first | apply Kd.R_alloc | apply Kd.R_drewN | apply Kd.R_drew)); exact HO138.out) hb); have n2_ := Aside0.mk (below_step (by repeat (first | (with_reducible first | exact HB.out | apply below_alloc | apply pw_below_drewN | apply below_drew1) | exact HB.out)) hb); clear HO133; clear HO138; clear HB; have HO133 := n0_; have HO138 := n1_; have HB := n2_; clear n0_ n1_ n2_; (try clear hb); (try clear hb2); (try clear hk); (try clear hi)) | ((with_reducible refine gate_dst (N := 7) rfl ?_); refine box_event ?hg (N := 7) ?hd (cs := #[.int .i64 0, .int .i64 0]) (t := 32) ?hr ?_; (case hd => rfl); (case hg => rfl); (case hr => first | (go_simp; done) | (go_simp; rfl)); intro gb142 hg w19 hbox hb; have n0_ := Aside0.mk (Kd.R_below (by (with_reducible repeat (first | apply Kd.R_alloc | apply Kd.R_drewN | apply Kd.R_drew)); exact HO133.out) hb); have n1_ := Aside0.mk (Kd.R_below (by (with_reducible repeat (first | apply Kd.R_alloc | apply Kd.R_drewN | apply Kd.R_drew)); exact HO138.out) hb); have n2_ := Aside0.mk (below_step (by repeat (first | (with_reducible first | exact HB.out | apply below_alloc | apply pw_below_drewN | apply below_drew1) | exact HB.out)) hb); have n3_ := Aside0.mk (hbox); have n4_ := Aside0.mk ((by rw [hg]; exact (below_size (by repeat (first | (with_reducible first | exact HB.out | apply below_alloc | apply pw_below_drewN | apply below_drew1) | exact HB.out))) : w.heap.size ≤ gb142)); have n5_ := Aside0.mk ((by rw [hg]; exact (below_size (by repeat (first | (with_reducible first | exact HB.out | apply below_alloc | apply pw_below_drewN | apply below_drew1) | exact HB.out))) : w.heap.size ≤ gb142)); clear HO133; clear HO138; clear HB; have HO133 := n0_; have HO138 := n1_; have HB := n2_; have BK142 := n3_; have GW142 := n4_; have GE142 := n5_; clear n0_ n1_ n2_ n3_ n4_ n5_; clear hb hbox hg; have hcz20_0 : w19.cell? ⟨gb142, 0, none⟩ = some (.int .i64 0) := (blk_cell BK142.out 0).trans rfl; have hcz20_1 : w19.cell? ⟨gb142, 1, none⟩ = some (.int .i64 0) := (blk_cell BK142.out 1).trans rfl; have hfz20_0 := blk_frozen BK142.out 0; have hfz20_1 := blk_frozen BK142.out 1))
      (try simp only [Act.put, List.setIfInBounds_toArray, List.set_cons_zero, List.set_cons_succ])
      go_cut [39] (fun v39 wc => ∃ (kq : Nat) (x39_10 : Bool), v39 = .bool x39_10 ∧ Aside0 (spilelaw10_CapacityNarrow.j0 kq l0 a1 t134 t135 t141 x39_10 t139 t140 = some r) ∧ Aside0 (kq ≤ k) ∧ Aside0 (wc.heap[gb142]? = some (.cells #[.int .i64 t139, .int .i64 t140] 32 (0, 0))) ∧ Aside0 (Below w.heap.size w wc))
      case first =>
        have H := HC11.out
        clear HC11
        by_cases c21 : t135 = 0
        · rw [if_pos c21] at H
          have c21b0 : (t135 == 0) = true := beq_iff_eq.mpr c21
          have c21b1 : (t135 != 0) = false := bne_eq_false_iff_eq.mpr c21
          clear c21
          (first | rw [c21b0] | (simp only [i64_w, i32_w]; rw [c21b0]) | skip)
          have H' := Aside0.mk H
          clear H
          go_wp2
          go_meet
          case rel => exact ⟨_, ((t141 != 0)), (by first | rfl | (simp; done) | (simp [*]; done)), H', ⟨by first | omega | exact Nat.le_refl _⟩, ⟨by (with_reducible repeat (first | refine blk_drewN ?_ _ | refine blk_drew ?_ | refine blk_alloc ?_ _)); refine blk_put (cs := #[.int .i64 t139, .int .i64 0]) ?_ 1 _ rfl; (with_reducible repeat (first | refine blk_drewN ?_ _ | refine blk_drew ?_ | refine blk_alloc ?_ _)); refine blk_put (cs := #[.int .i64 0, .int .i64 0]) ?_ 0 _ rfl; (with_reducible repeat (first | refine blk_drewN ?_ _ | refine blk_drew ?_ | refine blk_alloc ?_ _)); exact BK142.out⟩, ⟨by repeat (first | (with_reducible first | exact HB.out | apply below_alloc | apply pw_below_drewN | apply below_drew1 | refine below_set ?_ GE142.out) | exact HB.out)⟩⟩
        · rw [if_neg c21] at H
          have c21b0 : (t135 == 0) = false := beq_eq_false_iff_ne.mpr c21
          have c21b1 : (t135 != 0) = true := bne_iff_ne.mpr c21
          (first | rw [c21b0] | (simp only [i64_w, i32_w]; rw [c21b0]) | skip)
          have H' := Aside0.mk H
          clear H
          go_wp2
          go_meet
          case rel => exact ⟨_, (true), (by first | rfl | (simp; done) | (simp [*]; done)), H', ⟨by first | omega | exact Nat.le_refl _⟩, ⟨by (with_reducible repeat (first | refine blk_drewN ?_ _ | refine blk_drew ?_ | refine blk_alloc ?_ _)); refine blk_put (cs := #[.int .i64 t139, .int .i64 0]) ?_ 1 _ rfl; (with_reducible repeat (first | refine blk_drewN ?_ _ | refine blk_drew ?_ | refine blk_alloc ?_ _)); refine blk_put (cs := #[.int .i64 0, .int .i64 0]) ?_ 0 _ rfl; (with_reducible repeat (first | refine blk_drewN ?_ _ | refine blk_drew ?_ | refine blk_alloc ?_ _)); exact BK142.out⟩, ⟨by repeat (first | (with_reducible first | exact HB.out | apply below_alloc | apply pw_below_drewN | apply below_drew1 | refine below_set ?_ GE142.out) | exact HB.out)⟩⟩
      case rest =>
        clear HC11
        try clear c1
        try clear c2
        try clear p2
        try clear c3
        try clear c4
        try clear c6
        try clear c10
        try clear c11
        try clear c12
        try clear c13
        try clear c14
        try clear c21
        try clear c21b0
        try clear c21b1
        try clear hcz20_0
        try clear hcz20_1
        try clear hfz20_0
        try clear hfz20_1
        obtain ⟨kq, x39_10, rfl, HA, HJ10, BK142, HB⟩ := hcut
        cases kq with
        | zero => exact absurd HA.out (by simp [spilelaw10_CapacityNarrow.j0])
        | succ kj10 =>
          have H := HA.out
          clear HA
          simp only [spilelaw10_CapacityNarrow.j0] at H
          by_cases c22 : x39_10 = true
          · subst c22
            have H1 : (if t135 = t141 then (if t134 = 0 then (some (t139 == 0 && (t140 == 0))) else (some false)) else (some false)) = some r := by rw [if_pos rfl] at H; exact H
            clear H
            have H := H1
            clear H1
            by_cases c23 : t135 = t141
            · rw [if_pos c23] at H
              have c23b0 : (t135 == t141) = true := beq_iff_eq.mpr c23
              have c23b1 : (t135 != t141) = false := bne_eq_false_iff_eq.mpr c23
              clear c23
              by_cases c24 : t134 = 0
              · rw [if_pos c24] at H
                have c24b0 : (t134 == 0) = true := beq_iff_eq.mpr c24
                have c24b1 : (t134 != 0) = false := bne_eq_false_iff_eq.mpr c24
                clear c24
                obtain rfl := Option.some.inj H
                have hcz25_0 : wc.cell? ⟨gb142, 0, none⟩ = some (.int .i64 t139) := (blk_cell BK142.out 0).trans rfl
                have hcz25_1 : wc.cell? ⟨gb142, 1, none⟩ = some (.int .i64 t140) := (blk_cell BK142.out 1).trans rfl
                have hfz25_0 := blk_frozen BK142.out 0
                have hfz25_1 := blk_frozen BK142.out 1
                go_wp2
                go_ret
                exact ⟨by first | rfl | (simp [errW_none, errW_some] <;> rfl) | (simp [*, errW_none, errW_some] <;> rfl), by repeat (first | (with_reducible first | exact HB.out | apply below_alloc | apply pw_below_drewN | apply below_drew1 | refine below_set ?_ GE142.out) | exact HB.out)⟩
              · rw [if_neg c24] at H
                have c24b0 : (t134 == 0) = false := beq_eq_false_iff_ne.mpr c24
                have c24b1 : (t134 != 0) = true := bne_iff_ne.mpr c24
                obtain rfl := Option.some.inj H
                go_wp2
                go_ret
                exact ⟨by first | rfl | (simp [errW_none, errW_some] <;> rfl) | (simp [*, errW_none, errW_some] <;> rfl), by repeat (first | (with_reducible first | exact HB.out | apply below_alloc | apply pw_below_drewN | apply below_drew1 | refine below_set ?_ GE142.out) | exact HB.out)⟩
            · rw [if_neg c23] at H
              have c23b0 : (t135 == t141) = false := beq_eq_false_iff_ne.mpr c23
              have c23b1 : (t135 != t141) = true := bne_iff_ne.mpr c23
              obtain rfl := Option.some.inj H
              go_wp2
              go_ret
              exact ⟨by first | rfl | (simp [errW_none, errW_some] <;> rfl) | (simp [*, errW_none, errW_some] <;> rfl), by repeat (first | (with_reducible first | exact HB.out | apply below_alloc | apply pw_below_drewN | apply below_drew1 | refine below_set ?_ GE142.out) | exact HB.out)⟩
          · replace c22 := Bool.eq_false_iff.mpr c22
            subst c22
            have H1 : ((api_Point_13.f l0).bind fun t143 => ((profile_Turn.f kj10 t143).bind fun bt146 => ((capacity_Frustums.f kj10 bt146.1).bind fun bt150 => (if bt146.2 = 0 then (if bt150.2 = 0 then (if bt150.1 = t134 then (if t139 > t140 then (spilelaw10_CapacityNarrow.j1 kj10 l0 a1 t134 true) else (if (wrap64 ((wrap64 ((wrap64 (t140 - t139)) - 2)) * 30000)) ≥ t140 then (spilelaw10_CapacityNarrow.j1 kj10 l0 a1 t134 (decide ((wrap64 (t140 - t139)) > 2))) else (spilelaw10_CapacityNarrow.j1 kj10 l0 a1 t134 false))) else (spilelaw10_CapacityNarrow.j1 kj10 l0 a1 t134 true)) else (spilelaw10_CapacityNarrow.j1 kj10 l0 a1 t134 true)) else (spilelaw10_CapacityNarrow.j1 kj10 l0 a1 t134 true))))) = some r := by rw [if_neg (show ¬ (false = true) by decide)] at H; exact H
            clear H
            have H := H1
            clear H1
            replace H := Option.bind_eq_some_iff.mp H
            obtain ⟨t143, A260, H⟩ := H
            replace H : ((profile_Turn.f kj10 t143).bind fun bt146 => ((capacity_Frustums.f kj10 bt146.1).bind fun bt150 => (if bt146.2 = 0 then (if bt150.2 = 0 then (if bt150.1 = t134 then (if t139 > t140 then (spilelaw10_CapacityNarrow.j1 kj10 l0 a1 t134 true) else (if (wrap64 ((wrap64 ((wrap64 (t140 - t139)) - 2)) * 30000)) ≥ t140 then (spilelaw10_CapacityNarrow.j1 kj10 l0 a1 t134 (decide ((wrap64 (t140 - t139)) > 2))) else (spilelaw10_CapacityNarrow.j1 kj10 l0 a1 t134 false))) else (spilelaw10_CapacityNarrow.j1 kj10 l0 a1 t134 true)) else (spilelaw10_CapacityNarrow.j1 kj10 l0 a1 t134 true)) else (spilelaw10_CapacityNarrow.j1 kj10 l0 a1 t134 true)))) = some r := H
            have A26 := Aside0.mk A260
            clear A260
            replace H := Option.bind_eq_some_iff.mp H
            obtain ⟨⟨t146, t147⟩, A270, H⟩ := H
            replace H : ((capacity_Frustums.f kj10 t146).bind fun bt150 => (if t147 = 0 then (if bt150.2 = 0 then (if bt150.1 = t134 then (if t139 > t140 then (spilelaw10_CapacityNarrow.j1 kj10 l0 a1 t134 true) else (if (wrap64 ((wrap64 ((wrap64 (t140 - t139)) - 2)) * 30000)) ≥ t140 then (spilelaw10_CapacityNarrow.j1 kj10 l0 a1 t134 (decide ((wrap64 (t140 - t139)) > 2))) else (spilelaw10_CapacityNarrow.j1 kj10 l0 a1 t134 false))) else (spilelaw10_CapacityNarrow.j1 kj10 l0 a1 t134 true)) else (spilelaw10_CapacityNarrow.j1 kj10 l0 a1 t134 true)) else (spilelaw10_CapacityNarrow.j1 kj10 l0 a1 t134 true))) = some r := H
            have A27 := Aside0.mk A270
            clear A270
            replace H := Option.bind_eq_some_iff.mp H
            obtain ⟨⟨t150, t151⟩, A280, H⟩ := H
            replace H : (if t147 = 0 then (if t151 = 0 then (if t150 = t134 then (if t139 > t140 then (spilelaw10_CapacityNarrow.j1 kj10 l0 a1 t134 true) else (if (wrap64 ((wrap64 ((wrap64 (t140 - t139)) - 2)) * 30000)) ≥ t140 then (spilelaw10_CapacityNarrow.j1 kj10 l0 a1 t134 (decide ((wrap64 (t140 - t139)) > 2))) else (spilelaw10_CapacityNarrow.j1 kj10 l0 a1 t134 false))) else (spilelaw10_CapacityNarrow.j1 kj10 l0 a1 t134 true)) else (spilelaw10_CapacityNarrow.j1 kj10 l0 a1 t134 true)) else (spilelaw10_CapacityNarrow.j1 kj10 l0 a1 t134 true)) = some r := H
            have A28 := Aside0.mk A280
            clear A280
            have HC29 := Aside0.mk H
            clear H
            go_upto_region 11 with (first | ((with_reducible refine gate_callee (f := 13) rfl ?_); refine goesL_ (some 54) rfl rfl Try.func13 (by kernel_rfl) rfl #[.slice A0 l0.length c0] rfl (by (try simp only [List.map_toArray, List.map_cons, List.map_nil]); first | done | rfl | (simp only [List.length_drop, List.length_take]; rfl)) ?_; (with_reducible refine (api_Point_13.calls _ _ l0 t143 _ ?side1 ?side2 A26.out).mono ?_); (case side1 => repeat (first | exact (Kd.C_below HR0.out HB.out) | (with_reducible refine Kd.C_alloc ?_ _) | (with_reducible refine Kd.C_drewN ?_ _) | (with_reducible refine Kd.C_drew ?_))); (case side2 => exact HC0.out); rintro e w30 ⟨v144, rfl, ho0, hb⟩; refine ⟨_, rfl, ?_⟩; have n0_ := Aside0.mk (Kd.R_lower ho0 (below_size (by repeat (first | (with_reducible first | exact HB.out | apply below_alloc | apply pw_below_drewN | apply below_drew1 | refine below_set ?_ GE142.out) | exact HB.out)))); have n1_ := Aside0.mk (blk_below (g := gb142) (o := .cells #[.int .i64 t139, .int .i64 t140] 32 (0, 0)) (by (with_reducible repeat (first | refine blk_drewN ?_ _ | refine blk_drew ?_ | refine blk_alloc ?_ _)); exact BK142.out) hb); have n2_ := Aside0.mk (below_step (by repeat (first | (with_reducible first | exact HB.out | apply below_alloc | apply pw_below_drewN | apply below_drew1 | refine below_set ?_ GE142.out) | exact HB.out)) hb); clear BK142; clear HB; have HO145 := n0_; have BK142 := n1_; have HB := n2_; clear n0_ n1_ n2_; (try clear hb); (try clear hb2); (try clear hk); (try clear hi); (try clear ho0); obtain ⟨Ao31, co31, eo31⟩ := Kd.R_slice HO145.out; subst eo31) | ((with_reducible refine gate_callee (f := 15) rfl ?_); refine goesL_ (some 55) rfl rfl Try.func15 (by kernel_rfl) rfl #[.slice Ao31 t143.length co31] rfl (by (try simp only [List.map_toArray, List.map_cons, List.map_nil]); first | done | rfl | (simp only [List.length_drop, List.length_take]; rfl)) ?_; (with_reducible refine (profile_Turn.calls kj10 _ _ t143 t146 t147 _ ?side1 ?side2 A27.out).mono ?_); (case side1 => repeat (first | exact (Kd.R_reads' HO145.out).2.2 | (with_reducible refine Kd.C_alloc ?_ _) | (with_reducible refine Kd.C_drewN ?_ _) | (with_reducible refine Kd.C_drew ?_))); (case side2 => exact (Kd.R_reads' HO145.out).2.1); rintro e w32 ⟨v148, rfl, ho0, hb⟩; refine ⟨_, rfl, ?_⟩; have n0_ := Aside0.mk (Kd.R_elder' (by (with_reducible repeat (first | apply Kd.R_alloc | apply Kd.R_drewN | apply Kd.R_drew)); exact HO145.out) (Kd.R_base ho0) hb); have n1_ := Aside0.mk (Kd.R_lower (Kd.R_new' ho0 (Kd.R_lt (by (with_reducible repeat (first | apply Kd.R_alloc | apply Kd.R_drewN | apply Kd.R_drew)); exact HO145.out))) (below_size (by repeat (first | (with_reducible first | exact HB.out | apply below_alloc | apply pw_below_drewN | apply below_drew1 | refine below_set ?_ GE142.out) | exact HB.out)))); have n2_ := Aside0.mk (blk_below (g := gb142) (o := .cells #[.int .i64 t139, .int .i64 t140] 32 (0, 0)) (by (with_reducible repeat (first | refine blk_drewN ?_ _ | refine blk_drew ?_ | refine blk_alloc ?_ _)); exact BK142.out) hb); have n3_ := Aside0.mk (below_step (by repeat (first | (with_reducible first | exact HB.out | apply below_alloc | apply pw_below_drewN | apply below_drew1 | refine below_set ?_ GE142.out) | exact HB.out)) hb); clear HO145; clear BK142; clear HB; have HO145 := n0_; have HO149 := n1_; have BK142 := n2_; have HB := n3_; clear n0_ n1_ n2_ n3_; (try clear hb); (try clear hb2); (try clear hk); (try clear hi); (try clear ho0); obtain ⟨Ao33, co33, eo33⟩ := Kd.R_slice HO149.out; subst eo33) | ((with_reducible refine gate_callee (f := 12) rfl ?_); refine goesL_ (some 60) rfl rfl Try.func12 (by kernel_rfl) rfl #[.slice Ao33 t146.length co33] rfl (by (try simp only [List.map_toArray, List.map_cons, List.map_nil]); first | done | rfl | (simp only [List.length_drop, List.length_take]; rfl)) ?_; (with_reducible refine (capacity_Frustums.calls kj10 _ _ t146 t150 t151 _ ?side1 ?side2 A28.out).mono ?_); (case side1 => repeat (first | exact (Kd.R_reads' HO149.out).2.2 | (with_reducible refine Kd.C_alloc ?_ _) | (with_reducible refine Kd.C_drewN ?_ _) | (with_reducible refine Kd.C_drew ?_))); (case side2 => exact (Kd.R_reads' HO149.out).2.1); rintro e w34 ⟨rfl, hb⟩; refine ⟨_, rfl, ?_⟩; have n0_ := Aside0.mk (Kd.R_below (by (with_reducible repeat (first | apply Kd.R_alloc | apply Kd.R_drewN | apply Kd.R_drew)); exact HO145.out) hb); have n1_ := Aside0.mk (Kd.R_below (by (with_reducible repeat (first | apply Kd.R_alloc | apply Kd.R_drewN | apply Kd.R_drew)); exact HO149.out) hb); have n2_ := Aside0.mk (blk_below (g := gb142) (o := .cells #[.int .i64 t139, .int .i64 t140] 32 (0, 0)) (by (with_reducible repeat (first | refine blk_drewN ?_ _ | refine blk_drew ?_ | refine blk_alloc ?_ _)); exact BK142.out) hb); have n3_ := Aside0.mk (below_step (by repeat (first | (with_reducible first | exact HB.out | apply below_alloc | apply pw_below_drewN | apply below_drew1 | refine below_set ?_ GE142.out) | exact HB.out)) hb); clear HO145; clear HO149; clear BK142; clear HB; have HO145 := n0_; have HO149 := n1_; have BK142 := n2_; have HB := n3_; clear n0_ n1_ n2_ n3_; (try clear hb); (try clear hb2); (try clear hk); (try clear hi)))
            (try simp only [Act.put, List.setIfInBounds_toArray, List.set_cons_zero, List.set_cons_succ])
            go_cut [100] (fun v100 wc => ∃ (kq : Nat) (x100_28 : Bool), v100 = .bool x100_28 ∧ Aside0 (spilelaw10_CapacityNarrow.j1 kq l0 a1 t134 x100_28 = some r) ∧ Aside0 (kq ≤ kj10) ∧ Aside0 (wc.heap[gb142]? = some (.cells #[.int .i64 t139, .int .i64 t140] 32 (0, 0))) ∧ Aside0 (Below w.heap.size w wc))
            case first =>
              have H := HC29.out
              clear HC29
              by_cases c35 : t147 = 0
              · rw [if_pos c35] at H
                have c35b0 : (t147 == 0) = true := beq_iff_eq.mpr c35
                have c35b1 : (t147 != 0) = false := bne_eq_false_iff_eq.mpr c35
                clear c35
                (first | rw [c35b0] | (simp only [i64_w, i32_w]; rw [c35b0]) | skip)
                by_cases c36 : t151 = 0
                · rw [if_pos c36] at H
                  have c36b0 : (t151 == 0) = true := beq_iff_eq.mpr c36
                  have c36b1 : (t151 != 0) = false := bne_eq_false_iff_eq.mpr c36
                  clear c36
                  by_cases c37 : t150 = t134
                  · rw [if_pos c37] at H
                    have c37b0 : (t150 == t134) = true := beq_iff_eq.mpr c37
                    have c37b1 : (t150 != t134) = false := bne_eq_false_iff_eq.mpr c37
                    clear c37
                    by_cases c38 : t139 > t140
                    · rw [if_pos c38] at H
                      have c38b0 : decide (t140 < t139) = true := decide_eq_true c38
                      clear c38
                      have H' := Aside0.mk H
                      clear H
                      have hcz39_0 : w34.cell? ⟨gb142, 0, none⟩ = some (.int .i64 t139) := (blk_cell BK142.out 0).trans rfl
                      have hcz39_1 : w34.cell? ⟨gb142, 1, none⟩ = some (.int .i64 t140) := (blk_cell BK142.out 1).trans rfl
                      have hfz39_0 := blk_frozen BK142.out 0
                      have hfz39_1 := blk_frozen BK142.out 1
                      go_wp2
                      go_meet
                      case rel => exact ⟨_, (true), (by first | rfl | (simp; done) | (simp [*]; done)), H', ⟨by have := HJ10.out; first | omega | exact Nat.le_refl _⟩, ⟨by (with_reducible repeat (first | refine blk_drewN ?_ _ | refine blk_drew ?_ | refine blk_alloc ?_ _)); exact BK142.out⟩, ⟨by repeat (first | (with_reducible first | exact HB.out | apply below_alloc | apply pw_below_drewN | apply below_drew1 | refine below_set ?_ GE142.out) | exact HB.out)⟩⟩
                    · rw [if_neg c38] at H
                      have c38b0 : decide (t140 < t139) = false := decide_eq_false c38
                      clear c38
                      by_cases c40 : (wrap64 ((wrap64 ((wrap64 (t140 - t139)) - 2)) * 30000)) ≥ t140
                      · rw [if_pos c40] at H
                        have c40b0 : decide (t140 ≤ (wrap64 ((wrap64 ((wrap64 (t140 - t139)) - 2)) * 30000))) = true := decide_eq_true c40
                        clear c40
                        have H' := Aside0.mk H
                        clear H
                        have hcz41_0 : w34.cell? ⟨gb142, 0, none⟩ = some (.int .i64 t139) := (blk_cell BK142.out 0).trans rfl
                        have hcz41_1 : w34.cell? ⟨gb142, 1, none⟩ = some (.int .i64 t140) := (blk_cell BK142.out 1).trans rfl
                        have hfz41_0 := blk_frozen BK142.out 0
                        have hfz41_1 := blk_frozen BK142.out 1
                        go_wp2
                        go_meet
                        case rel => exact ⟨_, (decide ((wrap64 (t140 - t139)) > 2)), (by first | rfl | (simp; done) | (simp [*]; done)), H', ⟨by have := HJ10.out; first | omega | exact Nat.le_refl _⟩, ⟨by (with_reducible repeat (first | refine blk_drewN ?_ _ | refine blk_drew ?_ | refine blk_alloc ?_ _)); exact BK142.out⟩, ⟨by repeat (first | (with_reducible first | exact HB.out | apply below_alloc | apply pw_below_drewN | apply below_drew1 | refine below_set ?_ GE142.out) | exact HB.out)⟩⟩
                      · rw [if_neg c40] at H
                        have c40b0 : decide (t140 ≤ (wrap64 ((wrap64 ((wrap64 (t140 - t139)) - 2)) * 30000))) = false := decide_eq_false c40
                        clear c40
                        have H' := Aside0.mk H
                        clear H
                        have hcz42_0 : w34.cell? ⟨gb142, 0, none⟩ = some (.int .i64 t139) := (blk_cell BK142.out 0).trans rfl
                        have hcz42_1 : w34.cell? ⟨gb142, 1, none⟩ = some (.int .i64 t140) := (blk_cell BK142.out 1).trans rfl
                        have hfz42_0 := blk_frozen BK142.out 0
                        have hfz42_1 := blk_frozen BK142.out 1
                        go_wp2
                        go_meet
                        case rel => exact ⟨_, (false), (by first | rfl | (simp; done) | (simp [*]; done)), H', ⟨by have := HJ10.out; first | omega | exact Nat.le_refl _⟩, ⟨by (with_reducible repeat (first | refine blk_drewN ?_ _ | refine blk_drew ?_ | refine blk_alloc ?_ _)); exact BK142.out⟩, ⟨by repeat (first | (with_reducible first | exact HB.out | apply below_alloc | apply pw_below_drewN | apply below_drew1 | refine below_set ?_ GE142.out) | exact HB.out)⟩⟩
                  · rw [if_neg c37] at H
                    have c37b0 : (t150 == t134) = false := beq_eq_false_iff_ne.mpr c37
                    have c37b1 : (t150 != t134) = true := bne_iff_ne.mpr c37
                    have H' := Aside0.mk H
                    clear H
                    go_wp2
                    go_meet
                    case rel => exact ⟨_, (true), (by first | rfl | (simp; done) | (simp [*]; done)), H', ⟨by have := HJ10.out; first | omega | exact Nat.le_refl _⟩, ⟨by (with_reducible repeat (first | refine blk_drewN ?_ _ | refine blk_drew ?_ | refine blk_alloc ?_ _)); exact BK142.out⟩, ⟨by repeat (first | (with_reducible first | exact HB.out | apply below_alloc | apply pw_below_drewN | apply below_drew1 | refine below_set ?_ GE142.out) | exact HB.out)⟩⟩
                · rw [if_neg c36] at H
                  have c36b0 : (t151 == 0) = false := beq_eq_false_iff_ne.mpr c36
                  have c36b1 : (t151 != 0) = true := bne_iff_ne.mpr c36
                  have H' := Aside0.mk H
                  clear H
                  go_wp2
                  go_meet
                  case rel => exact ⟨_, (true), (by first | rfl | (simp; done) | (simp [*]; done)), H', ⟨by have := HJ10.out; first | omega | exact Nat.le_refl _⟩, ⟨by (with_reducible repeat (first | refine blk_drewN ?_ _ | refine blk_drew ?_ | refine blk_alloc ?_ _)); exact BK142.out⟩, ⟨by repeat (first | (with_reducible first | exact HB.out | apply below_alloc | apply pw_below_drewN | apply below_drew1 | refine below_set ?_ GE142.out) | exact HB.out)⟩⟩
              · rw [if_neg c35] at H
                have c35b0 : (t147 == 0) = false := beq_eq_false_iff_ne.mpr c35
                have c35b1 : (t147 != 0) = true := bne_iff_ne.mpr c35
                (first | rw [c35b0] | (simp only [i64_w, i32_w]; rw [c35b0]) | skip)
                have H' := Aside0.mk H
                clear H
                go_wp2
                go_meet
                case rel => exact ⟨_, (true), (by first | rfl | (simp; done) | (simp [*]; done)), H', ⟨by have := HJ10.out; first | omega | exact Nat.le_refl _⟩, ⟨by (with_reducible repeat (first | refine blk_drewN ?_ _ | refine blk_drew ?_ | refine blk_alloc ?_ _)); exact BK142.out⟩, ⟨by repeat (first | (with_reducible first | exact HB.out | apply below_alloc | apply pw_below_drewN | apply below_drew1 | refine below_set ?_ GE142.out) | exact HB.out)⟩⟩
            case rest =>
              clear HC29
              try clear c1
              try clear c2
              try clear p2
              try clear c3
              try clear c4
              try clear c6
              try clear p6
              try clear c10
              try clear c11
              try clear c12
              try clear c13
              try clear c14
              try clear c15
              try clear c21
              try clear c21b0
              try clear c21b1
              try clear c22
              try clear c23
              try clear c23b0
              try clear c23b1
              try clear c24
              try clear c24b0
              try clear c24b1
              try clear c35
              try clear c35b0
              try clear c35b1
              try clear c36
              try clear c36b0
              try clear c36b1
              try clear c37
              try clear c37b0
              try clear c37b1
              try clear c38
              try clear c38b0
              try clear c40
              try clear c40b0
              try clear hcz20_0
              try clear hcz20_1
              try clear hcz25_0
              try clear hcz25_1
              try clear hcz39_0
              try clear hcz39_1
              try clear hcz41_0
              try clear hcz41_1
              try clear hcz42_0
              try clear hcz42_1
              try clear hfz20_0
              try clear hfz20_1
              try clear hfz25_0
              try clear hfz25_1
              try clear hfz39_0
              try clear hfz39_1
              try clear hfz41_0
              try clear hfz41_1
              try clear hfz42_0
              try clear hfz42_1
              try clear p2
              obtain ⟨kq, x100_28, rfl, HA, HJ28, BK142, HB⟩ := hcut
              cases kq with
              | zero => exact absurd HA.out (by simp [spilelaw10_CapacityNarrow.j1])
              | succ kj28 =>
                have H := HA.out
                clear HA
                simp only [spilelaw10_CapacityNarrow.j1] at H
                by_cases c43 : x100_28 = true
                · subst c43
                  have H1 : (some false) = some r := by rw [if_pos rfl] at H; exact H
                  clear H
                  have H := H1
                  clear H1
                  obtain rfl := Option.some.inj H
                  go_wp2
                  go_ret
                  exact ⟨by first | rfl | (simp [errW_none, errW_some] <;> rfl) | (simp [*, errW_none, errW_some] <;> rfl), by repeat (first | (with_reducible first | exact HB.out | apply below_alloc | apply pw_below_drewN | apply below_drew1 | refine below_set ?_ GE142.out) | exact HB.out)⟩
                · replace c43 := Bool.eq_false_iff.mpr c43
                  subst c43
                  have H1 : ((api_Point_13.f l0).bind fun t152 => ((profile_Insert.f kj28 t152 a1).bind fun bt155 => (if bt155.2 = 0 then ((capacity_Frustums.f kj28 bt155.1).bind fun bt159 => (if bt159.2 = 0 then (some (bt159.1 == t134)) else (some false))) else (some true)))) = some r := by rw [if_neg (show ¬ (false = true) by decide)] at H; exact H
                  clear H
                  have H := H1
                  clear H1
                  replace H := Option.bind_eq_some_iff.mp H
                  obtain ⟨t152, A440, H⟩ := H
                  replace H : ((profile_Insert.f kj28 t152 a1).bind fun bt155 => (if bt155.2 = 0 then ((capacity_Frustums.f kj28 bt155.1).bind fun bt159 => (if bt159.2 = 0 then (some (bt159.1 == t134)) else (some false))) else (some true))) = some r := H
                  have A44 := Aside0.mk A440
                  clear A440
                  replace H := Option.bind_eq_some_iff.mp H
                  obtain ⟨⟨t155, t156⟩, A450, H⟩ := H
                  replace H : (if t156 = 0 then ((capacity_Frustums.f kj28 t155).bind fun bt159 => (if bt159.2 = 0 then (some (bt159.1 == t134)) else (some false))) else (some true)) = some r := H
                  have A45 := Aside0.mk A450
                  clear A450
                  by_cases c46 : t156 = 0
                  · rw [if_pos c46] at H
                    have c46b0 : (t156 == 0) = true := beq_iff_eq.mpr c46
                    have c46b1 : (t156 != 0) = false := bne_eq_false_iff_eq.mpr c46
                    clear c46
                    replace H := Option.bind_eq_some_iff.mp H
                    obtain ⟨⟨t159, t160⟩, A470, H⟩ := H
                    replace H : (if t160 = 0 then (some (t159 == t134)) else (some false)) = some r := H
                    have A47 := Aside0.mk A470
                    clear A470
                    by_cases c48 : t160 = 0
                    · rw [if_pos c48] at H
                      have c48b0 : (t160 == 0) = true := beq_iff_eq.mpr c48
                      have c48b1 : (t160 != 0) = false := bne_eq_false_iff_eq.mpr c48
                      clear c48
                      obtain rfl := Option.some.inj H
                      go_wp2_with (first | ((with_reducible refine gate_callee (f := 13) rfl ?_); refine goesL_ (some 103) rfl rfl Try.func13 (by kernel_rfl) rfl #[.slice A0 l0.length c0] rfl (by (try simp only [List.map_toArray, List.map_cons, List.map_nil]); first | done | rfl | (simp only [List.length_drop, List.length_take]; rfl)) ?_; (with_reducible refine (api_Point_13.calls _ _ l0 t152 _ ?side1 ?side2 A44.out).mono ?_); (case side1 => repeat (first | exact (Kd.C_below HR0.out HB.out) | (with_reducible refine Kd.C_alloc ?_ _) | (with_reducible refine Kd.C_drewN ?_ _) | (with_reducible refine Kd.C_drew ?_))); (case side2 => exact HC0.out); rintro e w49 ⟨v153, rfl, ho0, hb⟩; refine ⟨_, rfl, ?_⟩; have n0_ := Aside0.mk (Kd.R_lower ho0 (below_size (by repeat (first | (with_reducible first | exact HB.out | apply below_alloc | apply pw_below_drewN | apply below_drew1 | refine below_set ?_ GE142.out) | exact HB.out)))); have n1_ := Aside0.mk (blk_below (g := gb142) (o := .cells #[.int .i64 t139, .int .i64 t140] 32 (0, 0)) (by (with_reducible repeat (first | refine blk_drewN ?_ _ | refine blk_drew ?_ | refine blk_alloc ?_ _)); exact BK142.out) hb); have n2_ := Aside0.mk (below_step (by repeat (first | (with_reducible first | exact HB.out | apply below_alloc | apply pw_below_drewN | apply below_drew1 | refine below_set ?_ GE142.out) | exact HB.out)) hb); clear BK142; clear HB; have HO154 := n0_; have BK142 := n1_; have HB := n2_; clear n0_ n1_ n2_; (try clear hb); (try clear hb2); (try clear hk); (try clear hi); (try clear ho0); obtain ⟨Ao50, co50, eo50⟩ := Kd.R_slice HO154.out; subst eo50) | ((with_reducible refine gate_callee (f := 16) rfl ?_); refine goesL_ (some 105) rfl rfl Try.func16 (by kernel_rfl) rfl #[.slice Ao50 t152.length co50, .int .i64 a1] rfl (by (try simp only [List.map_toArray, List.map_cons, List.map_nil]); first | done | rfl | (simp only [List.length_drop, List.length_take]; rfl)) ?_; (with_reducible refine (profile_Insert.calls kj28 _ _ t152 a1 t155 t156 _ ?side1 ?side2 A45.out).mono ?_); (case side1 => repeat (first | exact (Kd.R_reads' HO154.out).2.2 | (with_reducible refine Kd.C_alloc ?_ _) | (with_reducible refine Kd.C_drewN ?_ _) | (with_reducible refine Kd.C_drew ?_))); (case side2 => exact (Kd.R_reads' HO154.out).2.1); rintro e w51 ⟨v157, rfl, ho0, hb⟩; refine ⟨_, rfl, ?_⟩; have n0_ := Aside0.mk (Kd.R_elder' (by (with_reducible repeat (first | apply Kd.R_alloc | apply Kd.R_drewN | apply Kd.R_drew)); exact HO154.out) (Kd.R_base ho0) hb); have n1_ := Aside0.mk (Kd.R_lower (Kd.R_new' ho0 (Kd.R_lt (by (with_reducible repeat (first | apply Kd.R_alloc | apply Kd.R_drewN | apply Kd.R_drew)); exact HO154.out))) (below_size (by repeat (first | (with_reducible first | exact HB.out | apply below_alloc | apply pw_below_drewN | apply below_drew1 | refine below_set ?_ GE142.out) | exact HB.out)))); have n2_ := Aside0.mk (blk_below (g := gb142) (o := .cells #[.int .i64 t139, .int .i64 t140] 32 (0, 0)) (by (with_reducible repeat (first | refine blk_drewN ?_ _ | refine blk_drew ?_ | refine blk_alloc ?_ _)); exact BK142.out) hb); have n3_ := Aside0.mk (below_step (by repeat (first | (with_reducible first | exact HB.out | apply below_alloc | apply pw_below_drewN | apply below_drew1 | refine below_set ?_ GE142.out) | exact HB.out)) hb); clear HO154; clear BK142; clear HB; have HO154 := n0_; have HO158 := n1_; have BK142 := n2_; have HB := n3_; clear n0_ n1_ n2_ n3_; (try clear hb); (try clear hb2); (try clear hk); (try clear hi); (try clear ho0); obtain ⟨Ao52, co52, eo52⟩ := Kd.R_slice HO158.out; subst eo52) | ((with_reducible refine gate_callee (f := 12) rfl ?_); refine goesL_ (some 112) rfl rfl Try.func12 (by kernel_rfl) rfl #[.slice Ao52 t155.length co52] rfl (by (try simp only [List.map_toArray, List.map_cons, List.map_nil]); first | done | rfl | (simp only [List.length_drop, List.length_take]; rfl)) ?_; (with_reducible refine (capacity_Frustums.calls kj28 _ _ t155 t159 t160 _ ?side1 ?side2 A47.out).mono ?_); (case side1 => repeat (first | exact (Kd.R_reads' HO158.out).2.2 | (with_reducible refine Kd.C_alloc ?_ _) | (with_reducible refine Kd.C_drewN ?_ _) | (with_reducible refine Kd.C_drew ?_))); (case side2 => exact (Kd.R_reads' HO158.out).2.1); rintro e w53 ⟨rfl, hb⟩; refine ⟨_, rfl, ?_⟩; have n0_ := Aside0.mk (Kd.R_below (by (with_reducible repeat (first | apply Kd.R_alloc | apply Kd.R_drewN | apply Kd.R_drew)); exact HO154.out) hb); have n1_ := Aside0.mk (Kd.R_below (by (with_reducible repeat (first | apply Kd.R_alloc | apply Kd.R_drewN | apply Kd.R_drew)); exact HO158.out) hb); have n2_ := Aside0.mk (blk_below (g := gb142) (o := .cells #[.int .i64 t139, .int .i64 t140] 32 (0, 0)) (by (with_reducible repeat (first | refine blk_drewN ?_ _ | refine blk_drew ?_ | refine blk_alloc ?_ _)); exact BK142.out) hb); have n3_ := Aside0.mk (below_step (by repeat (first | (with_reducible first | exact HB.out | apply below_alloc | apply pw_below_drewN | apply below_drew1 | refine below_set ?_ GE142.out) | exact HB.out)) hb); clear HO154; clear HO158; clear BK142; clear HB; have HO154 := n0_; have HO158 := n1_; have BK142 := n2_; have HB := n3_; clear n0_ n1_ n2_ n3_; (try clear hb); (try clear hb2); (try clear hk); (try clear hi)))
                      go_ret
                      exact ⟨by first | rfl | (simp [errW_none, errW_some] <;> rfl) | (simp [*, errW_none, errW_some] <;> rfl), by repeat (first | (with_reducible first | exact HB.out | apply below_alloc | apply pw_below_drewN | apply below_drew1 | refine below_set ?_ GE142.out) | exact HB.out)⟩
                    · rw [if_neg c48] at H
                      have c48b0 : (t160 == 0) = false := beq_eq_false_iff_ne.mpr c48
                      have c48b1 : (t160 != 0) = true := bne_iff_ne.mpr c48
                      obtain rfl := Option.some.inj H
                      go_wp2_with (first | ((with_reducible refine gate_callee (f := 13) rfl ?_); refine goesL_ (some 103) rfl rfl Try.func13 (by kernel_rfl) rfl #[.slice A0 l0.length c0] rfl (by (try simp only [List.map_toArray, List.map_cons, List.map_nil]); first | done | rfl | (simp only [List.length_drop, List.length_take]; rfl)) ?_; (with_reducible refine (api_Point_13.calls _ _ l0 t152 _ ?side1 ?side2 A44.out).mono ?_); (case side1 => repeat (first | exact (Kd.C_below HR0.out HB.out) | (with_reducible refine Kd.C_alloc ?_ _) | (with_reducible refine Kd.C_drewN ?_ _) | (with_reducible refine Kd.C_drew ?_))); (case side2 => exact HC0.out); rintro e w54 ⟨v153, rfl, ho0, hb⟩; refine ⟨_, rfl, ?_⟩; have n0_ := Aside0.mk (Kd.R_lower ho0 (below_size (by repeat (first | (with_reducible first | exact HB.out | apply below_alloc | apply pw_below_drewN | apply below_drew1 | refine below_set ?_ GE142.out) | exact HB.out)))); have n1_ := Aside0.mk (blk_below (g := gb142) (o := .cells #[.int .i64 t139, .int .i64 t140] 32 (0, 0)) (by (with_reducible repeat (first | refine blk_drewN ?_ _ | refine blk_drew ?_ | refine blk_alloc ?_ _)); exact BK142.out) hb); have n2_ := Aside0.mk (below_step (by repeat (first | (with_reducible first | exact HB.out | apply below_alloc | apply pw_below_drewN | apply below_drew1 | refine below_set ?_ GE142.out) | exact HB.out)) hb); clear BK142; clear HB; have HO154 := n0_; have BK142 := n1_; have HB := n2_; clear n0_ n1_ n2_; (try clear hb); (try clear hb2); (try clear hk); (try clear hi); (try clear ho0); obtain ⟨Ao55, co55, eo55⟩ := Kd.R_slice HO154.out; subst eo55) | ((with_reducible refine gate_callee (f := 16) rfl ?_); refine goesL_ (some 105) rfl rfl Try.func16 (by kernel_rfl) rfl #[.slice Ao55 t152.length co55, .int .i64 a1] rfl (by (try simp only [List.map_toArray, List.map_cons, List.map_nil]); first | done | rfl | (simp only [List.length_drop, List.length_take]; rfl)) ?_; (with_reducible refine (profile_Insert.calls kj28 _ _ t152 a1 t155 t156 _ ?side1 ?side2 A45.out).mono ?_); (case side1 => repeat (first | exact (Kd.R_reads' HO154.out).2.2 | (with_reducible refine Kd.C_alloc ?_ _) | (with_reducible refine Kd.C_drewN ?_ _) | (with_reducible refine Kd.C_drew ?_))); (case side2 => exact (Kd.R_reads' HO154.out).2.1); rintro e w56 ⟨v157, rfl, ho0, hb⟩; refine ⟨_, rfl, ?_⟩; have n0_ := Aside0.mk (Kd.R_elder' (by (with_reducible repeat (first | apply Kd.R_alloc | apply Kd.R_drewN | apply Kd.R_drew)); exact HO154.out) (Kd.R_base ho0) hb); have n1_ := Aside0.mk (Kd.R_lower (Kd.R_new' ho0 (Kd.R_lt (by (with_reducible repeat (first | apply Kd.R_alloc | apply Kd.R_drewN | apply Kd.R_drew)); exact HO154.out))) (below_size (by repeat (first | (with_reducible first | exact HB.out | apply below_alloc | apply pw_below_drewN | apply below_drew1 | refine below_set ?_ GE142.out) | exact HB.out)))); have n2_ := Aside0.mk (blk_below (g := gb142) (o := .cells #[.int .i64 t139, .int .i64 t140] 32 (0, 0)) (by (with_reducible repeat (first | refine blk_drewN ?_ _ | refine blk_drew ?_ | refine blk_alloc ?_ _)); exact BK142.out) hb); have n3_ := Aside0.mk (below_step (by repeat (first | (with_reducible first | exact HB.out | apply below_alloc | apply pw_below_drewN | apply below_drew1 | refine below_set ?_ GE142.out) | exact HB.out)) hb); clear HO154; clear BK142; clear HB; have HO154 := n0_; have HO158 := n1_; have BK142 := n2_; have HB := n3_; clear n0_ n1_ n2_ n3_; (try clear hb); (try clear hb2); (try clear hk); (try clear hi); (try clear ho0); obtain ⟨Ao57, co57, eo57⟩ := Kd.R_slice HO158.out; subst eo57) | ((with_reducible refine gate_callee (f := 12) rfl ?_); refine goesL_ (some 112) rfl rfl Try.func12 (by kernel_rfl) rfl #[.slice Ao57 t155.length co57] rfl (by (try simp only [List.map_toArray, List.map_cons, List.map_nil]); first | done | rfl | (simp only [List.length_drop, List.length_take]; rfl)) ?_; (with_reducible refine (capacity_Frustums.calls kj28 _ _ t155 t159 t160 _ ?side1 ?side2 A47.out).mono ?_); (case side1 => repeat (first | exact (Kd.R_reads' HO158.out).2.2 | (with_reducible refine Kd.C_alloc ?_ _) | (with_reducible refine Kd.C_drewN ?_ _) | (with_reducible refine Kd.C_drew ?_))); (case side2 => exact (Kd.R_reads' HO158.out).2.1); rintro e w58 ⟨rfl, hb⟩; refine ⟨_, rfl, ?_⟩; have n0_ := Aside0.mk (Kd.R_below (by (with_reducible repeat (first | apply Kd.R_alloc | apply Kd.R_drewN | apply Kd.R_drew)); exact HO154.out) hb); have n1_ := Aside0.mk (Kd.R_below (by (with_reducible repeat (first | apply Kd.R_alloc | apply Kd.R_drewN | apply Kd.R_drew)); exact HO158.out) hb); have n2_ := Aside0.mk (blk_below (g := gb142) (o := .cells #[.int .i64 t139, .int .i64 t140] 32 (0, 0)) (by (with_reducible repeat (first | refine blk_drewN ?_ _ | refine blk_drew ?_ | refine blk_alloc ?_ _)); exact BK142.out) hb); have n3_ := Aside0.mk (below_step (by repeat (first | (with_reducible first | exact HB.out | apply below_alloc | apply pw_below_drewN | apply below_drew1 | refine below_set ?_ GE142.out) | exact HB.out)) hb); clear HO154; clear HO158; clear BK142; clear HB; have HO154 := n0_; have HO158 := n1_; have BK142 := n2_; have HB := n3_; clear n0_ n1_ n2_ n3_; (try clear hb); (try clear hb2); (try clear hk); (try clear hi)))
                      go_ret
                      exact ⟨by first | rfl | (simp [errW_none, errW_some] <;> rfl) | (simp [*, errW_none, errW_some] <;> rfl), by repeat (first | (with_reducible first | exact HB.out | apply below_alloc | apply pw_below_drewN | apply below_drew1 | refine below_set ?_ GE142.out) | exact HB.out)⟩
                  · rw [if_neg c46] at H
                    have c46b0 : (t156 == 0) = false := beq_eq_false_iff_ne.mpr c46
                    have c46b1 : (t156 != 0) = true := bne_iff_ne.mpr c46
                    obtain rfl := Option.some.inj H
                    go_wp2_with (first | ((with_reducible refine gate_callee (f := 13) rfl ?_); refine goesL_ (some 103) rfl rfl Try.func13 (by kernel_rfl) rfl #[.slice A0 l0.length c0] rfl (by (try simp only [List.map_toArray, List.map_cons, List.map_nil]); first | done | rfl | (simp only [List.length_drop, List.length_take]; rfl)) ?_; (with_reducible refine (api_Point_13.calls _ _ l0 t152 _ ?side1 ?side2 A44.out).mono ?_); (case side1 => repeat (first | exact (Kd.C_below HR0.out HB.out) | (with_reducible refine Kd.C_alloc ?_ _) | (with_reducible refine Kd.C_drewN ?_ _) | (with_reducible refine Kd.C_drew ?_))); (case side2 => exact HC0.out); rintro e w59 ⟨v153, rfl, ho0, hb⟩; refine ⟨_, rfl, ?_⟩; have n0_ := Aside0.mk (Kd.R_lower ho0 (below_size (by repeat (first | (with_reducible first | exact HB.out | apply below_alloc | apply pw_below_drewN | apply below_drew1 | refine below_set ?_ GE142.out) | exact HB.out)))); have n1_ := Aside0.mk (blk_below (g := gb142) (o := .cells #[.int .i64 t139, .int .i64 t140] 32 (0, 0)) (by (with_reducible repeat (first | refine blk_drewN ?_ _ | refine blk_drew ?_ | refine blk_alloc ?_ _)); exact BK142.out) hb); have n2_ := Aside0.mk (below_step (by repeat (first | (with_reducible first | exact HB.out | apply below_alloc | apply pw_below_drewN | apply below_drew1 | refine below_set ?_ GE142.out) | exact HB.out)) hb); clear BK142; clear HB; have HO154 := n0_; have BK142 := n1_; have HB := n2_; clear n0_ n1_ n2_; (try clear hb); (try clear hb2); (try clear hk); (try clear hi); (try clear ho0); obtain ⟨Ao60, co60, eo60⟩ := Kd.R_slice HO154.out; subst eo60) | ((with_reducible refine gate_callee (f := 16) rfl ?_); refine goesL_ (some 105) rfl rfl Try.func16 (by kernel_rfl) rfl #[.slice Ao60 t152.length co60, .int .i64 a1] rfl (by (try simp only [List.map_toArray, List.map_cons, List.map_nil]); first | done | rfl | (simp only [List.length_drop, List.length_take]; rfl)) ?_; (with_reducible refine (profile_Insert.calls kj28 _ _ t152 a1 t155 t156 _ ?side1 ?side2 A45.out).mono ?_); (case side1 => repeat (first | exact (Kd.R_reads' HO154.out).2.2 | (with_reducible refine Kd.C_alloc ?_ _) | (with_reducible refine Kd.C_drewN ?_ _) | (with_reducible refine Kd.C_drew ?_))); (case side2 => exact (Kd.R_reads' HO154.out).2.1); rintro e w61 ⟨v157, rfl, ho0, hb⟩; refine ⟨_, rfl, ?_⟩; have n0_ := Aside0.mk (Kd.R_elder' (by (with_reducible repeat (first | apply Kd.R_alloc | apply Kd.R_drewN | apply Kd.R_drew)); exact HO154.out) (Kd.R_base ho0) hb); have n1_ := Aside0.mk (Kd.R_lower (Kd.R_new' ho0 (Kd.R_lt (by (with_reducible repeat (first | apply Kd.R_alloc | apply Kd.R_drewN | apply Kd.R_drew)); exact HO154.out))) (below_size (by repeat (first | (with_reducible first | exact HB.out | apply below_alloc | apply pw_below_drewN | apply below_drew1 | refine below_set ?_ GE142.out) | exact HB.out)))); have n2_ := Aside0.mk (blk_below (g := gb142) (o := .cells #[.int .i64 t139, .int .i64 t140] 32 (0, 0)) (by (with_reducible repeat (first | refine blk_drewN ?_ _ | refine blk_drew ?_ | refine blk_alloc ?_ _)); exact BK142.out) hb); have n3_ := Aside0.mk (below_step (by repeat (first | (with_reducible first | exact HB.out | apply below_alloc | apply pw_below_drewN | apply below_drew1 | refine below_set ?_ GE142.out) | exact HB.out)) hb); clear HO154; clear BK142; clear HB; have HO154 := n0_; have HO158 := n1_; have BK142 := n2_; have HB := n3_; clear n0_ n1_ n2_ n3_; (try clear hb); (try clear hb2); (try clear hk); (try clear hi); (try clear ho0)))
                    go_ret
                    exact ⟨by first | rfl | (simp [errW_none, errW_some] <;> rfl) | (simp [*, errW_none, errW_some] <;> rfl), by repeat (first | (with_reducible first | exact HB.out | apply below_alloc | apply pw_below_drewN | apply below_drew1 | refine below_set ?_ GE142.out) | exact HB.out)⟩
    · replace c6 := Bool.eq_false_iff.mpr c6
      subst c6
      have H1 : (some true) = some r := by rw [if_neg (show ¬ (false = true) by decide)] at H; exact H
      clear H
      have H := H1
      clear H1
      obtain rfl := Option.some.inj H
      go_enter Try.func3, Try.ntmps3
      go_wp2_with (first | ((with_reducible refine gate_callee (f := 10) rfl ?_); refine goesL_ (some 17) rfl rfl Try.func10 (by kernel_rfl) rfl #[] rfl (by (try simp only [List.map_toArray, List.map_cons, List.map_nil]); first | done | rfl | (simp only [List.length_drop, List.length_take]; rfl)) ?_; (with_reducible refine (spilelaw10_awake.calls k  true _ A3.out).mono ?_); rintro e w62 ⟨rfl, hb⟩; refine ⟨_, rfl, ?_⟩; have n0_ := Aside0.mk (below_step (by repeat (first | (with_reducible first | exact HB.out | apply below_alloc | apply pw_below_drewN | apply below_drew1) | exact HB.out)) hb); clear HB; have HB := n0_; clear n0_; (try clear hb); (try clear hb2); (try clear hk); (try clear hi)) | ((with_reducible refine gate_callee (f := 11) rfl ?_); refine goesL_ (some 20) rfl rfl Try.func11 (by kernel_rfl) rfl #[.slice A0 l0.length c0] rfl (by (try simp only [List.map_toArray, List.map_cons, List.map_nil]); first | done | rfl | (simp only [List.length_drop, List.length_take]; rfl)) ?_; (with_reducible refine (spileref08_Few.calls _ _ l0 false _ ?side1 ?side2 A5.out).mono ?_); (case side1 => repeat (first | exact (Kd.C_below HR0.out HB.out) | (with_reducible refine Kd.C_alloc ?_ _) | (with_reducible refine Kd.C_drewN ?_ _) | (with_reducible refine Kd.C_drew ?_))); (case side2 => exact HC0.out); rintro e w' ⟨rfl, ⟨nd, rfl⟩⟩; refine ⟨_, rfl, ?_⟩))
      go_ret
      exact ⟨by first | rfl | (simp [errW_none, errW_some] <;> rfl) | (simp [*, errW_none, errW_some] <;> rfl), by repeat (first | (with_reducible first | exact HB.out | apply below_alloc | apply pw_below_drewN | apply below_drew1) | exact HB.out)⟩
  · replace c4 := Bool.eq_false_iff.mpr c4
    subst c4
    have H1 : (some false) = some r := by rw [if_neg (show ¬ (false = true) by decide)] at H; exact H
    clear H
    have H := H1
    clear H1
    obtain rfl := Option.some.inj H
    go_enter Try.func3, Try.ntmps3
    go_wp2_with (first | ((with_reducible refine gate_callee (f := 10) rfl ?_); refine goesL_ (some 17) rfl rfl Try.func10 (by kernel_rfl) rfl #[] rfl (by (try simp only [List.map_toArray, List.map_cons, List.map_nil]); first | done | rfl | (simp only [List.length_drop, List.length_take]; rfl)) ?_; (with_reducible refine (spilelaw10_awake.calls k  false _ A3.out).mono ?_); rintro e w63 ⟨rfl, hb⟩; refine ⟨_, rfl, ?_⟩; have n0_ := Aside0.mk (below_step (by repeat (first | (with_reducible first | exact HB.out | apply below_alloc | apply pw_below_drewN | apply below_drew1) | exact HB.out)) hb); clear HB; have HB := n0_; clear n0_; (try clear hb); (try clear hb2); (try clear hk); (try clear hi)))
    go_ret
    exact ⟨by first | rfl | (simp [errW_none, errW_some] <;> rfl) | (simp [*, errW_none, errW_some] <;> rfl), by repeat (first | (with_reducible first | exact HB.out | apply below_alloc | apply pw_below_drewN | apply below_drew1) | exact HB.out)⟩

end Go.Proofs.Ytcbmmhedefigeaa.X
