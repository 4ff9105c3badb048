-- Written by a program of this work, over the kit's print of the translation. Not trusted: Lean checks it.
import Derived.Test.YtcbmmhedefigeaaXx0
import Derived.Test.YtcbmmhedefigeaaXx5
import Derived.Test.YtcbmmhedefigeaaAwk8
import Derived.Test.YtcbmmhedefigeaaCl8
import Derived.Test.YtcbmmhedefigeaaFru
namespace Go.Proofs.Ytcbmmhedefigeaa.X
open Go.RowKit Go.Proofs.YtcbmmhedefigeaaW.PrintWords Go.Proofs.YtcbmmhedefigeaaW.PrintLast Go.Proofs.YtcbmmhedefigeaaW.PrintMore
attribute [local go_sem] max2_int min2_int max_two min_two max_three min_three max_four min_four   -- for this text's walks alone
set_option linter.unusedVariables false
set_option linter.unusedSimpArgs false

/-! ### spilelaw10_CapacityParts: function 9 -/
mutual
def spilelaw10_CapacityParts.j0 : Nat → List (S30) → Int → Int → Int → Bool → Option (Bool)
  | 0, _, _, _, _, _ => none
  | k + 1, x0, x1, x5, x6, x31 => if x31 = true then (if x6 = 0 then (some true) else (some (x5 == 0))) else (if (wrap64 ((x0.length : Int) - 2)) = 0 then (none) else (if 0 ≤ (wrap64 (1 + (Int.tmod (wrap64 (x1)) (wrap64 ((x0.length : Int) - 2))))) then (if (wrap64 (1 + (Int.tmod (wrap64 (x1)) (wrap64 ((x0.length : Int) - 2))))) ≤ (x0.length : Int) then ((api_Point_13.f (x0.drop ((wrap64 (1 + (Int.tmod (wrap64 (x1)) (wrap64 ((x0.length : Int) - 2))))) : Int).toNat)).bind fun t320 => (spilelaw10_CapacityParts.l0 k x0 x5 (wrap64 (1 + (Int.tmod (wrap64 (x1)) (wrap64 ((x0.length : Int) - 2))))) t320 (t320.length : Int) 0)) else (none)) else (none)))
def spilelaw10_CapacityParts.l0 : Nat → List (S30) → Int → Int → List (S30) → Int → Int → Option (Bool)
  | 0, _, _, _, _, _, _ => none
  | k + 1, x0, x5, x7, x8, x50, x51 => if x51 < x50 then (if 0 ≤ x51 then (if x51 < (x8.length : Int) then (if 0 ≤ x7 then (if x7 < (x0.length : Int) then (spilelaw10_CapacityParts.l0 k x0 x5 x7 (x8.set (x51 : Int).toNat (⟨wrap64 (((rd_T30 x8 x51).f0) - ((rd_T30 x0 x7).f0)), (rd_T30 x8 x51).f1⟩ : S30)) x50 (wrap64 (x51 + 1))) else (none)) else (none)) else (none)) else (none)) else (if 0 ≤ (wrap64 (x7 + 1)) then (if (wrap64 (x7 + 1)) ≤ (x0.length : Int) then ((api_Point_13.f (x0.take ((wrap64 (x7 + 1)) : Int).toNat)).bind fun t330 => ((capacity_Frustums.f k t330).bind fun bt333 => ((capacity_Frustums.f k x8).bind fun bt335 => (if bt333.2 = 0 then (if bt335.2 = 0 then (some ((wrap64 (bt333.1 + bt335.1)) == x5)) else (some false)) else (some false))))) else (none)) else (none))
end
def spilelaw10_CapacityParts.f (k : Nat) (l0 : List (S30)) (a1 : Int) : Option (Bool) := (spilelaw10_awake.f k).bind fun t309 => (if t309 = true then ((spileref08_Few.f l0).bind fun t310 => (if t310 = true then ((api_Point_13.f l0).bind fun t311 => ((capacity_Frustums.f k t311).bind fun bt314 => (if bt314.2 = 0 then (spilelaw10_CapacityParts.j0 k l0 a1 bt314.1 bt314.2 (decide ((l0.length : Int) < 3))) else (spilelaw10_CapacityParts.j0 k l0 a1 bt314.1 bt314.2 true)))) else (some true))) else (some false))
theorem spilelaw10_CapacityParts.mono_l : ∀ k, (∀ y0 y1 y2 y3 y4, LeO (spilelaw10_CapacityParts.j0 k y0 y1 y2 y3 y4) (spilelaw10_CapacityParts.j0 (k + 1) y0 y1 y2 y3 y4)) ∧ (∀ y0 y1 y2 y3 y4 y5, LeO (spilelaw10_CapacityParts.l0 k y0 y1 y2 y3 y4 y5) (spilelaw10_CapacityParts.l0 (k + 1) y0 y1 y2 y3 y4 y5))
  | 0 => ⟨fun _ _ _ _ _ r h => by simp [spilelaw10_CapacityParts.j0] at h, fun _ _ _ _ _ _ r h => by simp [spilelaw10_CapacityParts.l0] at h⟩
  | k + 1 => by
    obtain ⟨ih0, ih1⟩ := spilelaw10_CapacityParts.mono_l k
    refine ⟨?_, ?_⟩
    · intro y0 y1 y2 y3 y4
      unfold spilelaw10_CapacityParts.j0
      repeat' first
      | (with_reducible exact ih0 _ _ _ _ _)
      | (with_reducible exact ih1 _ _ _ _ _ _)
      | (with_reducible exact capacity_Frustums.mono _ _)
      | (with_reducible exact spilelaw10_awake.mono _)
      | (with_reducible exact LeO.refl _)
      | (with_reducible exact LeO.none _)
      | (with_reducible refine LeO.ite ?_ ?_)
      | (with_reducible refine LeO.bind ?_ (fun _ => ?_))
      | exact ih0 _ _ _ _ _
      | exact ih1 _ _ _ _ _ _
      | exact capacity_Frustums.mono _ _
      | exact spilelaw10_awake.mono _
      | exact LeO.none _
      | refine LeO.ite ?_ ?_
      | refine LeO.bind ?_ (fun _ => ?_)
    · intro y0 y1 y2 y3 y4 y5
      unfold spilelaw10_CapacityParts.l0
      repeat' first
      | (with_reducible exact ih0 _ _ _ _ _)
      | (with_reducible exact ih1 _ _ _ _ _ _)
      | (with_reducible exact capacity_Frustums.mono _ _)
      | (with_reducible exact spilelaw10_awake.mono _)
      | (with_reducible exact LeO.refl _)
      | (with_reducible exact LeO.none _)
      | (with_reducible refine LeO.ite ?_ ?_)
      | (with_reducible refine LeO.bind ?_ (fun _ => ?_))
      | exact ih0 _ _ _ _ _
      | exact ih1 _ _ _ _ _ _
      | exact capacity_Frustums.mono _ _
      | exact spilelaw10_awake.mono _
      | exact LeO.none _
      | refine LeO.ite ?_ ?_
      | refine LeO.bind ?_ (fun _ => ?_)
theorem spilelaw10_CapacityParts.mono : ∀ a0 a1 k, LeO (spilelaw10_CapacityParts.f k a0 a1) (spilelaw10_CapacityParts.f (k + 1) a0 a1) := by
  intro a0 a1 k
  obtain ⟨ih0, ih1⟩ := spilelaw10_CapacityParts.mono_l k
  unfold spilelaw10_CapacityParts.f
  repeat' first
      | (with_reducible exact ih0 _ _ _ _ _)
      | (with_reducible exact ih1 _ _ _ _ _ _)
      | (with_reducible exact capacity_Frustums.mono _ _)
      | (with_reducible exact spilelaw10_awake.mono _)
      | (with_reducible exact LeO.refl _)
      | (with_reducible exact LeO.none _)
      | (with_reducible refine LeO.ite ?_ ?_)
      | (with_reducible refine LeO.bind ?_ (fun _ => ?_))
      | exact ih0 _ _ _ _ _
      | exact ih1 _ _ _ _ _ _
      | exact capacity_Frustums.mono _ _
      | exact spilelaw10_awake.mono _
      | exact LeO.none _
      | refine LeO.ite ?_ ?_
      | refine LeO.bind ?_ (fun _ => ?_)
def spilelaw10_CapacityParts.T13 : Bool × List (List Nat × List Nat) := (true, [([], []), ([], []), ([0, 1], [0, 1]), ([2], [2]), ([3], [3]), ([], []), ([], []), ([5, 6], [5, 6]), ([7], [7]), ([8], [8]), ([4, 9], [4, 9]), ([0, 1, 0, 1, 2, 3, 4, 5, 6, 7, 8, 9, 10], [0, 1]), ([11, 0, 1, 2, 3, 4, 5, 6, 7, 8, 9, 10], [11]), ([12, 10, 0, 1, 2, 3, 4, 5, 6, 7, 8, 9, 10], [10, 12])])
def spilelaw10_CapacityParts.B13 : List Nat := [0, 0, 3, 7, 15, 0, 0, 96, 224, 480, 1023, 2047, 4095, 8191]
theorem spilelaw10_CapacityParts.tab13 : rtab .any (opsOf Try.f9 13) = spilelaw10_CapacityParts.T13 := by kernel_rfl
theorem spilelaw10_CapacityParts.bits13 : waitsOk spilelaw10_CapacityParts.T13.2 spilelaw10_CapacityParts.B13 = true := by kernel_rfl
set_option maxHeartbeats 8000000 in
set_option maxRecDepth 100000 in
theorem spilelaw10_CapacityParts.calls (k : Nat) (A0 : Option Addr) (c0 : Nat) (l0 : List (S30)) (a1 : Int) (r : Bool) (w : World) (hr0 : Kd.C k30 w A0 l0.length l0) (hc0 : l0.length ≤ c0) (h : spilelaw10_CapacityParts.f k l0 a1 = some r) :
    Calls Try.prog 9 #[.slice A0 l0.length c0, .int .u8 a1] w fun e w' => e = .returned (.bool r) ∧ Below w.heap.size w w' := by
  have HR0 := Aside0.mk hr0
  have HC0 := Aside0.mk hc0
  clear hr0 hc0
  have HB := Aside0.mk (Below.refl w.heap.size w)
  have H : ((spilelaw10_awake.f k).bind fun t309 => (if t309 = true then ((spileref08_Few.f l0).bind fun t310 => (if t310 = true then ((api_Point_13.f l0).bind fun t311 => ((capacity_Frustums.f k t311).bind fun bt314 => (if bt314.2 = 0 then (spilelaw10_CapacityParts.j0 k l0 a1 bt314.1 bt314.2 (decide ((l0.length : Int) < 3))) else (spilelaw10_CapacityParts.j0 k l0 a1 bt314.1 bt314.2 true)))) else (some true))) else (some false))) = some r := h
  clear h
  replace H := Option.bind_eq_some_iff.mp H
  obtain ⟨t309, A30, H⟩ := H
  replace H : (if t309 = true then ((spileref08_Few.f l0).bind fun t310 => (if t310 = true then ((api_Point_13.f l0).bind fun t311 => ((capacity_Frustums.f k t311).bind fun bt314 => (if bt314.2 = 0 then (spilelaw10_CapacityParts.j0 k l0 a1 bt314.1 bt314.2 (decide ((l0.length : Int) < 3))) else (spilelaw10_CapacityParts.j0 k l0 a1 bt314.1 bt314.2 true)))) else (some true))) else (some false)) = some r := H
  have A3 := Aside0.mk A30
  clear A30
  by_cases c4 : t309 = true
  · subst c4
    have H1 : ((spileref08_Few.f l0).bind fun t310 => (if t310 = true then ((api_Point_13.f l0).bind fun t311 => ((capacity_Frustums.f k t311).bind fun bt314 => (if bt314.2 = 0 then (spilelaw10_CapacityParts.j0 k l0 a1 bt314.1 bt314.2 (decide ((l0.length : Int) < 3))) else (spilelaw10_CapacityParts.j0 k l0 a1 bt314.1 bt314.2 true)))) else (some true))) = some r := by rw [if_pos rfl] at H; exact H
    clear H
    have H := H1
    clear H1
    replace H := Option.bind_eq_some_iff.mp H
    obtain ⟨t310, A50, H⟩ := H
    replace H : (if t310 = true then ((api_Point_13.f l0).bind fun t311 => ((capacity_Frustums.f k t311).bind fun bt314 => (if bt314.2 = 0 then (spilelaw10_CapacityParts.j0 k l0 a1 bt314.1 bt314.2 (decide ((l0.length : Int) < 3))) else (spilelaw10_CapacityParts.j0 k l0 a1 bt314.1 bt314.2 true)))) else (some true)) = some r := H
    have A5 := Aside0.mk A50
    clear A50
    by_cases c6 : t310 = true
    · subst c6
      have H1 : ((api_Point_13.f l0).bind fun t311 => ((capacity_Frustums.f k t311).bind fun bt314 => (if bt314.2 = 0 then (spilelaw10_CapacityParts.j0 k l0 a1 bt314.1 bt314.2 (decide ((l0.length : Int) < 3))) else (spilelaw10_CapacityParts.j0 k l0 a1 bt314.1 bt314.2 true)))) = some r := by rw [if_pos rfl] at H; exact H
      clear H
      have H := H1
      clear H1
      replace H := Option.bind_eq_some_iff.mp H
      obtain ⟨t311, A70, H⟩ := H
      replace H : ((capacity_Frustums.f k t311).bind fun bt314 => (if bt314.2 = 0 then (spilelaw10_CapacityParts.j0 k l0 a1 bt314.1 bt314.2 (decide ((l0.length : Int) < 3))) else (spilelaw10_CapacityParts.j0 k l0 a1 bt314.1 bt314.2 true))) = some r := H
      have A7 := Aside0.mk A70
      clear A70
      replace H := Option.bind_eq_some_iff.mp H
      obtain ⟨⟨t314, t315⟩, A80, H⟩ := H
      replace H : (if t315 = 0 then (spilelaw10_CapacityParts.j0 k l0 a1 t314 t315 (decide ((l0.length : Int) < 3))) else (spilelaw10_CapacityParts.j0 k l0 a1 t314 t315 true)) = some r := H
      have A8 := Aside0.mk A80
      clear A80
      have HC9 := Aside0.mk H
      clear H
      go_enter Try.func9, Try.ntmps9
      go_upto_region 6 with (first | ((with_reducible refine gate_callee (f := 10) rfl ?_); refine goesL_ (some 14) rfl rfl Try.func10 (by kernel_rfl) rfl #[] rfl (by (try simp only [List.map_toArray, List.map_cons, List.map_nil]); first | done | rfl | (simp only [List.length_drop, List.length_take]; rfl)) ?_; (with_reducible refine (spilelaw10_awake.calls k  true _ A3.out).mono ?_); rintro e w10 ⟨rfl, hb⟩; refine ⟨_, rfl, ?_⟩; have n0_ := Aside0.mk (below_step (by repeat (first | (with_reducible first | exact HB.out | apply below_alloc | apply pw_below_drewN | apply below_drew1) | exact HB.out)) hb); clear HB; have HB := n0_; clear n0_; (try clear hb); (try clear hb2); (try clear hk); (try clear hi)) | ((with_reducible refine gate_callee (f := 11) rfl ?_); refine goesL_ (some 17) rfl rfl Try.func11 (by kernel_rfl) rfl #[.slice A0 l0.length c0] rfl (by (try simp only [List.map_toArray, List.map_cons, List.map_nil]); first | done | rfl | (simp only [List.length_drop, List.length_take]; rfl)) ?_; (with_reducible refine (spileref08_Few.calls _ _ l0 true _ ?side1 ?side2 A5.out).mono ?_); (case side1 => repeat (first | exact (Kd.C_below HR0.out HB.out) | (with_reducible refine Kd.C_alloc ?_ _) | (with_reducible refine Kd.C_drewN ?_ _) | (with_reducible refine Kd.C_drew ?_))); (case side2 => exact HC0.out); rintro e w' ⟨rfl, ⟨nd, rfl⟩⟩; refine ⟨_, rfl, ?_⟩) | ((with_reducible refine gate_callee (f := 13) rfl ?_); refine goesL_ (some 21) rfl rfl Try.func13 (by kernel_rfl) rfl #[.slice A0 l0.length c0] rfl (by (try simp only [List.map_toArray, List.map_cons, List.map_nil]); first | done | rfl | (simp only [List.length_drop, List.length_take]; rfl)) ?_; (with_reducible refine (api_Point_13.calls _ _ l0 t311 _ ?side1 ?side2 A7.out).mono ?_); (case side1 => repeat (first | exact (Kd.C_below HR0.out (by repeat (first | (with_reducible first | exact HB.out | apply below_alloc | apply pw_below_drewN | apply below_drew1) | exact HB.out))) | (with_reducible refine Kd.C_alloc ?_ _) | (with_reducible refine Kd.C_drewN ?_ _) | (with_reducible refine Kd.C_drew ?_))); (case side2 => exact HC0.out); rintro e w11 ⟨v312, rfl, ho0, hb⟩; refine ⟨_, rfl, ?_⟩; have n0_ := Aside0.mk (Kd.R_lower ho0 (below_size (by repeat (first | (with_reducible first | exact HB.out | apply below_alloc | apply pw_below_drewN | apply below_drew1) | exact HB.out)))); have n1_ := Aside0.mk (below_step (by repeat (first | (with_reducible first | exact HB.out | apply below_alloc | apply pw_below_drewN | apply below_drew1) | exact HB.out)) hb); clear HB; have HO313 := n0_; have HB := n1_; clear n0_ n1_; (try clear hb); (try clear hb2); (try clear hk); (try clear hi); (try clear ho0); obtain ⟨Ao12, co12, eo12⟩ := Kd.R_slice HO313.out; subst eo12) | ((with_reducible refine gate_callee (f := 12) rfl ?_); refine goesL_ (some 22) rfl rfl Try.func12 (by kernel_rfl) rfl #[.slice Ao12 t311.length co12] rfl (by (try simp only [List.map_toArray, List.map_cons, List.map_nil]); first | done | rfl | (simp only [List.length_drop, List.length_take]; rfl)) ?_; (with_reducible refine (capacity_Frustums.calls k _ _ t311 t314 t315 _ ?side1 ?side2 A8.out).mono ?_); (case side1 => repeat (first | exact (Kd.R_reads' HO313.out).2.2 | (with_reducible refine Kd.C_alloc ?_ _) | (with_reducible refine Kd.C_drewN ?_ _) | (with_reducible refine Kd.C_drew ?_))); (case side2 => exact (Kd.R_reads' HO313.out).2.1); rintro e w13 ⟨rfl, hb⟩; refine ⟨_, rfl, ?_⟩; have n0_ := Aside0.mk (Kd.R_below (by (with_reducible repeat (first | apply Kd.R_alloc | apply Kd.R_drewN | apply Kd.R_drew)); exact HO313.out) hb); have n1_ := Aside0.mk (below_step (by repeat (first | (with_reducible first | exact HB.out | apply below_alloc | apply pw_below_drewN | apply below_drew1) | exact HB.out)) hb); clear HO313; clear HB; have HO313 := n0_; have HB := n1_; clear n0_ n1_; (try clear hb); (try clear hb2); (try clear hk); (try clear hi)))
      (try simp only [Act.put, List.setIfInBounds_toArray, List.set_cons_zero, List.set_cons_succ])
      go_cut [31] (fun v31 wc => ∃ (kq : Nat) (x31_8 : Bool), v31 = .bool x31_8 ∧ Aside0 (spilelaw10_CapacityParts.j0 kq l0 a1 t314 t315 x31_8 = some r) ∧ Aside0 (kq ≤ k) ∧ Aside0 (Below w.heap.size w wc))
      case first =>
        have H := HC9.out
        clear HC9
        by_cases c14 : t315 = 0
        · rw [if_pos c14] at H
          have c14b0 : (t315 == 0) = true := beq_iff_eq.mpr c14
          have c14b1 : (t315 != 0) = false := bne_eq_false_iff_eq.mpr c14
          clear c14
          (first | rw [c14b0] | (simp only [i64_w, i32_w]; rw [c14b0]) | skip)
          have H' := Aside0.mk H
          clear H
          go_wp2
          go_meet
          case rel => exact ⟨_, (decide ((l0.length : Int) < 3)), (by first | rfl | (simp; done) | (simp [*]; done)), H', ⟨by first | omega | exact Nat.le_refl _⟩, ⟨by repeat (first | (with_reducible first | exact HB.out | apply below_alloc | apply pw_below_drewN | apply below_drew1) | exact HB.out)⟩⟩
        · rw [if_neg c14] at H
          have c14b0 : (t315 == 0) = false := beq_eq_false_iff_ne.mpr c14
          have c14b1 : (t315 != 0) = true := bne_iff_ne.mpr c14
          (first | rw [c14b0] | (simp only [i64_w, i32_w]; rw [c14b0]) | skip)
          have H' := Aside0.mk H
          clear H
          go_wp2
          go_meet
          case rel => exact ⟨_, (true), (by first | rfl | (simp; done) | (simp [*]; done)), H', ⟨by first | omega | exact Nat.le_refl _⟩, ⟨by repeat (first | (with_reducible first | exact HB.out | apply below_alloc | apply pw_below_drewN | apply below_drew1) | exact HB.out)⟩⟩
      case rest =>
        clear HC9
        try clear c1
        try clear p2
        try clear c4
        try clear c6
        try clear c9
        try clear c10
        try clear c11
        try clear c12
        try clear c13
        try clear c14
        try clear c14b0
        try clear c14b1
        obtain ⟨kq, x31_8, rfl, HA, HJ8, HB⟩ := hcut
        cases kq with
        | zero => exact absurd HA.out (by simp [spilelaw10_CapacityParts.j0])
        | succ kj8 =>
          have H := HA.out
          clear HA
          simp only [spilelaw10_CapacityParts.j0] at H
          by_cases c15 : x31_8 = true
          · subst c15
            have H1 : (if t315 = 0 then (some true) else (some (t314 == 0))) = some r := by rw [if_pos rfl] at H; exact H
            clear H
            have H := H1
            clear H1
            by_cases c16 : t315 = 0
            · rw [if_pos c16] at H
              have c16b0 : (t315 == 0) = true := beq_iff_eq.mpr c16
              have c16b1 : (t315 != 0) = false := bne_eq_false_iff_eq.mpr c16
              clear c16
              obtain rfl := Option.some.inj H
              go_wp2
              go_ret
              exact ⟨by first | rfl | (simp [errW_none, errW_some] <;> rfl) | (simp [*, errW_none, errW_some] <;> rfl), by repeat (first | (with_reducible first | exact HB.out | apply below_alloc | apply pw_below_drewN | apply below_drew1) | exact HB.out)⟩
            · rw [if_neg c16] at H
              have c16b0 : (t315 == 0) = false := beq_eq_false_iff_ne.mpr c16
              have c16b1 : (t315 != 0) = true := bne_iff_ne.mpr c16
              obtain rfl := Option.some.inj H
              go_wp2
              go_ret
              exact ⟨by first | rfl | (simp [errW_none, errW_some] <;> rfl) | (simp [*, errW_none, errW_some] <;> rfl), by repeat (first | (with_reducible first | exact HB.out | apply below_alloc | apply pw_below_drewN | apply below_drew1) | exact HB.out)⟩
          · replace c15 := Bool.eq_false_iff.mpr c15
            subst c15
            have H1 : (if (wrap64 ((l0.length : Int) - 2)) = 0 then (none) else (if 0 ≤ (wrap64 (1 + (Int.tmod (wrap64 (a1)) (wrap64 ((l0.length : Int) - 2))))) then (if (wrap64 (1 + (Int.tmod (wrap64 (a1)) (wrap64 ((l0.length : Int) - 2))))) ≤ (l0.length : Int) then ((api_Point_13.f (l0.drop ((wrap64 (1 + (Int.tmod (wrap64 (a1)) (wrap64 ((l0.length : Int) - 2))))) : Int).toNat)).bind fun t320 => (spilelaw10_CapacityParts.l0 kj8 l0 t314 (wrap64 (1 + (Int.tmod (wrap64 (a1)) (wrap64 ((l0.length : Int) - 2))))) t320 (t320.length : Int) 0)) else (none)) else (none))) = some r := by rw [if_neg (show ¬ (false = true) by decide)] at H; exact H
            clear H
            have H := H1
            clear H1
            by_cases c17 : (wrap64 ((l0.length : Int) - 2)) = 0
            · rw [if_pos c17] at H
              exact absurd H (by simp)
            · rw [if_neg c17] at H
              have c17b0 : ((wrap64 ((l0.length : Int) - 2)) == 0) = false := beq_eq_false_iff_ne.mpr c17
              have c17b1 : ((wrap64 ((l0.length : Int) - 2)) != 0) = true := bne_iff_ne.mpr c17
              obtain ⟨ji18, hji18⟩ : ∃ j_ : Int, (wrap64 (1 + (Int.tmod (wrap64 (a1)) (wrap64 ((l0.length : Int) - 2))))) = j_ := ⟨_, rfl⟩
              replace H : (if 0 ≤ (ji18) then (if (ji18) ≤ (l0.length : Int) then ((api_Point_13.f (l0.drop ((ji18) : Int).toNat)).bind fun t320 => (spilelaw10_CapacityParts.l0 kj8 l0 t314 ji18 t320 (t320.length : Int) 0)) else (none)) else (none)) = some r := by first | (rw [hji18] at H; exact H) | (simp only [hji18] at H ⊢; exact H)
              have hji18w : (IntKind.i64.wrap (1 + (Int.tmod (wrap64 (a1)) (wrap64 ((l0.length : Int) - 2))))) = ji18 := (i64_w _).trans hji18
              by_cases c19 : 0 ≤ (ji18)
              · rw [if_pos c19] at H
                have c19b0 := eq_true c19
                have c19b1 : decide (0 ≤ (ji18)) = true := decide_eq_true c19
                clear c19
                by_cases c20 : (ji18) ≤ (l0.length : Int)
                · rw [if_pos c20] at H
                  have c20b0 := eq_true c20
                  have c20b1 : decide ((ji18) ≤ (l0.length : Int)) = true := decide_eq_true c20
                  clear c20
                  obtain ⟨y316, hy316⟩ : ∃ y_ : List (S30), y_ = (l0.drop ((ji18) : Int).toNat) := ⟨_, rfl⟩
                  replace H : ((api_Point_13.f y316).bind fun t320 => (spilelaw10_CapacityParts.l0 kj8 l0 t314 ji18 t320 (t320.length : Int) 0)) = some r := by first | (rw [hy316]; with_reducible exact H) | (have H2_ := (Option.bind_some _ _).symm.trans H; rw [hy316]; with_reducible exact H2_) | (have H2_ := (Option.bind_some _ _).symm.trans H; with_reducible exact H2_) | with_reducible exact H | (rw [hy316]; exact H) | exact H
                  have Ny316 := Aside0.mk hy316
                  clear hy316
                  replace H := Option.bind_eq_some_iff.mp H
                  obtain ⟨t320, A210, H⟩ := H
                  replace H : (spilelaw10_CapacityParts.l0 kj8 l0 t314 ji18 t320 (t320.length : Int) 0) = some r := H
                  have A21 := Aside0.mk A210
                  clear A210
                  have H' := Aside0.mk H
                  clear H
                  have q22 : ((ji18) : Int) ≤ ((l0.length : Int) : Int) := of_decide_eq_true (by first | (with_reducible assumption) | assumption)
                  obtain ⟨i022, hi022, _, hsz22, _⟩ := info_parts info30
                  have hroom22 : l0.length ≤ c0 := HC0.out
                  have hC22 : Kd.C k30 _ A0 l0.length l0 := HR0.out
                  have q022 : (0 : Int) ≤ ((ji18) : Int) := of_decide_eq_true (by first | (with_reducible assumption) | assumption)
                  have hcut22 := cut_from (P := Try.prog) 22 30 .i64 Try.underlying22 hi022 2 hsz22 A0 l0.length c0 (ji18) q022 q22
                  have hr22 := Kd.C_drop (m := ((ji18) : Int).toNat) (c := c0) hC22 (by omega) hroom22
                  obtain ⟨A22, hA22⟩ : ∃ A1, A1 = (if c0 = ((ji18) : Int).toNat then A0 else (A0 : Option Addr).map (·.add (((ji18) : Int).toNat * 2))) := ⟨_, rfl⟩
                  obtain ⟨c22, hc22⟩ : ∃ c1, c1 = c0 - ((ji18) : Int).toNat := ⟨_, rfl⟩
                  have hy22 : y316.length = l0.length - ((ji18) : Int).toNat := (by rw [Ny316.out, List.length_drop] <;> omega)
                  rw [show (l0).drop ((ji18) : Int).toNat = y316 from Ny316.out.symm] at hr22
                  replace hr22 : Kd.C k30 _ A22 y316.length y316 := (by rw [hA22]; exact hr22)
                  rw [← hy22, ← hA22, ← hc22] at hcut22
                  have HR319 := Aside0.mk hr22
                  have HC319 := Aside0.mk (show y316.length ≤ c22 from by rw [hy22, hc22]; exact Nat.sub_le_sub_right hroom22 _)
                  clear hr22 hC22 hroom22 hi022 hsz22 hc22
                  have KY22 := Aside0.mk hy22
                  have KA22 := Aside0.mk hA22
                  clear hy22 hA22
                  replace q22 := eq_true q22
                  go_wp2_with (first | ((with_reducible refine gate_callee (f := 13) rfl ?_); refine goesL_ (some 48) rfl rfl Try.func13 (by kernel_rfl) rfl #[.slice A22 y316.length c22] rfl (by (try simp only [List.map_toArray, List.map_cons, List.map_nil]); first | done | rfl | (simp only [List.length_drop, List.length_take]; rfl)) ?_; (with_reducible refine (api_Point_13.calls _ _ y316 t320 _ ?side1 ?side2 A21.out).mono ?_); (case side1 => repeat (first | exact (Kd.C_below HR319.out HB.out) | (with_reducible refine Kd.C_alloc ?_ _) | (with_reducible refine Kd.C_drewN ?_ _) | (with_reducible refine Kd.C_drew ?_))); (case side2 => exact HC319.out); rintro e w23 ⟨v321, rfl, ho0, hb⟩; refine ⟨_, rfl, ?_⟩; have n0_ := Aside0.mk (Kd.R_lower ho0 (below_size (by repeat (first | (with_reducible first | exact HB.out | apply below_alloc | apply pw_below_drewN | apply below_drew1) | exact HB.out)))); have n1_ := Aside0.mk (below_step (by repeat (first | (with_reducible first | exact HB.out | apply below_alloc | apply pw_below_drewN | apply below_drew1) | exact HB.out)) hb); clear HB; have HO322 := n0_; have HB := n1_; clear n0_ n1_; (try clear hb); (try clear hb2); (try clear hk); (try clear hi); (try clear ho0); obtain ⟨Ao24, co24, eo24⟩ := Kd.R_slice HO322.out; subst eo24))
                  go_loopg [51] kj8 (fun kq v51 w' => ∃ (x8_2 : List (S30)) (x51_2 : Int), v51 = .int .i64 x51_2 ∧ Aside0 (spilelaw10_CapacityParts.l0 kq l0 t314 ji18 x8_2 (t320.length : Int) x51_2 = some r) ∧ Aside0 (kq ≤ kj8) ∧ Aside0 (Kd.R k30 30 w' w.heap.size (fun _ => True) (.slice Ao24 t320.length co24) x8_2) ∧ Aside0 (Below w.heap.size w w'))
                  case atStart => exact ⟨(t320), (0), (by first | rfl | (simp; done) | (simp [*]; done)), H', ⟨Nat.le_refl _⟩, ⟨by (with_reducible repeat (first | apply Kd.R_alloc | apply Kd.R_drewN | apply Kd.R_drew)); exact HO322.out⟩, ⟨by repeat (first | (with_reducible first | exact HB.out | apply below_alloc | apply pw_below_drewN | apply below_drew1) | exact HB.out)⟩⟩
                  case round =>
                    clear H'
                    try clear c1
                    try clear c2
                    try clear p2
                    try clear q2
                    try clear c4
                    try clear c6
                    try clear p6
                    try clear c9
                    try clear c10
                    try clear c11
                    try clear c12
                    try clear c13
                    try clear c14
                    try clear c14b0
                    try clear c14b1
                    try clear c15
                    try clear c16
                    try clear c16b0
                    try clear c16b1
                    try clear c17
                    try clear c17b0
                    try clear c17b1
                    try clear c19
                    try clear c19b0
                    try clear c19b1
                    try clear c20
                    try clear c20b0
                    try clear c20b1
                    try clear c22
                    try clear q22
                    try clear p2
                    try clear q022
                    try clear q22
                    obtain ⟨x8_2, x51_2, rfl, HA, HK2, HO_8, HB⟩ := hrel
                    have hl8_2 := (Kd.R_reads' HO_8.out).1
                    rw [hl8_2] at HO_8
                    (try simp only [hl8_2])
                    cases gk with
                    | zero => exact absurd HA.out (by simp [spilelaw10_CapacityParts.l0])
                    | succ k2 =>
                      have H := HA.out
                      clear HA
                      simp only [spilelaw10_CapacityParts.l0] at H
                      by_cases c25 : x51_2 < (t320.length : Int)
                      · rw [if_pos c25] at H
                        have c25b0 : decide (x51_2 < (t320.length : Int)) = true := decide_eq_true c25
                        clear c25
                        by_cases c26 : 0 ≤ x51_2
                        · rw [if_pos c26] at H
                          have c26b0 : decide (0 ≤ x51_2) = true := decide_eq_true c26
                          clear c26
                          by_cases c27 : x51_2 < (x8_2.length : Int)
                          · rw [if_pos c27] at H
                            have c27b0 : decide (x51_2 < (x8_2.length : Int)) = true := decide_eq_true c27
                            clear c27
                            by_cases c28 : 0 ≤ ji18
                            · rw [if_pos c28] at H
                              have c28b0 : decide (0 ≤ ji18) = true := decide_eq_true c28
                              clear c28
                              by_cases c29 : ji18 < (l0.length : Int)
                              · rw [if_pos c29] at H
                                have c29b0 : decide (ji18 < (l0.length : Int)) = true := decide_eq_true c29
                                clear c29
                                obtain ⟨y325, hy325⟩ : ∃ y_ : List (S30), y_ = (x8_2.set (x51_2 : Int).toNat (⟨wrap64 (((rd_T30 x8_2 x51_2).f0) - ((rd_T30 l0 ji18).f0)), (rd_T30 x8_2 x51_2).f1⟩ : S30)) := ⟨_, rfl⟩
                                replace H : (spilelaw10_CapacityParts.l0 k2 l0 t314 ji18 y325 (t320.length : Int) (wrap64 (x51_2 + 1))) = some r := by first | (rw [hy325]; with_reducible exact H) | (have H2_ := (Option.bind_some _ _).symm.trans H; rw [hy325]; with_reducible exact H2_) | (have H2_ := (Option.bind_some _ _).symm.trans H; with_reducible exact H2_) | with_reducible exact H | (rw [hy325]; exact H) | exact H
                                have Ny325 := Aside0.mk hy325
                                clear hy325
                                have H' := Aside0.mk H
                                clear H
                                try go_wp2
                                have n0_ := Aside0.mk (Kd.R_drew HO_8.out)
                                have n1_ := Aside0.mk (below_drew1 HB.out)
                                clear HO_8
                                clear HB
                                have HO_8 := n0_
                                have HB := n1_
                                clear n0_ n1_
                                have p323 : 0 ≤ (x51_2 : Int) := of_decide_eq_true (by first | (with_reducible assumption) | assumption)
                                have q323 : x51_2 < (x8_2.length : Int) := of_decide_eq_true (by first | (with_reducible assumption) | assumption)
                                obtain ⟨ad323, e323, hx323_0, hx323_1⟩ := at_T30 (Kd.R_reads' HO_8.out).2.2 x51_2 p323 q323
                                cases e323
                                replace p323 := eq_true p323
                                replace q323 := eq_true q323
                                have p324 : 0 ≤ (ji18 : Int) := of_decide_eq_true (by first | (with_reducible assumption) | assumption)
                                have q324 : ji18 < (l0.length : Int) := of_decide_eq_true (by first | (with_reducible assumption) | assumption)
                                obtain ⟨ad324, e324, hx324_0, hx324_1⟩ := at_T30 HR0.out ji18 p324 q324
                                have hw324_1 := hx324_1
                                have hw324_0 := hx324_0
                                cases e324
                                replace hx324_0 := (HB.out.cell (World.block_lt_of_cell? w _ hx324_0)).trans hx324_0
                                replace hx324_1 := (HB.out.cell (World.block_lt_of_cell? w _ hx324_1)).trans hx324_1
                                replace p324 := eq_true p324
                                replace q324 := eq_true q324
                                have p30 : 0 ≤ (x51_2 : Int) := of_decide_eq_true (by first | (with_reducible assumption) | assumption)
                                have q30 : (x51_2 : Int) < ((x8_2.length : Int) : Int) := of_decide_eq_true (by first | (with_reducible assumption) | assumption)
                                obtain ⟨go30, co30, eo30, gb30, gl30, cl30, HG30⟩ := Kd.R_form HO_8.out (by omega)
                                (first | cases eo30 | (injection eo30 with ea_ en_ ec_; (first | subst ea_ | (injection ea_ with ea_; subst ea_)); subst ec_; clear en_))
                                have GB30 := Aside0.mk gb30
                                have GG30 := Aside0.mk HG30
                                clear gb30 gl30 HG30
                                (first | simp only [add_plain] at hx323_0 | skip)
                                (first | simp only [add_plain] at hx323_1 | skip)
                                obtain ⟨ce30, hcl30, hM30, hcc30, hfr30⟩ := Kd.R_elem HO_8.out z30 (x51_2 : Int) p30 q30
                                obtain rfl := k30_openM hM30
                                have hx30_0 : World.cell? _ ⟨go30, (x51_2 : Int).toNat * 2, none⟩ = some (.int .i64 ((rd_T30 x8_2 x51_2).f0)) := hcc30 0 _ rfl
                                have hx30_1 : World.cell? _ ⟨go30, (x51_2 : Int).toNat * 2 + 1, none⟩ = some (.int .i64 ((rd_T30 x8_2 x51_2).f1)) := hcc30 1 _ rfl
                                have hf30_0 : World.frozen? _ ⟨go30, (x51_2 : Int).toNat * 2, none⟩ = false := hfr30 0
                                have hf30_1 : World.frozen? _ ⟨go30, (x51_2 : Int).toNat * 2 + 1, none⟩ = false := hfr30 1
                                clear hcl30 hcc30 hfr30 hM30
                                replace p30 := eq_true p30
                                replace q30 := eq_true q30
                                obtain ⟨ce32, hcl32, hM32, hcc32, hfr32⟩ := Kd.R_elem HO_8.out z30 (x51_2 : Int) (of_decide_eq_true (by first | (with_reducible assumption) | assumption)) (by have h_ : (x51_2 : Int) < ((x8_2.length : Int) : Int) := of_decide_eq_true (by first | (with_reducible assumption) | assumption); first | exact h_ | (have e_ := (Kd.R_reads' HO_8.out).1; omega) | simpa using h_)
                                obtain rfl := k30_openM hM32
                                have HP32 := (Kd.R_seg HO_8.out (x51_2 : Int) (of_decide_eq_true (by first | (with_reducible assumption) | assumption)) (by have h_ : (x51_2 : Int) < ((x8_2.length : Int) : Int) := of_decide_eq_true (by first | (with_reducible assumption) | assumption); first | exact h_ | (have e_ := (Kd.R_reads' HO_8.out).1; omega) | simpa using h_) (seg := [.int .i64 (wrap64 (((rd_T30 x8_2 x51_2).f0) - ((rd_T30 l0 ji18).f0)))]) (j := 0) hcl32 hcc32 (show 1 ≤ 2 from by decide) (x' := (⟨wrap64 (((rd_T30 x8_2 x51_2).f0) - ((rd_T30 l0 ji18).f0)), (rd_T30 x8_2 x51_2).f1⟩ : S30)) (k30_mkM _ _ _ (⟨wrap64 (((rd_T30 x8_2 x51_2).f0) - ((rd_T30 l0 ji18).f0)), (rd_T30 x8_2 x51_2).f1⟩ : S30) ) (fun _ hk => hk)).1
                                rw [← Ny325.out] at HP32
                                have HQ32 := Aside0.mk HP32
                                clear hcl32 hcc32 hfr32 hM32 HP32
                                refine start_ (n := 14) (S := fun w' => w'.cell? ⟨go30, ((x51_2).toNat * 2), none⟩ = some (.int .i64 ((rd_T30 x8_2 x51_2).f0)) ∧ w'.cell? ⟨go30, ((x51_2).toNat * 2) + 1, none⟩ = some (.int .i64 ((rd_T30 x8_2 x51_2).f1)) ∧ w'.cell? (ad324.add ((ji18).toNat * 2)) = some (.int .i64 ((rd_T30 l0 ji18).f0)) ∧ w'.cell? ⟨(ad324.add ((ji18).toNat * 2)).block, (ad324.add ((ji18).toNat * 2)).off + 1, none⟩ = some (.int .i64 ((rd_T30 l0 ji18).f1))) (ds := [13]) #[false, false, false, false, false, false, false, false, false, false, false, false, false, false] (by kernel_rfl) rfl rfl ⟨hx323_0, hx323_1, ((HB.out.cell (World.block_lt_of_cell? w _ hw324_0)).trans hw324_0), ((HB.out.cell (World.block_lt_of_cell? w _ hw324_1)).trans hw324_1)⟩ (fun hHeld => ?_); refine with_tabW spilelaw10_CapacityParts.tab13 spilelaw10_CapacityParts.bits13 (fun HT_ HW_ => ?_)
                                generalize wr.drew = w31 at HO_8 HB GG30 HQ32 hf30_0 hf30_1 hx30_0 hx30_1 hx323_0 hx323_1 hx324_0 hx324_1 hHeld ⊢
                                refine pure_ (i := 0) (N := some 54) (v := ?_) (a' := ?_) #[true, false, false, false, false, false, false, false, false, false, false, false, false, false] rfl rfl (any_of HT_.out (by kernel_rfl)) (fun _ _ _ h => h) (Or.inl ⟨by rfl, ?_⟩) ?_ ?_
                                rotate_left
                                · intro w'
                                  go_simp
                                  with_reducible rfl
                                rotate_left
                                · simp only [Act.put, List.setIfInBounds_toArray, List.set_cons_zero, List.set_cons_succ, i64_w, i32_w]
                                  rfl
                                refine pure_ (i := 1) (N := some 55) (v := ?_) (a' := ?_) #[true, true, false, false, false, false, false, false, false, false, false, false, false, false] rfl rfl (any_of HT_.out (by kernel_rfl)) (fun _ _ _ h => h) (Or.inl ⟨by rfl, ?_⟩) ?_ ?_
                                rotate_left
                                · intro w'
                                  go_simp
                                  with_reducible rfl
                                rotate_left
                                · simp only [Act.put, List.setIfInBounds_toArray, List.set_cons_zero, List.set_cons_succ, i64_w, i32_w]
                                  rfl
                                refine pure_ (i := 2) (N := some 56) (v := ?_) (a' := ?_) #[true, true, true, false, false, false, false, false, false, false, false, false, false, false] rfl rfl (any_of HT_.out (by kernel_rfl)) (fun _ _ _ h => h) (Or.inl ⟨by rfl, ?_⟩) ?_ ?_
                                rotate_left
                                · intro w'
                                  go_simp
                                  with_reducible rfl
                                rotate_left
                                · simp only [Act.put, List.setIfInBounds_toArray, List.set_cons_zero, List.set_cons_succ, i64_w, i32_w]
                                  rfl
                                refine pure_ (i := 3) (N := some 57) (v := ?_) (a' := ?_) #[true, true, true, true, false, false, false, false, false, false, false, false, false, false] rfl rfl (any_of HT_.out (by kernel_rfl)) (fun _ _ _ h => h) (Or.inl ⟨by rfl, ?_⟩) ?_ ?_
                                rotate_left
                                · intro w'
                                  go_simp
                                  with_reducible rfl
                                rotate_left
                                · simp only [Act.put, List.setIfInBounds_toArray, List.set_cons_zero, List.set_cons_succ, i64_w, i32_w]
                                  rfl
                                refine pure_ (i := 5) (N := some 59) (v := ?_) (a' := ?_) #[true, true, true, true, false, true, false, false, false, false, false, false, false, false] rfl rfl (any_of HT_.out (by kernel_rfl)) (fun _ _ _ h => h) (Or.inl ⟨by rfl, ?_⟩) ?_ ?_
                                rotate_left
                                · intro w'
                                  go_simp
                                  with_reducible rfl
                                rotate_left
                                · simp only [Act.put, List.setIfInBounds_toArray, List.set_cons_zero, List.set_cons_succ, i64_w, i32_w]
                                  rfl
                                refine pure_ (i := 6) (N := some 60) (v := ?_) (a' := ?_) #[true, true, true, true, false, true, true, false, false, false, false, false, false, false] rfl rfl (any_of HT_.out (by kernel_rfl)) (fun _ _ _ h => h) (Or.inl ⟨by rfl, ?_⟩) ?_ ?_
                                rotate_left
                                · intro w'
                                  go_simp
                                  with_reducible rfl
                                rotate_left
                                · simp only [Act.put, List.setIfInBounds_toArray, List.set_cons_zero, List.set_cons_succ, i64_w, i32_w]
                                  rfl
                                refine pure_ (i := 7) (N := some 61) (v := ?_) (a' := ?_) #[true, true, true, true, false, true, true, true, false, false, false, false, false, false] rfl rfl (any_of HT_.out (by kernel_rfl)) (fun _ _ _ h => h) (Or.inl ⟨by rfl, ?_⟩) ?_ ?_
                                rotate_left
                                · intro w'
                                  go_simp
                                  with_reducible rfl
                                rotate_left
                                · simp only [Act.put, List.setIfInBounds_toArray, List.set_cons_zero, List.set_cons_succ, i64_w, i32_w]
                                  rfl
                                refine pure_ (i := 8) (N := some 62) (v := ?_) (a' := ?_) #[true, true, true, true, false, true, true, true, true, false, false, false, false, false] rfl rfl (any_of HT_.out (by kernel_rfl)) (fun _ _ _ h => h) (Or.inl ⟨by rfl, ?_⟩) ?_ ?_
                                rotate_left
                                · intro w'
                                  go_simp
                                  with_reducible rfl
                                rotate_left
                                · simp only [Act.put, List.setIfInBounds_toArray, List.set_cons_zero, List.set_cons_succ, i64_w, i32_w]
                                  rfl
                                refine take_ (i := 4) (N := some 58) (v := ?_) (a' := ?_) #[true, true, true, true, true, true, true, true, true, false, false, false, false, false] rfl rfl (take_ofW HT_.out HW_.out (by kernel_rfl)) (fun _ _ _ h => h) (Or.inl ⟨by rfl, ?_⟩) hHeld ?_ ?_
                                rotate_left
                                · rintro w' ⟨s0, s1, s2, s3⟩
                                  go_simp
                                  with_reducible rfl
                                rotate_left
                                · simp only [Act.put, List.setIfInBounds_toArray, List.set_cons_zero, List.set_cons_succ, i64_w, i32_w]
                                  rfl
                                refine take_ (i := 9) (N := some 63) (v := ?_) (a' := ?_) #[true, true, true, true, true, true, true, true, true, true, false, false, false, false] rfl rfl (take_ofW HT_.out HW_.out (by kernel_rfl)) (fun _ _ _ h => h) (Or.inl ⟨by rfl, ?_⟩) hHeld ?_ ?_
                                rotate_left
                                · rintro w' ⟨s0, s1, s2, s3⟩
                                  go_simp
                                  with_reducible rfl
                                rotate_left
                                · simp only [Act.put, List.setIfInBounds_toArray, List.set_cons_zero, List.set_cons_succ, i64_w, i32_w]
                                  rfl
                                refine pure_ (i := 10) (N := some 64) (v := ?_) (a' := ?_) #[true, true, true, true, true, true, true, true, true, true, true, false, false, false] rfl rfl (any_of HT_.out (by kernel_rfl)) (fun _ _ _ h => h) (Or.inl ⟨by rfl, ?_⟩) ?_ ?_
                                rotate_left
                                · intro w'
                                  go_simp
                                  with_reducible rfl
                                rotate_left
                                · simp only [Act.put, List.setIfInBounds_toArray, List.set_cons_zero, List.set_cons_succ, i64_w, i32_w]
                                  rfl
                                refine pure_ (i := 11) (N := some 65) (v := ?_) (a' := ?_) #[true, true, true, true, true, true, true, true, true, true, true, true, false, false] rfl rfl (any_of HT_.out (by kernel_rfl)) (fun _ _ _ h => h) (Or.inl ⟨by rfl, ?_⟩) ?_ ?_
                                rotate_left
                                · intro w'
                                  go_simp
                                  with_reducible rfl
                                rotate_left
                                · simp only [Act.put, List.setIfInBounds_toArray, List.set_cons_zero, List.set_cons_succ, i64_w, i32_w]
                                  rfl
                                refine pure_ (i := 12) (N := some 66) (v := ?_) (a' := ?_) #[true, true, true, true, true, true, true, true, true, true, true, true, true, false] rfl rfl (any_of HT_.out (by kernel_rfl)) (fun _ _ _ h => h) (Or.inl ⟨by rfl, ?_⟩) ?_ ?_
                                rotate_left
                                · intro w'
                                  go_simp
                                  with_reducible rfl
                                rotate_left
                                · simp only [Act.put, List.setIfInBounds_toArray, List.set_cons_zero, List.set_cons_succ, i64_w, i32_w]
                                  rfl
                                refine last_ (i := 13) (N := none) #[true, true, true, true, true, true, true, true, true, true, true, true, true, true] rfl rfl (one_of HT_.out (by kernel_rfl)) (by decide) (fun K hK => ?_)
                                refine skip_ (w1 := ?_) (by rfl) rfl ?_ ?_
                                rotate_left
                                · go_simp
                                  rfl
                                refine hK.out _ _ ?_
                                clear hK K
                                refine done_ (done_of HT_.out (by kernel_rfl)) ?_
                                try go_wp2
                                (try simp only [← hl8_2])
                                go_roundg k2
                                case measure => have := HJ8.out; have := HK2.out; omega
                                case rel => exact ⟨(y325), (wrap64 (x51_2 + 1)), (by first | rfl | (simp; done) | (simp [*]; done)), H', ⟨by have := HJ8.out; have := HK2.out; omega⟩, ⟨by (try simp only [hl8_2]); (with_reducible repeat (first | apply Kd.R_alloc | apply Kd.R_drewN | apply Kd.R_drew)); exact HQ32.out⟩, ⟨by repeat (first | (with_reducible first | exact HB.out | apply below_alloc | apply pw_below_drewN | apply below_drew1 | refine below_set ?_ GB30.out) | exact HB.out)⟩⟩
                              · rw [if_neg c29] at H
                                exact absurd H (by simp)
                            · rw [if_neg c28] at H
                              exact absurd H (by simp)
                          · rw [if_neg c27] at H
                            exact absurd H (by simp)
                        · rw [if_neg c26] at H
                          exact absurd H (by simp)
                      · rw [if_neg c25] at H
                        have c25b0 : decide (x51_2 < (t320.length : Int)) = false := decide_eq_false c25
                        have c25b9 : decide (x51_2 < (x8_2.length : Int)) = false := by rw [← hl8_2]; exact c25b0
                        clear c25
                        obtain ⟨ji33, hji33⟩ : ∃ j_ : Int, (wrap64 (ji18 + 1)) = j_ := ⟨_, rfl⟩
                        replace H : (if 0 ≤ (ji33) then (if (ji33) ≤ (l0.length : Int) then ((api_Point_13.f (l0.take ((ji33) : Int).toNat)).bind fun t330 => ((capacity_Frustums.f k2 t330).bind fun bt333 => ((capacity_Frustums.f k2 x8_2).bind fun bt335 => (if bt333.2 = 0 then (if bt335.2 = 0 then (some ((wrap64 (bt333.1 + bt335.1)) == t314)) else (some false)) else (some false))))) else (none)) else (none)) = some r := by first | (rw [hji33] at H; exact H) | (simp only [hji33] at H ⊢; exact H)
                        have hji33w : (IntKind.i64.wrap (ji18 + 1)) = ji33 := (i64_w _).trans hji33
                        by_cases c34 : 0 ≤ (ji33)
                        · rw [if_pos c34] at H
                          have c34b0 := eq_true c34
                          have c34b1 : decide (0 ≤ (ji33)) = true := decide_eq_true c34
                          clear c34
                          by_cases c35 : (ji33) ≤ (l0.length : Int)
                          · rw [if_pos c35] at H
                            have c35b0 := eq_true c35
                            have c35b1 : decide ((ji33) ≤ (l0.length : Int)) = true := decide_eq_true c35
                            clear c35
                            obtain ⟨y326, hy326⟩ : ∃ y_ : List (S30), y_ = (l0.take ((ji33) : Int).toNat) := ⟨_, rfl⟩
                            replace H : ((api_Point_13.f y326).bind fun t330 => ((capacity_Frustums.f k2 t330).bind fun bt333 => ((capacity_Frustums.f k2 x8_2).bind fun bt335 => (if bt333.2 = 0 then (if bt335.2 = 0 then (some ((wrap64 (bt333.1 + bt335.1)) == t314)) else (some false)) else (some false))))) = some r := by first | (rw [hy326]; with_reducible exact H) | (have H2_ := (Option.bind_some _ _).symm.trans H; rw [hy326]; with_reducible exact H2_) | (have H2_ := (Option.bind_some _ _).symm.trans H; with_reducible exact H2_) | with_reducible exact H | (rw [hy326]; exact H) | exact H
                            have Ny326 := Aside0.mk hy326
                            clear hy326
                            replace H := Option.bind_eq_some_iff.mp H
                            obtain ⟨t330, A360, H⟩ := H
                            replace H : ((capacity_Frustums.f k2 t330).bind fun bt333 => ((capacity_Frustums.f k2 x8_2).bind fun bt335 => (if bt333.2 = 0 then (if bt335.2 = 0 then (some ((wrap64 (bt333.1 + bt335.1)) == t314)) else (some false)) else (some false)))) = some r := H
                            have A36 := Aside0.mk A360
                            clear A360
                            replace H := Option.bind_eq_some_iff.mp H
                            obtain ⟨⟨t333, t334⟩, A370, H⟩ := H
                            replace H : ((capacity_Frustums.f k2 x8_2).bind fun bt335 => (if t334 = 0 then (if bt335.2 = 0 then (some ((wrap64 (t333 + bt335.1)) == t314)) else (some false)) else (some false))) = some r := H
                            have A37 := Aside0.mk A370
                            clear A370
                            replace H := Option.bind_eq_some_iff.mp H
                            obtain ⟨⟨t335, t336⟩, A380, H⟩ := H
                            replace H : (if t334 = 0 then (if t336 = 0 then (some ((wrap64 (t333 + t335)) == t314)) else (some false)) else (some false)) = some r := H
                            have A38 := Aside0.mk A380
                            clear A380
                            by_cases c39 : t334 = 0
                            · rw [if_pos c39] at H
                              have c39b0 : (t334 == 0) = true := beq_iff_eq.mpr c39
                              have c39b1 : (t334 != 0) = false := bne_eq_false_iff_eq.mpr c39
                              clear c39
                              by_cases c40 : t336 = 0
                              · rw [if_pos c40] at H
                                have c40b0 : (t336 == 0) = true := beq_iff_eq.mpr c40
                                have c40b1 : (t336 != 0) = false := bne_eq_false_iff_eq.mpr c40
                                clear c40
                                obtain rfl := Option.some.inj H
                                have q41 : ((ji33) : Int) ≤ ((l0.length : Int) : Int) := of_decide_eq_true (by first | (with_reducible assumption) | assumption)
                                obtain ⟨i041, hi041, _, hsz41, _⟩ := info_parts info30
                                have hroom41 : l0.length ≤ c0 := HC0.out
                                have hC41 : Kd.C k30 _ A0 l0.length l0 := HR0.out
                                have hcut41 := cut_to (P := Try.prog) 22 30 .i64 Try.underlying22 hi041 A0 l0.length c0 (ji33) (of_decide_eq_true (by first | (with_reducible assumption) | assumption)) q41 hroom41
                                have hr41 := Kd.C_take (m := ((ji33) : Int).toNat) hC41 (by omega)
                                have hy41 : y326.length = ((ji33) : Int).toNat := (by rw [Ny326.out, List.length_take]; omega)
                                rw [← Ny326.out] at hr41
                                rw [← hy41] at hcut41
                                have HR329 := Aside0.mk hr41
                                have HC329 := Aside0.mk (show y326.length ≤ c0 from by omega)
                                clear hr41 hC41 hroom41 hi041 hsz41
                                have KY41 := Aside0.mk hy41
                                clear hy41
                                replace q41 := eq_true q41
                                go_wp2_with (first | ((with_reducible refine gate_callee (f := 13) rfl ?_); refine goesL_ (some 73) rfl rfl Try.func13 (by kernel_rfl) rfl #[.slice A0 y326.length c0] rfl (by (try simp only [List.map_toArray, List.map_cons, List.map_nil]); first | done | rfl | (simp only [List.length_drop, List.length_take]; rfl)) ?_; (with_reducible refine (api_Point_13.calls _ _ y326 t330 _ ?side1 ?side2 A36.out).mono ?_); (case side1 => repeat (first | exact (Kd.C_below HR329.out HB.out) | (with_reducible refine Kd.C_alloc ?_ _) | (with_reducible refine Kd.C_drewN ?_ _) | (with_reducible refine Kd.C_drew ?_))); (case side2 => exact HC329.out); rintro e w42 ⟨v331, rfl, ho0, hb⟩; refine ⟨_, rfl, ?_⟩; have n0_ := Aside0.mk (Kd.R_elder' (by (with_reducible repeat (first | apply Kd.R_alloc | apply Kd.R_drewN | apply Kd.R_drew)); exact HO_8.out) (Kd.R_base ho0) hb); have n1_ := Aside0.mk (Kd.R_lower (Kd.R_new' ho0 (Kd.R_lt (by (with_reducible repeat (first | apply Kd.R_alloc | apply Kd.R_drewN | apply Kd.R_drew)); exact HO_8.out))) (below_size (by repeat (first | (with_reducible first | exact HB.out | apply below_alloc | apply pw_below_drewN | apply below_drew1) | exact HB.out)))); have n2_ := Aside0.mk (below_step (by repeat (first | (with_reducible first | exact HB.out | apply below_alloc | apply pw_below_drewN | apply below_drew1) | exact HB.out)) hb); clear HO_8; clear HB; have HO_8 := n0_; have HO332 := n1_; have HB := n2_; clear n0_ n1_ n2_; (try clear hb); (try clear hb2); (try clear hk); (try clear hi); (try clear ho0); obtain ⟨Ao43, co43, eo43⟩ := Kd.R_slice HO332.out; subst eo43) | ((with_reducible refine gate_callee (f := 12) rfl ?_); refine goesL_ (some 74) rfl rfl Try.func12 (by kernel_rfl) rfl #[.slice Ao43 t330.length co43] rfl (by (try simp only [List.map_toArray, List.map_cons, List.map_nil]); first | done | rfl | (simp only [List.length_drop, List.length_take]; rfl)) ?_; (with_reducible refine (capacity_Frustums.calls k2 _ _ t330 t333 t334 _ ?side1 ?side2 A37.out).mono ?_); (case side1 => repeat (first | exact (Kd.R_reads' HO332.out).2.2 | (with_reducible refine Kd.C_alloc ?_ _) | (with_reducible refine Kd.C_drewN ?_ _) | (with_reducible refine Kd.C_drew ?_))); (case side2 => exact (Kd.R_reads' HO332.out).2.1); rintro e w44 ⟨rfl, hb⟩; refine ⟨_, rfl, ?_⟩; have n0_ := Aside0.mk (Kd.R_below (by (with_reducible repeat (first | apply Kd.R_alloc | apply Kd.R_drewN | apply Kd.R_drew)); exact HO_8.out) hb); have n1_ := Aside0.mk (Kd.R_below (by (with_reducible repeat (first | apply Kd.R_alloc | apply Kd.R_drewN | apply Kd.R_drew)); exact HO332.out) hb); have n2_ := Aside0.mk (below_step (by repeat (first | (with_reducible first | exact HB.out | apply below_alloc | apply pw_below_drewN | apply below_drew1) | exact HB.out)) hb); clear HO_8; clear HO332; clear HB; have HO_8 := n0_; have HO332 := n1_; have HB := n2_; clear n0_ n1_ n2_; (try clear hb); (try clear hb2); (try clear hk); (try clear hi)) | ((with_reducible refine gate_callee (f := 12) rfl ?_); refine goesL_ (some 79) rfl rfl Try.func12 (by kernel_rfl) rfl #[.slice Ao24 x8_2.length co24] rfl (by (try simp only [List.map_toArray, List.map_cons, List.map_nil]); first | done | rfl | (simp only [List.length_drop, List.length_take]; rfl)) ?_; (with_reducible refine (capacity_Frustums.calls k2 _ _ x8_2 t335 t336 _ ?side1 ?side2 A38.out).mono ?_); (case side1 => repeat (first | exact (Kd.R_reads' HO_8.out).2.2 | (with_reducible refine Kd.C_alloc ?_ _) | (with_reducible refine Kd.C_drewN ?_ _) | (with_reducible refine Kd.C_drew ?_))); (case side2 => exact (Kd.R_reads' HO_8.out).2.1); rintro e w45 ⟨rfl, hb⟩; refine ⟨_, rfl, ?_⟩; have n0_ := Aside0.mk (Kd.R_below (by (with_reducible repeat (first | apply Kd.R_alloc | apply Kd.R_drewN | apply Kd.R_drew)); exact HO_8.out) hb); have n1_ := Aside0.mk (Kd.R_below (by (with_reducible repeat (first | apply Kd.R_alloc | apply Kd.R_drewN | apply Kd.R_drew)); exact HO332.out) hb); have n2_ := Aside0.mk (below_step (by repeat (first | (with_reducible first | exact HB.out | apply below_alloc | apply pw_below_drewN | apply below_drew1) | exact HB.out)) hb); clear HO_8; clear HO332; clear HB; have HO_8 := n0_; have HO332 := n1_; have HB := n2_; clear n0_ n1_ n2_; (try clear hb); (try clear hb2); (try clear hk); (try clear hi)))
                                go_ret
                                exact ⟨by first | rfl | (simp [errW_none, errW_some] <;> rfl) | (simp only [← hji18, ← hji33]; first | rfl | (simp [errW_none, errW_some] <;> rfl)) | (simp [*, errW_none, errW_some] <;> rfl), by repeat (first | (with_reducible first | exact HB.out | apply below_alloc | apply pw_below_drewN | apply below_drew1) | exact HB.out)⟩
                              · rw [if_neg c40] at H
                                have c40b0 : (t336 == 0) = false := beq_eq_false_iff_ne.mpr c40
                                have c40b1 : (t336 != 0) = true := bne_iff_ne.mpr c40
                                obtain rfl := Option.some.inj H
                                have q46 : ((ji33) : Int) ≤ ((l0.length : Int) : Int) := of_decide_eq_true (by first | (with_reducible assumption) | assumption)
                                obtain ⟨i046, hi046, _, hsz46, _⟩ := info_parts info30
                                have hroom46 : l0.length ≤ c0 := HC0.out
                                have hC46 : Kd.C k30 _ A0 l0.length l0 := HR0.out
                                have hcut46 := cut_to (P := Try.prog) 22 30 .i64 Try.underlying22 hi046 A0 l0.length c0 (ji33) (of_decide_eq_true (by first | (with_reducible assumption) | assumption)) q46 hroom46
                                have hr46 := Kd.C_take (m := ((ji33) : Int).toNat) hC46 (by omega)
                                have hy46 : y326.length = ((ji33) : Int).toNat := (by rw [Ny326.out, List.length_take]; omega)
                                rw [← Ny326.out] at hr46
                                rw [← hy46] at hcut46
                                have HR329 := Aside0.mk hr46
                                have HC329 := Aside0.mk (show y326.length ≤ c0 from by omega)
                                clear hr46 hC46 hroom46 hi046 hsz46
                                have KY46 := Aside0.mk hy46
                                clear hy46
                                replace q46 := eq_true q46
                                go_wp2_with (first | ((with_reducible refine gate_callee (f := 13) rfl ?_); refine goesL_ (some 73) rfl rfl Try.func13 (by kernel_rfl) rfl #[.slice A0 y326.length c0] rfl (by (try simp only [List.map_toArray, List.map_cons, List.map_nil]); first | done | rfl | (simp only [List.length_drop, List.length_take]; rfl)) ?_; (with_reducible refine (api_Point_13.calls _ _ y326 t330 _ ?side1 ?side2 A36.out).mono ?_); (case side1 => repeat (first | exact (Kd.C_below HR329.out HB.out) | (with_reducible refine Kd.C_alloc ?_ _) | (with_reducible refine Kd.C_drewN ?_ _) | (with_reducible refine Kd.C_drew ?_))); (case side2 => exact HC329.out); rintro e w47 ⟨v331, rfl, ho0, hb⟩; refine ⟨_, rfl, ?_⟩; have n0_ := Aside0.mk (Kd.R_elder' (by (with_reducible repeat (first | apply Kd.R_alloc | apply Kd.R_drewN | apply Kd.R_drew)); exact HO_8.out) (Kd.R_base ho0) hb); have n1_ := Aside0.mk (Kd.R_lower (Kd.R_new' ho0 (Kd.R_lt (by (with_reducible repeat (first | apply Kd.R_alloc | apply Kd.R_drewN | apply Kd.R_drew)); exact HO_8.out))) (below_size (by repeat (first | (with_reducible first | exact HB.out | apply below_alloc | apply pw_below_drewN | apply below_drew1) | exact HB.out)))); have n2_ := Aside0.mk (below_step (by repeat (first | (with_reducible first | exact HB.out | apply below_alloc | apply pw_below_drewN | apply below_drew1) | exact HB.out)) hb); clear HO_8; clear HB; have HO_8 := n0_; have HO332 := n1_; have HB := n2_; clear n0_ n1_ n2_; (try clear hb); (try clear hb2); (try clear hk); (try clear hi); (try clear ho0); obtain ⟨Ao48, co48, eo48⟩ := Kd.R_slice HO332.out; subst eo48) | ((with_reducible refine gate_callee (f := 12) rfl ?_); refine goesL_ (some 74) rfl rfl Try.func12 (by kernel_rfl) rfl #[.slice Ao48 t330.length co48] rfl (by (try simp only [List.map_toArray, List.map_cons, List.map_nil]); first | done | rfl | (simp only [List.length_drop, List.length_take]; rfl)) ?_; (with_reducible refine (capacity_Frustums.calls k2 _ _ t330 t333 t334 _ ?side1 ?side2 A37.out).mono ?_); (case side1 => repeat (first | exact (Kd.R_reads' HO332.out).2.2 | (with_reducible refine Kd.C_alloc ?_ _) | (with_reducible refine Kd.C_drewN ?_ _) | (with_reducible refine Kd.C_drew ?_))); (case side2 => exact (Kd.R_reads' HO332.out).2.1); rintro e w49 ⟨rfl, hb⟩; refine ⟨_, rfl, ?_⟩; have n0_ := Aside0.mk (Kd.R_below (by (with_reducible repeat (first | apply Kd.R_alloc | apply Kd.R_drewN | apply Kd.R_drew)); exact HO_8.out) hb); have n1_ := Aside0.mk (Kd.R_below (by (with_reducible repeat (first | apply Kd.R_alloc | apply Kd.R_drewN | apply Kd.R_drew)); exact HO332.out) hb); have n2_ := Aside0.mk (below_step (by repeat (first | (with_reducible first | exact HB.out | apply below_alloc | apply pw_below_drewN | apply below_drew1) | exact HB.out)) hb); clear HO_8; clear HO332; clear HB; have HO_8 := n0_; have HO332 := n1_; have HB := n2_; clear n0_ n1_ n2_; (try clear hb); (try clear hb2); (try clear hk); (try clear hi)) | ((with_reducible refine gate_callee (f := 12) rfl ?_); refine goesL_ (some 79) rfl rfl Try.func12 (by kernel_rfl) rfl #[.slice Ao24 x8_2.length co24] rfl (by (try simp only [List.map_toArray, List.map_cons, List.map_nil]); first | done | rfl | (simp only [List.length_drop, List.length_take]; rfl)) ?_; (with_reducible refine (capacity_Frustums.calls k2 _ _ x8_2 t335 t336 _ ?side1 ?side2 A38.out).mono ?_); (case side1 => repeat (first | exact (Kd.R_reads' HO_8.out).2.2 | (with_reducible refine Kd.C_alloc ?_ _) | (with_reducible refine Kd.C_drewN ?_ _) | (with_reducible refine Kd.C_drew ?_))); (case side2 => exact (Kd.R_reads' HO_8.out).2.1); rintro e w50 ⟨rfl, hb⟩; refine ⟨_, rfl, ?_⟩; have n0_ := Aside0.mk (Kd.R_below (by (with_reducible repeat (first | apply Kd.R_alloc | apply Kd.R_drewN | apply Kd.R_drew)); exact HO_8.out) hb); have n1_ := Aside0.mk (Kd.R_below (by (with_reducible repeat (first | apply Kd.R_alloc | apply Kd.R_drewN | apply Kd.R_drew)); exact HO332.out) hb); have n2_ := Aside0.mk (below_step (by repeat (first | (with_reducible first | exact HB.out | apply below_alloc | apply pw_below_drewN | apply below_drew1) | exact HB.out)) hb); clear HO_8; clear HO332; clear HB; have HO_8 := n0_; have HO332 := n1_; have HB := n2_; clear n0_ n1_ n2_; (try clear hb); (try clear hb2); (try clear hk); (try clear hi)))
                                go_ret
                                exact ⟨by first | rfl | (simp [errW_none, errW_some] <;> rfl) | (simp only [← hji18, ← hji33]; first | rfl | (simp [errW_none, errW_some] <;> rfl)) | (simp [*, errW_none, errW_some] <;> rfl), by repeat (first | (with_reducible first | exact HB.out | apply below_alloc | apply pw_below_drewN | apply below_drew1) | exact HB.out)⟩
                            · rw [if_neg c39] at H
                              have c39b0 : (t334 == 0) = false := beq_eq_false_iff_ne.mpr c39
                              have c39b1 : (t334 != 0) = true := bne_iff_ne.mpr c39
                              obtain rfl := Option.some.inj H
                              have q51 : ((ji33) : Int) ≤ ((l0.length : Int) : Int) := of_decide_eq_true (by first | (with_reducible assumption) | assumption)
                              obtain ⟨i051, hi051, _, hsz51, _⟩ := info_parts info30
                              have hroom51 : l0.length ≤ c0 := HC0.out
                              have hC51 : Kd.C k30 _ A0 l0.length l0 := HR0.out
                              have hcut51 := cut_to (P := Try.prog) 22 30 .i64 Try.underlying22 hi051 A0 l0.length c0 (ji33) (of_decide_eq_true (by first | (with_reducible assumption) | assumption)) q51 hroom51
                              have hr51 := Kd.C_take (m := ((ji33) : Int).toNat) hC51 (by omega)
                              have hy51 : y326.length = ((ji33) : Int).toNat := (by rw [Ny326.out, List.length_take]; omega)
                              rw [← Ny326.out] at hr51
                              rw [← hy51] at hcut51
                              have HR329 := Aside0.mk hr51
                              have HC329 := Aside0.mk (show y326.length ≤ c0 from by omega)
                              clear hr51 hC51 hroom51 hi051 hsz51
                              have KY51 := Aside0.mk hy51
                              clear hy51
                              replace q51 := eq_true q51
                              go_wp2_with (first | ((with_reducible refine gate_callee (f := 13) rfl ?_); refine goesL_ (some 73) rfl rfl Try.func13 (by kernel_rfl) rfl #[.slice A0 y326.length c0] rfl (by (try simp only [List.map_toArray, List.map_cons, List.map_nil]); first | done | rfl | (simp only [List.length_drop, List.length_take]; rfl)) ?_; (with_reducible refine (api_Point_13.calls _ _ y326 t330 _ ?side1 ?side2 A36.out).mono ?_); (case side1 => repeat (first | exact (Kd.C_below HR329.out HB.out) | (with_reducible refine Kd.C_alloc ?_ _) | (with_reducible refine Kd.C_drewN ?_ _) | (with_reducible refine Kd.C_drew ?_))); (case side2 => exact HC329.out); rintro e w52 ⟨v331, rfl, ho0, hb⟩; refine ⟨_, rfl, ?_⟩; have n0_ := Aside0.mk (Kd.R_elder' (by (with_reducible repeat (first | apply Kd.R_alloc | apply Kd.R_drewN | apply Kd.R_drew)); exact HO_8.out) (Kd.R_base ho0) hb); have n1_ := Aside0.mk (Kd.R_lower (Kd.R_new' ho0 (Kd.R_lt (by (with_reducible repeat (first | apply Kd.R_alloc | apply Kd.R_drewN | apply Kd.R_drew)); exact HO_8.out))) (below_size (by repeat (first | (with_reducible first | exact HB.out | apply below_alloc | apply pw_below_drewN | apply below_drew1) | exact HB.out)))); have n2_ := Aside0.mk (below_step (by repeat (first | (with_reducible first | exact HB.out | apply below_alloc | apply pw_below_drewN | apply below_drew1) | exact HB.out)) hb); clear HO_8; clear HB; have HO_8 := n0_; have HO332 := n1_; have HB := n2_; clear n0_ n1_ n2_; (try clear hb); (try clear hb2); (try clear hk); (try clear hi); (try clear ho0); obtain ⟨Ao53, co53, eo53⟩ := Kd.R_slice HO332.out; subst eo53) | ((with_reducible refine gate_callee (f := 12) rfl ?_); refine goesL_ (some 74) rfl rfl Try.func12 (by kernel_rfl) rfl #[.slice Ao53 t330.length co53] rfl (by (try simp only [List.map_toArray, List.map_cons, List.map_nil]); first | done | rfl | (simp only [List.length_drop, List.length_take]; rfl)) ?_; (with_reducible refine (capacity_Frustums.calls k2 _ _ t330 t333 t334 _ ?side1 ?side2 A37.out).mono ?_); (case side1 => repeat (first | exact (Kd.R_reads' HO332.out).2.2 | (with_reducible refine Kd.C_alloc ?_ _) | (with_reducible refine Kd.C_drewN ?_ _) | (with_reducible refine Kd.C_drew ?_))); (case side2 => exact (Kd.R_reads' HO332.out).2.1); rintro e w54 ⟨rfl, hb⟩; refine ⟨_, rfl, ?_⟩; have n0_ := Aside0.mk (Kd.R_below (by (with_reducible repeat (first | apply Kd.R_alloc | apply Kd.R_drewN | apply Kd.R_drew)); exact HO_8.out) hb); have n1_ := Aside0.mk (Kd.R_below (by (with_reducible repeat (first | apply Kd.R_alloc | apply Kd.R_drewN | apply Kd.R_drew)); exact HO332.out) hb); have n2_ := Aside0.mk (below_step (by repeat (first | (with_reducible first | exact HB.out | apply below_alloc | apply pw_below_drewN | apply below_drew1) | exact HB.out)) hb); clear HO_8; clear HO332; clear HB; have HO_8 := n0_; have HO332 := n1_; have HB := n2_; clear n0_ n1_ n2_; (try clear hb); (try clear hb2); (try clear hk); (try clear hi)) | ((with_reducible refine gate_callee (f := 12) rfl ?_); refine goesL_ (some 79) rfl rfl Try.func12 (by kernel_rfl) rfl #[.slice Ao24 x8_2.length co24] rfl (by (try simp only [List.map_toArray, List.map_cons, List.map_nil]); first | done | rfl | (simp only [List.length_drop, List.length_take]; rfl)) ?_; (with_reducible refine (capacity_Frustums.calls k2 _ _ x8_2 t335 t336 _ ?side1 ?side2 A38.out).mono ?_); (case side1 => repeat (first | exact (Kd.R_reads' HO_8.out).2.2 | (with_reducible refine Kd.C_alloc ?_ _) | (with_reducible refine Kd.C_drewN ?_ _) | (with_reducible refine Kd.C_drew ?_))); (case side2 => exact (Kd.R_reads' HO_8.out).2.1); rintro e w55 ⟨rfl, hb⟩; refine ⟨_, rfl, ?_⟩; have n0_ := Aside0.mk (Kd.R_below (by (with_reducible repeat (first | apply Kd.R_alloc | apply Kd.R_drewN | apply Kd.R_drew)); exact HO_8.out) hb); have n1_ := Aside0.mk (Kd.R_below (by (with_reducible repeat (first | apply Kd.R_alloc | apply Kd.R_drewN | apply Kd.R_drew)); exact HO332.out) hb); have n2_ := Aside0.mk (below_step (by repeat (first | (with_reducible first | exact HB.out | apply below_alloc | apply pw_below_drewN | apply below_drew1) | exact HB.out)) hb); clear HO_8; clear HO332; clear HB; have HO_8 := n0_; have HO332 := n1_; have HB := n2_; clear n0_ n1_ n2_; (try clear hb); (try clear hb2); (try clear hk); (try clear hi)))
                              go_ret
                              exact ⟨by first | rfl | (simp [errW_none, errW_some] <;> rfl) | (simp only [← hji18, ← hji33]; first | rfl | (simp [errW_none, errW_some] <;> rfl)) | (simp [*, errW_none, errW_some] <;> rfl), by repeat (first | (with_reducible first | exact HB.out | apply below_alloc | apply pw_below_drewN | apply below_drew1) | exact HB.out)⟩
                          · rw [if_neg c35] at H
                            exact absurd H (by simp)
                        · rw [if_neg c34] at H
                          exact absurd H (by simp)
                · rw [if_neg c20] at H
                  exact absurd H (by simp)
              · rw [if_neg c19] at H
                exact absurd H (by simp)
    · replace c6 := Bool.eq_false_iff.mpr c6
      subst c6
      have H1 : (some true) = some r := by rw [if_neg (show ¬ (false = true) by decide)] at H; exact H
      clear H
      have H := H1
      clear H1
      obtain rfl := Option.some.inj H
      go_enter Try.func9, Try.ntmps9
      go_wp2_with (first | ((with_reducible refine gate_callee (f := 10) rfl ?_); refine goesL_ (some 14) rfl rfl Try.func10 (by kernel_rfl) rfl #[] rfl (by (try simp only [List.map_toArray, List.map_cons, List.map_nil]); first | done | rfl | (simp only [List.length_drop, List.length_take]; rfl)) ?_; (with_reducible refine (spilelaw10_awake.calls k  true _ A3.out).mono ?_); rintro e w56 ⟨rfl, hb⟩; refine ⟨_, rfl, ?_⟩; have n0_ := Aside0.mk (below_step (by repeat (first | (with_reducible first | exact HB.out | apply below_alloc | apply pw_below_drewN | apply below_drew1) | exact HB.out)) hb); clear HB; have HB := n0_; clear n0_; (try clear hb); (try clear hb2); (try clear hk); (try clear hi)) | ((with_reducible refine gate_callee (f := 11) rfl ?_); refine goesL_ (some 17) rfl rfl Try.func11 (by kernel_rfl) rfl #[.slice A0 l0.length c0] rfl (by (try simp only [List.map_toArray, List.map_cons, List.map_nil]); first | done | rfl | (simp only [List.length_drop, List.length_take]; rfl)) ?_; (with_reducible refine (spileref08_Few.calls _ _ l0 false _ ?side1 ?side2 A5.out).mono ?_); (case side1 => repeat (first | exact (Kd.C_below HR0.out HB.out) | (with_reducible refine Kd.C_alloc ?_ _) | (with_reducible refine Kd.C_drewN ?_ _) | (with_reducible refine Kd.C_drew ?_))); (case side2 => exact HC0.out); rintro e w' ⟨rfl, ⟨nd, rfl⟩⟩; refine ⟨_, rfl, ?_⟩))
      go_ret
      exact ⟨by first | rfl | (simp [errW_none, errW_some] <;> rfl) | (simp [*, errW_none, errW_some] <;> rfl), by repeat (first | (with_reducible first | exact HB.out | apply below_alloc | apply pw_below_drewN | apply below_drew1) | exact HB.out)⟩
  · replace c4 := Bool.eq_false_iff.mpr c4
    subst c4
    have H1 : (some false) = some r := by rw [if_neg (show ¬ (false = true) by decide)] at H; exact H
    clear H
    have H := H1
    clear H1
    obtain rfl := Option.some.inj H
    go_enter Try.func9, Try.ntmps9
    go_wp2_with (first | ((with_reducible refine gate_callee (f := 10) rfl ?_); refine goesL_ (some 14) rfl rfl Try.func10 (by kernel_rfl) rfl #[] rfl (by (try simp only [List.map_toArray, List.map_cons, List.map_nil]); first | done | rfl | (simp only [List.length_drop, List.length_take]; rfl)) ?_; (with_reducible refine (spilelaw10_awake.calls k  false _ A3.out).mono ?_); rintro e w57 ⟨rfl, hb⟩; refine ⟨_, rfl, ?_⟩; have n0_ := Aside0.mk (below_step (by repeat (first | (with_reducible first | exact HB.out | apply below_alloc | apply pw_below_drewN | apply below_drew1) | exact HB.out)) hb); clear HB; have HB := n0_; clear n0_; (try clear hb); (try clear hb2); (try clear hk); (try clear hi)))
    go_ret
    exact ⟨by first | rfl | (simp [errW_none, errW_some] <;> rfl) | (simp [*, errW_none, errW_some] <;> rfl), by repeat (first | (with_reducible first | exact HB.out | apply below_alloc | apply pw_below_drewN | apply below_drew1) | exact HB.out)⟩

end Go.Proofs.Ytcbmmhedefigeaa.X
