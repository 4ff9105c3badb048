-- Written by a program of this work, over the kit's print of the translation. Not trusted: Lean checks it.
import Derived.Test.YtdomdddponkmhaaXx0
import Derived.Test.YtdomdddponkmhaaXx2
import Derived.Test.YtdomdddponkmhaaXx4
import Derived.Test.YtdomdddponkmhaaXx5
import Derived.Test.YtdomdddponkmhaaXx8
import Derived.Test.YtdomdddponkmhaaAwk8
import Derived.Test.YtdomdddponkmhaaCl8
namespace Go.Proofs.Ytdomdddponkmhaa.X
open Go.RowKit Go.Proofs.YtdomdddponkmhaaW.PrintWords Go.Proofs.YtdomdddponkmhaaW.PrintLast Go.Proofs.YtdomdddponkmhaaW.PrintMore
attribute [local go_sem] max2_int min2_int max_two min_two max_three min_three max_four min_four   -- for this text's walks alone
set_option linter.unusedVariables false
set_option linter.unusedSimpArgs false
attribute [local go_sem] fld33_0

attribute [local go_sem high] eqA33
/-! ### spilelaw08_ProfileBulges: function 5 -/
mutual
def spilelaw08_ProfileBulges.j0 : Nat → List (S30) → Int → Int → Int → Int → Int → Bool → Int → Int → Int → Int → Option (Bool)
  | 0, _, _, _, _, _, _, _, _, _, _, _ => none
  | k + 1, x0, x1, x2, x7, x10, x12, x51, x258000, x258001, x265000, x265001 => if x51 = true then (if x10 = 0 then (if x12 = 0 then (some true) else (some (x265000 == 0 && (x265001 == 0)))) else (if (x258000 == 0 && (x258001 == 0)) = true then (if x12 = 0 then (some true) else (some (x265000 == 0 && (x265001 == 0)))) else (some false))) else (if x7 < 0 then (spilelaw08_ProfileBulges.j1 k x0 x1 x2 x7 true x258000 x258001 x265000 x265001) else (if x7 ≥ (x0.length : Int) then (spilelaw08_ProfileBulges.j1 k x0 x1 x2 x7 true x258000 x258001 x265000 x265001) else (if x258000 > x258001 then (spilelaw08_ProfileBulges.j1 k x0 x1 x2 x7 true x258000 x258001 x265000 x265001) else (if (wrap64 (x258001 - x258000)) > 1 then (spilelaw08_ProfileBulges.j1 k x0 x1 x2 x7 true x258000 x258001 x265000 x265001) else (if 0 ≤ x7 then (if x7 < (x0.length : Int) then (if x258001 > ((rd_T30 x0 x7).f1) then (spilelaw08_ProfileBulges.j1 k x0 x1 x2 x7 true x258000 x258001 x265000 x265001) else (if 0 < (x0.length : Int) then (if 0 ≤ (wrap64 ((x0.length : Int) - 1)) then (if (wrap64 ((x0.length : Int) - 1)) < (x0.length : Int) then (spilelaw08_ProfileBulges.j1 k x0 x1 x2 x7 (decide (x258000 < (mn ((rd_T30 x0 0).f1) ((rd_T30 x0 (wrap64 ((x0.length : Int) - 1))).f1)))) x258000 x258001 x265000 x265001) else (none)) else (none)) else (none))) else (none)) else (none))))))
def spilelaw08_ProfileBulges.j1 : Nat → List (S30) → Int → Int → Int → Bool → Int → Int → Int → Int → Option (Bool)
  | 0, _, _, _, _, _, _, _, _, _ => none
  | k + 1, x0, x1, x2, x7, x117, x258000, x258001, x265000, x265001 => if x117 = true then (some false) else (if 0 ≤ x7 then (if x7 < (x0.length : Int) then (if (mx x1 x2) ≤ ((rd_T30 x0 x7).f0) then (if x258000 ≤ x265000 then (some (decide (x258001 ≤ x265001))) else (some false)) else (if (mn x1 x2) < ((rd_T30 x0 x7).f0) then (some true) else (if x258000 ≥ x265000 then (some (decide (x258001 ≥ x265001))) else (some false)))) else (none)) else (none))
end
def spilelaw08_ProfileBulges.f (k : Nat) (l0 : List (S30)) (a1 : Int) (a2 : Int) : Option (Bool) := (spilelaw08_awake.f k).bind fun t244 => (if t244 = true then ((spileref08_Few.f l0).bind fun t245 => (if t245 = true then ((api_Point_12.f l0).bind fun t246 => ((profile_Bung.f k t246).bind fun bt249 => (if bt249.2 = 0 then ((api_Point_12.f l0).bind fun t251 => ((profile_At.f t251 (mn a1 a2)).bind fun bt254 => ((api_Point_12.f l0).bind fun t258 => ((profile_At.f t258 (mx a1 a2)).bind fun bt261 => (if bt254.2.2 = 0 then (spilelaw08_ProfileBulges.j0 k l0 a1 a2 bt249.1 bt254.2.2 bt261.2.2 (bt261.2.2 != 0) bt254.1 bt254.2.1 bt261.1 bt261.2.1) else (spilelaw08_ProfileBulges.j0 k l0 a1 a2 bt249.1 bt254.2.2 bt261.2.2 true bt254.1 bt254.2.1 bt261.1 bt261.2.1)))))) else (some (bt249.1 == 0))))) else (some true))) else (some false))
theorem spilelaw08_ProfileBulges.mono_l : ∀ k, (∀ y0 y1 y2 y3 y4 y5 y6 y7 y8 y9 y10, LeO (spilelaw08_ProfileBulges.j0 k y0 y1 y2 y3 y4 y5 y6 y7 y8 y9 y10) (spilelaw08_ProfileBulges.j0 (k + 1) y0 y1 y2 y3 y4 y5 y6 y7 y8 y9 y10)) ∧ (∀ y0 y1 y2 y3 y4 y5 y6 y7 y8, LeO (spilelaw08_ProfileBulges.j1 k y0 y1 y2 y3 y4 y5 y6 y7 y8) (spilelaw08_ProfileBulges.j1 (k + 1) y0 y1 y2 y3 y4 y5 y6 y7 y8))
  | 0 => ⟨fun _ _ _ _ _ _ _ _ _ _ _ r h => by simp [spilelaw08_ProfileBulges.j0] at h, fun _ _ _ _ _ _ _ _ _ r h => by simp [spilelaw08_ProfileBulges.j1] at h⟩
  | k + 1 => by
    obtain ⟨ih0, ih1⟩ := spilelaw08_ProfileBulges.mono_l k
    refine ⟨?_, ?_⟩
    · intro y0 y1 y2 y3 y4 y5 y6 y7 y8 y9 y10
      unfold spilelaw08_ProfileBulges.j0
      repeat' first
      | (with_reducible exact ih0 _ _ _ _ _ _ _ _ _ _ _)
      | (with_reducible exact ih1 _ _ _ _ _ _ _ _ _)
      | (with_reducible exact profile_Bung.mono _ _)
      | (with_reducible exact spilelaw08_awake.mono _)
      | (with_reducible exact LeO.refl _)
      | (with_reducible exact LeO.none _)
      | (with_reducible refine LeO.ite ?_ ?_)
      | (with_reducible refine LeO.bind ?_ (fun _ => ?_))
      | exact ih0 _ _ _ _ _ _ _ _ _ _ _
      | exact ih1 _ _ _ _ _ _ _ _ _
      | exact profile_Bung.mono _ _
      | exact spilelaw08_awake.mono _
      | exact LeO.none _
      | refine LeO.ite ?_ ?_
      | refine LeO.bind ?_ (fun _ => ?_)
    · intro y0 y1 y2 y3 y4 y5 y6 y7 y8
      unfold spilelaw08_ProfileBulges.j1
      repeat' first
      | (with_reducible exact ih0 _ _ _ _ _ _ _ _ _ _ _)
      | (with_reducible exact ih1 _ _ _ _ _ _ _ _ _)
      | (with_reducible exact profile_Bung.mono _ _)
      | (with_reducible exact spilelaw08_awake.mono _)
      | (with_reducible exact LeO.refl _)
      | (with_reducible exact LeO.none _)
      | (with_reducible refine LeO.ite ?_ ?_)
      | (with_reducible refine LeO.bind ?_ (fun _ => ?_))
      | exact ih0 _ _ _ _ _ _ _ _ _ _ _
      | exact ih1 _ _ _ _ _ _ _ _ _
      | exact profile_Bung.mono _ _
      | exact spilelaw08_awake.mono _
      | exact LeO.none _
      | refine LeO.ite ?_ ?_
      | refine LeO.bind ?_ (fun _ => ?_)
theorem spilelaw08_ProfileBulges.mono : ∀ a0 a1 a2 k, LeO (spilelaw08_ProfileBulges.f k a0 a1 a2) (spilelaw08_ProfileBulges.f (k + 1) a0 a1 a2) := by
  intro a0 a1 a2 k
  obtain ⟨ih0, ih1⟩ := spilelaw08_ProfileBulges.mono_l k
  unfold spilelaw08_ProfileBulges.f
  repeat' first
      | (with_reducible exact ih0 _ _ _ _ _ _ _ _ _ _ _)
      | (with_reducible exact ih1 _ _ _ _ _ _ _ _ _)
      | (with_reducible exact profile_Bung.mono _ _)
      | (with_reducible exact spilelaw08_awake.mono _)
      | (with_reducible exact LeO.refl _)
      | (with_reducible exact LeO.none _)
      | (with_reducible refine LeO.ite ?_ ?_)
      | (with_reducible refine LeO.bind ?_ (fun _ => ?_))
      | exact ih0 _ _ _ _ _ _ _ _ _ _ _
      | exact ih1 _ _ _ _ _ _ _ _ _
      | exact profile_Bung.mono _ _
      | exact spilelaw08_awake.mono _
      | exact LeO.none _
      | refine LeO.ite ?_ ?_
      | refine LeO.bind ?_ (fun _ => ?_)
set_option maxHeartbeats 8000000 in
set_option maxRecDepth 100000 in
theorem spilelaw08_ProfileBulges.calls (k : Nat) (A0 : Option Addr) (c0 : Nat) (l0 : List (S30)) (a1 : Int) (a2 : Int) (r : Bool) (w : World) (hr0 : Kd.C k30 w A0 l0.length l0) (hc0 : l0.length ≤ c0) (h : spilelaw08_ProfileBulges.f k l0 a1 a2 = some r) :
    Calls Try.prog 5 #[.slice A0 l0.length c0, .int .i64 a1, .int .i64 a2] w fun e w' => e = .returned (.bool r) ∧ Below w.heap.size w w' := by
  have hu33 := Try.underlying33
  have HR0 := Aside0.mk hr0
  have HC0 := Aside0.mk hc0
  clear hr0 hc0
  have HB := Aside0.mk (Below.refl w.heap.size w)
  have H : ((spilelaw08_awake.f k).bind fun t244 => (if t244 = true then ((spileref08_Few.f l0).bind fun t245 => (if t245 = true then ((api_Point_12.f l0).bind fun t246 => ((profile_Bung.f k t246).bind fun bt249 => (if bt249.2 = 0 then ((api_Point_12.f l0).bind fun t251 => ((profile_At.f t251 (mn a1 a2)).bind fun bt254 => ((api_Point_12.f l0).bind fun t258 => ((profile_At.f t258 (mx a1 a2)).bind fun bt261 => (if bt254.2.2 = 0 then (spilelaw08_ProfileBulges.j0 k l0 a1 a2 bt249.1 bt254.2.2 bt261.2.2 (bt261.2.2 != 0) bt254.1 bt254.2.1 bt261.1 bt261.2.1) else (spilelaw08_ProfileBulges.j0 k l0 a1 a2 bt249.1 bt254.2.2 bt261.2.2 true bt254.1 bt254.2.1 bt261.1 bt261.2.1)))))) else (some (bt249.1 == 0))))) else (some true))) else (some false))) = some r := h
  clear h
  replace H := Option.bind_eq_some_iff.mp H
  obtain ⟨t244, A40, H⟩ := H
  replace H : (if t244 = true then ((spileref08_Few.f l0).bind fun t245 => (if t245 = true then ((api_Point_12.f l0).bind fun t246 => ((profile_Bung.f k t246).bind fun bt249 => (if bt249.2 = 0 then ((api_Point_12.f l0).bind fun t251 => ((profile_At.f t251 (mn a1 a2)).bind fun bt254 => ((api_Point_12.f l0).bind fun t258 => ((profile_At.f t258 (mx a1 a2)).bind fun bt261 => (if bt254.2.2 = 0 then (spilelaw08_ProfileBulges.j0 k l0 a1 a2 bt249.1 bt254.2.2 bt261.2.2 (bt261.2.2 != 0) bt254.1 bt254.2.1 bt261.1 bt261.2.1) else (spilelaw08_ProfileBulges.j0 k l0 a1 a2 bt249.1 bt254.2.2 bt261.2.2 true bt254.1 bt254.2.1 bt261.1 bt261.2.1)))))) else (some (bt249.1 == 0))))) else (some true))) else (some false)) = some r := H
  have A4 := Aside0.mk A40
  clear A40
  by_cases c5 : t244 = true
  · subst c5
    have H1 : ((spileref08_Few.f l0).bind fun t245 => (if t245 = true then ((api_Point_12.f l0).bind fun t246 => ((profile_Bung.f k t246).bind fun bt249 => (if bt249.2 = 0 then ((api_Point_12.f l0).bind fun t251 => ((profile_At.f t251 (mn a1 a2)).bind fun bt254 => ((api_Point_12.f l0).bind fun t258 => ((profile_At.f t258 (mx a1 a2)).bind fun bt261 => (if bt254.2.2 = 0 then (spilelaw08_ProfileBulges.j0 k l0 a1 a2 bt249.1 bt254.2.2 bt261.2.2 (bt261.2.2 != 0) bt254.1 bt254.2.1 bt261.1 bt261.2.1) else (spilelaw08_ProfileBulges.j0 k l0 a1 a2 bt249.1 bt254.2.2 bt261.2.2 true bt254.1 bt254.2.1 bt261.1 bt261.2.1)))))) else (some (bt249.1 == 0))))) else (some true))) = some r := by rw [if_pos rfl] at H; exact H
    clear H
    have H := H1
    clear H1
    replace H := Option.bind_eq_some_iff.mp H
    obtain ⟨t245, A60, H⟩ := H
    replace H : (if t245 = true then ((api_Point_12.f l0).bind fun t246 => ((profile_Bung.f k t246).bind fun bt249 => (if bt249.2 = 0 then ((api_Point_12.f l0).bind fun t251 => ((profile_At.f t251 (mn a1 a2)).bind fun bt254 => ((api_Point_12.f l0).bind fun t258 => ((profile_At.f t258 (mx a1 a2)).bind fun bt261 => (if bt254.2.2 = 0 then (spilelaw08_ProfileBulges.j0 k l0 a1 a2 bt249.1 bt254.2.2 bt261.2.2 (bt261.2.2 != 0) bt254.1 bt254.2.1 bt261.1 bt261.2.1) else (spilelaw08_ProfileBulges.j0 k l0 a1 a2 bt249.1 bt254.2.2 bt261.2.2 true bt254.1 bt254.2.1 bt261.1 bt261.2.1)))))) else (some (bt249.1 == 0))))) else (some true)) = some r := H
    have A6 := Aside0.mk A60
    clear A60
    by_cases c7 : t245 = true
    · subst c7
      have H1 : ((api_Point_12.f l0).bind fun t246 => ((profile_Bung.f k t246).bind fun bt249 => (if bt249.2 = 0 then ((api_Point_12.f l0).bind fun t251 => ((profile_At.f t251 (mn a1 a2)).bind fun bt254 => ((api_Point_12.f l0).bind fun t258 => ((profile_At.f t258 (mx a1 a2)).bind fun bt261 => (if bt254.2.2 = 0 then (spilelaw08_ProfileBulges.j0 k l0 a1 a2 bt249.1 bt254.2.2 bt261.2.2 (bt261.2.2 != 0) bt254.1 bt254.2.1 bt261.1 bt261.2.1) else (spilelaw08_ProfileBulges.j0 k l0 a1 a2 bt249.1 bt254.2.2 bt261.2.2 true bt254.1 bt254.2.1 bt261.1 bt261.2.1)))))) else (some (bt249.1 == 0))))) = some r := by rw [if_pos rfl] at H; exact H
      clear H
      have H := H1
      clear H1
      replace H := Option.bind_eq_some_iff.mp H
      obtain ⟨t246, A80, H⟩ := H
      replace H : ((profile_Bung.f k t246).bind fun bt249 => (if bt249.2 = 0 then ((api_Point_12.f l0).bind fun t251 => ((profile_At.f t251 (mn a1 a2)).bind fun bt254 => ((api_Point_12.f l0).bind fun t258 => ((profile_At.f t258 (mx a1 a2)).bind fun bt261 => (if bt254.2.2 = 0 then (spilelaw08_ProfileBulges.j0 k l0 a1 a2 bt249.1 bt254.2.2 bt261.2.2 (bt261.2.2 != 0) bt254.1 bt254.2.1 bt261.1 bt261.2.1) else (spilelaw08_ProfileBulges.j0 k l0 a1 a2 bt249.1 bt254.2.2 bt261.2.2 true bt254.1 bt254.2.1 bt261.1 bt261.2.1)))))) else (some (bt249.1 == 0)))) = some r := H
      have A8 := Aside0.mk A80
      clear A80
      replace H := Option.bind_eq_some_iff.mp H
      obtain ⟨⟨t249, t250⟩, A90, H⟩ := H
      replace H : (if t250 = 0 then ((api_Point_12.f l0).bind fun t251 => ((profile_At.f t251 (mn a1 a2)).bind fun bt254 => ((api_Point_12.f l0).bind fun t258 => ((profile_At.f t258 (mx a1 a2)).bind fun bt261 => (if bt254.2.2 = 0 then (spilelaw08_ProfileBulges.j0 k l0 a1 a2 t249 bt254.2.2 bt261.2.2 (bt261.2.2 != 0) bt254.1 bt254.2.1 bt261.1 bt261.2.1) else (spilelaw08_ProfileBulges.j0 k l0 a1 a2 t249 bt254.2.2 bt261.2.2 true bt254.1 bt254.2.1 bt261.1 bt261.2.1)))))) else (some (t249 == 0))) = some r := H
      have A9 := Aside0.mk A90
      clear A90
      by_cases c10 : t250 = 0
      · rw [if_pos c10] at H
        have c10b0 : (t250 == 0) = true := beq_iff_eq.mpr c10
        have c10b1 : (t250 != 0) = false := bne_eq_false_iff_eq.mpr c10
        clear c10
        replace H := Option.bind_eq_some_iff.mp H
        obtain ⟨t251, A110, H⟩ := H
        replace H : ((profile_At.f t251 (mn a1 a2)).bind fun bt254 => ((api_Point_12.f l0).bind fun t258 => ((profile_At.f t258 (mx a1 a2)).bind fun bt261 => (if bt254.2.2 = 0 then (spilelaw08_ProfileBulges.j0 k l0 a1 a2 t249 bt254.2.2 bt261.2.2 (bt261.2.2 != 0) bt254.1 bt254.2.1 bt261.1 bt261.2.1) else (spilelaw08_ProfileBulges.j0 k l0 a1 a2 t249 bt254.2.2 bt261.2.2 true bt254.1 bt254.2.1 bt261.1 bt261.2.1))))) = some r := H
        have A11 := Aside0.mk A110
        clear A110
        obtain ⟨ji12, hji12⟩ : ∃ j_ : Int, (mn a1 a2) = j_ := ⟨_, rfl⟩
        replace H : ((profile_At.f t251 (ji12)).bind fun bt254 => ((api_Point_12.f l0).bind fun t258 => ((profile_At.f t258 (mx a1 a2)).bind fun bt261 => (if bt254.2.2 = 0 then (spilelaw08_ProfileBulges.j0 k l0 a1 a2 t249 bt254.2.2 bt261.2.2 (bt261.2.2 != 0) bt254.1 bt254.2.1 bt261.1 bt261.2.1) else (spilelaw08_ProfileBulges.j0 k l0 a1 a2 t249 bt254.2.2 bt261.2.2 true bt254.1 bt254.2.1 bt261.1 bt261.2.1))))) = some r := by first | (rw [hji12] at H; exact H) | (simp only [hji12] at H ⊢; exact H)
        (try rw [hji12] at A4)
        (try rw [hji12] at A6)
        (try rw [hji12] at A8)
        (try rw [hji12] at A9)
        (try rw [hji12] at A11)
        have hji12_ : (if a2 < a1 then a2 else a1) = ji12 := hji12
        replace H := Option.bind_eq_some_iff.mp H
        obtain ⟨⟨t254, t255, t256⟩, A130, H⟩ := H
        replace H : ((api_Point_12.f l0).bind fun t258 => ((profile_At.f t258 (mx a1 a2)).bind fun bt261 => (if t256 = 0 then (spilelaw08_ProfileBulges.j0 k l0 a1 a2 t249 t256 bt261.2.2 (bt261.2.2 != 0) t254 t255 bt261.1 bt261.2.1) else (spilelaw08_ProfileBulges.j0 k l0 a1 a2 t249 t256 bt261.2.2 true t254 t255 bt261.1 bt261.2.1)))) = some r := H
        have A13 := Aside0.mk A130
        clear A130
        replace H := Option.bind_eq_some_iff.mp H
        obtain ⟨t258, A140, H⟩ := H
        replace H : ((profile_At.f t258 (mx a1 a2)).bind fun bt261 => (if t256 = 0 then (spilelaw08_ProfileBulges.j0 k l0 a1 a2 t249 t256 bt261.2.2 (bt261.2.2 != 0) t254 t255 bt261.1 bt261.2.1) else (spilelaw08_ProfileBulges.j0 k l0 a1 a2 t249 t256 bt261.2.2 true t254 t255 bt261.1 bt261.2.1))) = some r := H
        have A14 := Aside0.mk A140
        clear A140
        obtain ⟨ji15, hji15⟩ : ∃ j_ : Int, (mx a1 a2) = j_ := ⟨_, rfl⟩
        replace H : ((profile_At.f t258 (ji15)).bind fun bt261 => (if t256 = 0 then (spilelaw08_ProfileBulges.j0 k l0 a1 a2 t249 t256 bt261.2.2 (bt261.2.2 != 0) t254 t255 bt261.1 bt261.2.1) else (spilelaw08_ProfileBulges.j0 k l0 a1 a2 t249 t256 bt261.2.2 true t254 t255 bt261.1 bt261.2.1))) = some r := by first | (rw [hji15] at H; exact H) | (simp only [hji15] at H ⊢; exact H)
        (try rw [hji15] at A4)
        (try rw [hji15] at A6)
        (try rw [hji15] at A8)
        (try rw [hji15] at A9)
        (try rw [hji15] at A11)
        (try rw [hji15] at A13)
        (try rw [hji15] at A14)
        have hji15_ : (if a1 < a2 then a2 else a1) = ji15 := hji15
        replace H := Option.bind_eq_some_iff.mp H
        obtain ⟨⟨t261, t262, t263⟩, A160, H⟩ := H
        replace H : (if t256 = 0 then (spilelaw08_ProfileBulges.j0 k l0 a1 a2 t249 t256 t263 (t263 != 0) t254 t255 t261 t262) else (spilelaw08_ProfileBulges.j0 k l0 a1 a2 t249 t256 t263 true t254 t255 t261 t262)) = some r := H
        have A16 := Aside0.mk A160
        clear A160
        have HC17 := Aside0.mk H
        clear H
        go_enter Try.func5, Try.ntmps5
        go_upto_region 10 with (first | (go_at_call 18; (with_reducible refine (profile_At.calls _ _ t251 ji12 t254 t255 t256 _ ?side1 ?side2 A13.out).mono ?_); (case side1 => repeat (first | exact (Kd.R_reads' HO253.out).2.2 | (with_reducible refine Kd.C_alloc ?_ _) | (with_reducible refine Kd.C_drewN ?_ _) | (with_reducible refine Kd.C_drew ?_))); (case side2 => exact (Kd.R_reads' HO253.out).2.1); rintro e w24 ⟨rfl, hb⟩; have n0_ := Aside0.mk (Kd.R_below (by (with_reducible repeat (first | apply Kd.R_alloc | apply Kd.R_drewN | apply Kd.R_drew)); exact HO248.out) hb); have n1_ := Aside0.mk (Kd.R_below (by (with_reducible repeat (first | apply Kd.R_alloc | apply Kd.R_drewN | apply Kd.R_drew)); exact HO253.out) hb); have n2_ := Aside0.mk (below_step (by repeat (first | (with_reducible first | exact HB.out | apply below_alloc | apply pw_below_drewN | apply below_drew1) | exact HB.out)) hb); clear HO248; clear HO253; clear HB; have HO248 := n0_; have HO253 := n1_; have HB := n2_; clear n0_ n1_ n2_; (try clear hb); (try clear hb2); (try clear hk); (try clear hi)) | (go_at_call 12; (with_reducible refine (api_Point_12.calls _ _ l0 t251 _ ?side1 ?side2 A11.out).mono ?_); (case side1 => repeat (first | exact (Kd.C_below HR0.out HB.out) | (with_reducible refine Kd.C_alloc ?_ _) | (with_reducible refine Kd.C_drewN ?_ _) | (with_reducible refine Kd.C_drew ?_))); (case side2 => exact HC0.out); rintro e w22 ⟨v252, rfl, ho0, hb⟩; have n0_ := Aside0.mk (Kd.R_elder' (by (with_reducible repeat (first | apply Kd.R_alloc | apply Kd.R_drewN | apply Kd.R_drew)); exact HO248.out) (Kd.R_base ho0) hb); have n1_ := Aside0.mk (Kd.R_lower (Kd.R_new' ho0 (Kd.R_lt (by (with_reducible repeat (first | apply Kd.R_alloc | apply Kd.R_drewN | apply Kd.R_drew)); exact HO248.out))) (below_size (by repeat (first | (with_reducible first | exact HB.out | apply below_alloc | apply pw_below_drewN | apply below_drew1) | exact HB.out)))); have n2_ := Aside0.mk (below_step (by repeat (first | (with_reducible first | exact HB.out | apply below_alloc | apply pw_below_drewN | apply below_drew1) | exact HB.out)) hb); clear HO248; clear HB; have HO248 := n0_; have HO253 := n1_; have HB := n2_; clear n0_ n1_ n2_; (try clear hb); (try clear hb2); (try clear hk); (try clear hi); (try clear ho0); obtain ⟨Ao23, co23, eo23⟩ := Kd.R_slice HO253.out; subst eo23) | (go_at_call 14; (with_reducible refine (profile_Bung.calls k _ _ t246 t249 t250 _ ?side1 ?side2 A9.out).mono ?_); (case side1 => repeat (first | exact (Kd.R_reads' HO248.out).2.2 | (with_reducible refine Kd.C_alloc ?_ _) | (with_reducible refine Kd.C_drewN ?_ _) | (with_reducible refine Kd.C_drew ?_))); (case side2 => exact (Kd.R_reads' HO248.out).2.1); rintro e w21 ⟨rfl, hb⟩; have n0_ := Aside0.mk (Kd.R_below (by (with_reducible repeat (first | apply Kd.R_alloc | apply Kd.R_drewN | apply Kd.R_drew)); exact HO248.out) hb); have n1_ := Aside0.mk (below_step (by repeat (first | (with_reducible first | exact HB.out | apply below_alloc | apply pw_below_drewN | apply below_drew1) | exact HB.out)) hb); clear HO248; clear HB; have HO248 := n0_; have HB := n1_; clear n0_ n1_; (try clear hb); (try clear hb2); (try clear hk); (try clear hi)) | (go_at_call 12; (with_reducible refine (api_Point_12.calls _ _ l0 t246 _ ?side1 ?side2 A8.out).mono ?_); (case side1 => repeat (first | exact (Kd.C_below HR0.out (by repeat (first | (with_reducible first | exact HB.out | apply below_alloc | apply pw_below_drewN | apply below_drew1) | exact HB.out))) | (with_reducible refine Kd.C_alloc ?_ _) | (with_reducible refine Kd.C_drewN ?_ _) | (with_reducible refine Kd.C_drew ?_))); (case side2 => exact HC0.out); rintro e w19 ⟨v247, rfl, ho0, hb⟩; have n0_ := Aside0.mk (Kd.R_lower ho0 (below_size (by repeat (first | (with_reducible first | exact HB.out | apply below_alloc | apply pw_below_drewN | apply below_drew1) | exact HB.out)))); have n1_ := Aside0.mk (below_step (by repeat (first | (with_reducible first | exact HB.out | apply below_alloc | apply pw_below_drewN | apply below_drew1) | exact HB.out)) hb); clear HB; have HO248 := n0_; have HB := n1_; clear n0_ n1_; (try clear hb); (try clear hb2); (try clear hk); (try clear hi); (try clear ho0); obtain ⟨Ao20, co20, eo20⟩ := Kd.R_slice HO248.out; subst eo20) | (go_at_call 10; (with_reducible refine (spileref08_Few.calls _ _ l0 true _ ?side1 ?side2 A6.out).mono ?_); (case side1 => repeat (first | exact (Kd.C_below HR0.out HB.out) | (with_reducible refine Kd.C_alloc ?_ _) | (with_reducible refine Kd.C_drewN ?_ _) | (with_reducible refine Kd.C_drew ?_))); (case side2 => exact HC0.out); rintro e w' ⟨rfl, ⟨nd, rfl⟩⟩; (try first | exact ⟨rfl, _, World.drewN_drewN _ _ _⟩ | exact ⟨rfl, _, Eq.trans (World.drewN_drewN _ _ _) (congrArg (World.drewN _) (Nat.add_assoc _ _ _))⟩)) | (go_at_call 9; (with_reducible refine (spilelaw08_awake.calls k  true _ A4.out).mono ?_); rintro e w18 ⟨rfl, hb⟩; have n0_ := Aside0.mk (below_step (by repeat (first | (with_reducible first | exact HB.out | apply below_alloc | apply pw_below_drewN | apply below_drew1) | exact HB.out)) hb); clear HB; have HB := n0_; clear n0_; (try clear hb); (try clear hb2); (try clear hk); (try clear hi)) | ((with_reducible refine gate_dst (N := 9) rfl ?_); (try (refine gate_guard (by rfl) ?_; dsimp only)); refine box_event ?hg (N := 9) ?hd (cs := #[.int .i64 0, .int .i64 0]) (t := 33) ?hr ?_; (case hd => rfl); (case hg => rfl); (case hr => first | (go_simp; done) | (go_simp; rfl)); intro gb257 hg w25 hbox hb; have n0_ := Aside0.mk (Kd.R_below (by (with_reducible repeat (first | apply Kd.R_alloc | apply Kd.R_drewN | apply Kd.R_drew)); exact HO248.out) hb); have n1_ := Aside0.mk (Kd.R_below (by (with_reducible repeat (first | apply Kd.R_alloc | apply Kd.R_drewN | apply Kd.R_drew)); exact HO253.out) hb); have n2_ := Aside0.mk (below_step (by repeat (first | (with_reducible first | exact HB.out | apply below_alloc | apply pw_below_drewN | apply below_drew1) | exact HB.out)) hb); have n3_ := Aside0.mk (hbox); have n4_ := Aside0.mk ((by rw [hg]; exact (below_size (by repeat (first | (with_reducible first | exact HB.out | apply below_alloc | apply pw_below_drewN | apply below_drew1) | exact HB.out))) : w.heap.size ≤ gb257)); have n5_ := Aside0.mk ((by rw [hg]; exact (below_size (by repeat (first | (with_reducible first | exact HB.out | apply below_alloc | apply pw_below_drewN | apply below_drew1) | exact HB.out))) : w.heap.size ≤ gb257)); clear HO248; clear HO253; clear HB; have HO248 := n0_; have HO253 := n1_; have HB := n2_; have BK257 := n3_; have GW257 := n4_; have GE257 := n5_; clear n0_ n1_ n2_ n3_ n4_ n5_; clear hb hbox hg; have hcz26_0 : w25.cell? ⟨gb257, 0, none⟩ = some (.int .i64 0) := (blk_cell BK257.out 0).trans rfl; have hcz26_1 : w25.cell? ⟨gb257, 1, none⟩ = some (.int .i64 0) := (blk_cell BK257.out 1).trans rfl; have hfz26_0 := blk_frozen BK257.out 0; have hfz26_1 := blk_frozen BK257.out 1) | (go_at_call 18; (with_reducible refine (profile_At.calls _ _ t258 ji15 t261 t262 t263 _ ?side1 ?side2 A16.out).mono ?_); (case side1 => repeat (first | exact (Kd.R_reads' HO260.out).2.2 | (with_reducible refine Kd.C_alloc ?_ _) | (with_reducible refine Kd.C_drewN ?_ _) | (with_reducible refine Kd.C_drew ?_))); (case side2 => exact (Kd.R_reads' HO260.out).2.1); rintro e w29 ⟨rfl, hb⟩; have n0_ := Aside0.mk (Kd.R_below (by (with_reducible repeat (first | apply Kd.R_alloc | apply Kd.R_drewN | apply Kd.R_drew)); exact HO248.out) hb); have n1_ := Aside0.mk (Kd.R_below (by (with_reducible repeat (first | apply Kd.R_alloc | apply Kd.R_drewN | apply Kd.R_drew)); exact HO253.out) hb); have n2_ := Aside0.mk (Kd.R_below (by (with_reducible repeat (first | apply Kd.R_alloc | apply Kd.R_drewN | apply Kd.R_drew)); exact HO260.out) hb); have n3_ := Aside0.mk (blk_below (g := gb257) (o := .cells #[.int .i64 t254, .int .i64 t255] 33 (0, 0)) (by (with_reducible repeat (first | refine blk_drewN ?_ _ | refine blk_drew ?_ | refine blk_alloc ?_ _)); exact BK257.out) hb); have n4_ := Aside0.mk (below_step (by repeat (first | (with_reducible first | exact HB.out | apply below_alloc | apply pw_below_drewN | apply below_drew1 | refine below_set ?_ GE257.out) | exact HB.out)) hb); clear HO248; clear HO253; clear HO260; clear BK257; clear HB; have HO248 := n0_; have HO253 := n1_; have HO260 := n2_; have BK257 := n3_; have HB := n4_; clear n0_ n1_ n2_ n3_ n4_; (try clear hb); (try clear hb2); (try clear hk); (try clear hi)) | (go_at_call 12; (with_reducible refine (api_Point_12.calls _ _ l0 t258 _ ?side1 ?side2 A14.out).mono ?_); (case side1 => exact Kd.C_below HR0.out (by repeat (first | (with_reducible first | exact HB.out | apply below_alloc | apply pw_below_drewN | apply below_drew1 | refine below_set ?_ GE257.out) | exact HB.out))); (case side2 => exact HC0.out); rintro e w27 ⟨v259, rfl, ho0, hb⟩; have n0_ := Aside0.mk (Kd.R_elder' (by (with_reducible repeat (first | apply Kd.R_alloc | apply Kd.R_drewN | apply Kd.R_drew)); exact (Kd.R_mono (Kd.R_far (p := ⟨gb257, 1, none⟩) (Kd.R_far (p := ⟨gb257, 0, none⟩) (Kd.R_types HO248.out BK257.out (by decide)) (fun _ hk => hk.2) (.int .i64 t254)) (fun _ hk => hk.2) (.int .i64 t255)) (fun _ h_ => h_.1))) (Kd.R_base ho0) hb); have n1_ := Aside0.mk (Kd.R_elder' (by (with_reducible repeat (first | apply Kd.R_alloc | apply Kd.R_drewN | apply Kd.R_drew)); exact (Kd.R_mono (Kd.R_far (p := ⟨gb257, 1, none⟩) (Kd.R_far (p := ⟨gb257, 0, none⟩) (Kd.R_types HO253.out BK257.out (by decide)) (fun _ hk => hk.2) (.int .i64 t254)) (fun _ hk => hk.2) (.int .i64 t255)) (fun _ h_ => h_.1))) (Kd.R_base ho0) hb); have n2_ := Aside0.mk (Kd.R_lower (Kd.R_new' (Kd.R_new' ho0 (Kd.R_lt (by (with_reducible repeat (first | apply Kd.R_alloc | apply Kd.R_drewN | apply Kd.R_drew)); exact (Kd.R_mono (Kd.R_far (p := ⟨gb257, 1, none⟩) (Kd.R_far (p := ⟨gb257, 0, none⟩) (Kd.R_types HO248.out BK257.out (by decide)) (fun _ hk => hk.2) (.int .i64 t254)) (fun _ hk => hk.2) (.int .i64 t255)) (fun _ h_ => h_.1))))) (Kd.R_lt (by (with_reducible repeat (first | apply Kd.R_alloc | apply Kd.R_drewN | apply Kd.R_drew)); exact (Kd.R_mono (Kd.R_far (p := ⟨gb257, 1, none⟩) (Kd.R_far (p := ⟨gb257, 0, none⟩) (Kd.R_types HO253.out BK257.out (by decide)) (fun _ hk => hk.2) (.int .i64 t254)) (fun _ hk => hk.2) (.int .i64 t255)) (fun _ h_ => h_.1))))) (below_size (by repeat (first | (with_reducible first | exact HB.out | apply below_alloc | apply pw_below_drewN | apply below_drew1 | refine below_set ?_ GE257.out) | exact HB.out)))); have n3_ := Aside0.mk (blk_below (g := gb257) (o := .cells #[.int .i64 t254, .int .i64 t255] 33 (0, 0)) (by (with_reducible repeat (first | refine blk_drewN ?_ _ | refine blk_drew ?_ | refine blk_alloc ?_ _)); refine blk_put (cs := #[.int .i64 t254, .int .i64 0]) ?_ 1 _ rfl; (with_reducible repeat (first | refine blk_drewN ?_ _ | refine blk_drew ?_ | refine blk_alloc ?_ _)); refine blk_put (cs := #[.int .i64 0, .int .i64 0]) ?_ 0 _ rfl; (with_reducible repeat (first | refine blk_drewN ?_ _ | refine blk_drew ?_ | refine blk_alloc ?_ _)); exact BK257.out) hb); have n4_ := Aside0.mk (below_step (by repeat (first | (with_reducible first | exact HB.out | apply below_alloc | apply pw_below_drewN | apply below_drew1 | refine below_set ?_ GE257.out) | exact HB.out)) hb); clear HO248; clear HO253; clear BK257; clear HB; have HO248 := n0_; have HO253 := n1_; have HO260 := n2_; have BK257 := n3_; have HB := n4_; clear n0_ n1_ n2_ n3_ n4_; (try clear hb); (try clear hb2); (try clear hk); (try clear hi); (try clear ho0); obtain ⟨Ao28, co28, eo28⟩ := Kd.R_slice HO260.out; subst eo28) | ((with_reducible refine gate_dst (N := 11) rfl ?_); (try (refine gate_guard (by rfl) ?_; dsimp only)); refine box_event ?hg (N := 11) ?hd (cs := #[.int .i64 0, .int .i64 0]) (t := 33) ?hr ?_; (case hd => rfl); (case hg => rfl); (case hr => first | (go_simp; done) | (go_simp; rfl)); intro gb264 hg w30 hbox hb; have n0_ := Aside0.mk (Kd.R_below (by (with_reducible repeat (first | apply Kd.R_alloc | apply Kd.R_drewN | apply Kd.R_drew)); exact HO248.out) hb); have n1_ := Aside0.mk (Kd.R_below (by (with_reducible repeat (first | apply Kd.R_alloc | apply Kd.R_drewN | apply Kd.R_drew)); exact HO253.out) hb); have n2_ := Aside0.mk (Kd.R_below (by (with_reducible repeat (first | apply Kd.R_alloc | apply Kd.R_drewN | apply Kd.R_drew)); exact HO260.out) hb); have n3_ := Aside0.mk (blk_below (g := gb257) (o := .cells #[.int .i64 t254, .int .i64 t255] 33 (0, 0)) (by (with_reducible repeat (first | refine blk_drewN ?_ _ | refine blk_drew ?_ | refine blk_alloc ?_ _)); exact BK257.out) hb); have n4_ := Aside0.mk (below_step (by repeat (first | (with_reducible first | exact HB.out | apply below_alloc | apply pw_below_drewN | apply below_drew1 | refine below_set ?_ GE257.out) | exact HB.out)) hb); have n5_ := Aside0.mk (hbox); have n6_ := Aside0.mk ((by rw [hg]; exact (below_size (by repeat (first | (with_reducible first | exact HB.out | apply below_alloc | apply pw_below_drewN | apply below_drew1 | refine below_set ?_ GE257.out) | exact HB.out))) : w.heap.size ≤ gb264)); have n7_ := Aside0.mk ((by rw [hg]; exact (below_size (by repeat (first | (with_reducible first | exact HB.out | apply below_alloc | apply pw_below_drewN | apply below_drew1 | refine below_set ?_ GE257.out) | exact HB.out))) : w.heap.size ≤ gb264)); have n8_ := Aside0.mk ((by rw [hg]; exact Nat.ne_of_lt (blk_lt (g := gb257) (o := .cells #[.int .i64 t254, .int .i64 t255] 33 (0, 0)) (by (with_reducible repeat (first | refine blk_drewN ?_ _ | refine blk_drew ?_ | refine blk_alloc ?_ _)); exact BK257.out)) : gb257 ≠ gb264)); have n9_ := Aside0.mk ((by rw [hg]; exact Nat.ne_of_gt (blk_lt (g := gb257) (o := .cells #[.int .i64 t254, .int .i64 t255] 33 (0, 0)) (by (with_reducible repeat (first | refine blk_drewN ?_ _ | refine blk_drew ?_ | refine blk_alloc ?_ _)); exact BK257.out)) : gb264 ≠ gb257)); clear HO248; clear HO253; clear HO260; clear BK257; clear HB; have HO248 := n0_; have HO253 := n1_; have HO260 := n2_; have BK257 := n3_; have HB := n4_; have BK264 := n5_; have GW264 := n6_; have GE264 := n7_; have NB257_264 := n8_; have NB264_257 := n9_; clear n0_ n1_ n2_ n3_ n4_ n5_ n6_ n7_ n8_ n9_; clear hb hbox hg; have hnb31 := NB264_257.out; have hnc31 := NB257_264.out; have hcz32_0 : w30.cell? ⟨gb264, 0, none⟩ = some (.int .i64 0) := (blk_cell BK264.out 0).trans rfl; have hcz32_1 : w30.cell? ⟨gb264, 1, none⟩ = some (.int .i64 0) := (blk_cell BK264.out 1).trans rfl; have hfz32_0 := blk_frozen BK264.out 0; have hfz32_1 := blk_frozen BK264.out 1))
        repeat (go_quiet (first | (go_at_call 18; (with_reducible refine (profile_At.calls _ _ t251 ji12 t254 t255 t256 _ ?side1 ?side2 A13.out).mono ?_); (case side1 => repeat (first | exact (Kd.R_reads' HO253.out).2.2 | (with_reducible refine Kd.C_alloc ?_ _) | (with_reducible refine Kd.C_drewN ?_ _) | (with_reducible refine Kd.C_drew ?_))); (case side2 => exact (Kd.R_reads' HO253.out).2.1); rintro e w24 ⟨rfl, hb⟩; have n0_ := Aside0.mk (Kd.R_below (by (with_reducible repeat (first | apply Kd.R_alloc | apply Kd.R_drewN | apply Kd.R_drew)); exact HO248.out) hb); have n1_ := Aside0.mk (Kd.R_below (by (with_reducible repeat (first | apply Kd.R_alloc | apply Kd.R_drewN | apply Kd.R_drew)); exact HO253.out) hb); have n2_ := Aside0.mk (below_step (by repeat (first | (with_reducible first | exact HB.out | apply below_alloc | apply pw_below_drewN | apply below_drew1) | exact HB.out)) hb); clear HO248; clear HO253; clear HB; have HO248 := n0_; have HO253 := n1_; have HB := n2_; clear n0_ n1_ n2_; (try clear hb); (try clear hb2); (try clear hk); (try clear hi)) | (go_at_call 12; (with_reducible refine (api_Point_12.calls _ _ l0 t251 _ ?side1 ?side2 A11.out).mono ?_); (case side1 => repeat (first | exact (Kd.C_below HR0.out HB.out) | (with_reducible refine Kd.C_alloc ?_ _) | (with_reducible refine Kd.C_drewN ?_ _) | (with_reducible refine Kd.C_drew ?_))); (case side2 => exact HC0.out); rintro e w22 ⟨v252, rfl, ho0, hb⟩; have n0_ := Aside0.mk (Kd.R_elder' (by (with_reducible repeat (first | apply Kd.R_alloc | apply Kd.R_drewN | apply Kd.R_drew)); exact HO248.out) (Kd.R_base ho0) hb); have n1_ := Aside0.mk (Kd.R_lower (Kd.R_new' ho0 (Kd.R_lt (by (with_reducible repeat (first | apply Kd.R_alloc | apply Kd.R_drewN | apply Kd.R_drew)); exact HO248.out))) (below_size (by repeat (first | (with_reducible first | exact HB.out | apply below_alloc | apply pw_below_drewN | apply below_drew1) | exact HB.out)))); have n2_ := Aside0.mk (below_step (by repeat (first | (with_reducible first | exact HB.out | apply below_alloc | apply pw_below_drewN | apply below_drew1) | exact HB.out)) hb); clear HO248; clear HB; have HO248 := n0_; have HO253 := n1_; have HB := n2_; clear n0_ n1_ n2_; (try clear hb); (try clear hb2); (try clear hk); (try clear hi); (try clear ho0); obtain ⟨Ao23, co23, eo23⟩ := Kd.R_slice HO253.out; subst eo23) | (go_at_call 14; (with_reducible refine (profile_Bung.calls k _ _ t246 t249 t250 _ ?side1 ?side2 A9.out).mono ?_); (case side1 => repeat (first | exact (Kd.R_reads' HO248.out).2.2 | (with_reducible refine Kd.C_alloc ?_ _) | (with_reducible refine Kd.C_drewN ?_ _) | (with_reducible refine Kd.C_drew ?_))); (case side2 => exact (Kd.R_reads' HO248.out).2.1); rintro e w21 ⟨rfl, hb⟩; have n0_ := Aside0.mk (Kd.R_below (by (with_reducible repeat (first | apply Kd.R_alloc | apply Kd.R_drewN | apply Kd.R_drew)); exact HO248.out) hb); have n1_ := Aside0.mk (below_step (by repeat (first | (with_reducible first | exact HB.out | apply below_alloc | apply pw_below_drewN | apply below_drew1) | exact HB.out)) hb); clear HO248; clear HB; have HO248 := n0_; have HB := n1_; clear n0_ n1_; (try clear hb); (try clear hb2); (try clear hk); (try clear hi)) | (go_at_call 12; (with_reducible refine (api_Point_12.calls _ _ l0 t246 _ ?side1 ?side2 A8.out).mono ?_); (case side1 => repeat (first | exact (Kd.C_below HR0.out (by repeat (first | (with_reducible first | exact HB.out | apply below_alloc | apply pw_below_drewN | apply below_drew1) | exact HB.out))) | (with_reducible refine Kd.C_alloc ?_ _) | (with_reducible refine Kd.C_drewN ?_ _) | (with_reducible refine Kd.C_drew ?_))); (case side2 => exact HC0.out); rintro e w19 ⟨v247, rfl, ho0, hb⟩; have n0_ := Aside0.mk (Kd.R_lower ho0 (below_size (by repeat (first | (with_reducible first | exact HB.out | apply below_alloc | apply pw_below_drewN | apply below_drew1) | exact HB.out)))); have n1_ := Aside0.mk (below_step (by repeat (first | (with_reducible first | exact HB.out | apply below_alloc | apply pw_below_drewN | apply below_drew1) | exact HB.out)) hb); clear HB; have HO248 := n0_; have HB := n1_; clear n0_ n1_; (try clear hb); (try clear hb2); (try clear hk); (try clear hi); (try clear ho0); obtain ⟨Ao20, co20, eo20⟩ := Kd.R_slice HO248.out; subst eo20) | (go_at_call 10; (with_reducible refine (spileref08_Few.calls _ _ l0 true _ ?side1 ?side2 A6.out).mono ?_); (case side1 => repeat (first | exact (Kd.C_below HR0.out HB.out) | (with_reducible refine Kd.C_alloc ?_ _) | (with_reducible refine Kd.C_drewN ?_ _) | (with_reducible refine Kd.C_drew ?_))); (case side2 => exact HC0.out); rintro e w' ⟨rfl, ⟨nd, rfl⟩⟩; (try first | exact ⟨rfl, _, World.drewN_drewN _ _ _⟩ | exact ⟨rfl, _, Eq.trans (World.drewN_drewN _ _ _) (congrArg (World.drewN _) (Nat.add_assoc _ _ _))⟩)) | (go_at_call 9; (with_reducible refine (spilelaw08_awake.calls k  true _ A4.out).mono ?_); rintro e w18 ⟨rfl, hb⟩; have n0_ := Aside0.mk (below_step (by repeat (first | (with_reducible first | exact HB.out | apply below_alloc | apply pw_below_drewN | apply below_drew1) | exact HB.out)) hb); clear HB; have HB := n0_; clear n0_; (try clear hb); (try clear hb2); (try clear hk); (try clear hi)) | ((with_reducible refine gate_dst (N := 9) rfl ?_); (try (refine gate_guard (by rfl) ?_; dsimp only)); refine box_event ?hg (N := 9) ?hd (cs := #[.int .i64 0, .int .i64 0]) (t := 33) ?hr ?_; (case hd => rfl); (case hg => rfl); (case hr => first | (go_simp; done) | (go_simp; rfl)); intro gb257 hg w25 hbox hb; have n0_ := Aside0.mk (Kd.R_below (by (with_reducible repeat (first | apply Kd.R_alloc | apply Kd.R_drewN | apply Kd.R_drew)); exact HO248.out) hb); have n1_ := Aside0.mk (Kd.R_below (by (with_reducible repeat (first | apply Kd.R_alloc | apply Kd.R_drewN | apply Kd.R_drew)); exact HO253.out) hb); have n2_ := Aside0.mk (below_step (by repeat (first | (with_reducible first | exact HB.out | apply below_alloc | apply pw_below_drewN | apply below_drew1) | exact HB.out)) hb); have n3_ := Aside0.mk (hbox); have n4_ := Aside0.mk ((by rw [hg]; exact (below_size (by repeat (first | (with_reducible first | exact HB.out | apply below_alloc | apply pw_below_drewN | apply below_drew1) | exact HB.out))) : w.heap.size ≤ gb257)); have n5_ := Aside0.mk ((by rw [hg]; exact (below_size (by repeat (first | (with_reducible first | exact HB.out | apply below_alloc | apply pw_below_drewN | apply below_drew1) | exact HB.out))) : w.heap.size ≤ gb257)); clear HO248; clear HO253; clear HB; have HO248 := n0_; have HO253 := n1_; have HB := n2_; have BK257 := n3_; have GW257 := n4_; have GE257 := n5_; clear n0_ n1_ n2_ n3_ n4_ n5_; clear hb hbox hg; have hcz26_0 : w25.cell? ⟨gb257, 0, none⟩ = some (.int .i64 0) := (blk_cell BK257.out 0).trans rfl; have hcz26_1 : w25.cell? ⟨gb257, 1, none⟩ = some (.int .i64 0) := (blk_cell BK257.out 1).trans rfl; have hfz26_0 := blk_frozen BK257.out 0; have hfz26_1 := blk_frozen BK257.out 1) | (go_at_call 18; (with_reducible refine (profile_At.calls _ _ t258 ji15 t261 t262 t263 _ ?side1 ?side2 A16.out).mono ?_); (case side1 => repeat (first | exact (Kd.R_reads' HO260.out).2.2 | (with_reducible refine Kd.C_alloc ?_ _) | (with_reducible refine Kd.C_drewN ?_ _) | (with_reducible refine Kd.C_drew ?_))); (case side2 => exact (Kd.R_reads' HO260.out).2.1); rintro e w29 ⟨rfl, hb⟩; have n0_ := Aside0.mk (Kd.R_below (by (with_reducible repeat (first | apply Kd.R_alloc | apply Kd.R_drewN | apply Kd.R_drew)); exact HO248.out) hb); have n1_ := Aside0.mk (Kd.R_below (by (with_reducible repeat (first | apply Kd.R_alloc | apply Kd.R_drewN | apply Kd.R_drew)); exact HO253.out) hb); have n2_ := Aside0.mk (Kd.R_below (by (with_reducible repeat (first | apply Kd.R_alloc | apply Kd.R_drewN | apply Kd.R_drew)); exact HO260.out) hb); have n3_ := Aside0.mk (blk_below (g := gb257) (o := .cells #[.int .i64 t254, .int .i64 t255] 33 (0, 0)) (by (with_reducible repeat (first | refine blk_drewN ?_ _ | refine blk_drew ?_ | refine blk_alloc ?_ _)); exact BK257.out) hb); have n4_ := Aside0.mk (below_step (by repeat (first | (with_reducible first | exact HB.out | apply below_alloc | apply pw_below_drewN | apply below_drew1 | refine below_set ?_ GE257.out) | exact HB.out)) hb); clear HO248; clear HO253; clear HO260; clear BK257; clear HB; have HO248 := n0_; have HO253 := n1_; have HO260 := n2_; have BK257 := n3_; have HB := n4_; clear n0_ n1_ n2_ n3_ n4_; (try clear hb); (try clear hb2); (try clear hk); (try clear hi)) | (go_at_call 12; (with_reducible refine (api_Point_12.calls _ _ l0 t258 _ ?side1 ?side2 A14.out).mono ?_); (case side1 => exact Kd.C_below HR0.out (by repeat (first | (with_reducible first | exact HB.out | apply below_alloc | apply pw_below_drewN | apply below_drew1 | refine below_set ?_ GE257.out) | exact HB.out))); (case side2 => exact HC0.out); rintro e w27 ⟨v259, rfl, ho0, hb⟩; have n0_ := Aside0.mk (Kd.R_elder' (by (with_reducible repeat (first | apply Kd.R_alloc | apply Kd.R_drewN | apply Kd.R_drew)); exact (Kd.R_mono (Kd.R_far (p := ⟨gb257, 1, none⟩) (Kd.R_far (p := ⟨gb257, 0, none⟩) (Kd.R_types HO248.out BK257.out (by decide)) (fun _ hk => hk.2) (.int .i64 t254)) (fun _ hk => hk.2) (.int .i64 t255)) (fun _ h_ => h_.1))) (Kd.R_base ho0) hb); have n1_ := Aside0.mk (Kd.R_elder' (by (with_reducible repeat (first | apply Kd.R_alloc | apply Kd.R_drewN | apply Kd.R_drew)); exact (Kd.R_mono (Kd.R_far (p := ⟨gb257, 1, none⟩) (Kd.R_far (p := ⟨gb257, 0, none⟩) (Kd.R_types HO253.out BK257.out (by decide)) (fun _ hk => hk.2) (.int .i64 t254)) (fun _ hk => hk.2) (.int .i64 t255)) (fun _ h_ => h_.1))) (Kd.R_base ho0) hb); have n2_ := Aside0.mk (Kd.R_lower (Kd.R_new' (Kd.R_new' ho0 (Kd.R_lt (by (with_reducible repeat (first | apply Kd.R_alloc | apply Kd.R_drewN | apply Kd.R_drew)); exact (Kd.R_mono (Kd.R_far (p := ⟨gb257, 1, none⟩) (Kd.R_far (p := ⟨gb257, 0, none⟩) (Kd.R_types HO248.out BK257.out (by decide)) (fun _ hk => hk.2) (.int .i64 t254)) (fun _ hk => hk.2) (.int .i64 t255)) (fun _ h_ => h_.1))))) (Kd.R_lt (by (with_reducible repeat (first | apply Kd.R_alloc | apply Kd.R_drewN | apply Kd.R_drew)); exact (Kd.R_mono (Kd.R_far (p := ⟨gb257, 1, none⟩) (Kd.R_far (p := ⟨gb257, 0, none⟩) (Kd.R_types HO253.out BK257.out (by decide)) (fun _ hk => hk.2) (.int .i64 t254)) (fun _ hk => hk.2) (.int .i64 t255)) (fun _ h_ => h_.1))))) (below_size (by repeat (first | (with_reducible first | exact HB.out | apply below_alloc | apply pw_below_drewN | apply below_drew1 | refine below_set ?_ GE257.out) | exact HB.out)))); have n3_ := Aside0.mk (blk_below (g := gb257) (o := .cells #[.int .i64 t254, .int .i64 t255] 33 (0, 0)) (by (with_reducible repeat (first | refine blk_drewN ?_ _ | refine blk_drew ?_ | refine blk_alloc ?_ _)); refine blk_put (cs := #[.int .i64 t254, .int .i64 0]) ?_ 1 _ rfl; (with_reducible repeat (first | refine blk_drewN ?_ _ | refine blk_drew ?_ | refine blk_alloc ?_ _)); refine blk_put (cs := #[.int .i64 0, .int .i64 0]) ?_ 0 _ rfl; (with_reducible repeat (first | refine blk_drewN ?_ _ | refine blk_drew ?_ | refine blk_alloc ?_ _)); exact BK257.out) hb); have n4_ := Aside0.mk (below_step (by repeat (first | (with_reducible first | exact HB.out | apply below_alloc | apply pw_below_drewN | apply below_drew1 | refine below_set ?_ GE257.out) | exact HB.out)) hb); clear HO248; clear HO253; clear BK257; clear HB; have HO248 := n0_; have HO253 := n1_; have HO260 := n2_; have BK257 := n3_; have HB := n4_; clear n0_ n1_ n2_ n3_ n4_; (try clear hb); (try clear hb2); (try clear hk); (try clear hi); (try clear ho0); obtain ⟨Ao28, co28, eo28⟩ := Kd.R_slice HO260.out; subst eo28) | ((with_reducible refine gate_dst (N := 11) rfl ?_); (try (refine gate_guard (by rfl) ?_; dsimp only)); refine box_event ?hg (N := 11) ?hd (cs := #[.int .i64 0, .int .i64 0]) (t := 33) ?hr ?_; (case hd => rfl); (case hg => rfl); (case hr => first | (go_simp; done) | (go_simp; rfl)); intro gb264 hg w30 hbox hb; have n0_ := Aside0.mk (Kd.R_below (by (with_reducible repeat (first | apply Kd.R_alloc | apply Kd.R_drewN | apply Kd.R_drew)); exact HO248.out) hb); have n1_ := Aside0.mk (Kd.R_below (by (with_reducible repeat (first | apply Kd.R_alloc | apply Kd.R_drewN | apply Kd.R_drew)); exact HO253.out) hb); have n2_ := Aside0.mk (Kd.R_below (by (with_reducible repeat (first | apply Kd.R_alloc | apply Kd.R_drewN | apply Kd.R_drew)); exact HO260.out) hb); have n3_ := Aside0.mk (blk_below (g := gb257) (o := .cells #[.int .i64 t254, .int .i64 t255] 33 (0, 0)) (by (with_reducible repeat (first | refine blk_drewN ?_ _ | refine blk_drew ?_ | refine blk_alloc ?_ _)); exact BK257.out) hb); have n4_ := Aside0.mk (below_step (by repeat (first | (with_reducible first | exact HB.out | apply below_alloc | apply pw_below_drewN | apply below_drew1 | refine below_set ?_ GE257.out) | exact HB.out)) hb); have n5_ := Aside0.mk (hbox); have n6_ := Aside0.mk ((by rw [hg]; exact (below_size (by repeat (first | (with_reducible first | exact HB.out | apply below_alloc | apply pw_below_drewN | apply below_drew1 | refine below_set ?_ GE257.out) | exact HB.out))) : w.heap.size ≤ gb264)); have n7_ := Aside0.mk ((by rw [hg]; exact (below_size (by repeat (first | (with_reducible first | exact HB.out | apply below_alloc | apply pw_below_drewN | apply below_drew1 | refine below_set ?_ GE257.out) | exact HB.out))) : w.heap.size ≤ gb264)); have n8_ := Aside0.mk ((by rw [hg]; exact Nat.ne_of_lt (blk_lt (g := gb257) (o := .cells #[.int .i64 t254, .int .i64 t255] 33 (0, 0)) (by (with_reducible repeat (first | refine blk_drewN ?_ _ | refine blk_drew ?_ | refine blk_alloc ?_ _)); exact BK257.out)) : gb257 ≠ gb264)); have n9_ := Aside0.mk ((by rw [hg]; exact Nat.ne_of_gt (blk_lt (g := gb257) (o := .cells #[.int .i64 t254, .int .i64 t255] 33 (0, 0)) (by (with_reducible repeat (first | refine blk_drewN ?_ _ | refine blk_drew ?_ | refine blk_alloc ?_ _)); exact BK257.out)) : gb264 ≠ gb257)); clear HO248; clear HO253; clear HO260; clear BK257; clear HB; have HO248 := n0_; have HO253 := n1_; have HO260 := n2_; have BK257 := n3_; have HB := n4_; have BK264 := n5_; have GW264 := n6_; have GE264 := n7_; have NB257_264 := n8_; have NB264_257 := n9_; clear n0_ n1_ n2_ n3_ n4_ n5_ n6_ n7_ n8_ n9_; clear hb hbox hg; have hnb31 := NB264_257.out; have hnc31 := NB257_264.out; have hcz32_0 : w30.cell? ⟨gb264, 0, none⟩ = some (.int .i64 0) := (blk_cell BK264.out 0).trans rfl; have hcz32_1 : w30.cell? ⟨gb264, 1, none⟩ = some (.int .i64 0) := (blk_cell BK264.out 1).trans rfl; have hfz32_0 := blk_frozen BK264.out 0; have hfz32_1 := blk_frozen BK264.out 1)); go_upto_region 10 with (first | (go_at_call 18; (with_reducible refine (profile_At.calls _ _ t251 ji12 t254 t255 t256 _ ?side1 ?side2 A13.out).mono ?_); (case side1 => repeat (first | exact (Kd.R_reads' HO253.out).2.2 | (with_reducible refine Kd.C_alloc ?_ _) | (with_reducible refine Kd.C_drewN ?_ _) | (with_reducible refine Kd.C_drew ?_))); (case side2 => exact (Kd.R_reads' HO253.out).2.1); rintro e w24 ⟨rfl, hb⟩; have n0_ := Aside0.mk (Kd.R_below (by (with_reducible repeat (first | apply Kd.R_alloc | apply Kd.R_drewN | apply Kd.R_drew)); exact HO248.out) hb); have n1_ := Aside0.mk (Kd.R_below (by (with_reducible repeat (first | apply Kd.R_alloc | apply Kd.R_drewN | apply Kd.R_drew)); exact HO253.out) hb); have n2_ := Aside0.mk (below_step (by repeat (first | (with_reducible first | exact HB.out | apply below_alloc | apply pw_below_drewN | apply below_drew1) | exact HB.out)) hb); clear HO248; clear HO253; clear HB; have HO248 := n0_; have HO253 := n1_; have HB := n2_; clear n0_ n1_ n2_; (try clear hb); (try clear hb2); (try clear hk); (try clear hi)) | (go_at_call 12; (with_reducible refine (api_Point_12.calls _ _ l0 t251 _ ?side1 ?side2 A11.out).mono ?_); (case side1 => repeat (first | exact (Kd.C_below HR0.out HB.out) | (with_reducible refine Kd.C_alloc ?_ _) | (with_reducible refine Kd.C_drewN ?_ _) | (with_reducible refine Kd.C_drew ?_))); (case side2 => exact HC0.out); rintro e w22 ⟨v252, rfl, ho0, hb⟩; have n0_ := Aside0.mk (Kd.R_elder' (by (with_reducible repeat (first | apply Kd.R_alloc | apply Kd.R_drewN | apply Kd.R_drew)); exact HO248.out) (Kd.R_base ho0) hb); have n1_ := Aside0.mk (Kd.R_lower (Kd.R_new' ho0 (Kd.R_lt (by (with_reducible repeat (first | apply Kd.R_alloc | apply Kd.R_drewN | apply Kd.R_drew)); exact HO248.out))) (below_size (by repeat (first | (with_reducible first | exact HB.out | apply below_alloc | apply pw_below_drewN | apply below_drew1) | exact HB.out)))); have n2_ := Aside0.mk (below_step (by repeat (first | (with_reducible first | exact HB.out | apply below_alloc | apply pw_below_drewN | apply below_drew1) | exact HB.out)) hb); clear HO248; clear HB; have HO248 := n0_; have HO253 := n1_; have HB := n2_; clear n0_ n1_ n2_; (try clear hb); (try clear hb2); (try clear hk); (try clear hi); (try clear ho0); obtain ⟨Ao23, co23, eo23⟩ := Kd.R_slice HO253.out; subst eo23) | (go_at_call 14; (with_reducible refine (profile_Bung.calls k _ _ t246 t249 t250 _ ?side1 ?side2 A9.out).mono ?_); (case side1 => repeat (first | exact (Kd.R_reads' HO248.out).2.2 | (with_reducible refine Kd.C_alloc ?_ _) | (with_reducible refine Kd.C_drewN ?_ _) | (with_reducible refine Kd.C_drew ?_))); (case side2 => exact (Kd.R_reads' HO248.out).2.1); rintro e w21 ⟨rfl, hb⟩; have n0_ := Aside0.mk (Kd.R_below (by (with_reducible repeat (first | apply Kd.R_alloc | apply Kd.R_drewN | apply Kd.R_drew)); exact HO248.out) hb); have n1_ := Aside0.mk (below_step (by repeat (first | (with_reducible first | exact HB.out | apply below_alloc | apply pw_below_drewN | apply below_drew1) | exact HB.out)) hb); clear HO248; clear HB; have HO248 := n0_; have HB := n1_; clear n0_ n1_; (try clear hb); (try clear hb2); (try clear hk); (try clear hi)) | (go_at_call 12; (with_reducible refine (api_Point_12.calls _ _ l0 t246 _ ?side1 ?side2 A8.out).mono ?_); (case side1 => repeat (first | exact (Kd.C_below HR0.out (by repeat (first | (with_reducible first | exact HB.out | apply below_alloc | apply pw_below_drewN | apply below_drew1) | exact HB.out))) | (with_reducible refine Kd.C_alloc ?_ _) | (with_reducible refine Kd.C_drewN ?_ _) | (with_reducible refine Kd.C_drew ?_))); (case side2 => exact HC0.out); rintro e w19 ⟨v247, rfl, ho0, hb⟩; have n0_ := Aside0.mk (Kd.R_lower ho0 (below_size (by repeat (first | (with_reducible first | exact HB.out | apply below_alloc | apply pw_below_drewN | apply below_drew1) | exact HB.out)))); have n1_ := Aside0.mk (below_step (by repeat (first | (with_reducible first | exact HB.out | apply below_alloc | apply pw_below_drewN | apply below_drew1) | exact HB.out)) hb); clear HB; have HO248 := n0_; have HB := n1_; clear n0_ n1_; (try clear hb); (try clear hb2); (try clear hk); (try clear hi); (try clear ho0); obtain ⟨Ao20, co20, eo20⟩ := Kd.R_slice HO248.out; subst eo20) | (go_at_call 10; (with_reducible refine (spileref08_Few.calls _ _ l0 true _ ?side1 ?side2 A6.out).mono ?_); (case side1 => repeat (first | exact (Kd.C_below HR0.out HB.out) | (with_reducible refine Kd.C_alloc ?_ _) | (with_reducible refine Kd.C_drewN ?_ _) | (with_reducible refine Kd.C_drew ?_))); (case side2 => exact HC0.out); rintro e w' ⟨rfl, ⟨nd, rfl⟩⟩; (try first | exact ⟨rfl, _, World.drewN_drewN _ _ _⟩ | exact ⟨rfl, _, Eq.trans (World.drewN_drewN _ _ _) (congrArg (World.drewN _) (Nat.add_assoc _ _ _))⟩)) | (go_at_call 9; (with_reducible refine (spilelaw08_awake.calls k  true _ A4.out).mono ?_); rintro e w18 ⟨rfl, hb⟩; have n0_ := Aside0.mk (below_step (by repeat (first | (with_reducible first | exact HB.out | apply below_alloc | apply pw_below_drewN | apply below_drew1) | exact HB.out)) hb); clear HB; have HB := n0_; clear n0_; (try clear hb); (try clear hb2); (try clear hk); (try clear hi)) | ((with_reducible refine gate_dst (N := 9) rfl ?_); (try (refine gate_guard (by rfl) ?_; dsimp only)); refine box_event ?hg (N := 9) ?hd (cs := #[.int .i64 0, .int .i64 0]) (t := 33) ?hr ?_; (case hd => rfl); (case hg => rfl); (case hr => first | (go_simp; done) | (go_simp; rfl)); intro gb257 hg w25 hbox hb; have n0_ := Aside0.mk (Kd.R_below (by (with_reducible repeat (first | apply Kd.R_alloc | apply Kd.R_drewN | apply Kd.R_drew)); exact HO248.out) hb); have n1_ := Aside0.mk (Kd.R_below (by (with_reducible repeat (first | apply Kd.R_alloc | apply Kd.R_drewN | apply Kd.R_drew)); exact HO253.out) hb); have n2_ := Aside0.mk (below_step (by repeat (first | (with_reducible first | exact HB.out | apply below_alloc | apply pw_below_drewN | apply below_drew1) | exact HB.out)) hb); have n3_ := Aside0.mk (hbox); have n4_ := Aside0.mk ((by rw [hg]; exact (below_size (by repeat (first | (with_reducible first | exact HB.out | apply below_alloc | apply pw_below_drewN | apply below_drew1) | exact HB.out))) : w.heap.size ≤ gb257)); have n5_ := Aside0.mk ((by rw [hg]; exact (below_size (by repeat (first | (with_reducible first | exact HB.out | apply below_alloc | apply pw_below_drewN | apply below_drew1) | exact HB.out))) : w.heap.size ≤ gb257)); clear HO248; clear HO253; clear HB; have HO248 := n0_; have HO253 := n1_; have HB := n2_; have BK257 := n3_; have GW257 := n4_; have GE257 := n5_; clear n0_ n1_ n2_ n3_ n4_ n5_; clear hb hbox hg; have hcz26_0 : w25.cell? ⟨gb257, 0, none⟩ = some (.int .i64 0) := (blk_cell BK257.out 0).trans rfl; have hcz26_1 : w25.cell? ⟨gb257, 1, none⟩ = some (.int .i64 0) := (blk_cell BK257.out 1).trans rfl; have hfz26_0 := blk_frozen BK257.out 0; have hfz26_1 := blk_frozen BK257.out 1) | (go_at_call 18; (with_reducible refine (profile_At.calls _ _ t258 ji15 t261 t262 t263 _ ?side1 ?side2 A16.out).mono ?_); (case side1 => repeat (first | exact (Kd.R_reads' HO260.out).2.2 | (with_reducible refine Kd.C_alloc ?_ _) | (with_reducible refine Kd.C_drewN ?_ _) | (with_reducible refine Kd.C_drew ?_))); (case side2 => exact (Kd.R_reads' HO260.out).2.1); rintro e w29 ⟨rfl, hb⟩; have n0_ := Aside0.mk (Kd.R_below (by (with_reducible repeat (first | apply Kd.R_alloc | apply Kd.R_drewN | apply Kd.R_drew)); exact HO248.out) hb); have n1_ := Aside0.mk (Kd.R_below (by (with_reducible repeat (first | apply Kd.R_alloc | apply Kd.R_drewN | apply Kd.R_drew)); exact HO253.out) hb); have n2_ := Aside0.mk (Kd.R_below (by (with_reducible repeat (first | apply Kd.R_alloc | apply Kd.R_drewN | apply Kd.R_drew)); exact HO260.out) hb); have n3_ := Aside0.mk (blk_below (g := gb257) (o := .cells #[.int .i64 t254, .int .i64 t255] 33 (0, 0)) (by (with_reducible repeat (first | refine blk_drewN ?_ _ | refine blk_drew ?_ | refine blk_alloc ?_ _)); exact BK257.out) hb); have n4_ := Aside0.mk (below_step (by repeat (first | (with_reducible first | exact HB.out | apply below_alloc | apply pw_below_drewN | apply below_drew1 | refine below_set ?_ GE257.out) | exact HB.out)) hb); clear HO248; clear HO253; clear HO260; clear BK257; clear HB; have HO248 := n0_; have HO253 := n1_; have HO260 := n2_; have BK257 := n3_; have HB := n4_; clear n0_ n1_ n2_ n3_ n4_; (try clear hb); (try clear hb2); (try clear hk); (try clear hi)) | (go_at_call 12; (with_reducible refine (api_Point_12.calls _ _ l0 t258 _ ?side1 ?side2 A14.out).mono ?_); (case side1 => exact Kd.C_below HR0.out (by repeat (first | (with_reducible first | exact HB.out | apply below_alloc | apply pw_below_drewN | apply below_drew1 | refine below_set ?_ GE257.out) | exact HB.out))); (case side2 => exact HC0.out); rintro e w27 ⟨v259, rfl, ho0, hb⟩; have n0_ := Aside0.mk (Kd.R_elder' (by (with_reducible repeat (first | apply Kd.R_alloc | apply Kd.R_drewN | apply Kd.R_drew)); exact (Kd.R_mono (Kd.R_far (p := ⟨gb257, 1, none⟩) (Kd.R_far (p := ⟨gb257, 0, none⟩) (Kd.R_types HO248.out BK257.out (by decide)) (fun _ hk => hk.2) (.int .i64 t254)) (fun _ hk => hk.2) (.int .i64 t255)) (fun _ h_ => h_.1))) (Kd.R_base ho0) hb); have n1_ := Aside0.mk (Kd.R_elder' (by (with_reducible repeat (first | apply Kd.R_alloc | apply Kd.R_drewN | apply Kd.R_drew)); exact (Kd.R_mono (Kd.R_far (p := ⟨gb257, 1, none⟩) (Kd.R_far (p := ⟨gb257, 0, none⟩) (Kd.R_types HO253.out BK257.out (by decide)) (fun _ hk => hk.2) (.int .i64 t254)) (fun _ hk => hk.2) (.int .i64 t255)) (fun _ h_ => h_.1))) (Kd.R_base ho0) hb); have n2_ := Aside0.mk (Kd.R_lower (Kd.R_new' (Kd.R_new' ho0 (Kd.R_lt (by (with_reducible repeat (first | apply Kd.R_alloc | apply Kd.R_drewN | apply Kd.R_drew)); exact (Kd.R_mono (Kd.R_far (p := ⟨gb257, 1, none⟩) (Kd.R_far (p := ⟨gb257, 0, none⟩) (Kd.R_types HO248.out BK257.out (by decide)) (fun _ hk => hk.2) (.int .i64 t254)) (fun _ hk => hk.2) (.int .i64 t255)) (fun _ h_ => h_.1))))) (Kd.R_lt (by (with_reducible repeat (first | apply Kd.R_alloc | apply Kd.R_drewN | apply Kd.R_drew)); exact (Kd.R_mono (Kd.R_far (p := ⟨gb257, 1, none⟩) (Kd.R_far (p := ⟨gb257, 0, none⟩) (Kd.R_types HO253.out BK257.out (by decide)) (fun _ hk => hk.2) (.int .i64 t254)) (fun _ hk => hk.2) (.int .i64 t255)) (fun _ h_ => h_.1))))) (below_size (by repeat (first | (with_reducible first | exact HB.out | apply below_alloc | apply pw_below_drewN | apply below_drew1 | refine below_set ?_ GE257.out) | exact HB.out)))); have n3_ := Aside0.mk (blk_below (g := gb257) (o := .cells #[.int .i64 t254, .int .i64 t255] 33 (0, 0)) (by (with_reducible repeat (first | refine blk_drewN ?_ _ | refine blk_drew ?_ | refine blk_alloc ?_ _)); refine blk_put (cs := #[.int .i64 t254, .int .i64 0]) ?_ 1 _ rfl; (with_reducible repeat (first | refine blk_drewN ?_ _ | refine blk_drew ?_ | refine blk_alloc ?_ _)); refine blk_put (cs := #[.int .i64 0, .int .i64 0]) ?_ 0 _ rfl; (with_reducible repeat (first | refine blk_drewN ?_ _ | refine blk_drew ?_ | refine blk_alloc ?_ _)); exact BK257.out) hb); have n4_ := Aside0.mk (below_step (by repeat (first | (with_reducible first | exact HB.out | apply below_alloc | apply pw_below_drewN | apply below_drew1 | refine below_set ?_ GE257.out) | exact HB.out)) hb); clear HO248; clear HO253; clear BK257; clear HB; have HO248 := n0_; have HO253 := n1_; have HO260 := n2_; have BK257 := n3_; have HB := n4_; clear n0_ n1_ n2_ n3_ n4_; (try clear hb); (try clear hb2); (try clear hk); (try clear hi); (try clear ho0); obtain ⟨Ao28, co28, eo28⟩ := Kd.R_slice HO260.out; subst eo28) | ((with_reducible refine gate_dst (N := 11) rfl ?_); (try (refine gate_guard (by rfl) ?_; dsimp only)); refine box_event ?hg (N := 11) ?hd (cs := #[.int .i64 0, .int .i64 0]) (t := 33) ?hr ?_; (case hd => rfl); (case hg => rfl); (case hr => first | (go_simp; done) | (go_simp; rfl)); intro gb264 hg w30 hbox hb; have n0_ := Aside0.mk (Kd.R_below (by (with_reducible repeat (first | apply Kd.R_alloc | apply Kd.R_drewN | apply Kd.R_drew)); exact HO248.out) hb); have n1_ := Aside0.mk (Kd.R_below (by (with_reducible repeat (first | apply Kd.R_alloc | apply Kd.R_drewN | apply Kd.R_drew)); exact HO253.out) hb); have n2_ := Aside0.mk (Kd.R_below (by (with_reducible repeat (first | apply Kd.R_alloc | apply Kd.R_drewN | apply Kd.R_drew)); exact HO260.out) hb); have n3_ := Aside0.mk (blk_below (g := gb257) (o := .cells #[.int .i64 t254, .int .i64 t255] 33 (0, 0)) (by (with_reducible repeat (first | refine blk_drewN ?_ _ | refine blk_drew ?_ | refine blk_alloc ?_ _)); exact BK257.out) hb); have n4_ := Aside0.mk (below_step (by repeat (first | (with_reducible first | exact HB.out | apply below_alloc | apply pw_below_drewN | apply below_drew1 | refine below_set ?_ GE257.out) | exact HB.out)) hb); have n5_ := Aside0.mk (hbox); have n6_ := Aside0.mk ((by rw [hg]; exact (below_size (by repeat (first | (with_reducible first | exact HB.out | apply below_alloc | apply pw_below_drewN | apply below_drew1 | refine below_set ?_ GE257.out) | exact HB.out))) : w.heap.size ≤ gb264)); have n7_ := Aside0.mk ((by rw [hg]; exact (below_size (by repeat (first | (with_reducible first | exact HB.out | apply below_alloc | apply pw_below_drewN | apply below_drew1 | refine below_set ?_ GE257.out) | exact HB.out))) : w.heap.size ≤ gb264)); have n8_ := Aside0.mk ((by rw [hg]; exact Nat.ne_of_lt (blk_lt (g := gb257) (o := .cells #[.int .i64 t254, .int .i64 t255] 33 (0, 0)) (by (with_reducible repeat (first | refine blk_drewN ?_ _ | refine blk_drew ?_ | refine blk_alloc ?_ _)); exact BK257.out)) : gb257 ≠ gb264)); have n9_ := Aside0.mk ((by rw [hg]; exact Nat.ne_of_gt (blk_lt (g := gb257) (o := .cells #[.int .i64 t254, .int .i64 t255] 33 (0, 0)) (by (with_reducible repeat (first | refine blk_drewN ?_ _ | refine blk_drew ?_ | refine blk_alloc ?_ _)); exact BK257.out)) : gb264 ≠ gb257)); clear HO248; clear HO253; clear HO260; clear BK257; clear HB; have HO248 := n0_; have HO253 := n1_; have HO260 := n2_; have BK257 := n3_; have HB := n4_; have BK264 := n5_; have GW264 := n6_; have GE264 := n7_; have NB257_264 := n8_; have NB264_257 := n9_; clear n0_ n1_ n2_ n3_ n4_ n5_ n6_ n7_ n8_ n9_; clear hb hbox hg; have hnb31 := NB264_257.out; have hnc31 := NB257_264.out; have hcz32_0 : w30.cell? ⟨gb264, 0, none⟩ = some (.int .i64 0) := (blk_cell BK264.out 0).trans rfl; have hcz32_1 : w30.cell? ⟨gb264, 1, none⟩ = some (.int .i64 0) := (blk_cell BK264.out 1).trans rfl; have hfz32_0 := blk_frozen BK264.out 0; have hfz32_1 := blk_frozen BK264.out 1)))
        (try simp only [Act.put, List.setIfInBounds_toArray, List.set_cons_zero, List.set_cons_succ])
        go_cut [51] (fun v51 wc => ∃ (kq : Nat) (x51_16 : Bool), v51 = .bool x51_16 ∧ Aside0 (spilelaw08_ProfileBulges.j0 kq l0 a1 a2 t249 t256 t263 x51_16 t254 t255 t261 t262 = some r) ∧ Aside0 (kq ≤ k) ∧ Aside0 (wc.heap[gb257]? = some (.cells #[.int .i64 t254, .int .i64 t255] 33 (0, 0))) ∧ Aside0 (wc.heap[gb264]? = some (.cells #[.int .i64 t261, .int .i64 t262] 33 (0, 0))) ∧ Aside0 (Below w.heap.size w wc))
        case first =>
          have H := HC17.out
          clear HC17
          by_cases c33 : t256 = 0
          · rw [if_pos c33] at H
            have c33b0 : (t256 == 0) = true := beq_iff_eq.mpr c33
            have c33b1 : (t256 != 0) = false := bne_eq_false_iff_eq.mpr c33
            clear c33
            (first | rw [c33b0] | (simp only [i64_w, i32_w]; rw [c33b0]) | skip)
            have H' := Aside0.mk H
            clear H
            go_wp2
            repeat (go_quiet (fail); try go_wp2)
            go_meet
            case rel => exact ⟨_, ((t263 != 0)), (by first | rfl | (simp; done) | (simp [*]; done)), H', ⟨by first | omega | exact Nat.le_refl _⟩, ⟨by (with_reducible repeat (first | refine blk_drewN ?_ _ | refine blk_drew ?_ | refine blk_alloc ?_ _)); refine blk_far ?_ NB257_264.out _; (with_reducible repeat (first | refine blk_drewN ?_ _ | refine blk_drew ?_ | refine blk_alloc ?_ _)); refine blk_far ?_ NB257_264.out _; (with_reducible repeat (first | refine blk_drewN ?_ _ | refine blk_drew ?_ | refine blk_alloc ?_ _)); exact BK257.out⟩, ⟨by (with_reducible repeat (first | refine blk_drewN ?_ _ | refine blk_drew ?_ | refine blk_alloc ?_ _)); refine blk_put (cs := #[.int .i64 t261, .int .i64 0]) ?_ 1 _ rfl; (with_reducible repeat (first | refine blk_drewN ?_ _ | refine blk_drew ?_ | refine blk_alloc ?_ _)); refine blk_put (cs := #[.int .i64 0, .int .i64 0]) ?_ 0 _ rfl; (with_reducible repeat (first | refine blk_drewN ?_ _ | refine blk_drew ?_ | refine blk_alloc ?_ _)); exact BK264.out⟩, ⟨by repeat (first | (with_reducible first | exact HB.out | apply below_alloc | apply pw_below_drewN | apply below_drew1 | refine below_set ?_ GE257.out | refine below_set ?_ GE264.out) | exact HB.out)⟩⟩
          · rw [if_neg c33] at H
            have c33b0 : (t256 == 0) = false := beq_eq_false_iff_ne.mpr c33
            have c33b1 : (t256 != 0) = true := bne_iff_ne.mpr c33
            (first | rw [c33b0] | (simp only [i64_w, i32_w]; rw [c33b0]) | skip)
            have H' := Aside0.mk H
            clear H
            go_wp2
            repeat (go_quiet (fail); try go_wp2)
            go_meet
            case rel => exact ⟨_, (true), (by first | rfl | (simp; done) | (simp [*]; done)), H', ⟨by first | omega | exact Nat.le_refl _⟩, ⟨by (with_reducible repeat (first | refine blk_drewN ?_ _ | refine blk_drew ?_ | refine blk_alloc ?_ _)); refine blk_far ?_ NB257_264.out _; (with_reducible repeat (first | refine blk_drewN ?_ _ | refine blk_drew ?_ | refine blk_alloc ?_ _)); refine blk_far ?_ NB257_264.out _; (with_reducible repeat (first | refine blk_drewN ?_ _ | refine blk_drew ?_ | refine blk_alloc ?_ _)); exact BK257.out⟩, ⟨by (with_reducible repeat (first | refine blk_drewN ?_ _ | refine blk_drew ?_ | refine blk_alloc ?_ _)); refine blk_put (cs := #[.int .i64 t261, .int .i64 0]) ?_ 1 _ rfl; (with_reducible repeat (first | refine blk_drewN ?_ _ | refine blk_drew ?_ | refine blk_alloc ?_ _)); refine blk_put (cs := #[.int .i64 0, .int .i64 0]) ?_ 0 _ rfl; (with_reducible repeat (first | refine blk_drewN ?_ _ | refine blk_drew ?_ | refine blk_alloc ?_ _)); exact BK264.out⟩, ⟨by repeat (first | (with_reducible first | exact HB.out | apply below_alloc | apply pw_below_drewN | apply below_drew1 | refine below_set ?_ GE257.out | refine below_set ?_ GE264.out) | exact HB.out)⟩⟩
        case rest =>
          clear HC17
          try clear c1
          try clear p2
          try clear c3
          try clear c5
          try clear c7
          try clear c10
          try clear c10b0
          try clear c10b1
          try clear c31
          try clear c33
          try clear c33b0
          try clear c33b1
          try clear hcz26_0
          try clear hcz26_1
          try clear hcz32_0
          try clear hcz32_1
          try clear hfz26_0
          try clear hfz26_1
          try clear hfz32_0
          try clear hfz32_1
          obtain ⟨kq, x51_16, rfl, HA, HJ16, BK257, BK264, HB⟩ := hcut
          cases kq with
          | zero => exact absurd HA.out (by simp [spilelaw08_ProfileBulges.j0])
          | succ kj16 =>
            have H := HA.out
            clear HA
            simp only [spilelaw08_ProfileBulges.j0] at H
            by_cases c34 : x51_16 = true
            · subst c34
              have H1 : (if t256 = 0 then (if t263 = 0 then (some true) else (some (t261 == 0 && (t262 == 0)))) else (if (t254 == 0 && (t255 == 0)) = true then (if t263 = 0 then (some true) else (some (t261 == 0 && (t262 == 0)))) else (some false))) = some r := by rw [if_pos rfl] at H; exact H
              clear H
              have H := H1
              clear H1
              by_cases c35 : t256 = 0
              · rw [if_pos c35] at H
                have c35b0 : (t256 == 0) = true := beq_iff_eq.mpr c35
                have c35b1 : (t256 != 0) = false := bne_eq_false_iff_eq.mpr c35
                clear c35
                by_cases c36 : t263 = 0
                · rw [if_pos c36] at H
                  have c36b0 : (t263 == 0) = true := beq_iff_eq.mpr c36
                  have c36b1 : (t263 != 0) = false := bne_eq_false_iff_eq.mpr c36
                  clear c36
                  obtain rfl := Option.some.inj H
                  go_wp2
                  repeat (go_quiet (fail); try go_wp2)
                  go_ret
                  exact ⟨by first | rfl | (simp [errW_none, errW_some] <;> rfl) | (simp only [← hji12, ← hji15]; first | rfl | (simp [errW_none, errW_some] <;> rfl)) | (simp [*, errW_none, errW_some] <;> rfl), by repeat (first | (with_reducible first | exact HB.out | apply below_alloc | apply pw_below_drewN | apply below_drew1 | refine below_set ?_ GE257.out | refine below_set ?_ GE264.out) | exact HB.out)⟩
                · rw [if_neg c36] at H
                  have c36b0 : (t263 == 0) = false := beq_eq_false_iff_ne.mpr c36
                  have c36b1 : (t263 != 0) = true := bne_iff_ne.mpr c36
                  obtain rfl := Option.some.inj H
                  have hnb37 := NB264_257.out
                  have hnc37 := NB257_264.out
                  have hcz38_0 : wc.cell? ⟨gb264, 0, none⟩ = some (.int .i64 t261) := (blk_cell BK264.out 0).trans rfl
                  have hcz38_1 : wc.cell? ⟨gb264, 1, none⟩ = some (.int .i64 t262) := (blk_cell BK264.out 1).trans rfl
                  have hfz38_0 := blk_frozen BK264.out 0
                  have hfz38_1 := blk_frozen BK264.out 1
                  go_wp2
                  repeat (go_quiet (fail); try go_wp2)
                  go_ret
                  exact ⟨by first | rfl | (simp [errW_none, errW_some] <;> rfl) | (simp only [← hji12, ← hji15]; first | rfl | (simp [errW_none, errW_some] <;> rfl)) | (simp [*, errW_none, errW_some] <;> rfl), by repeat (first | (with_reducible first | exact HB.out | apply below_alloc | apply pw_below_drewN | apply below_drew1 | refine below_set ?_ GE257.out | refine below_set ?_ GE264.out) | exact HB.out)⟩
              · rw [if_neg c35] at H
                have c35b0 : (t256 == 0) = false := beq_eq_false_iff_ne.mpr c35
                have c35b1 : (t256 != 0) = true := bne_iff_ne.mpr c35
                by_cases c39 : (t254 == 0 && (t255 == 0)) = true
                · rw [if_pos c39] at H
                  have c39b0 : (t254 == 0 && (t255 == 0)) = true := c39
                  (try (have c39b1 : decide (t254 = 0 && (t255 == 0)) = true := by simpa using c39))
                  (try (have c39b2 : (t254 == 0 && (t255 == 0)) = true := by simpa using c39))
                  clear c39
                  by_cases c40 : t263 = 0
                  · rw [if_pos c40] at H
                    have c40b0 : (t263 == 0) = true := beq_iff_eq.mpr c40
                    have c40b1 : (t263 != 0) = false := bne_eq_false_iff_eq.mpr c40
                    clear c40
                    obtain rfl := Option.some.inj H
                    have hnb41 := NB257_264.out
                    have hnc41 := NB264_257.out
                    have hcz42_0 : wc.cell? ⟨gb257, 0, none⟩ = some (.int .i64 t254) := (blk_cell BK257.out 0).trans rfl
                    have hcz42_1 : wc.cell? ⟨gb257, 1, none⟩ = some (.int .i64 t255) := (blk_cell BK257.out 1).trans rfl
                    have hfz42_0 := blk_frozen BK257.out 0
                    have hfz42_1 := blk_frozen BK257.out 1
                    go_wp2
                    repeat (go_quiet (fail); try go_wp2)
                    go_ret
                    exact ⟨by first | rfl | (simp [errW_none, errW_some] <;> rfl) | (simp only [← hji12, ← hji15]; first | rfl | (simp [errW_none, errW_some] <;> rfl)) | (simp [*, errW_none, errW_some] <;> rfl), by repeat (first | (with_reducible first | exact HB.out | apply below_alloc | apply pw_below_drewN | apply below_drew1 | refine below_set ?_ GE257.out | refine below_set ?_ GE264.out) | exact HB.out)⟩
                  · rw [if_neg c40] at H
                    have c40b0 : (t263 == 0) = false := beq_eq_false_iff_ne.mpr c40
                    have c40b1 : (t263 != 0) = true := bne_iff_ne.mpr c40
                    obtain rfl := Option.some.inj H
                    have hnb43 := NB257_264.out
                    have hnc43 := NB264_257.out
                    have hcz44_0 : wc.cell? ⟨gb257, 0, none⟩ = some (.int .i64 t254) := (blk_cell BK257.out 0).trans rfl
                    have hcz44_1 : wc.cell? ⟨gb257, 1, none⟩ = some (.int .i64 t255) := (blk_cell BK257.out 1).trans rfl
                    have hfz44_0 := blk_frozen BK257.out 0
                    have hfz44_1 := blk_frozen BK257.out 1
                    have hcz45_0 : wc.cell? ⟨gb264, 0, none⟩ = some (.int .i64 t261) := (blk_cell BK264.out 0).trans rfl
                    have hcz45_1 : wc.cell? ⟨gb264, 1, none⟩ = some (.int .i64 t262) := (blk_cell BK264.out 1).trans rfl
                    have hfz45_0 := blk_frozen BK264.out 0
                    have hfz45_1 := blk_frozen BK264.out 1
                    go_wp2
                    repeat (go_quiet (fail); try go_wp2)
                    go_ret
                    exact ⟨by first | rfl | (simp [errW_none, errW_some] <;> rfl) | (simp only [← hji12, ← hji15]; first | rfl | (simp [errW_none, errW_some] <;> rfl)) | (simp [*, errW_none, errW_some] <;> rfl), by repeat (first | (with_reducible first | exact HB.out | apply below_alloc | apply pw_below_drewN | apply below_drew1 | refine below_set ?_ GE257.out | refine below_set ?_ GE264.out) | exact HB.out)⟩
                · rw [if_neg c39] at H
                  have c39b0 : (t254 == 0 && (t255 == 0)) = false := by simpa using c39
                  (try (have c39b1 : decide (t254 = 0 && (t255 == 0)) = false := by simpa using c39))
                  (try (have c39b2 : (t254 == 0 && (t255 == 0)) = false := by simpa using c39))
                  (try (have c39b3 : ¬ (t254 = 0 && (t255 == 0)) := by simpa using c39))
                  clear c39
                  obtain rfl := Option.some.inj H
                  have hnb46 := NB257_264.out
                  have hnc46 := NB264_257.out
                  have hcz47_0 : wc.cell? ⟨gb257, 0, none⟩ = some (.int .i64 t254) := (blk_cell BK257.out 0).trans rfl
                  have hcz47_1 : wc.cell? ⟨gb257, 1, none⟩ = some (.int .i64 t255) := (blk_cell BK257.out 1).trans rfl
                  have hfz47_0 := blk_frozen BK257.out 0
                  have hfz47_1 := blk_frozen BK257.out 1
                  go_wp2
                  repeat (go_quiet (fail); try go_wp2)
                  go_ret
                  exact ⟨by first | rfl | (simp [errW_none, errW_some] <;> rfl) | (simp only [← hji12, ← hji15]; first | rfl | (simp [errW_none, errW_some] <;> rfl)) | (simp [*, errW_none, errW_some] <;> rfl), by repeat (first | (with_reducible first | exact HB.out | apply below_alloc | apply pw_below_drewN | apply below_drew1 | refine below_set ?_ GE257.out | refine below_set ?_ GE264.out) | exact HB.out)⟩
            · replace c34 := Bool.eq_false_iff.mpr c34
              subst c34
              have H1 : (if t249 < 0 then (spilelaw08_ProfileBulges.j1 kj16 l0 a1 a2 t249 true t254 t255 t261 t262) else (if t249 ≥ (l0.length : Int) then (spilelaw08_ProfileBulges.j1 kj16 l0 a1 a2 t249 true t254 t255 t261 t262) else (if t254 > t255 then (spilelaw08_ProfileBulges.j1 kj16 l0 a1 a2 t249 true t254 t255 t261 t262) else (if (wrap64 (t255 - t254)) > 1 then (spilelaw08_ProfileBulges.j1 kj16 l0 a1 a2 t249 true t254 t255 t261 t262) else (if 0 ≤ t249 then (if t249 < (l0.length : Int) then (if t255 > ((rd_T30 l0 t249).f1) then (spilelaw08_ProfileBulges.j1 kj16 l0 a1 a2 t249 true t254 t255 t261 t262) else (if 0 < (l0.length : Int) then (if 0 ≤ (wrap64 ((l0.length : Int) - 1)) then (if (wrap64 ((l0.length : Int) - 1)) < (l0.length : Int) then (spilelaw08_ProfileBulges.j1 kj16 l0 a1 a2 t249 (decide (t254 < (mn ((rd_T30 l0 0).f1) ((rd_T30 l0 (wrap64 ((l0.length : Int) - 1))).f1)))) t254 t255 t261 t262) else (none)) else (none)) else (none))) else (none)) else (none)))))) = some r := by rw [if_neg (show ¬ (false = true) by decide)] at H; exact H
              clear H
              have H := H1
              clear H1
              have HC48 := Aside0.mk H
              clear H
              go_upto_region 12 with (fail)
              repeat (go_quiet (fail); go_upto_region 12 with (fail))
              go_cut [117] (fun v117 wc => ∃ (kq : Nat) (x117_47 : Bool), v117 = .bool x117_47 ∧ Aside0 (spilelaw08_ProfileBulges.j1 kq l0 a1 a2 t249 x117_47 t254 t255 t261 t262 = some r) ∧ Aside0 (kq ≤ kj16) ∧ Aside0 (wc.heap[gb257]? = some (.cells #[.int .i64 t254, .int .i64 t255] 33 (0, 0))) ∧ Aside0 (wc.heap[gb264]? = some (.cells #[.int .i64 t261, .int .i64 t262] 33 (0, 0))) ∧ Aside0 (Below w.heap.size w wc))
              case first =>
                have H := HC48.out
                clear HC48
                by_cases c49 : t249 < 0
                · rw [if_pos c49] at H
                  have c49b0 : decide (t249 < 0) = true := decide_eq_true c49
                  clear c49
                  (first | rw [c49b0] | (simp only [i64_w, i32_w]; rw [c49b0]) | skip)
                  have H' := Aside0.mk H
                  clear H
                  go_wp2
                  repeat (go_quiet (fail); try go_wp2)
                  go_meet
                  case rel => exact ⟨_, (true), (by first | rfl | (simp; done) | (simp [*]; done)), H', ⟨by have := HJ16.out; first | omega | exact Nat.le_refl _⟩, ⟨by (with_reducible repeat (first | refine blk_drewN ?_ _ | refine blk_drew ?_ | refine blk_alloc ?_ _)); exact BK257.out⟩, ⟨by (with_reducible repeat (first | refine blk_drewN ?_ _ | refine blk_drew ?_ | refine blk_alloc ?_ _)); exact BK264.out⟩, ⟨by repeat (first | (with_reducible first | exact HB.out | apply below_alloc | apply pw_below_drewN | apply below_drew1 | refine below_set ?_ GE257.out | refine below_set ?_ GE264.out) | exact HB.out)⟩⟩
                · rw [if_neg c49] at H
                  have c49b0 : decide (t249 < 0) = false := decide_eq_false c49
                  clear c49
                  (first | rw [c49b0] | (simp only [i64_w, i32_w]; rw [c49b0]) | skip)
                  by_cases c50 : t249 ≥ (l0.length : Int)
                  · rw [if_pos c50] at H
                    have c50b0 : decide ((l0.length : Int) ≤ t249) = true := decide_eq_true c50
                    clear c50
                    have H' := Aside0.mk H
                    clear H
                    go_wp2
                    repeat (go_quiet (fail); try go_wp2)
                    go_meet
                    case rel => exact ⟨_, (true), (by first | rfl | (simp; done) | (simp [*]; done)), H', ⟨by have := HJ16.out; first | omega | exact Nat.le_refl _⟩, ⟨by (with_reducible repeat (first | refine blk_drewN ?_ _ | refine blk_drew ?_ | refine blk_alloc ?_ _)); exact BK257.out⟩, ⟨by (with_reducible repeat (first | refine blk_drewN ?_ _ | refine blk_drew ?_ | refine blk_alloc ?_ _)); exact BK264.out⟩, ⟨by repeat (first | (with_reducible first | exact HB.out | apply below_alloc | apply pw_below_drewN | apply below_drew1 | refine below_set ?_ GE257.out | refine below_set ?_ GE264.out) | exact HB.out)⟩⟩
                  · rw [if_neg c50] at H
                    have c50b0 : decide ((l0.length : Int) ≤ t249) = false := decide_eq_false c50
                    clear c50
                    by_cases c51 : t254 > t255
                    · rw [if_pos c51] at H
                      have c51b0 : decide (t255 < t254) = true := decide_eq_true c51
                      clear c51
                      have H' := Aside0.mk H
                      clear H
                      have hnb52 := NB257_264.out
                      have hnc52 := NB264_257.out
                      have hcz53_0 : wc.cell? ⟨gb257, 0, none⟩ = some (.int .i64 t254) := (blk_cell BK257.out 0).trans rfl
                      have hcz53_1 : wc.cell? ⟨gb257, 1, none⟩ = some (.int .i64 t255) := (blk_cell BK257.out 1).trans rfl
                      have hfz53_0 := blk_frozen BK257.out 0
                      have hfz53_1 := blk_frozen BK257.out 1
                      go_wp2
                      repeat (go_quiet (fail); try go_wp2)
                      go_meet
                      case rel => exact ⟨_, (true), (by first | rfl | (simp; done) | (simp [*]; done)), H', ⟨by have := HJ16.out; first | omega | exact Nat.le_refl _⟩, ⟨by (with_reducible repeat (first | refine blk_drewN ?_ _ | refine blk_drew ?_ | refine blk_alloc ?_ _)); exact BK257.out⟩, ⟨by (with_reducible repeat (first | refine blk_drewN ?_ _ | refine blk_drew ?_ | refine blk_alloc ?_ _)); exact BK264.out⟩, ⟨by repeat (first | (with_reducible first | exact HB.out | apply below_alloc | apply pw_below_drewN | apply below_drew1 | refine below_set ?_ GE257.out | refine below_set ?_ GE264.out) | exact HB.out)⟩⟩
                    · rw [if_neg c51] at H
                      have c51b0 : decide (t255 < t254) = false := decide_eq_false c51
                      clear c51
                      by_cases c54 : (wrap64 (t255 - t254)) > 1
                      · rw [if_pos c54] at H
                        have c54b0 : decide (1 < (wrap64 (t255 - t254))) = true := decide_eq_true c54
                        clear c54
                        have H' := Aside0.mk H
                        clear H
                        have hnb55 := NB257_264.out
                        have hnc55 := NB264_257.out
                        have hcz56_0 : wc.cell? ⟨gb257, 0, none⟩ = some (.int .i64 t254) := (blk_cell BK257.out 0).trans rfl
                        have hcz56_1 : wc.cell? ⟨gb257, 1, none⟩ = some (.int .i64 t255) := (blk_cell BK257.out 1).trans rfl
                        have hfz56_0 := blk_frozen BK257.out 0
                        have hfz56_1 := blk_frozen BK257.out 1
                        go_wp2
                        repeat (go_quiet (fail); try go_wp2)
                        go_meet
                        case rel => exact ⟨_, (true), (by first | rfl | (simp; done) | (simp [*]; done)), H', ⟨by have := HJ16.out; first | omega | exact Nat.le_refl _⟩, ⟨by (with_reducible repeat (first | refine blk_drewN ?_ _ | refine blk_drew ?_ | refine blk_alloc ?_ _)); exact BK257.out⟩, ⟨by (with_reducible repeat (first | refine blk_drewN ?_ _ | refine blk_drew ?_ | refine blk_alloc ?_ _)); exact BK264.out⟩, ⟨by repeat (first | (with_reducible first | exact HB.out | apply below_alloc | apply pw_below_drewN | apply below_drew1 | refine below_set ?_ GE257.out | refine below_set ?_ GE264.out) | exact HB.out)⟩⟩
                      · rw [if_neg c54] at H
                        have c54b0 : decide (1 < (wrap64 (t255 - t254))) = false := decide_eq_false c54
                        clear c54
                        by_cases c57 : 0 ≤ t249
                        · rw [if_pos c57] at H
                          have c57b0 : decide (0 ≤ t249) = true := decide_eq_true c57
                          clear c57
                          by_cases c58 : t249 < (l0.length : Int)
                          · rw [if_pos c58] at H
                            have c58b0 : decide (t249 < (l0.length : Int)) = true := decide_eq_true c58
                            clear c58
                            by_cases c59 : t255 > ((rd_T30 l0 t249).f1)
                            · rw [if_pos c59] at H
                              have c59b0 : decide (((rd_T30 l0 t249).f1) < t255) = true := decide_eq_true c59
                              clear c59
                              have H' := Aside0.mk H
                              clear H
                              have hnb60 := NB257_264.out
                              have hnc60 := NB264_257.out
                              have hcz61_0 : wc.cell? ⟨gb257, 0, none⟩ = some (.int .i64 t254) := (blk_cell BK257.out 0).trans rfl
                              have hcz61_1 : wc.cell? ⟨gb257, 1, none⟩ = some (.int .i64 t255) := (blk_cell BK257.out 1).trans rfl
                              have hfz61_0 := blk_frozen BK257.out 0
                              have hfz61_1 := blk_frozen BK257.out 1
                              have p265 : 0 ≤ (t249 : Int) := of_decide_eq_true (by first | (with_reducible assumption) | assumption)
                              have q265 : t249 < (l0.length : Int) := of_decide_eq_true (by first | (with_reducible assumption) | assumption)
                              obtain ⟨ad265, e265, hx265_0, hx265_1⟩ := at_T30 HR0.out t249 p265 q265
                              cases e265
                              replace hx265_0 := (HB.out.cell (World.block_lt_of_cell? w _ hx265_0)).trans hx265_0
                              replace hx265_1 := (HB.out.cell (World.block_lt_of_cell? w _ hx265_1)).trans hx265_1
                              replace p265 := eq_true p265
                              replace q265 := eq_true q265
                              go_wp2
                              repeat (go_quiet (fail); try go_wp2)
                              go_meet
                              case rel => exact ⟨_, (true), (by first | rfl | (simp; done) | (simp [*]; done)), H', ⟨by have := HJ16.out; first | omega | exact Nat.le_refl _⟩, ⟨by (with_reducible repeat (first | refine blk_drewN ?_ _ | refine blk_drew ?_ | refine blk_alloc ?_ _)); exact BK257.out⟩, ⟨by (with_reducible repeat (first | refine blk_drewN ?_ _ | refine blk_drew ?_ | refine blk_alloc ?_ _)); exact BK264.out⟩, ⟨by repeat (first | (with_reducible first | exact HB.out | apply below_alloc | apply pw_below_drewN | apply below_drew1 | refine below_set ?_ GE257.out | refine below_set ?_ GE264.out) | exact HB.out)⟩⟩
                            · rw [if_neg c59] at H
                              have c59b0 : decide (((rd_T30 l0 t249).f1) < t255) = false := decide_eq_false c59
                              clear c59
                              by_cases c62 : 0 < (l0.length : Int)
                              · rw [if_pos c62] at H
                                have c62b0 : decide (0 < (l0.length : Int)) = true := decide_eq_true c62
                                have c62b1 : decide (0 < l0.length) = true := decide_eq_true (by omega)
                                clear c62
                                obtain ⟨ji63, hji63⟩ : ∃ j_ : Int, (wrap64 ((l0.length : Int) - 1)) = j_ := ⟨_, rfl⟩
                                replace H : (if 0 ≤ (ji63) then (if (ji63) < (l0.length : Int) then (spilelaw08_ProfileBulges.j1 kj16 l0 a1 a2 t249 (decide (t254 < (mn ((rd_T30 l0 0).f1) ((rd_T30 l0 (ji63)).f1)))) t254 t255 t261 t262) else (none)) else (none)) = some r := by first | (rw [hji63] at H; exact H) | (simp only [hji63] at H ⊢; exact H)
                                have hji63w : (IntKind.i64.wrap ((l0.length : Int) - 1)) = ji63 := (i64_w _).trans hji63
                                by_cases c64 : 0 ≤ (ji63)
                                · rw [if_pos c64] at H
                                  have c64b0 : decide (0 ≤ (ji63)) = true := decide_eq_true c64
                                  clear c64
                                  by_cases c65 : (ji63) < (l0.length : Int)
                                  · rw [if_pos c65] at H
                                    have c65b0 : decide ((ji63) < (l0.length : Int)) = true := decide_eq_true c65
                                    clear c65
                                    obtain ⟨ji66, hji66⟩ : ∃ j_ : Int, (mn ((rd_T30 l0 0).f1) ((rd_T30 l0 (ji63)).f1)) = j_ := ⟨_, rfl⟩
                                    replace H : (spilelaw08_ProfileBulges.j1 kj16 l0 a1 a2 t249 (decide (t254 < (ji66))) t254 t255 t261 t262) = some r := by first | (rw [hji66] at H; exact H) | (simp only [hji66] at H ⊢; exact H)
                                    have hji66_ : (if ((rd_T30 l0 (ji63)).f1) < ((rd_T30 l0 0).f1) then ((rd_T30 l0 (ji63)).f1) else ((rd_T30 l0 0).f1)) = ji66 := hji66
                                    have H' := Aside0.mk H
                                    clear H
                                    have hnb67 := NB257_264.out
                                    have hnc67 := NB264_257.out
                                    have hcz68_0 : wc.cell? ⟨gb257, 0, none⟩ = some (.int .i64 t254) := (blk_cell BK257.out 0).trans rfl
                                    have hcz68_1 : wc.cell? ⟨gb257, 1, none⟩ = some (.int .i64 t255) := (blk_cell BK257.out 1).trans rfl
                                    have hfz68_0 := blk_frozen BK257.out 0
                                    have hfz68_1 := blk_frozen BK257.out 1
                                    have p265 : 0 ≤ (t249 : Int) := of_decide_eq_true (by first | (with_reducible assumption) | assumption)
                                    have q265 : t249 < (l0.length : Int) := of_decide_eq_true (by first | (with_reducible assumption) | assumption)
                                    obtain ⟨ad265, e265, hx265_0, hx265_1⟩ := at_T30 HR0.out t249 p265 q265
                                    cases e265
                                    replace hx265_0 := (HB.out.cell (World.block_lt_of_cell? w _ hx265_0)).trans hx265_0
                                    replace hx265_1 := (HB.out.cell (World.block_lt_of_cell? w _ hx265_1)).trans hx265_1
                                    replace p265 := eq_true p265
                                    replace q265 := eq_true q265
                                    have p266 : 0 ≤ (0 : Int) := (by omega)
                                    have q266 : 0 < (l0.length : Int) := of_decide_eq_true (by first | (with_reducible assumption) | assumption)
                                    obtain ⟨ad266, e266, hx266_0, hx266_1⟩ := at_T30 HR0.out 0 p266 q266
                                    obtain rfl : ad265 = ad266 := (by injection e266)
                                    have qi266 : (0 < l0.length) = True := eq_true (by omega)
                                    (try rw [show ((0 : Int)).toNat = 0 from rfl] at hx266_0)
                                    (try rw [show 0 * 2 = 0 from rfl] at hx266_0)
                                    (try rw [Addr.add_zero'] at hx266_0)
                                    (try rw [show ((0 : Int)).toNat = 0 from rfl] at hx266_1)
                                    (try rw [show 0 * 2 = 0 from rfl] at hx266_1)
                                    (try rw [Addr.add_zero'] at hx266_1)
                                    replace hx266_0 := (HB.out.cell (World.block_lt_of_cell? w _ hx266_0)).trans hx266_0
                                    replace hx266_1 := (HB.out.cell (World.block_lt_of_cell? w _ hx266_1)).trans hx266_1
                                    replace p266 := eq_true p266
                                    replace q266 := eq_true q266
                                    have p267 : 0 ≤ ((ji63) : Int) := of_decide_eq_true (by first | (with_reducible assumption) | assumption)
                                    have q267 : (ji63) < (l0.length : Int) := of_decide_eq_true (by first | (with_reducible assumption) | assumption)
                                    obtain ⟨ad267, e267, hx267_0, hx267_1⟩ := at_T30 HR0.out (ji63) p267 q267
                                    obtain rfl : ad265 = ad267 := (by injection e267)
                                    replace hx267_0 := (HB.out.cell (World.block_lt_of_cell? w _ hx267_0)).trans hx267_0
                                    replace hx267_1 := (HB.out.cell (World.block_lt_of_cell? w _ hx267_1)).trans hx267_1
                                    replace p267 := eq_true p267
                                    replace q267 := eq_true q267
                                    go_wp2
                                    repeat (go_quiet (fail); try go_wp2)
                                    go_meet
                                    case rel => exact ⟨_, (decide (t254 < (ji66))), (by first | rfl | (simp; done) | (simp only [← hji66] <;> (first | rfl | simp)) | (simp [*]; done)), H', ⟨by have := HJ16.out; first | omega | exact Nat.le_refl _⟩, ⟨by (with_reducible repeat (first | refine blk_drewN ?_ _ | refine blk_drew ?_ | refine blk_alloc ?_ _)); exact BK257.out⟩, ⟨by (with_reducible repeat (first | refine blk_drewN ?_ _ | refine blk_drew ?_ | refine blk_alloc ?_ _)); exact BK264.out⟩, ⟨by repeat (first | (with_reducible first | exact HB.out | apply below_alloc | apply pw_below_drewN | apply below_drew1 | refine below_set ?_ GE257.out | refine below_set ?_ GE264.out) | exact HB.out)⟩⟩
                                  · rw [if_neg c65] at H
                                    exact absurd H (by simp)
                                · rw [if_neg c64] at H
                                  exact absurd H (by simp)
                              · rw [if_neg c62] at H
                                exact absurd H (by simp)
                          · rw [if_neg c58] at H
                            exact absurd H (by simp)
                        · rw [if_neg c57] at H
                          exact absurd H (by simp)
              case rest =>
                clear HC48
                try clear c1
                try clear p2
                try clear q2
                try clear hx2
                try clear qi2
                try clear c3
                try clear c4
                try clear c5
                try clear c6
                try clear p6
                try clear c7
                try clear c10
                try clear c10b0
                try clear c10b1
                try clear p26
                try clear q26
                try clear hx26
                try clear qi26
                try clear c31
                try clear c33
                try clear c33b0
                try clear c33b1
                try clear c34
                try clear c35
                try clear c35b0
                try clear c35b1
                try clear c36
                try clear c36b0
                try clear c36b1
                try clear c37
                try clear c39
                try clear c39b0
                try clear c39b1
                try clear c39b2
                try clear c40
                try clear c40b0
                try clear c40b1
                try clear c41
                try clear c43
                try clear c46
                try clear c49
                try clear c49b0
                try clear c50
                try clear c50b0
                try clear c51
                try clear c51b0
                try clear c52
                try clear c54
                try clear c54b0
                try clear c55
                try clear c57
                try clear c57b0
                try clear c58
                try clear c58b0
                try clear c59
                try clear c59b0
                try clear c60
                try clear c62
                try clear c62b0
                try clear c62b1
                try clear c64
                try clear c64b0
                try clear p64
                try clear c65
                try clear c65b0
                try clear c67
                try clear hcz26_0
                try clear hcz26_1
                try clear hcz32_0
                try clear hcz32_1
                try clear hcz38_0
                try clear hcz38_1
                try clear hcz42_0
                try clear hcz42_1
                try clear hcz44_0
                try clear hcz44_1
                try clear hcz45_0
                try clear hcz45_1
                try clear hcz47_0
                try clear hcz47_1
                try clear hcz53_0
                try clear hcz53_1
                try clear hcz56_0
                try clear hcz56_1
                try clear hcz61_0
                try clear hcz61_1
                try clear hcz68_0
                try clear hcz68_1
                try clear hfz26_0
                try clear hfz26_1
                try clear hfz32_0
                try clear hfz32_1
                try clear hfz38_0
                try clear hfz38_1
                try clear hfz42_0
                try clear hfz42_1
                try clear hfz44_0
                try clear hfz44_1
                try clear hfz45_0
                try clear hfz45_1
                try clear hfz47_0
                try clear hfz47_1
                try clear hfz53_0
                try clear hfz53_1
                try clear hfz56_0
                try clear hfz56_1
                try clear hfz61_0
                try clear hfz61_1
                try clear hfz68_0
                try clear hfz68_1
                try clear hx265_0
                try clear hx265_1
                try clear hx266_0
                try clear hx266_1
                try clear hx267_0
                try clear hx267_1
                try clear p2
                try clear p265
                try clear p266
                try clear p267
                try clear q265
                try clear q266
                try clear q267
                obtain ⟨kq, x117_47, rfl, HA, HJ47, BK257, BK264, HB⟩ := hcut
                cases kq with
                | zero => exact absurd HA.out (by simp [spilelaw08_ProfileBulges.j1])
                | succ kj47 =>
                  have H := HA.out
                  clear HA
                  simp only [spilelaw08_ProfileBulges.j1] at H
                  by_cases c69 : x117_47 = true
                  · subst c69
                    have H1 : (some false) = some r := by rw [if_pos rfl] at H; exact H
                    clear H
                    have H := H1
                    clear H1
                    obtain rfl := Option.some.inj H
                    go_wp2
                    repeat (go_quiet (fail); try go_wp2)
                    go_ret
                    exact ⟨by first | rfl | (simp [errW_none, errW_some] <;> rfl) | (simp only [← hji12, ← hji15]; first | rfl | (simp [errW_none, errW_some] <;> rfl)) | (simp [*, errW_none, errW_some] <;> rfl), by repeat (first | (with_reducible first | exact HB.out | apply below_alloc | apply pw_below_drewN | apply below_drew1 | refine below_set ?_ GE257.out | refine below_set ?_ GE264.out) | exact HB.out)⟩
                  · replace c69 := Bool.eq_false_iff.mpr c69
                    subst c69
                    have H1 : (if 0 ≤ t249 then (if t249 < (l0.length : Int) then (if (mx a1 a2) ≤ ((rd_T30 l0 t249).f0) then (if t254 ≤ t261 then (some (decide (t255 ≤ t262))) else (some false)) else (if (mn a1 a2) < ((rd_T30 l0 t249).f0) then (some true) else (if t254 ≥ t261 then (some (decide (t255 ≥ t262))) else (some false)))) else (none)) else (none)) = some r := by rw [if_neg (show ¬ (false = true) by decide)] at H; exact H
                    clear H
                    have H := H1
                    clear H1
                    obtain ⟨ji70, hji70⟩ : ∃ j_ : Int, (mx a1 a2) = j_ := ⟨_, rfl⟩
                    replace H : (if 0 ≤ t249 then (if t249 < (l0.length : Int) then (if (ji70) ≤ ((rd_T30 l0 t249).f0) then (if t254 ≤ t261 then (some (decide (t255 ≤ t262))) else (some false)) else (if (mn a1 a2) < ((rd_T30 l0 t249).f0) then (some true) else (if t254 ≥ t261 then (some (decide (t255 ≥ t262))) else (some false)))) else (none)) else (none)) = some r := by first | (rw [hji70] at H; exact H) | (simp only [hji70] at H ⊢; exact H)
                    have hji70_ : (if a1 < a2 then a2 else a1) = ji70 := hji70
                    obtain rfl : ji70 = ji15 := hji70.symm.trans hji15
                    by_cases c71 : 0 ≤ t249
                    · rw [if_pos c71] at H
                      have c71b0 : decide (0 ≤ t249) = true := decide_eq_true c71
                      clear c71
                      by_cases c72 : t249 < (l0.length : Int)
                      · rw [if_pos c72] at H
                        have c72b0 : decide (t249 < (l0.length : Int)) = true := decide_eq_true c72
                        clear c72
                        by_cases c73 : (ji70) ≤ ((rd_T30 l0 t249).f0)
                        · rw [if_pos c73] at H
                          have c73b0 : decide ((ji70) ≤ ((rd_T30 l0 t249).f0)) = true := decide_eq_true c73
                          clear c73
                          by_cases c74 : t254 ≤ t261
                          · rw [if_pos c74] at H
                            have c74b0 : decide (t254 ≤ t261) = true := decide_eq_true c74
                            clear c74
                            obtain rfl := Option.some.inj H
                            have p268 : 0 ≤ (t249 : Int) := of_decide_eq_true (by first | (with_reducible assumption) | assumption)
                            have q268 : t249 < (l0.length : Int) := of_decide_eq_true (by first | (with_reducible assumption) | assumption)
                            obtain ⟨ad268, e268, hx268_0, hx268_1⟩ := at_T30 HR0.out t249 p268 q268
                            cases e268
                            replace hx268_0 := (HB.out.cell (World.block_lt_of_cell? w _ hx268_0)).trans hx268_0
                            replace hx268_1 := (HB.out.cell (World.block_lt_of_cell? w _ hx268_1)).trans hx268_1
                            replace p268 := eq_true p268
                            replace q268 := eq_true q268
                            have hnb75 := NB257_264.out
                            have hnc75 := NB264_257.out
                            have hcz76_0 : wc.cell? ⟨gb257, 0, none⟩ = some (.int .i64 t254) := (blk_cell BK257.out 0).trans rfl
                            have hcz76_1 : wc.cell? ⟨gb257, 1, none⟩ = some (.int .i64 t255) := (blk_cell BK257.out 1).trans rfl
                            have hfz76_0 := blk_frozen BK257.out 0
                            have hfz76_1 := blk_frozen BK257.out 1
                            have hcz77_0 : wc.cell? ⟨gb264, 0, none⟩ = some (.int .i64 t261) := (blk_cell BK264.out 0).trans rfl
                            have hcz77_1 : wc.cell? ⟨gb264, 1, none⟩ = some (.int .i64 t262) := (blk_cell BK264.out 1).trans rfl
                            have hfz77_0 := blk_frozen BK264.out 0
                            have hfz77_1 := blk_frozen BK264.out 1
                            go_wp2
                            repeat (go_quiet (fail); try go_wp2)
                            go_ret
                            exact ⟨by first | rfl | (simp [errW_none, errW_some] <;> rfl) | (simp only [← hji12, ← hji15, ← hji70]; first | rfl | (simp [errW_none, errW_some] <;> rfl)) | (simp [*, errW_none, errW_some] <;> rfl), by repeat (first | (with_reducible first | exact HB.out | apply below_alloc | apply pw_below_drewN | apply below_drew1 | refine below_set ?_ GE257.out | refine below_set ?_ GE264.out) | exact HB.out)⟩
                          · rw [if_neg c74] at H
                            have c74b0 : decide (t254 ≤ t261) = false := decide_eq_false c74
                            clear c74
                            obtain rfl := Option.some.inj H
                            have p268 : 0 ≤ (t249 : Int) := of_decide_eq_true (by first | (with_reducible assumption) | assumption)
                            have q268 : t249 < (l0.length : Int) := of_decide_eq_true (by first | (with_reducible assumption) | assumption)
                            obtain ⟨ad268, e268, hx268_0, hx268_1⟩ := at_T30 HR0.out t249 p268 q268
                            cases e268
                            replace hx268_0 := (HB.out.cell (World.block_lt_of_cell? w _ hx268_0)).trans hx268_0
                            replace hx268_1 := (HB.out.cell (World.block_lt_of_cell? w _ hx268_1)).trans hx268_1
                            replace p268 := eq_true p268
                            replace q268 := eq_true q268
                            have hnb78 := NB257_264.out
                            have hnc78 := NB264_257.out
                            have hcz79_0 : wc.cell? ⟨gb257, 0, none⟩ = some (.int .i64 t254) := (blk_cell BK257.out 0).trans rfl
                            have hcz79_1 : wc.cell? ⟨gb257, 1, none⟩ = some (.int .i64 t255) := (blk_cell BK257.out 1).trans rfl
                            have hfz79_0 := blk_frozen BK257.out 0
                            have hfz79_1 := blk_frozen BK257.out 1
                            have hcz80_0 : wc.cell? ⟨gb264, 0, none⟩ = some (.int .i64 t261) := (blk_cell BK264.out 0).trans rfl
                            have hcz80_1 : wc.cell? ⟨gb264, 1, none⟩ = some (.int .i64 t262) := (blk_cell BK264.out 1).trans rfl
                            have hfz80_0 := blk_frozen BK264.out 0
                            have hfz80_1 := blk_frozen BK264.out 1
                            go_wp2
                            repeat (go_quiet (fail); try go_wp2)
                            go_ret
                            exact ⟨by first | rfl | (simp [errW_none, errW_some] <;> rfl) | (simp only [← hji12, ← hji15, ← hji70]; first | rfl | (simp [errW_none, errW_some] <;> rfl)) | (simp [*, errW_none, errW_some] <;> rfl), by repeat (first | (with_reducible first | exact HB.out | apply below_alloc | apply pw_below_drewN | apply below_drew1 | refine below_set ?_ GE257.out | refine below_set ?_ GE264.out) | exact HB.out)⟩
                        · rw [if_neg c73] at H
                          have c73b0 : decide ((ji70) ≤ ((rd_T30 l0 t249).f0)) = false := decide_eq_false c73
                          clear c73
                          obtain ⟨ji81, hji81⟩ : ∃ j_ : Int, (mn a1 a2) = j_ := ⟨_, rfl⟩
                          replace H : (if (ji81) < ((rd_T30 l0 t249).f0) then (some true) else (if t254 ≥ t261 then (some (decide (t255 ≥ t262))) else (some false))) = some r := by first | (rw [hji81] at H; exact H) | (simp only [hji81] at H ⊢; exact H)
                          have hji81_ : (if a2 < a1 then a2 else a1) = ji81 := hji81
                          obtain rfl : ji81 = ji12 := hji81.symm.trans hji12
                          by_cases c82 : (ji81) < ((rd_T30 l0 t249).f0)
                          · rw [if_pos c82] at H
                            have c82b0 : decide ((ji81) < ((rd_T30 l0 t249).f0)) = true := decide_eq_true c82
                            clear c82
                            obtain rfl := Option.some.inj H
                            have p268 : 0 ≤ (t249 : Int) := of_decide_eq_true (by first | (with_reducible assumption) | assumption)
                            have q268 : t249 < (l0.length : Int) := of_decide_eq_true (by first | (with_reducible assumption) | assumption)
                            obtain ⟨ad268, e268, hx268_0, hx268_1⟩ := at_T30 HR0.out t249 p268 q268
                            cases e268
                            replace hx268_0 := (HB.out.cell (World.block_lt_of_cell? w _ hx268_0)).trans hx268_0
                            replace hx268_1 := (HB.out.cell (World.block_lt_of_cell? w _ hx268_1)).trans hx268_1
                            replace p268 := eq_true p268
                            replace q268 := eq_true q268
                            have p269 : 0 ≤ (t249 : Int) := of_decide_eq_true (by first | (with_reducible assumption) | assumption)
                            have q269 : t249 < (l0.length : Int) := of_decide_eq_true (by first | (with_reducible assumption) | assumption)
                            obtain ⟨ad269, e269, hx269_0, hx269_1⟩ := at_T30 HR0.out t249 p269 q269
                            obtain rfl : ad268 = ad269 := (by injection e269)
                            replace hx269_0 := (HB.out.cell (World.block_lt_of_cell? w _ hx269_0)).trans hx269_0
                            replace hx269_1 := (HB.out.cell (World.block_lt_of_cell? w _ hx269_1)).trans hx269_1
                            replace p269 := eq_true p269
                            replace q269 := eq_true q269
                            go_wp2
                            repeat (go_quiet (fail); try go_wp2)
                            go_ret
                            exact ⟨by first | rfl | (simp [errW_none, errW_some] <;> rfl) | (simp only [← hji12, ← hji15, ← hji70, ← hji81]; first | rfl | (simp [errW_none, errW_some] <;> rfl)) | (simp [*, errW_none, errW_some] <;> rfl), by repeat (first | (with_reducible first | exact HB.out | apply below_alloc | apply pw_below_drewN | apply below_drew1 | refine below_set ?_ GE257.out | refine below_set ?_ GE264.out) | exact HB.out)⟩
                          · rw [if_neg c82] at H
                            have c82b0 : decide ((ji81) < ((rd_T30 l0 t249).f0)) = false := decide_eq_false c82
                            clear c82
                            by_cases c83 : t254 ≥ t261
                            · rw [if_pos c83] at H
                              have c83b0 : decide (t261 ≤ t254) = true := decide_eq_true c83
                              clear c83
                              obtain rfl := Option.some.inj H
                              have p268 : 0 ≤ (t249 : Int) := of_decide_eq_true (by first | (with_reducible assumption) | assumption)
                              have q268 : t249 < (l0.length : Int) := of_decide_eq_true (by first | (with_reducible assumption) | assumption)
                              obtain ⟨ad268, e268, hx268_0, hx268_1⟩ := at_T30 HR0.out t249 p268 q268
                              cases e268
                              replace hx268_0 := (HB.out.cell (World.block_lt_of_cell? w _ hx268_0)).trans hx268_0
                              replace hx268_1 := (HB.out.cell (World.block_lt_of_cell? w _ hx268_1)).trans hx268_1
                              replace p268 := eq_true p268
                              replace q268 := eq_true q268
                              have p269 : 0 ≤ (t249 : Int) := of_decide_eq_true (by first | (with_reducible assumption) | assumption)
                              have q269 : t249 < (l0.length : Int) := of_decide_eq_true (by first | (with_reducible assumption) | assumption)
                              obtain ⟨ad269, e269, hx269_0, hx269_1⟩ := at_T30 HR0.out t249 p269 q269
                              obtain rfl : ad268 = ad269 := (by injection e269)
                              replace hx269_0 := (HB.out.cell (World.block_lt_of_cell? w _ hx269_0)).trans hx269_0
                              replace hx269_1 := (HB.out.cell (World.block_lt_of_cell? w _ hx269_1)).trans hx269_1
                              replace p269 := eq_true p269
                              replace q269 := eq_true q269
                              have hnb84 := NB257_264.out
                              have hnc84 := NB264_257.out
                              have hcz85_0 : wc.cell? ⟨gb257, 0, none⟩ = some (.int .i64 t254) := (blk_cell BK257.out 0).trans rfl
                              have hcz85_1 : wc.cell? ⟨gb257, 1, none⟩ = some (.int .i64 t255) := (blk_cell BK257.out 1).trans rfl
                              have hfz85_0 := blk_frozen BK257.out 0
                              have hfz85_1 := blk_frozen BK257.out 1
                              have hcz86_0 : wc.cell? ⟨gb264, 0, none⟩ = some (.int .i64 t261) := (blk_cell BK264.out 0).trans rfl
                              have hcz86_1 : wc.cell? ⟨gb264, 1, none⟩ = some (.int .i64 t262) := (blk_cell BK264.out 1).trans rfl
                              have hfz86_0 := blk_frozen BK264.out 0
                              have hfz86_1 := blk_frozen BK264.out 1
                              go_wp2
                              repeat (go_quiet (fail); try go_wp2)
                              go_ret
                              exact ⟨by first | rfl | (simp [errW_none, errW_some] <;> rfl) | (simp only [← hji12, ← hji15, ← hji70, ← hji81]; first | rfl | (simp [errW_none, errW_some] <;> rfl)) | (simp [*, errW_none, errW_some] <;> rfl), by repeat (first | (with_reducible first | exact HB.out | apply below_alloc | apply pw_below_drewN | apply below_drew1 | refine below_set ?_ GE257.out | refine below_set ?_ GE264.out) | exact HB.out)⟩
                            · rw [if_neg c83] at H
                              have c83b0 : decide (t261 ≤ t254) = false := decide_eq_false c83
                              clear c83
                              obtain rfl := Option.some.inj H
                              have p268 : 0 ≤ (t249 : Int) := of_decide_eq_true (by first | (with_reducible assumption) | assumption)
                              have q268 : t249 < (l0.length : Int) := of_decide_eq_true (by first | (with_reducible assumption) | assumption)
                              obtain ⟨ad268, e268, hx268_0, hx268_1⟩ := at_T30 HR0.out t249 p268 q268
                              cases e268
                              replace hx268_0 := (HB.out.cell (World.block_lt_of_cell? w _ hx268_0)).trans hx268_0
                              replace hx268_1 := (HB.out.cell (World.block_lt_of_cell? w _ hx268_1)).trans hx268_1
                              replace p268 := eq_true p268
                              replace q268 := eq_true q268
                              have p269 : 0 ≤ (t249 : Int) := of_decide_eq_true (by first | (with_reducible assumption) | assumption)
                              have q269 : t249 < (l0.length : Int) := of_decide_eq_true (by first | (with_reducible assumption) | assumption)
                              obtain ⟨ad269, e269, hx269_0, hx269_1⟩ := at_T30 HR0.out t249 p269 q269
                              obtain rfl : ad268 = ad269 := (by injection e269)
                              replace hx269_0 := (HB.out.cell (World.block_lt_of_cell? w _ hx269_0)).trans hx269_0
                              replace hx269_1 := (HB.out.cell (World.block_lt_of_cell? w _ hx269_1)).trans hx269_1
                              replace p269 := eq_true p269
                              replace q269 := eq_true q269
                              have hnb87 := NB257_264.out
                              have hnc87 := NB264_257.out
                              have hcz88_0 : wc.cell? ⟨gb257, 0, none⟩ = some (.int .i64 t254) := (blk_cell BK257.out 0).trans rfl
                              have hcz88_1 : wc.cell? ⟨gb257, 1, none⟩ = some (.int .i64 t255) := (blk_cell BK257.out 1).trans rfl
                              have hfz88_0 := blk_frozen BK257.out 0
                              have hfz88_1 := blk_frozen BK257.out 1
                              have hcz89_0 : wc.cell? ⟨gb264, 0, none⟩ = some (.int .i64 t261) := (blk_cell BK264.out 0).trans rfl
                              have hcz89_1 : wc.cell? ⟨gb264, 1, none⟩ = some (.int .i64 t262) := (blk_cell BK264.out 1).trans rfl
                              have hfz89_0 := blk_frozen BK264.out 0
                              have hfz89_1 := blk_frozen BK264.out 1
                              go_wp2
                              repeat (go_quiet (fail); try go_wp2)
                              go_ret
                              exact ⟨by first | rfl | (simp [errW_none, errW_some] <;> rfl) | (simp only [← hji12, ← hji15, ← hji70, ← hji81]; first | rfl | (simp [errW_none, errW_some] <;> rfl)) | (simp [*, errW_none, errW_some] <;> rfl), by repeat (first | (with_reducible first | exact HB.out | apply below_alloc | apply pw_below_drewN | apply below_drew1 | refine below_set ?_ GE257.out | refine below_set ?_ GE264.out) | exact HB.out)⟩
                      · rw [if_neg c72] at H
                        exact absurd H (by simp)
                    · rw [if_neg c71] at H
                      exact absurd H (by simp)
      · rw [if_neg c10] at H
        have c10b0 : (t250 == 0) = false := beq_eq_false_iff_ne.mpr c10
        have c10b1 : (t250 != 0) = true := bne_iff_ne.mpr c10
        obtain rfl := Option.some.inj H
        go_enter Try.func5, Try.ntmps5
        go_wp2_with (first | (go_at_call 9; (with_reducible refine (spilelaw08_awake.calls k  true _ A4.out).mono ?_); rintro e w90 ⟨rfl, hb⟩; have n0_ := Aside0.mk (below_step (by repeat (first | (with_reducible first | exact HB.out | apply below_alloc | apply pw_below_drewN | apply below_drew1) | exact HB.out)) hb); clear HB; have HB := n0_; clear n0_; (try clear hb); (try clear hb2); (try clear hk); (try clear hi)) | (go_at_call 10; (with_reducible refine (spileref08_Few.calls _ _ l0 true _ ?side1 ?side2 A6.out).mono ?_); (case side1 => repeat (first | exact (Kd.C_below HR0.out HB.out) | (with_reducible refine Kd.C_alloc ?_ _) | (with_reducible refine Kd.C_drewN ?_ _) | (with_reducible refine Kd.C_drew ?_))); (case side2 => exact HC0.out); rintro e w' ⟨rfl, ⟨nd, rfl⟩⟩; (try first | exact ⟨rfl, _, World.drewN_drewN _ _ _⟩ | exact ⟨rfl, _, Eq.trans (World.drewN_drewN _ _ _) (congrArg (World.drewN _) (Nat.add_assoc _ _ _))⟩)) | (go_at_call 12; (with_reducible refine (api_Point_12.calls _ _ l0 t246 _ ?side1 ?side2 A8.out).mono ?_); (case side1 => repeat (first | exact (Kd.C_below HR0.out (by repeat (first | (with_reducible first | exact HB.out | apply below_alloc | apply pw_below_drewN | apply below_drew1) | exact HB.out))) | (with_reducible refine Kd.C_alloc ?_ _) | (with_reducible refine Kd.C_drewN ?_ _) | (with_reducible refine Kd.C_drew ?_))); (case side2 => exact HC0.out); rintro e w91 ⟨v247, rfl, ho0, hb⟩; have n0_ := Aside0.mk (Kd.R_lower ho0 (below_size (by repeat (first | (with_reducible first | exact HB.out | apply below_alloc | apply pw_below_drewN | apply below_drew1) | exact HB.out)))); have n1_ := Aside0.mk (below_step (by repeat (first | (with_reducible first | exact HB.out | apply below_alloc | apply pw_below_drewN | apply below_drew1) | exact HB.out)) hb); clear HB; have HO248 := n0_; have HB := n1_; clear n0_ n1_; (try clear hb); (try clear hb2); (try clear hk); (try clear hi); (try clear ho0); obtain ⟨Ao92, co92, eo92⟩ := Kd.R_slice HO248.out; subst eo92) | (go_at_call 14; (with_reducible refine (profile_Bung.calls k _ _ t246 t249 t250 _ ?side1 ?side2 A9.out).mono ?_); (case side1 => repeat (first | exact (Kd.R_reads' HO248.out).2.2 | (with_reducible refine Kd.C_alloc ?_ _) | (with_reducible refine Kd.C_drewN ?_ _) | (with_reducible refine Kd.C_drew ?_))); (case side2 => exact (Kd.R_reads' HO248.out).2.1); rintro e w93 ⟨rfl, hb⟩; have n0_ := Aside0.mk (Kd.R_below (by (with_reducible repeat (first | apply Kd.R_alloc | apply Kd.R_drewN | apply Kd.R_drew)); exact HO248.out) hb); have n1_ := Aside0.mk (below_step (by repeat (first | (with_reducible first | exact HB.out | apply below_alloc | apply pw_below_drewN | apply below_drew1) | exact HB.out)) hb); clear HO248; clear HB; have HO248 := n0_; have HB := n1_; clear n0_ n1_; (try clear hb); (try clear hb2); (try clear hk); (try clear hi)))
        repeat (go_quiet (first | (go_at_call 9; (with_reducible refine (spilelaw08_awake.calls k  true _ A4.out).mono ?_); rintro e w90 ⟨rfl, hb⟩; have n0_ := Aside0.mk (below_step (by repeat (first | (with_reducible first | exact HB.out | apply below_alloc | apply pw_below_drewN | apply below_drew1) | exact HB.out)) hb); clear HB; have HB := n0_; clear n0_; (try clear hb); (try clear hb2); (try clear hk); (try clear hi)) | (go_at_call 10; (with_reducible refine (spileref08_Few.calls _ _ l0 true _ ?side1 ?side2 A6.out).mono ?_); (case side1 => repeat (first | exact (Kd.C_below HR0.out HB.out) | (with_reducible refine Kd.C_alloc ?_ _) | (with_reducible refine Kd.C_drewN ?_ _) | (with_reducible refine Kd.C_drew ?_))); (case side2 => exact HC0.out); rintro e w' ⟨rfl, ⟨nd, rfl⟩⟩; (try first | exact ⟨rfl, _, World.drewN_drewN _ _ _⟩ | exact ⟨rfl, _, Eq.trans (World.drewN_drewN _ _ _) (congrArg (World.drewN _) (Nat.add_assoc _ _ _))⟩)) | (go_at_call 12; (with_reducible refine (api_Point_12.calls _ _ l0 t246 _ ?side1 ?side2 A8.out).mono ?_); (case side1 => repeat (first | exact (Kd.C_below HR0.out (by repeat (first | (with_reducible first | exact HB.out | apply below_alloc | apply pw_below_drewN | apply below_drew1) | exact HB.out))) | (with_reducible refine Kd.C_alloc ?_ _) | (with_reducible refine Kd.C_drewN ?_ _) | (with_reducible refine Kd.C_drew ?_))); (case side2 => exact HC0.out); rintro e w91 ⟨v247, rfl, ho0, hb⟩; have n0_ := Aside0.mk (Kd.R_lower ho0 (below_size (by repeat (first | (with_reducible first | exact HB.out | apply below_alloc | apply pw_below_drewN | apply below_drew1) | exact HB.out)))); have n1_ := Aside0.mk (below_step (by repeat (first | (with_reducible first | exact HB.out | apply below_alloc | apply pw_below_drewN | apply below_drew1) | exact HB.out)) hb); clear HB; have HO248 := n0_; have HB := n1_; clear n0_ n1_; (try clear hb); (try clear hb2); (try clear hk); (try clear hi); (try clear ho0); obtain ⟨Ao92, co92, eo92⟩ := Kd.R_slice HO248.out; subst eo92) | (go_at_call 14; (with_reducible refine (profile_Bung.calls k _ _ t246 t249 t250 _ ?side1 ?side2 A9.out).mono ?_); (case side1 => repeat (first | exact (Kd.R_reads' HO248.out).2.2 | (with_reducible refine Kd.C_alloc ?_ _) | (with_reducible refine Kd.C_drewN ?_ _) | (with_reducible refine Kd.C_drew ?_))); (case side2 => exact (Kd.R_reads' HO248.out).2.1); rintro e w93 ⟨rfl, hb⟩; have n0_ := Aside0.mk (Kd.R_below (by (with_reducible repeat (first | apply Kd.R_alloc | apply Kd.R_drewN | apply Kd.R_drew)); exact HO248.out) hb); have n1_ := Aside0.mk (below_step (by repeat (first | (with_reducible first | exact HB.out | apply below_alloc | apply pw_below_drewN | apply below_drew1) | exact HB.out)) hb); clear HO248; clear HB; have HO248 := n0_; have HB := n1_; clear n0_ n1_; (try clear hb); (try clear hb2); (try clear hk); (try clear hi))); try go_wp2_with (first | (go_at_call 9; (with_reducible refine (spilelaw08_awake.calls k  true _ A4.out).mono ?_); rintro e w90 ⟨rfl, hb⟩; have n0_ := Aside0.mk (below_step (by repeat (first | (with_reducible first | exact HB.out | apply below_alloc | apply pw_below_drewN | apply below_drew1) | exact HB.out)) hb); clear HB; have HB := n0_; clear n0_; (try clear hb); (try clear hb2); (try clear hk); (try clear hi)) | (go_at_call 10; (with_reducible refine (spileref08_Few.calls _ _ l0 true _ ?side1 ?side2 A6.out).mono ?_); (case side1 => repeat (first | exact (Kd.C_below HR0.out HB.out) | (with_reducible refine Kd.C_alloc ?_ _) | (with_reducible refine Kd.C_drewN ?_ _) | (with_reducible refine Kd.C_drew ?_))); (case side2 => exact HC0.out); rintro e w' ⟨rfl, ⟨nd, rfl⟩⟩; (try first | exact ⟨rfl, _, World.drewN_drewN _ _ _⟩ | exact ⟨rfl, _, Eq.trans (World.drewN_drewN _ _ _) (congrArg (World.drewN _) (Nat.add_assoc _ _ _))⟩)) | (go_at_call 12; (with_reducible refine (api_Point_12.calls _ _ l0 t246 _ ?side1 ?side2 A8.out).mono ?_); (case side1 => repeat (first | exact (Kd.C_below HR0.out (by repeat (first | (with_reducible first | exact HB.out | apply below_alloc | apply pw_below_drewN | apply below_drew1) | exact HB.out))) | (with_reducible refine Kd.C_alloc ?_ _) | (with_reducible refine Kd.C_drewN ?_ _) | (with_reducible refine Kd.C_drew ?_))); (case side2 => exact HC0.out); rintro e w91 ⟨v247, rfl, ho0, hb⟩; have n0_ := Aside0.mk (Kd.R_lower ho0 (below_size (by repeat (first | (with_reducible first | exact HB.out | apply below_alloc | apply pw_below_drewN | apply below_drew1) | exact HB.out)))); have n1_ := Aside0.mk (below_step (by repeat (first | (with_reducible first | exact HB.out | apply below_alloc | apply pw_below_drewN | apply below_drew1) | exact HB.out)) hb); clear HB; have HO248 := n0_; have HB := n1_; clear n0_ n1_; (try clear hb); (try clear hb2); (try clear hk); (try clear hi); (try clear ho0); obtain ⟨Ao92, co92, eo92⟩ := Kd.R_slice HO248.out; subst eo92) | (go_at_call 14; (with_reducible refine (profile_Bung.calls k _ _ t246 t249 t250 _ ?side1 ?side2 A9.out).mono ?_); (case side1 => repeat (first | exact (Kd.R_reads' HO248.out).2.2 | (with_reducible refine Kd.C_alloc ?_ _) | (with_reducible refine Kd.C_drewN ?_ _) | (with_reducible refine Kd.C_drew ?_))); (case side2 => exact (Kd.R_reads' HO248.out).2.1); rintro e w93 ⟨rfl, hb⟩; have n0_ := Aside0.mk (Kd.R_below (by (with_reducible repeat (first | apply Kd.R_alloc | apply Kd.R_drewN | apply Kd.R_drew)); exact HO248.out) hb); have n1_ := Aside0.mk (below_step (by repeat (first | (with_reducible first | exact HB.out | apply below_alloc | apply pw_below_drewN | apply below_drew1) | exact HB.out)) hb); clear HO248; clear HB; have HO248 := n0_; have HB := n1_; clear n0_ n1_; (try clear hb); (try clear hb2); (try clear hk); (try clear hi))))
        go_ret
        exact ⟨by first | rfl | (simp [errW_none, errW_some] <;> rfl) | (simp [*, errW_none, errW_some] <;> rfl), by repeat (first | (with_reducible first | exact HB.out | apply below_alloc | apply pw_below_drewN | apply below_drew1) | exact HB.out)⟩
    · replace c7 := Bool.eq_false_iff.mpr c7
      subst c7
      have H1 : (some true) = some r := by rw [if_neg (show ¬ (false = true) by decide)] at H; exact H
      clear H
      have H := H1
      clear H1
      obtain rfl := Option.some.inj H
      go_enter Try.func5, Try.ntmps5
      go_wp2_with (first | (go_at_call 9; (with_reducible refine (spilelaw08_awake.calls k  true _ A4.out).mono ?_); rintro e w94 ⟨rfl, hb⟩; have n0_ := Aside0.mk (below_step (by repeat (first | (with_reducible first | exact HB.out | apply below_alloc | apply pw_below_drewN | apply below_drew1) | exact HB.out)) hb); clear HB; have HB := n0_; clear n0_; (try clear hb); (try clear hb2); (try clear hk); (try clear hi)) | (go_at_call 10; (with_reducible refine (spileref08_Few.calls _ _ l0 false _ ?side1 ?side2 A6.out).mono ?_); (case side1 => repeat (first | exact (Kd.C_below HR0.out HB.out) | (with_reducible refine Kd.C_alloc ?_ _) | (with_reducible refine Kd.C_drewN ?_ _) | (with_reducible refine Kd.C_drew ?_))); (case side2 => exact HC0.out); rintro e w' ⟨rfl, ⟨nd, rfl⟩⟩; (try first | exact ⟨rfl, _, World.drewN_drewN _ _ _⟩ | exact ⟨rfl, _, Eq.trans (World.drewN_drewN _ _ _) (congrArg (World.drewN _) (Nat.add_assoc _ _ _))⟩)))
      repeat (go_quiet (first | (go_at_call 9; (with_reducible refine (spilelaw08_awake.calls k  true _ A4.out).mono ?_); rintro e w94 ⟨rfl, hb⟩; have n0_ := Aside0.mk (below_step (by repeat (first | (with_reducible first | exact HB.out | apply below_alloc | apply pw_below_drewN | apply below_drew1) | exact HB.out)) hb); clear HB; have HB := n0_; clear n0_; (try clear hb); (try clear hb2); (try clear hk); (try clear hi)) | (go_at_call 10; (with_reducible refine (spileref08_Few.calls _ _ l0 false _ ?side1 ?side2 A6.out).mono ?_); (case side1 => repeat (first | exact (Kd.C_below HR0.out HB.out) | (with_reducible refine Kd.C_alloc ?_ _) | (with_reducible refine Kd.C_drewN ?_ _) | (with_reducible refine Kd.C_drew ?_))); (case side2 => exact HC0.out); rintro e w' ⟨rfl, ⟨nd, rfl⟩⟩; (try first | exact ⟨rfl, _, World.drewN_drewN _ _ _⟩ | exact ⟨rfl, _, Eq.trans (World.drewN_drewN _ _ _) (congrArg (World.drewN _) (Nat.add_assoc _ _ _))⟩))); try go_wp2_with (first | (go_at_call 9; (with_reducible refine (spilelaw08_awake.calls k  true _ A4.out).mono ?_); rintro e w94 ⟨rfl, hb⟩; have n0_ := Aside0.mk (below_step (by repeat (first | (with_reducible first | exact HB.out | apply below_alloc | apply pw_below_drewN | apply below_drew1) | exact HB.out)) hb); clear HB; have HB := n0_; clear n0_; (try clear hb); (try clear hb2); (try clear hk); (try clear hi)) | (go_at_call 10; (with_reducible refine (spileref08_Few.calls _ _ l0 false _ ?side1 ?side2 A6.out).mono ?_); (case side1 => repeat (first | exact (Kd.C_below HR0.out HB.out) | (with_reducible refine Kd.C_alloc ?_ _) | (with_reducible refine Kd.C_drewN ?_ _) | (with_reducible refine Kd.C_drew ?_))); (case side2 => exact HC0.out); rintro e w' ⟨rfl, ⟨nd, rfl⟩⟩; (try first | exact ⟨rfl, _, World.drewN_drewN _ _ _⟩ | exact ⟨rfl, _, Eq.trans (World.drewN_drewN _ _ _) (congrArg (World.drewN _) (Nat.add_assoc _ _ _))⟩))))
      go_ret
      exact ⟨by first | rfl | (simp [errW_none, errW_some] <;> rfl) | (simp [*, errW_none, errW_some] <;> rfl), by repeat (first | (with_reducible first | exact HB.out | apply below_alloc | apply pw_below_drewN | apply below_drew1) | exact HB.out)⟩
  · replace c5 := Bool.eq_false_iff.mpr c5
    subst c5
    have H1 : (some false) = some r := by rw [if_neg (show ¬ (false = true) by decide)] at H; exact H
    clear H
    have H := H1
    clear H1
    obtain rfl := Option.some.inj H
    go_enter Try.func5, Try.ntmps5
    go_wp2_with (first | (go_at_call 9; (with_reducible refine (spilelaw08_awake.calls k  false _ A4.out).mono ?_); rintro e w95 ⟨rfl, hb⟩; have n0_ := Aside0.mk (below_step (by repeat (first | (with_reducible first | exact HB.out | apply below_alloc | apply pw_below_drewN | apply below_drew1) | exact HB.out)) hb); clear HB; have HB := n0_; clear n0_; (try clear hb); (try clear hb2); (try clear hk); (try clear hi)))
    repeat (go_quiet (first | (go_at_call 9; (with_reducible refine (spilelaw08_awake.calls k  false _ A4.out).mono ?_); rintro e w95 ⟨rfl, hb⟩; have n0_ := Aside0.mk (below_step (by repeat (first | (with_reducible first | exact HB.out | apply below_alloc | apply pw_below_drewN | apply below_drew1) | exact HB.out)) hb); clear HB; have HB := n0_; clear n0_; (try clear hb); (try clear hb2); (try clear hk); (try clear hi))); try go_wp2_with (first | (go_at_call 9; (with_reducible refine (spilelaw08_awake.calls k  false _ A4.out).mono ?_); rintro e w95 ⟨rfl, hb⟩; have n0_ := Aside0.mk (below_step (by repeat (first | (with_reducible first | exact HB.out | apply below_alloc | apply pw_below_drewN | apply below_drew1) | exact HB.out)) hb); clear HB; have HB := n0_; clear n0_; (try clear hb); (try clear hb2); (try clear hk); (try clear hi))))
    go_ret
    exact ⟨by first | rfl | (simp [errW_none, errW_some] <;> rfl) | (simp [*, errW_none, errW_some] <;> rfl), by repeat (first | (with_reducible first | exact HB.out | apply below_alloc | apply pw_below_drewN | apply below_drew1) | exact HB.out)⟩

-- NOT PRINTED: function 6 (spilelaw08_ProfileInserted)

end Go.Proofs.Ytdomdddponkmhaa.X
