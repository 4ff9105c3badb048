-- Written by a program of this work, over the kit's print of the translation. Not trusted: Lean checks it.
import Derived.Test.YtccocolcgdiglaaXx0
import Derived.Test.YtccocolcgdiglaaXx3
import Derived.Test.YtccocolcgdiglaaAwk
import Derived.Test.YtccocolcgdiglaaCli
import Derived.Test.YtccocolcgdiglaaClr
import Derived.Test.YtccocolcgdiglaaGrl
import Derived.Test.YtccocolcgdiglaaMpj
import Derived.Test.YtccocolcgdiglaaTail
import Derived.OwnWalkIn
import Derived.TacticsInMore
import Derived.StillTailTactics
namespace Go.Proofs.Ytccocolcgdiglaa.X
open Go.RowKit Go.Proofs.YtccocolcgdiglaaW.PrintWords Go.Proofs.YtccocolcgdiglaaW.PrintLast Go.Proofs.YtccocolcgdiglaaW.PrintMore
attribute [local go_sem] max2_int min2_int max_two min_two max_three min_three max_four min_four   -- for this text's walks alone
set_option linter.unusedVariables false
set_option linter.unusedSimpArgs false
/-! ### spilelaw47_ReliefBounded: function 7 -/
mutual
def spilelaw47_ReliefBounded.j0 : Nat → List (S33) → List (S25) → Bool → Option (Bool)
 | 0, _, _, _ => none
 | k + 1, x0, x1, x22 => if x22 = true then ((spilelaw47_awake.f k).bind fun t295 => (some t295)) else ((api_Relief_13.f x0).bind fun t296 => ((api_Item_14.f x1).bind fun t299 => ((relief_Grant.f k t296 t299).bind fun bt302 => (if bt302.2.2 = 0 then (if (bt302.1.length : Int) = (x1.length : Int) then (spilelaw47_ReliefBounded.j1 k x0 x1 bt302.1 (bt302.2.1 != (-1))) else (spilelaw47_ReliefBounded.j1 k x0 x1 bt302.1 true)) else (if (bt302.1.length : Int) = 0 then (some ((bt302.2.2 == 1) == (bt302.2.1 == (-1)))) else (some false))))))
def spilelaw47_ReliefBounded.j1 : Nat → List (S33) → List (S25) → List Int → Bool → Option (Bool)
 | 0, _, _, _, _ => none
 | k + 1, x0, x1, x5, x53 => if x53 = true then (some false) else (spilelaw47_ReliefBounded.l0 k x0 x1 x5 0 x1 (x1.length : Int) 0)
def spilelaw47_ReliefBounded.l0 : Nat → List (S33) → List (S25) → List Int → Int → List (S25) → Int → Int → Option (Bool)
 | 0, _, _, _, _, _, _, _ => none
 | k + 1, x0, x1, x5, x8, x55, x56, x57 => if x57 < x56 then (if 0 ≤ x57 then (if x57 < (x55.length : Int) then (if x57 < (x5.length : Int) then (if (rd x5 x57) < 0 then (some false) else (if (rd x5 x57) > ((rd_T25 x55 x57).f3) then (some false) else (if ((rd_T25 x55 x57).f4) = 0 then (if (rd x5 x57) = 0 then (if (0 ≤ ((rd_T25 x55 x57).f4) ∧ ((rd_T25 x55 x57).f4) ≤ 1073741824) then (spilelaw47_ReliefBounded.l0 k x0 x1 x5 x8 x55 x56 (wrap64 (x57 + 1))) else (none)) else (some false)) else (if (0 ≤ ((rd_T25 x55 x57).f4) ∧ ((rd_T25 x55 x57).f4) ≤ 1073741824) then (spilelaw47_ReliefBounded.l0 k x0 x1 x5 x8 x55 x56 (wrap64 (x57 + 1))) else (none))))) else (none)) else (none)) else (none)) else (spilelaw47_ReliefBounded.l1 k x0 x1 (x5.take x1.length) x0 (x0.length : Int) 0)
def spilelaw47_ReliefBounded.l1 : Nat → List (S33) → List (S25) → List Int → List (S33) → Int → Int → Option (Bool)
 | 0, _, _, _, _, _, _ => none
 | k + 1, x0, x1, x8, x98, x99, x100 => if x100 < x99 then (if 0 ≤ x100 then (if x100 < (x98.length : Int) then ((api_Relief_13.f x0).bind fun t316 => ((api_Item_14.f x1).bind fun t319 => ((relief_Left.f k t316 t319 ((rd_T33 x98 x100).f0)).bind fun bt322 => (if ((rd_T33 x98 x100).f6) = 0 then (if bt322.2 = 15 then (spilelaw47_ReliefBounded.l1 k x0 x1 x8 x98 x99 (wrap64 (x100 + 1))) else (some false)) else (if bt322.2 = 0 then (if bt322.1 < 0 then (some false) else (if (0 ≤ ((rd_T33 x98 x100).f0) ∧ ((rd_T33 x98 x100).f0) ≤ 1073741824) then (if (wrap64 (bt322.1 + (Mpi.gv x1 x8 ((rd_T33 x98 x100).f0)))) = ((rd_T33 x98 x100).f6) then (spilelaw47_ReliefBounded.l1 k x0 x1 x8 x98 x99 (wrap64 (x100 + 1))) else (some false)) else (none))) else (some false)))))) else (none)) else (none)) else (some true)
end
def spilelaw47_ReliefBounded.f (k : Nat) (l0 : List (S33)) (l1 : List (S25)) : Option (Bool) := (spilelaw47_awake.f k).bind fun t293 => (if t293 = true then ((spileref47_Few.f k l0 l1).bind fun t294 => (spilelaw47_ReliefBounded.j0 k l0 l1 (!t294))) else (spilelaw47_ReliefBounded.j0 k l0 l1 true))
theorem spilelaw47_ReliefBounded.mono_l : ∀ k, (∀ y0 y1 y2, LeO (spilelaw47_ReliefBounded.j0 k y0 y1 y2) (spilelaw47_ReliefBounded.j0 (k + 1) y0 y1 y2)) ∧ (∀ y0 y1 y2 y3, LeO (spilelaw47_ReliefBounded.j1 k y0 y1 y2 y3) (spilelaw47_ReliefBounded.j1 (k + 1) y0 y1 y2 y3)) ∧ (∀ y0 y1 y2 y3 y4 y5 y6, LeO (spilelaw47_ReliefBounded.l0 k y0 y1 y2 y3 y4 y5 y6) (spilelaw47_ReliefBounded.l0 (k + 1) y0 y1 y2 y3 y4 y5 y6)) ∧ (∀ y0 y1 y2 y3 y4 y5, LeO (spilelaw47_ReliefBounded.l1 k y0 y1 y2 y3 y4 y5) (spilelaw47_ReliefBounded.l1 (k + 1) y0 y1 y2 y3 y4 y5))
 | 0 => ⟨fun _ _ _ r h => by simp [spilelaw47_ReliefBounded.j0] at h, fun _ _ _ _ r h => by simp [spilelaw47_ReliefBounded.j1] at h, fun _ _ _ _ _ _ _ r h => by simp [spilelaw47_ReliefBounded.l0] at h, fun _ _ _ _ _ _ r h => by simp [spilelaw47_ReliefBounded.l1] at h⟩
 | k + 1 => by
  obtain ⟨ih0, ih1, ih2, ih3⟩ := spilelaw47_ReliefBounded.mono_l k
  refine ⟨?_, ?_, ?_, ?_⟩
  ·intro y0 y1 y2
   unfold spilelaw47_ReliefBounded.j0
   repeat' first
   | (with_reducible exact ih0 _ _ _)
   | (with_reducible exact ih1 _ _ _ _)
   | (with_reducible exact ih2 _ _ _ _ _ _ _)
   | (with_reducible exact ih3 _ _ _ _ _ _)
   | (with_reducible exact relief_Grant.mono _ _ _)
   | (with_reducible exact relief_Left.mono _ _ _ _)
   | (with_reducible exact spilelaw47_awake.mono _)
   | (with_reducible exact spileref47_Few.mono _ _ _)
   | (with_reducible exact LeO.refl _)
   | (with_reducible exact LeO.none _)
   | (with_reducible refine LeO.ite ?_ ?_)
   | (with_reducible refine LeO.bind ?_ (fun _ => ?_))
   | exact ih0 _ _ _
   | exact ih1 _ _ _ _
   | exact ih2 _ _ _ _ _ _ _
   | exact ih3 _ _ _ _ _ _
   | exact relief_Grant.mono _ _ _
   | exact relief_Left.mono _ _ _ _
   | exact spilelaw47_awake.mono _
   | exact spileref47_Few.mono _ _ _
   | exact LeO.none _
   | refine LeO.ite ?_ ?_
   | refine LeO.bind ?_ (fun _ => ?_)
  ·intro y0 y1 y2 y3
   unfold spilelaw47_ReliefBounded.j1
   repeat' first
   | (with_reducible exact ih0 _ _ _)
   | (with_reducible exact ih1 _ _ _ _)
   | (with_reducible exact ih2 _ _ _ _ _ _ _)
   | (with_reducible exact ih3 _ _ _ _ _ _)
   | (with_reducible exact relief_Grant.mono _ _ _)
   | (with_reducible exact relief_Left.mono _ _ _ _)
   | (with_reducible exact spilelaw47_awake.mono _)
   | (with_reducible exact spileref47_Few.mono _ _ _)
   | (with_reducible exact LeO.refl _)
   | (with_reducible exact LeO.none _)
   | (with_reducible refine LeO.ite ?_ ?_)
   | (with_reducible refine LeO.bind ?_ (fun _ => ?_))
   | exact ih0 _ _ _
   | exact ih1 _ _ _ _
   | exact ih2 _ _ _ _ _ _ _
   | exact ih3 _ _ _ _ _ _
   | exact relief_Grant.mono _ _ _
   | exact relief_Left.mono _ _ _ _
   | exact spilelaw47_awake.mono _
   | exact spileref47_Few.mono _ _ _
   | exact LeO.none _
   | refine LeO.ite ?_ ?_
   | refine LeO.bind ?_ (fun _ => ?_)
  ·intro y0 y1 y2 y3 y4 y5 y6
   unfold spilelaw47_ReliefBounded.l0
   repeat' first
   | (with_reducible exact ih0 _ _ _)
   | (with_reducible exact ih1 _ _ _ _)
   | (with_reducible exact ih2 _ _ _ _ _ _ _)
   | (with_reducible exact ih3 _ _ _ _ _ _)
   | (with_reducible exact relief_Grant.mono _ _ _)
   | (with_reducible exact relief_Left.mono _ _ _ _)
   | (with_reducible exact spilelaw47_awake.mono _)
   | (with_reducible exact spileref47_Few.mono _ _ _)
   | (with_reducible exact LeO.refl _)
   | (with_reducible exact LeO.none _)
   | (with_reducible refine LeO.ite ?_ ?_)
   | (with_reducible refine LeO.bind ?_ (fun _ => ?_))
   | exact ih0 _ _ _
   | exact ih1 _ _ _ _
   | exact ih2 _ _ _ _ _ _ _
   | exact ih3 _ _ _ _ _ _
   | exact relief_Grant.mono _ _ _
   | exact relief_Left.mono _ _ _ _
   | exact spilelaw47_awake.mono _
   | exact spileref47_Few.mono _ _ _
   | exact LeO.none _
   | refine LeO.ite ?_ ?_
   | refine LeO.bind ?_ (fun _ => ?_)
  ·intro y0 y1 y2 y3 y4 y5
   unfold spilelaw47_ReliefBounded.l1
   repeat' first
   | (with_reducible exact ih0 _ _ _)
   | (with_reducible exact ih1 _ _ _ _)
   | (with_reducible exact ih2 _ _ _ _ _ _ _)
   | (with_reducible exact ih3 _ _ _ _ _ _)
   | (with_reducible exact relief_Grant.mono _ _ _)
   | (with_reducible exact relief_Left.mono _ _ _ _)
   | (with_reducible exact spilelaw47_awake.mono _)
   | (with_reducible exact spileref47_Few.mono _ _ _)
   | (with_reducible exact LeO.refl _)
   | (with_reducible exact LeO.none _)
   | (with_reducible refine LeO.ite ?_ ?_)
   | (with_reducible refine LeO.bind ?_ (fun _ => ?_))
   | exact ih0 _ _ _
   | exact ih1 _ _ _ _
   | exact ih2 _ _ _ _ _ _ _
   | exact ih3 _ _ _ _ _ _
   | exact relief_Grant.mono _ _ _
   | exact relief_Left.mono _ _ _ _
   | exact spilelaw47_awake.mono _
   | exact spileref47_Few.mono _ _ _
   | exact LeO.none _
   | refine LeO.ite ?_ ?_
   | refine LeO.bind ?_ (fun _ => ?_)
theorem spilelaw47_ReliefBounded.mono : ∀ a0 a1 k, LeO (spilelaw47_ReliefBounded.f k a0 a1) (spilelaw47_ReliefBounded.f (k + 1) a0 a1) := by
 intro a0 a1 k
 obtain ⟨ih0, ih1, ih2, ih3⟩ := spilelaw47_ReliefBounded.mono_l k
 unfold spilelaw47_ReliefBounded.f
 repeat' first
   | (with_reducible exact ih0 _ _ _)
   | (with_reducible exact ih1 _ _ _ _)
   | (with_reducible exact ih2 _ _ _ _ _ _ _)
   | (with_reducible exact ih3 _ _ _ _ _ _)
   | (with_reducible exact relief_Grant.mono _ _ _)
   | (with_reducible exact relief_Left.mono _ _ _ _)
   | (with_reducible exact spilelaw47_awake.mono _)
   | (with_reducible exact spileref47_Few.mono _ _ _)
   | (with_reducible exact LeO.refl _)
   | (with_reducible exact LeO.none _)
   | (with_reducible refine LeO.ite ?_ ?_)
   | (with_reducible refine LeO.bind ?_ (fun _ => ?_))
   | exact ih0 _ _ _
   | exact ih1 _ _ _ _
   | exact ih2 _ _ _ _ _ _ _
   | exact ih3 _ _ _ _ _ _
   | exact relief_Grant.mono _ _ _
   | exact relief_Left.mono _ _ _ _
   | exact spilelaw47_awake.mono _
   | exact spileref47_Few.mono _ _ _
   | exact LeO.none _
   | refine LeO.ite ?_ ?_
   | refine LeO.bind ?_ (fun _ => ?_)
def spilelaw47_ReliefBounded.T12 : Bool × List (List Nat × List Nat) := (true, [([], []), ([], []), ([0, 1], [0, 1]), ([2], [2]), ([3], [3]), ([4], [4]), ([5], [5]), ([5], [5]), ([6, 7, 5], [5, 6, 7]), ([8, 5], [5, 8]), ([5], [5]), ([10, 5], [5, 10]), ([9, 11, 5], [5, 9, 11]), ([5, 12], [5, 12]), ([13, 5], [13]), ([14], [14]), ([15, 14], [14, 15]), ([16, 14], [14, 16]), ([17, 14, 14], [14, 17]), ([18], [18]), ([18], [18]), ([19, 20, 18], [18, 19, 20]), ([21, 18], [18, 21]), ([22, 18], [18, 22]), ([18, 23, 14], [14, 18, 23]), ([14, 24], [14, 24])])
def spilelaw47_ReliefBounded.B12 : List Nat := [0, 0, 3, 7, 15, 31, 63, 63, 255, 511, 63, 1087, 4095, 8191, 16383, 32767, 65535, 131071, 262143, 524287, 524287, 2097151, 4194303, 8388607, 16777215, 33554431]
theorem spilelaw47_ReliefBounded.tab12 : rtab .any (opsOf Try.f7 12) = spilelaw47_ReliefBounded.T12 := by kernel_rfl
theorem spilelaw47_ReliefBounded.bits12 : waitsOk spilelaw47_ReliefBounded.T12.2 spilelaw47_ReliefBounded.B12 = true := by kernel_rfl
def spilelaw47_ReliefBounded.T19 : Bool × List (List Nat × List Nat) := (true, [([], []), ([0], [0]), ([], []), ([2, 1], [2]), ([], []), ([4], [4]), ([1, 3, 5, 3], [1, 3, 5]), ([6], [6]), ([7], [7]), ([7], [7]), ([8, 6, 0, 1, 2, 3, 4, 5, 6, 7, 8], [8]), ([9, 10, 0, 1, 2, 3, 4, 5, 6, 7, 8, 9, 10], [9])])
def spilelaw47_ReliefBounded.B19 : List Nat := [0, 1, 0, 7, 0, 16, 63, 127, 255, 255, 511, 2047]
theorem spilelaw47_ReliefBounded.tab19 : rtab .any (opsOf Try.f7 19) = spilelaw47_ReliefBounded.T19 := by kernel_rfl
theorem spilelaw47_ReliefBounded.bits19 : waitsOk spilelaw47_ReliefBounded.T19.2 spilelaw47_ReliefBounded.B19 = true := by kernel_rfl
set_option maxHeartbeats 8000000 in
set_option maxRecDepth 100000 in
theorem spilelaw47_ReliefBounded.calls (k : Nat) (A0 : Option Addr) (c0 : Nat) (l0 : List (S33)) (A1 : Option Addr) (c1 : Nat) (l1 : List (S25)) (r : Bool) (w : World) (hr0 : Kd.C k33 w A0 l0.length l0) (hc0 : l0.length ≤ c0) (hr1 : Kd.C k25 w A1 l1.length l1) (hc1 : l1.length ≤ c1) (h : spilelaw47_ReliefBounded.f k l0 l1 = some r) (hr_ : r = true) :
  Calls Try.prog 7 #[.slice A0 l0.length c0, .slice A1 l1.length c1] w fun e w' => e = .returned (.bool r) ∧ Below w.heap.size w w' := by
 have hu25 := Try.underlying25; have hu33 := Try.underlying33
 have HR0 := Aside0.mk hr0
 have HC0 := Aside0.mk hc0
 clear hr0 hc0
 have HR1 := Aside0.mk hr1
 have HC1 := Aside0.mk hc1
 have LL := Aside0.mk hr1.2.1
 clear hr1 hc1; have HB := Aside0.mk (Below.refl w.heap.size w)
 have H : ((spilelaw47_awake.f k).bind fun t293 => (if t293 = true then ((spileref47_Few.f k l0 l1).bind fun t294 => (spilelaw47_ReliefBounded.j0 k l0 l1 (!t294))) else (spilelaw47_ReliefBounded.j0 k l0 l1 true))) = some r := h
 clear h
 have HC3 := Aside0.mk H
 clear H
 go_enter Try.func7, Try.ntmps7
 go_upto_region 1 with (fail)
 go_cut [22] (fun v22 wc => ∃ (kq : Nat) (x22_2 : Bool), v22 = .bool x22_2 ∧ Aside0 (spilelaw47_ReliefBounded.j0 kq l0 l1 x22_2 = some r) ∧ Aside0 (kq ≤ k) ∧ Aside0 (Below w.heap.size w wc))
 case first =>
  have H := HC3.out; clear HC3
  replace H := Option.bind_eq_some_iff.mp H
  obtain ⟨t293, A40, H⟩ := H
  try dsimp only at H
  have A4 := Aside0.mk A40
  clear A40
  by_cases c5 : t293 = true
  ·subst c5
   have H1 : ((spileref47_Few.f k l0 l1).bind fun t294 => (spilelaw47_ReliefBounded.j0 k l0 l1 (!t294))) = some r := by rw [if_pos rfl] at H; exact H
   clear H; have H := H1; clear H1
   replace H := Option.bind_eq_some_iff.mp H
   obtain ⟨t294, A60, H⟩ := H
   try dsimp only at H
   have A6 := Aside0.mk A60
   clear A60
   have H' := Aside0.mk H
   clear H
   go_wp2_with (first | ((with_reducible refine gate_callee (f := 10) rfl ?_); refine goesL_ (some 15) rfl rfl Try.func10 (by kernel_rfl) rfl #[] rfl (by (try simp only [List.map_toArray, List.map_cons, List.map_nil]); first | done | rfl | (simp only [List.length_drop, List.length_take]; rfl)) ?_; (with_reducible refine (spilelaw47_awake.calls k  true _ A4.out).mono ?_); rintro e w7 ⟨rfl, hb⟩; refine ⟨_, rfl, ?_⟩; have n0_ := Aside0.mk (below_step (by repeat (first | (with_reducible first | exact HB.out | apply below_alloc | apply pw_below_drewN | apply below_drew1) | exact HB.out)) hb); clear HB; have HB := n0_; clear n0_; (try clear hb); (try clear hb2); (try clear hk); (try clear hi)) | (go_at_call 11; (with_reducible refine (spileref47_Few.calls k _ _ l0 _ _ l1 t294 _ ?side1 ?side2 ?side3 ?side4 A6.out).mono ?_); (case side1 => repeat (first | exact (Kd.C_below HR0.out HB.out) | (with_reducible refine Kd.C_alloc ?_ _) | (with_reducible refine Kd.C_drewN ?_ _) | (with_reducible refine Kd.C_drew ?_))); (case side2 => exact HC0.out); (case side3 => repeat (first | exact (Kd.C_below HR1.out HB.out) | (with_reducible refine Kd.C_alloc ?_ _) | (with_reducible refine Kd.C_drewN ?_ _) | (with_reducible refine Kd.C_drew ?_))); (case side4 => exact HC1.out); rintro e w' ⟨rfl, ⟨nd, rfl⟩⟩))
   go_meet
   case rel => exact ⟨_, (!t294), (by first | rfl | (simp; done) | (simp [*]; done)), H', ⟨by first | omega | exact Nat.le_refl _⟩, ⟨by repeat (first | (with_reducible first | exact HB.out | apply below_alloc | apply pw_below_drewN | apply below_drew1) | exact HB.out)⟩⟩
  ·replace c5 := Bool.eq_false_iff.mpr c5
   subst c5
   have H1 : (spilelaw47_ReliefBounded.j0 k l0 l1 true) = some r := by rw [if_neg (show ¬ (false = true) by decide)] at H; exact H
   clear H; have H := H1; clear H1
   have H' := Aside0.mk H
   clear H
   go_wp2_with (first | ((with_reducible refine gate_callee (f := 10) rfl ?_); refine goesL_ (some 15) rfl rfl Try.func10 (by kernel_rfl) rfl #[] rfl (by (try simp only [List.map_toArray, List.map_cons, List.map_nil]); first | done | rfl | (simp only [List.length_drop, List.length_take]; rfl)) ?_; (with_reducible refine (spilelaw47_awake.calls k  false _ A4.out).mono ?_); rintro e w8 ⟨rfl, hb⟩; refine ⟨_, rfl, ?_⟩; have n0_ := Aside0.mk (below_step (by repeat (first | (with_reducible first | exact HB.out | apply below_alloc | apply pw_below_drewN | apply below_drew1) | exact HB.out)) hb); clear HB; have HB := n0_; clear n0_; (try clear hb); (try clear hb2); (try clear hk); (try clear hi)))
   go_meet
   case rel => exact ⟨_, (true), (by first | rfl | (simp; done) | (simp [*]; done)), H', ⟨by first | omega | exact Nat.le_refl _⟩, ⟨by repeat (first | (with_reducible first | exact HB.out | apply below_alloc | apply pw_below_drewN | apply below_drew1) | exact HB.out)⟩⟩
 case rest =>
  clear HC3
  obtain ⟨kq, x22_2, rfl, HA, HJ2, HB⟩ := hcut
  cases kq with
  | zero => exact absurd HA.out (by simp [spilelaw47_ReliefBounded.j0])
  | succ kj2 =>
   have H := HA.out; clear HA
   simp only [spilelaw47_ReliefBounded.j0] at H
   by_cases c9 : x22_2 = true
   ·subst c9
    have H1 : ((spilelaw47_awake.f kj2).bind fun t295 => (some t295)) = some r := by rw [if_pos rfl] at H; exact H
    clear H; have H := H1; clear H1
    replace H := Option.bind_eq_some_iff.mp H
    obtain ⟨t295, A100, H⟩ := H
    try dsimp only at H
    have A10 := Aside0.mk A100
    clear A100
    obtain rfl := Option.some.inj H
    go_wp2_with (first | ((with_reducible refine gate_callee (f := 10) rfl ?_); refine goesL_ (some 23) rfl rfl Try.func10 (by kernel_rfl) rfl #[] rfl (by (try simp only [List.map_toArray, List.map_cons, List.map_nil]); first | done | rfl | (simp only [List.length_drop, List.length_take]; rfl)) ?_; (with_reducible refine (spilelaw47_awake.calls kj2  t295 _ A10.out).mono ?_); rintro e w11 ⟨rfl, hb⟩; refine ⟨_, rfl, ?_⟩; have n0_ := Aside0.mk (below_step (by repeat (first | (with_reducible first | exact HB.out | apply below_alloc | apply pw_below_drewN | apply below_drew1) | exact HB.out)) hb); clear HB; have HB := n0_; clear n0_; (try clear hb); (try clear hb2); (try clear hk); (try clear hi)))
    go_ret
    exact ⟨by first | rfl | (simp [errW_none, errW_some] <;> rfl) | (simp [*, errW_none, errW_some] <;> rfl), by repeat (first | (with_reducible first | exact HB.out | apply below_alloc | apply pw_below_drewN | apply below_drew1) | exact HB.out)⟩
   ·replace c9 := Bool.eq_false_iff.mpr c9
    subst c9
    have H1 : ((api_Relief_13.f l0).bind fun t296 => ((api_Item_14.f l1).bind fun t299 => ((relief_Grant.f kj2 t296 t299).bind fun bt302 => (if bt302.2.2 = 0 then (if (bt302.1.length : Int) = (l1.length : Int) then (spilelaw47_ReliefBounded.j1 kj2 l0 l1 bt302.1 (bt302.2.1 != (-1))) else (spilelaw47_ReliefBounded.j1 kj2 l0 l1 bt302.1 true)) else (if (bt302.1.length : Int) = 0 then (some ((bt302.2.2 == 1) == (bt302.2.1 == (-1)))) else (some false)))))) = some r := by rw [if_neg (show ¬ (false = true) by decide)] at H; exact H
    clear H; have H := H1; clear H1
    replace H := Option.bind_eq_some_iff.mp H
    obtain ⟨t296, A120, H⟩ := H
    try dsimp only at H
    have A12 := Aside0.mk A120
    clear A120
    replace H := Option.bind_eq_some_iff.mp H
    obtain ⟨t299, A130, H⟩ := H
    try dsimp only at H
    have A13 := Aside0.mk A130
    clear A130
    replace H := Option.bind_eq_some_iff.mp H
    obtain ⟨⟨t302, t303, t304⟩, A140, H⟩ := H
    try dsimp only at H
    have A14 := Aside0.mk A140
    clear A140
    by_cases c15 : t304 = 0
    ·rw [if_pos c15] at H
     have c15b0 : (t304 == 0) = true := beq_iff_eq.mpr c15
     have c15b1 : (t304 != 0) = false := bne_eq_false_iff_eq.mpr c15
     clear c15
     have HC16 := Aside0.mk H
     clear H
     go_upto_region 6 with (first | ((with_reducible refine gate_callee (f := 13) rfl ?_); refine goesL_ (some 26) rfl rfl Try.func13 (by kernel_rfl) rfl #[.slice A0 l0.length c0] rfl (by (try simp only [List.map_toArray, List.map_cons, List.map_nil]); first | done | rfl | (simp only [List.length_drop, List.length_take]; rfl)) ?_; (with_reducible refine (api_Relief_13.calls _ _ l0 t296 _ ?side1 ?side2 A12.out).mono ?_); (case side1 => repeat (first | exact (Kd.C_below HR0.out HB.out) | (with_reducible refine Kd.C_alloc ?_ _) | (with_reducible refine Kd.C_drewN ?_ _) | (with_reducible refine Kd.C_drew ?_))); (case side2 => exact HC0.out); rintro e w17 ⟨v297, rfl, ho0, hb⟩; refine ⟨_, rfl, ?_⟩; have n0_ := Aside0.mk (Kd.R_lower ho0 (below_size (by repeat (first | (with_reducible first | exact HB.out | apply below_alloc | apply pw_below_drewN | apply below_drew1) | exact HB.out)))); have n1_ := Aside0.mk (below_step (by repeat (first | (with_reducible first | exact HB.out | apply below_alloc | apply pw_below_drewN | apply below_drew1) | exact HB.out)) hb); clear HB; have HO298 := n0_; have HB := n1_; clear n0_ n1_; (try clear hb); (try clear hb2); (try clear hk); (try clear hi); (try clear ho0)) | ((with_reducible refine gate_callee (f := 14) rfl ?_); refine goesL_ (some 28) rfl rfl Try.func14 (by kernel_rfl) rfl #[.slice A1 l1.length c1] rfl (by (try simp only [List.map_toArray, List.map_cons, List.map_nil]); first | done | rfl | (simp only [List.length_drop, List.length_take]; rfl)) ?_; (with_reducible refine (api_Item_14.calls _ _ l1 t299 _ ?side1 ?side2 A13.out).mono ?_); (case side1 => repeat (first | exact (Kd.C_below HR1.out HB.out) | (with_reducible refine Kd.C_alloc ?_ _) | (with_reducible refine Kd.C_drewN ?_ _) | (with_reducible refine Kd.C_drew ?_))); (case side2 => exact HC1.out); rintro e w18 ⟨v300, rfl, ho0, hb⟩; refine ⟨_, rfl, ?_⟩; have n0_ := Aside0.mk (Kd.R_below (by (with_reducible repeat (first | apply Kd.R_alloc | apply Kd.R_drewN | apply Kd.R_drew)); exact HO298.out) hb); have n1_ := Aside0.mk (Kd.R_lower ho0 (below_size (by repeat (first | (with_reducible first | exact HB.out | apply below_alloc | apply pw_below_drewN | apply below_drew1) | exact HB.out)))); have n2_ := Aside0.mk (below_step (by repeat (first | (with_reducible first | exact HB.out | apply below_alloc | apply pw_below_drewN | apply below_drew1) | exact HB.out)) hb); clear HO298; clear HB; have HO298 := n0_; have HO301 := n1_; have HB := n2_; clear n0_ n1_ n2_; (try clear hb); (try clear hb2); (try clear hk); (try clear hi); (try clear ho0); obtain ⟨Ao19, co19, eo19⟩ := Kd.R_slice HO298.out; subst eo19; obtain ⟨Ao20, co20, eo20⟩ := Kd.R_slice HO301.out; subst eo20) | ((with_reducible refine gate_callee (f := 15) rfl ?_); refine goesL_ (some 29) rfl rfl Try.func15 (by kernel_rfl) rfl #[.slice Ao19 t296.length co19, .slice Ao20 t299.length co20] rfl (by (try simp only [List.map_toArray, List.map_cons, List.map_nil]); first | done | rfl | (simp only [List.length_drop, List.length_take]; rfl)) ?_; (with_reducible refine (relief_Grant.calls kj2 _ _ t296 _ _ t299 t302 t303 t304 _ ?side1 ?side2 ?side3 ?side4 A14.out).mono ?_); (case side1 => repeat (first | exact (Kd.R_reads' HO298.out).2.2 | (with_reducible refine Kd.C_alloc ?_ _) | (with_reducible refine Kd.C_drewN ?_ _) | (with_reducible refine Kd.C_drew ?_))); (case side2 => exact (Kd.R_reads' HO298.out).2.1); (case side3 => repeat (first | exact (Kd.R_reads' HO301.out).2.2 | (with_reducible refine Kd.C_alloc ?_ _) | (with_reducible refine Kd.C_drewN ?_ _) | (with_reducible refine Kd.C_drew ?_))); (case side4 => exact (Kd.R_reads' HO301.out).2.1); rintro e w21 ⟨v305, rfl, ho0, hb⟩; refine ⟨_, rfl, ?_⟩; have n0_ := Aside0.mk (Kd.R_below (by (with_reducible repeat (first | apply Kd.R_alloc | apply Kd.R_drewN | apply Kd.R_drew)); exact HO298.out) hb); have n1_ := Aside0.mk (Kd.R_below (by (with_reducible repeat (first | apply Kd.R_alloc | apply Kd.R_drewN | apply Kd.R_drew)); exact HO301.out) hb); have n2_ := Aside0.mk (Kd.R_lower ho0 (below_size (by repeat (first | (with_reducible first | exact HB.out | apply below_alloc | apply pw_below_drewN | apply below_drew1) | exact HB.out)))); have n3_ := Aside0.mk (below_step (by repeat (first | (with_reducible first | exact HB.out | apply below_alloc | apply pw_below_drewN | apply below_drew1) | exact HB.out)) hb); clear HO298; clear HO301; clear HB; have HO298 := n0_; have HO301 := n1_; have HO306 := n2_; have HB := n3_; clear n0_ n1_ n2_ n3_; (try clear hb); (try clear hb2); (try clear hk); (try clear hi); (try clear ho0)))
     (try simp only [Act.put, List.setIfInBounds_toArray, List.set_cons_zero, List.set_cons_succ])
     go_cut [53] (fun v53 wc => ∃ (kq : Nat) (x53_15 : Bool), v53 = .bool x53_15 ∧ Aside0 (spilelaw47_ReliefBounded.j1 kq l0 l1 t302 x53_15 = some r) ∧ Aside0 (kq ≤ kj2) ∧ Aside0 (Kd.R (Kd.int .i64) 3 wc w.heap.size (fun _ => True) v305 t302) ∧ Aside0 (Below w.heap.size w wc))
     case first =>
      have H := HC16.out; clear HC16
      by_cases c22 : (t302.length : Int) = (l1.length : Int)
      ·rw [if_pos c22] at H
       have c22b0 : ((t302.length : Int) == (l1.length : Int)) = true := beq_iff_eq.mpr c22
       have c22b1 : ((t302.length : Int) != (l1.length : Int)) = false := bne_eq_false_iff_eq.mpr c22
       have c22b2 : (t302.length == l1.length) = true := by first | simpa using c22 | (simp at c22 ⊢; omega)
       clear c22
       (first | rw [c22b0] | (simp only [i64_w, i32_w]; rw [c22b0]) | skip)
       have H' := Aside0.mk H
       clear H
       obtain ⟨Ao23, co23, eo23⟩ := Kd.R_slice HO306.out
       subst eo23
       go_wp2
       go_meet
       case rel => exact ⟨_, ((t303 != (-1))), (by first | rfl | (simp; done) | (simp [*]; done)), H', ⟨by have := HJ2.out; first | omega | exact Nat.le_refl _⟩, ⟨by (with_reducible repeat (first | apply Kd.R_alloc | apply Kd.R_drewN | apply Kd.R_drew)); exact HO306.out⟩, ⟨by repeat (first | (with_reducible first | exact HB.out | apply below_alloc | apply pw_below_drewN | apply below_drew1) | exact HB.out)⟩⟩
      ·rw [if_neg c22] at H
       have c22b0 : ((t302.length : Int) == (l1.length : Int)) = false := beq_eq_false_iff_ne.mpr c22
       have c22b1 : ((t302.length : Int) != (l1.length : Int)) = true := bne_iff_ne.mpr c22
       have c22b2 : (t302.length == l1.length) = false := by first | simpa using c22 | (simp at c22 ⊢; omega)
       (first | rw [c22b0] | (simp only [i64_w, i32_w]; rw [c22b0]) | skip)
       have H' := Aside0.mk H
       clear H
       obtain ⟨Ao24, co24, eo24⟩ := Kd.R_slice HO306.out
       subst eo24
       go_wp2
       go_meet
       case rel => exact ⟨_, (true), (by first | rfl | (simp; done) | (simp [*]; done)), H', ⟨by have := HJ2.out; first | omega | exact Nat.le_refl _⟩, ⟨by (with_reducible repeat (first | apply Kd.R_alloc | apply Kd.R_drewN | apply Kd.R_drew)); exact HO306.out⟩, ⟨by repeat (first | (with_reducible first | exact HB.out | apply below_alloc | apply pw_below_drewN | apply below_drew1) | exact HB.out)⟩⟩
     case rest =>
      clear HC16
      obtain ⟨kq, x53_15, rfl, HA, HJ15, HO_5, HB⟩ := hcut
      cases kq with
      | zero => exact absurd HA.out (by simp [spilelaw47_ReliefBounded.j1])
      | succ kj15 =>
       have H := HA.out; clear HA
       simp only [spilelaw47_ReliefBounded.j1] at H
       by_cases c25 : x53_15 = true
       ·subst c25
        have H1 : (some false) = some r := by rw [if_pos rfl] at H; exact H
        clear H; have H := H1; clear H1
        rw [hr_] at H; exact absurd H (by simp)
       ·replace c25 := Bool.eq_false_iff.mpr c25
        subst c25
        have H1 : (spilelaw47_ReliefBounded.l0 kj15 l0 l1 t302 0 l1 (l1.length : Int) 0) = some r := by rw [if_neg (show ¬ (false = true) by decide)] at H; exact H
        clear H; have H := H1; clear H1
        have H' := Aside0.mk H
        clear H
        have hmm := @run_makeMap Try.prog
        go_wp2
        clear hmm
        have HM0 := Mpi.GM.made wc Try.prog 3 3 l1
        have HG0 := HB.out.size
        obtain ⟨gbM, hgM⟩ : ∃ g, wc.heap.size = g := ⟨_, rfl⟩
        rw [hgM] at HM0 HG0
        have HM := Aside0.mk HM0
        have GBM := Aside0.mk HG0
        clear HM0 HG0
        simp only [hgM]
        go_loopg [57] kj15 (fun kq v57 w' => ∃ (x57_3 : Int), v57 = .int .i64 x57_3 ∧ Aside0 (spilelaw47_ReliefBounded.l0 kq l0 l1 t302 0 l1 (l1.length : Int) x57_3 = some r) ∧ Aside0 (kq ≤ kj15) ∧ Aside0 (Kd.R (Kd.int .i64) 3 w' w.heap.size (fun _ => True) v305 t302) ∧ Aside0 (Below w.heap.size w w') ∧ Aside0 (0 ≤ x57_3 ∧ x57_3 ≤ (l1.length : Int)) ∧ Aside0 (Mpi.GM Try.prog 3 3 w' gbM x57_3.toNat l1 (t302.take x57_3.toNat)))
        case atStart => exact ⟨(0), (by first | rfl | (simp; done) | (simp [*]; done)), H', ⟨Nat.le_refl _⟩, ⟨by (with_reducible repeat (first | apply Kd.R_alloc | apply Kd.R_drewN | apply Kd.R_drew)); exact HO_5.out⟩, ⟨by repeat (first | (with_reducible first | exact HB.out | apply below_alloc | apply pw_below_drewN | apply below_drew1) | exact HB.out)⟩, ⟨Int.le_refl _, by omega⟩, HM⟩
        case round =>
         clear H' HM hgM
         obtain ⟨x57_3, rfl, HA, HK3, HO_5, HB, HX0, HM⟩ := hrel
         cases gk with
         | zero => exact absurd HA.out (by simp [spilelaw47_ReliefBounded.l0])
         | succ k3 =>
          have H := HA.out; clear HA
          simp only [spilelaw47_ReliefBounded.l0] at H
          by_cases c26 : x57_3 < (l1.length : Int)
          ·rw [if_pos c26] at H
           have c26b0 : decide (x57_3 < (l1.length : Int)) = true := decide_eq_true c26
           clear c26
           by_cases c27 : 0 ≤ x57_3
           ·rw [if_pos c27] at H
            have c27b0 : decide (0 ≤ x57_3) = true := decide_eq_true c27
            clear c27
            by_cases c28 : x57_3 < (l1.length : Int)
            ·rw [if_pos c28] at H
             have c28b0 : decide (x57_3 < (l1.length : Int)) = true := decide_eq_true c28
             have XL := Aside0.mk (show x57_3 < (l1.length : Int) from c28); clear c28
             by_cases c29 : x57_3 < (t302.length : Int)
             ·rw [if_pos c29] at H
              have c29b0 : decide (x57_3 < (t302.length : Int)) = true := decide_eq_true c29
              have TL := Aside0.mk (show x57_3 < (t302.length : Int) from c29); clear c29
              by_cases c30 : (rd t302 x57_3) < 0
              ·rw [if_pos c30] at H
               have c30b0 : decide ((rd t302 x57_3) < 0) = true := decide_eq_true c30
               clear c30
               rw [hr_] at H; exact absurd H (by simp)
              ·rw [if_neg c30] at H
               have c30b0 : decide ((rd t302 x57_3) < 0) = false := decide_eq_false c30
               clear c30
               by_cases c36 : (rd t302 x57_3) > ((rd_T25 l1 x57_3).f3)
               ·rw [if_pos c36] at H
                have c36b0 : decide (((rd_T25 l1 x57_3).f3) < (rd t302 x57_3)) = true := decide_eq_true c36
                clear c36
                rw [hr_] at H; exact absurd H (by simp)
               ·rw [if_neg c36] at H
                have c36b0 : decide (((rd_T25 l1 x57_3).f3) < (rd t302 x57_3)) = false := decide_eq_false c36
                clear c36
                by_cases c42 : ((rd_T25 l1 x57_3).f4) = 0
                ·rw [if_pos c42] at H
                 have c42b0 : (((rd_T25 l1 x57_3).f4) == 0) = true := beq_iff_eq.mpr c42
                 have c42b1 : (((rd_T25 l1 x57_3).f4) != 0) = false := bne_eq_false_iff_eq.mpr c42
                 clear c42
                 by_cases c43 : (rd t302 x57_3) = 0
                 ·rw [if_pos c43] at H
                  have c43b0 : ((rd t302 x57_3) == 0) = true := beq_iff_eq.mpr c43
                  have c43b1 : ((rd t302 x57_3) != 0) = false := bne_eq_false_iff_eq.mpr c43
                  clear c43
                  have csz : (0 ≤ ((rd_T25 l1 x57_3).f4) ∧ ((rd_T25 l1 x57_3).f4) ≤ 1073741824) := by
                   by_cases csz : (0 ≤ ((rd_T25 l1 x57_3).f4) ∧ ((rd_T25 l1 x57_3).f4) ≤ 1073741824)
                   ·exact csz
                   ·rw [if_neg csz] at H
                    exact absurd H (by simp)
                  rw [if_pos csz] at H
                  have CSZ := Aside0.mk csz
                  clear csz
                  have H' := Aside0.mk H
                  clear H
                  have p307 : 0 ≤ (x57_3 : Int) := of_decide_eq_true (by first | (with_reducible assumption) | assumption)
                  have q307 : x57_3 < (l1.length : Int) := of_decide_eq_true (by first | (with_reducible assumption) | assumption)
                  obtain ⟨ad307, e307, hx307_0, hx307_1, hx307_2, hx307_3, hx307_4⟩ := at_T25 HR1.out x57_3 p307 q307
                  cases e307
                  replace hx307_0 := (HB.out.cell (World.block_lt_of_cell? w _ hx307_0)).trans hx307_0
                  replace hx307_1 := (HB.out.cell (World.block_lt_of_cell? w _ hx307_1)).trans hx307_1
                  replace hx307_2 := (HB.out.cell (World.block_lt_of_cell? w _ hx307_2)).trans hx307_2
                  replace hx307_3 := (HB.out.cell (World.block_lt_of_cell? w _ hx307_3)).trans hx307_3
                  replace hx307_4 := (HB.out.cell (World.block_lt_of_cell? w _ hx307_4)).trans hx307_4
                  replace p307 := eq_true p307
                  replace q307 := eq_true q307
                  try go_wp2_with (first | ((with_reducible refine gate_dst (N := 10) rfl ?_); refine box_event ?hg (N := 10) ?hd (cs := #[.int .i64 0, .int .i64 0, .int .i64 0, .int .i64 0, .int .i64 0]) (t := 25) ?hr ?_; (case hd => rfl); (case hg => rfl); (case hr => first | (go_simp; done) | (go_simp; rfl)); intro gb308 hg w44 hbox hb; have NBM308 := Aside0.mk (show gbM ≠ gb308 by rw [hg]; exact Nat.ne_of_lt (Mpi.GM.lt' HM.out (by repeat (first | (with_reducible exact HM.out) | (with_reducible refine Mpi.GM.drewN ?_ _) | (with_reducible refine Mpi.GM.drew ?_) | (with_reducible refine Mpi.GM.alloc ?_ _) | exact HM.out)))); have nM_ := Aside0.mk (Mpi.GM.below' HM.out (by repeat (first | (with_reducible exact HM.out) | (with_reducible refine Mpi.GM.drewN ?_ _) | (with_reducible refine Mpi.GM.drew ?_) | (with_reducible refine Mpi.GM.alloc ?_ _) | exact HM.out)) hb); clear HM; have HM := nM_; clear nM_; have n0_ := Aside0.mk (Kd.R_below (by (with_reducible repeat (first | apply Kd.R_alloc | apply Kd.R_drewN | apply Kd.R_drew)); exact HO_5.out) hb); have n1_ := Aside0.mk (below_step (by repeat (first | (with_reducible first | exact HB.out | apply below_alloc | apply pw_below_drewN | apply below_drew1) | exact HB.out)) hb); have n2_ := Aside0.mk (hbox); have n3_ := Aside0.mk ((by rw [hg]; exact (below_size (by repeat (first | (with_reducible first | exact HB.out | apply below_alloc | apply pw_below_drewN | apply below_drew1) | exact HB.out))) : w.heap.size ≤ gb308)); have n4_ := Aside0.mk ((by rw [hg]; exact (below_size (by repeat (first | (with_reducible first | exact HB.out | apply below_alloc | apply pw_below_drewN | apply below_drew1) | exact HB.out))) : w.heap.size ≤ gb308)); clear HO_5; clear HB; have HO_5 := n0_; have HB := n1_; have BK308 := n2_; have GW308 := n3_; have GE308 := n4_; clear n0_ n1_ n2_ n3_ n4_; clear hb hbox hg; have hcz45_0 : w44.cell? ⟨gb308, 0, none⟩ = some (.int .i64 0) := (blk_cell BK308.out 0).trans rfl; have hcz45_1 : w44.cell? ⟨gb308, 1, none⟩ = some (.int .i64 0) := (blk_cell BK308.out 1).trans rfl; have hcz45_2 : w44.cell? ⟨gb308, 2, none⟩ = some (.int .i64 0) := (blk_cell BK308.out 2).trans rfl; have hcz45_3 : w44.cell? ⟨gb308, 3, none⟩ = some (.int .i64 0) := (blk_cell BK308.out 3).trans rfl; have hcz45_4 : w44.cell? ⟨gb308, 4, none⟩ = some (.int .i64 0) := (blk_cell BK308.out 4).trans rfl; have hfz45_0 := blk_frozen BK308.out 0; have hfz45_1 := blk_frozen BK308.out 1; have hfz45_2 := blk_frozen BK308.out 2; have hfz45_3 := blk_frozen BK308.out 3; have hfz45_4 := blk_frozen BK308.out 4))
                  have n0_ : Aside0 (Kd.R (Kd.int .i64) 3 (((((w44.setCell ⟨gb308, 0, none⟩ (.int .i64 ((rd_T25 l1 x57_3).f0))).setCell ⟨gb308, 1, none⟩ (.int .i64 ((rd_T25 l1 x57_3).f1))).setCell ⟨gb308, 2, none⟩ (.int .i64 ((rd_T25 l1 x57_3).f2))).setCell ⟨gb308, 3, none⟩ (.int .i64 ((rd_T25 l1 x57_3).f3))).setCell ⟨gb308, 4, none⟩ (.int .i64 ((rd_T25 l1 x57_3).f4))) w.heap.size (fun _ => True) v305 t302) := ⟨by (with_reducible repeat (first | apply Kd.R_alloc | apply Kd.R_drewN | apply Kd.R_drew)); exact Kd.R_mono (Kd.R_far (p := ⟨gb308, 4, none⟩) (Kd.R_far (p := ⟨gb308, 3, none⟩) (Kd.R_far (p := ⟨gb308, 2, none⟩) (Kd.R_far (p := ⟨gb308, 1, none⟩) (Kd.R_far (p := ⟨gb308, 0, none⟩) (Kd.R_types HO_5.out BK308.out (by decide)) (fun _ hk => hk.2) (.int .i64 ((rd_T25 l1 x57_3).f0))) (fun _ hk => hk.2) (.int .i64 ((rd_T25 l1 x57_3).f1))) (fun _ hk => hk.2) (.int .i64 ((rd_T25 l1 x57_3).f2))) (fun _ hk => hk.2) (.int .i64 ((rd_T25 l1 x57_3).f3))) (fun _ hk => hk.2) (.int .i64 ((rd_T25 l1 x57_3).f4))) (fun _ hk => trivial)⟩
                  have n1_ : Aside0 ((((((w44.setCell ⟨gb308, 0, none⟩ (.int .i64 ((rd_T25 l1 x57_3).f0))).setCell ⟨gb308, 1, none⟩ (.int .i64 ((rd_T25 l1 x57_3).f1))).setCell ⟨gb308, 2, none⟩ (.int .i64 ((rd_T25 l1 x57_3).f2))).setCell ⟨gb308, 3, none⟩ (.int .i64 ((rd_T25 l1 x57_3).f3))).setCell ⟨gb308, 4, none⟩ (.int .i64 ((rd_T25 l1 x57_3).f4))).heap[gb308]? = some (.cells #[.int .i64 ((rd_T25 l1 x57_3).f0), .int .i64 ((rd_T25 l1 x57_3).f1), .int .i64 ((rd_T25 l1 x57_3).f2), .int .i64 ((rd_T25 l1 x57_3).f3), .int .i64 ((rd_T25 l1 x57_3).f4)] 25 (0, 0))) := ⟨by (with_reducible repeat (first | refine blk_drewN ?_ _ | refine blk_drew ?_ | refine blk_alloc ?_ _)); refine blk_put (cs := #[.int .i64 ((rd_T25 l1 x57_3).f0), .int .i64 ((rd_T25 l1 x57_3).f1), .int .i64 ((rd_T25 l1 x57_3).f2), .int .i64 ((rd_T25 l1 x57_3).f3), .int .i64 0]) ?_ 4 _ rfl; (with_reducible repeat (first | refine blk_drewN ?_ _ | refine blk_drew ?_ | refine blk_alloc ?_ _)); refine blk_put (cs := #[.int .i64 ((rd_T25 l1 x57_3).f0), .int .i64 ((rd_T25 l1 x57_3).f1), .int .i64 ((rd_T25 l1 x57_3).f2), .int .i64 0, .int .i64 0]) ?_ 3 _ rfl; (with_reducible repeat (first | refine blk_drewN ?_ _ | refine blk_drew ?_ | refine blk_alloc ?_ _)); refine blk_put (cs := #[.int .i64 ((rd_T25 l1 x57_3).f0), .int .i64 ((rd_T25 l1 x57_3).f1), .int .i64 0, .int .i64 0, .int .i64 0]) ?_ 2 _ rfl; (with_reducible repeat (first | refine blk_drewN ?_ _ | refine blk_drew ?_ | refine blk_alloc ?_ _)); refine blk_put (cs := #[.int .i64 ((rd_T25 l1 x57_3).f0), .int .i64 0, .int .i64 0, .int .i64 0, .int .i64 0]) ?_ 1 _ rfl; (with_reducible repeat (first | refine blk_drewN ?_ _ | refine blk_drew ?_ | refine blk_alloc ?_ _)); refine blk_put (cs := #[.int .i64 0, .int .i64 0, .int .i64 0, .int .i64 0, .int .i64 0]) ?_ 0 _ rfl; (with_reducible repeat (first | refine blk_drewN ?_ _ | refine blk_drew ?_ | refine blk_alloc ?_ _)); exact BK308.out⟩
                  have n2_ : Aside0 (Below w.heap.size w (((((w44.setCell ⟨gb308, 0, none⟩ (.int .i64 ((rd_T25 l1 x57_3).f0))).setCell ⟨gb308, 1, none⟩ (.int .i64 ((rd_T25 l1 x57_3).f1))).setCell ⟨gb308, 2, none⟩ (.int .i64 ((rd_T25 l1 x57_3).f2))).setCell ⟨gb308, 3, none⟩ (.int .i64 ((rd_T25 l1 x57_3).f3))).setCell ⟨gb308, 4, none⟩ (.int .i64 ((rd_T25 l1 x57_3).f4)))) := ⟨by repeat (first | (with_reducible first | exact HB.out | apply below_alloc | apply pw_below_drewN | apply below_drew1 | refine below_set ?_ GE308.out) | exact HB.out)⟩
                  (try clear HO_5); (try clear BK308); (try clear HB)
                  have nM_ : Aside0 (Mpi.GM Try.prog 3 3 (((((w44.setCell ⟨gb308, 0, none⟩ (.int .i64 ((rd_T25 l1 x57_3).f0))).setCell ⟨gb308, 1, none⟩ (.int .i64 ((rd_T25 l1 x57_3).f1))).setCell ⟨gb308, 2, none⟩ (.int .i64 ((rd_T25 l1 x57_3).f2))).setCell ⟨gb308, 3, none⟩ (.int .i64 ((rd_T25 l1 x57_3).f3))).setCell ⟨gb308, 4, none⟩ (.int .i64 ((rd_T25 l1 x57_3).f4))) gbM x57_3.toNat l1 (t302.take x57_3.toNat)) := ⟨by repeat (first | (with_reducible exact HM.out) | (with_reducible refine Mpi.GM.drewN ?_ _) | (with_reducible refine Mpi.GM.drew ?_) | (with_reducible refine Mpi.GM.alloc ?_ _) | (refine Mpi.GM.setCell ?_ NBM308.out _) | (refine Mpi.GM.setCell ?_ NBM315.out _) | exact HM.out)⟩
                  clear HM
                  generalize (((((w44.setCell ⟨gb308, 0, none⟩ (.int .i64 ((rd_T25 l1 x57_3).f0))).setCell ⟨gb308, 1, none⟩ (.int .i64 ((rd_T25 l1 x57_3).f1))).setCell ⟨gb308, 2, none⟩ (.int .i64 ((rd_T25 l1 x57_3).f2))).setCell ⟨gb308, 3, none⟩ (.int .i64 ((rd_T25 l1 x57_3).f3))).setCell ⟨gb308, 4, none⟩ (.int .i64 ((rd_T25 l1 x57_3).f4))) = w46 at nM_ n0_ n1_ n2_ ⊢
                  have HM := nM_; clear nM_; have HO_5 := n0_; have BK308 := n1_; have HB := n2_; clear n0_ n1_ n2_; have n0_ := Aside0.mk (Kd.R_drew HO_5.out); have n1_ := Aside0.mk (blk_drew BK308.out); have n2_ := Aside0.mk (below_drew1 HB.out); clear HO_5 BK308 HB; have HO_5 := n0_; have BK308 := n1_; have HB := n2_; clear n0_ n1_ n2_
                  obtain ⟨Ao48, co48, eo48⟩ := Kd.R_slice HO_5.out
                  (first | subst eo48 | (injection eo48 with f1_ f2_ f3_; have f4_ := f1_.symm; have f5_ := f3_.symm; clear f1_ f2_ f3_; subst f4_; subst f5_))
                  have p309 : 0 ≤ (x57_3 : Int) := of_decide_eq_true (by first | (with_reducible assumption) | assumption)
                  have q309 : x57_3 < (t302.length : Int) := of_decide_eq_true (by first | (with_reducible assumption) | assumption)
                  obtain ⟨ad309, e309, hx309_0⟩ := Kd.at_int (Kd.R_reads' HO_5.out).2.2 x57_3 p309 q309
                  cases e309
                  replace p309 := eq_true p309
                  replace q309 := eq_true q309
                  have p310 : 0 ≤ (x57_3 : Int) := of_decide_eq_true (by first | (with_reducible assumption) | assumption)
                  have q310 : x57_3 < (t302.length : Int) := of_decide_eq_true (by first | (with_reducible assumption) | assumption)
                  obtain ⟨ad310, e310, hx310_0⟩ := Kd.at_int (Kd.R_reads' HO_5.out).2.2 x57_3 p310 q310
                  obtain rfl : ad309 = ad310 := (by injection e310)
                  replace p310 := eq_true p310
                  replace q310 := eq_true q310
                  have p311 : 0 ≤ (x57_3 : Int) := of_decide_eq_true (by first | (with_reducible assumption) | assumption)
                  have q311 : x57_3 < (t302.length : Int) := of_decide_eq_true (by first | (with_reducible assumption) | assumption)
                  obtain ⟨ad311, e311, hx311_0⟩ := Kd.at_int (Kd.R_reads' HO_5.out).2.2 x57_3 p311 q311
                  obtain rfl : ad309 = ad311 := (by injection e311)
                  replace p311 := eq_true p311
                  replace q311 := eq_true q311
                  refine start_ (n := 26) (S := fun w' => w'.cell? ⟨gb308, 0, none⟩ = some (.int .i64 ((rd_T25 l1 x57_3).f0)) ∧ w'.cell? ⟨gb308, 1, none⟩ = some (.int .i64 ((rd_T25 l1 x57_3).f1)) ∧ w'.cell? ⟨gb308, 2, none⟩ = some (.int .i64 ((rd_T25 l1 x57_3).f2)) ∧ w'.cell? ⟨gb308, 3, none⟩ = some (.int .i64 ((rd_T25 l1 x57_3).f3)) ∧ w'.cell? ⟨gb308, 4, none⟩ = some (.int .i64 ((rd_T25 l1 x57_3).f4)) ∧ w'.cell? (ad309.add (x57_3).toNat) = some (.int .i64 (rd t302 x57_3)) ∧ w'.cell? (ad309.add (x57_3).toNat) = some (.int .i64 (rd t302 x57_3)) ∧ w'.cell? (ad309.add (x57_3).toNat) = some (.int .i64 (rd t302 x57_3))) (ds := []) #[false, false, false, false, false, false, false, false, false, false, false, false, false, false, false, false, false, false, false, false, false, false, false, false, false, false] (by kernel_rfl) rfl rfl ⟨(blk_cell BK308.out 0).trans rfl, (blk_cell BK308.out 1).trans rfl, (blk_cell BK308.out 2).trans rfl, (blk_cell BK308.out 3).trans rfl, (blk_cell BK308.out 4).trans rfl, hx309_0, hx310_0, hx311_0⟩ (fun hHeld => ?_); refine with_tabW spilelaw47_ReliefBounded.tab12 spilelaw47_ReliefBounded.bits12 (fun HT_ HW_ => ?_)
                  have nM_ := Aside0.mk (Mpi.GM.drew HM.out); clear HM
                  generalize w46.drew = w47 at nM_ HO_5 BK308 HB hx309_0 hx310_0 hx311_0 hHeld ⊢
                  have HM := nM_; clear nM_
                  refine pure_ (i := 0) (N := some 62) (v := ?_) (a' := ?_) #[true, false, false, false, false, false, false, false, false, false, false, false, false, false, false, false, false, false, false, false, false, false, false, false, false, false] rfl rfl (any_of HT_.out (by kernel_rfl)) (fun _ _ _ h => h) (Or.inl ⟨by rfl, ?_⟩) ?_ ?_
                  rotate_left
                  ·intro w'
                   go_simp
                   with_reducible rfl
                  rotate_left
                  ·simp only [Act.put, List.setIfInBounds_toArray, List.set_cons_zero, List.set_cons_succ, i64_w, i32_w]
                   rfl
                  refine pure_ (i := 1) (N := some 63) (v := ?_) (a' := ?_) #[true, true, false, false, false, false, false, false, false, false, false, false, false, false, false, false, false, false, false, false, false, false, false, false, false, false] rfl rfl (any_of HT_.out (by kernel_rfl)) (fun _ _ _ h => h) (Or.inl ⟨by rfl, ?_⟩) ?_ ?_
                  rotate_left
                  ·intro w'
                   go_simp
                   with_reducible rfl
                  rotate_left
                  ·simp only [Act.put, List.setIfInBounds_toArray, List.set_cons_zero, List.set_cons_succ, i64_w, i32_w]
                   rfl
                  refine pure_ (i := 2) (N := some 64) (v := ?_) (a' := ?_) #[true, true, true, false, false, false, false, false, false, false, false, false, false, false, false, false, false, false, false, false, false, false, false, false, false, false] rfl rfl (any_of HT_.out (by kernel_rfl)) (fun _ _ _ h => h) (Or.inl ⟨by rfl, ?_⟩) ?_ ?_
                  rotate_left
                  ·intro w'
                   go_simp
                   with_reducible rfl
                  rotate_left
                  ·simp only [Act.put, List.setIfInBounds_toArray, List.set_cons_zero, List.set_cons_succ, i64_w, i32_w]
                   rfl
                  refine take_ (i := 3) (N := some 65) (v := ?_) (a' := ?_) #[true, true, true, true, false, false, false, false, false, false, false, false, false, false, false, false, false, false, false, false, false, false, false, false, false, false] rfl rfl (take_ofW HT_.out HW_.out (by kernel_rfl)) (fun _ _ _ h => h) (Or.inl ⟨by rfl, ?_⟩) hHeld ?_ ?_
                  rotate_left
                  ·rintro w' ⟨s0, s1, s2, s3, s4, s5, s6, s7⟩
                   go_simp
                   with_reducible rfl
                  rotate_left
                  ·simp only [Act.put, List.setIfInBounds_toArray, List.set_cons_zero, List.set_cons_succ, i64_w, i32_w]
                   rfl
                  refine pure_ (i := 4) (N := some 66) (v := ?_) (a' := ?_) #[true, true, true, true, true, false, false, false, false, false, false, false, false, false, false, false, false, false, false, false, false, false, false, false, false, false] rfl rfl (any_of HT_.out (by kernel_rfl)) (fun _ _ _ h => h) (Or.inl ⟨by rfl, ?_⟩) ?_ ?_
                  rotate_left
                  ·intro w'
                   go_simp
                   with_reducible rfl
                  rotate_left
                  ·simp only [Act.put, List.setIfInBounds_toArray, List.set_cons_zero, List.set_cons_succ, i64_w, i32_w]
                   rfl
                  refine pure_ (i := 5) (N := some 67) (v := ?_) (a' := ?_) #[true, true, true, true, true, true, false, false, false, false, false, false, false, false, false, false, false, false, false, false, false, false, false, false, false, false] rfl rfl (any_of HT_.out (by kernel_rfl)) (fun _ _ _ h => h) (Or.inl ⟨by rfl, ?_⟩) ?_ ?_
                  rotate_left
                  ·intro w'
                   go_simp
                   with_reducible rfl
                  rotate_left
                  ·simp only [Act.put, List.setIfInBounds_toArray, List.set_cons_zero, List.set_cons_succ, i64_w, i32_w]
                   rfl
                  refine pure_ (i := 6) (N := some 68) (v := ?_) (a' := ?_) #[true, true, true, true, true, true, true, false, false, false, false, false, false, false, false, false, false, false, false, false, false, false, false, false, false, false] rfl rfl (any_of HT_.out (by kernel_rfl)) (fun _ _ _ h => h) (Or.inl ⟨by rfl, ?_⟩) ?_ ?_
                  rotate_left
                  ·intro w'
                   go_simp
                   with_reducible rfl
                  rotate_left
                  ·simp only [Act.put, List.setIfInBounds_toArray, List.set_cons_zero, List.set_cons_succ, i64_w, i32_w]
                   rfl
                  refine pure_ (i := 7) (N := some 69) (v := ?_) (a' := ?_) #[true, true, true, true, true, true, true, true, false, false, false, false, false, false, false, false, false, false, false, false, false, false, false, false, false, false] rfl rfl (any_of HT_.out (by kernel_rfl)) (fun _ _ _ h => h) (Or.inl ⟨by rfl, ?_⟩) ?_ ?_
                  rotate_left
                  ·intro w'
                   go_simp
                   with_reducible rfl
                  rotate_left
                  ·simp only [Act.put, List.setIfInBounds_toArray, List.set_cons_zero, List.set_cons_succ, i64_w, i32_w]
                   rfl
                  refine pure_ (i := 8) (N := some 70) (v := ?_) (a' := ?_) #[true, true, true, true, true, true, true, true, true, false, false, false, false, false, false, false, false, false, false, false, false, false, false, false, false, false] rfl rfl (any_of HT_.out (by kernel_rfl)) (fun _ _ _ h => h) (Or.inl ⟨by rfl, ?_⟩) ?_ ?_
                  rotate_left
                  ·intro w'
                   go_simp
                   with_reducible rfl
                  rotate_left
                  ·simp only [Act.put, List.setIfInBounds_toArray, List.set_cons_zero, List.set_cons_succ, i64_w, i32_w]
                   rfl
                  refine pure_ (i := 10) (N := some 72) (v := ?_) (a' := ?_) #[true, true, true, true, true, true, true, true, true, false, true, false, false, false, false, false, false, false, false, false, false, false, false, false, false, false] rfl rfl (any_of HT_.out (by kernel_rfl)) (fun _ _ _ h => h) (Or.inl ⟨by rfl, ?_⟩) ?_ ?_
                  rotate_left
                  ·intro w'
                   go_simp
                   with_reducible rfl
                  rotate_left
                  ·simp only [Act.put, List.setIfInBounds_toArray, List.set_cons_zero, List.set_cons_succ, i64_w, i32_w]
                   rfl
                  refine take_ (i := 9) (N := some 71) (v := ?_) (a' := ?_) #[true, true, true, true, true, true, true, true, true, true, true, false, false, false, false, false, false, false, false, false, false, false, false, false, false, false] rfl rfl (take_ofW HT_.out HW_.out (by kernel_rfl)) (fun _ _ _ h => h) (Or.inl ⟨by rfl, ?_⟩) hHeld ?_ ?_
                  rotate_left
                  ·rintro w' ⟨s0, s1, s2, s3, s4, s5, s6, s7⟩
                   go_simp
                   with_reducible rfl
                  rotate_left
                  ·simp only [Act.put, List.setIfInBounds_toArray, List.set_cons_zero, List.set_cons_succ, i64_w, i32_w]
                   rfl
                  refine take_ (i := 11) (N := some 73) (v := ?_) (a' := ?_) #[true, true, true, true, true, true, true, true, true, true, true, true, false, false, false, false, false, false, false, false, false, false, false, false, false, false] rfl rfl (take_ofW HT_.out HW_.out (by kernel_rfl)) (fun _ _ _ h => h) (Or.inl ⟨by rfl, ?_⟩) hHeld ?_ ?_
                  rotate_left
                  ·rintro w' ⟨s0, s1, s2, s3, s4, s5, s6, s7⟩
                   go_simp
                   with_reducible rfl
                  rotate_left
                  ·simp only [Act.put, List.setIfInBounds_toArray, List.set_cons_zero, List.set_cons_succ, i64_w, i32_w]
                   rfl
                  refine pure_ (i := 12) (N := some 74) (v := ?_) (a' := ?_) #[true, true, true, true, true, true, true, true, true, true, true, true, true, false, false, false, false, false, false, false, false, false, false, false, false, false] rfl rfl (any_of HT_.out (by kernel_rfl)) (fun _ _ _ h => h) (Or.inl ⟨by rfl, ?_⟩) ?_ ?_
                  rotate_left
                  ·intro w'
                   go_simp
                   with_reducible rfl
                  rotate_left
                  ·simp only [Act.put, List.setIfInBounds_toArray, List.set_cons_zero, List.set_cons_succ, i64_w, i32_w]
                   rfl
                  refine pure_ (i := 13) (N := some 75) (v := ?_) (a' := ?_) #[true, true, true, true, true, true, true, true, true, true, true, true, true, true, false, false, false, false, false, false, false, false, false, false, false, false] rfl rfl (any_of HT_.out (by kernel_rfl)) (fun _ _ _ h => h) (Or.inl ⟨by rfl, ?_⟩) ?_ ?_
                  rotate_left
                  ·intro w'
                   go_simp
                   with_reducible rfl
                  rotate_left
                  ·simp only [Act.put, List.setIfInBounds_toArray, List.set_cons_zero, List.set_cons_succ, i64_w, i32_w]
                   rfl
                  refine pure_ (i := 14) (N := some 76) (v := ?_) (a' := ?_) #[true, true, true, true, true, true, true, true, true, true, true, true, true, true, true, false, false, false, false, false, false, false, false, false, false, false] rfl rfl (any_of HT_.out (by kernel_rfl)) (fun _ _ _ h => h) (Or.inl ⟨by rfl, ?_⟩) ?_ ?_
                  rotate_left
                  ·intro w'
                   go_simp
                   with_reducible rfl
                  rotate_left
                  ·simp only [Act.put, List.setIfInBounds_toArray, List.set_cons_zero, List.set_cons_succ, i64_w, i32_w]
                   rfl
                  refine pure_ (i := 15) (N := some 77) (v := ?_) (a' := ?_) #[true, true, true, true, true, true, true, true, true, true, true, true, true, true, true, true, false, false, false, false, false, false, false, false, false, false] rfl rfl (any_of HT_.out (by kernel_rfl)) (fun _ _ _ h => h) (Or.inl ⟨by rfl, ?_⟩) ?_ ?_
                  rotate_left
                  ·intro w'
                   go_simp
                   with_reducible rfl
                  rotate_left
                  ·simp only [Act.put, List.setIfInBounds_toArray, List.set_cons_zero, List.set_cons_succ, i64_w, i32_w]
                   rfl
                  refine take_ (i := 16) (N := some 78) (v := ?_) (a' := ?_) #[true, true, true, true, true, true, true, true, true, true, true, true, true, true, true, true, true, false, false, false, false, false, false, false, false, false] rfl rfl (take_ofW HT_.out HW_.out (by kernel_rfl)) (fun _ _ _ h => h) (Or.inl ⟨by rfl, ?_⟩) hHeld ?_ ?_
                  rotate_left
                  ·rintro w' ⟨s0, s1, s2, s3, s4, s5, s6, s7⟩
                   go_simp
                   with_reducible rfl
                  rotate_left
                  ·simp only [Act.put, List.setIfInBounds_toArray, List.set_cons_zero, List.set_cons_succ, i64_w, i32_w]
                   rfl
                  refine pure_ (i := 17) (N := some 79) (v := ?_) (a' := ?_) #[true, true, true, true, true, true, true, true, true, true, true, true, true, true, true, true, true, true, false, false, false, false, false, false, false, false] rfl rfl (any_of HT_.out (by kernel_rfl)) (fun _ _ _ h => h) (Or.inl ⟨by rfl, ?_⟩) ?_ ?_
                  rotate_left
                  ·intro w'
                   go_simp
                   with_reducible rfl
                  rotate_left
                  ·simp only [Act.put, List.setIfInBounds_toArray, List.set_cons_zero, List.set_cons_succ, i64_w, i32_w]
                   rfl
                  refine pure_ (i := 18) (N := some 80) (v := ?_) (a' := ?_) #[true, true, true, true, true, true, true, true, true, true, true, true, true, true, true, true, true, true, true, false, false, false, false, false, false, false] rfl rfl (any_of HT_.out (by kernel_rfl)) (fun _ _ _ h => h) (Or.inl ⟨by rfl, ?_⟩) ?_ ?_
                  rotate_left
                  ·intro w'
                   go_simp
                   with_reducible rfl
                  rotate_left
                  ·simp only [Act.put, List.setIfInBounds_toArray, List.set_cons_zero, List.set_cons_succ, i64_w, i32_w]
                   rfl
                  refine pure_ (i := 19) (N := some 81) (v := ?_) (a' := ?_) #[true, true, true, true, true, true, true, true, true, true, true, true, true, true, true, true, true, true, true, true, false, false, false, false, false, false] rfl rfl (any_of HT_.out (by kernel_rfl)) (fun _ _ _ h => h) (Or.inl ⟨by rfl, ?_⟩) ?_ ?_
                  rotate_left
                  ·intro w'
                   go_simp
                   with_reducible rfl
                  rotate_left
                  ·simp only [Act.put, List.setIfInBounds_toArray, List.set_cons_zero, List.set_cons_succ, i64_w, i32_w]
                   rfl
                  refine pure_ (i := 20) (N := some 82) (v := ?_) (a' := ?_) #[true, true, true, true, true, true, true, true, true, true, true, true, true, true, true, true, true, true, true, true, true, false, false, false, false, false] rfl rfl (any_of HT_.out (by kernel_rfl)) (fun _ _ _ h => h) (Or.inl ⟨by rfl, ?_⟩) ?_ ?_
                  rotate_left
                  ·intro w'
                   go_simp
                   with_reducible rfl
                  rotate_left
                  ·simp only [Act.put, List.setIfInBounds_toArray, List.set_cons_zero, List.set_cons_succ, i64_w, i32_w]
                   rfl
                  refine pure_ (i := 21) (N := some 83) (v := ?_) (a' := ?_) #[true, true, true, true, true, true, true, true, true, true, true, true, true, true, true, true, true, true, true, true, true, true, false, false, false, false] rfl rfl (any_of HT_.out (by kernel_rfl)) (fun _ _ _ h => h) (Or.inl ⟨by rfl, ?_⟩) ?_ ?_
                  rotate_left
                  ·intro w'
                   go_simp
                   with_reducible rfl
                  rotate_left
                  ·simp only [Act.put, List.setIfInBounds_toArray, List.set_cons_zero, List.set_cons_succ, i64_w, i32_w]
                   rfl
                  refine take_ (i := 22) (N := some 84) (v := ?_) (a' := ?_) #[true, true, true, true, true, true, true, true, true, true, true, true, true, true, true, true, true, true, true, true, true, true, true, false, false, false] rfl rfl (take_ofW HT_.out HW_.out (by kernel_rfl)) (fun _ _ _ h => h) (Or.inl ⟨by rfl, ?_⟩) hHeld ?_ ?_
                  rotate_left
                  ·rintro w' ⟨s0, s1, s2, s3, s4, s5, s6, s7⟩
                   go_simp
                   with_reducible rfl
                  rotate_left
                  ·simp only [Act.put, List.setIfInBounds_toArray, List.set_cons_zero, List.set_cons_succ, i64_w, i32_w]
                   rfl
                  refine pure_ (i := 23) (N := some 85) (v := ?_) (a' := ?_) #[true, true, true, true, true, true, true, true, true, true, true, true, true, true, true, true, true, true, true, true, true, true, true, true, false, false] rfl rfl (any_of HT_.out (by kernel_rfl)) (fun _ _ _ h => h) (Or.inl ⟨by rfl, ?_⟩) ?_ ?_
                  rotate_left
                  ·intro w'
                   go_simp
                   with_reducible rfl
                  rotate_left
                  ·simp only [Act.put, List.setIfInBounds_toArray, List.set_cons_zero, List.set_cons_succ, i64_w, i32_w]
                   rfl
                  refine pure_ (i := 24) (N := some 86) (v := ?_) (a' := ?_) #[true, true, true, true, true, true, true, true, true, true, true, true, true, true, true, true, true, true, true, true, true, true, true, true, true, false] rfl rfl (any_of HT_.out (by kernel_rfl)) (fun _ _ _ h => h) (Or.inl ⟨by rfl, ?_⟩) ?_ ?_
                  rotate_left
                  ·intro w'
                   go_simp
                   with_reducible rfl
                  rotate_left
                  ·simp only [Act.put, List.setIfInBounds_toArray, List.set_cons_zero, List.set_cons_succ, i64_w, i32_w]
                   rfl
                  refine pure_ (i := 25) (N := some 87) (v := ?_) (a' := ?_) #[true, true, true, true, true, true, true, true, true, true, true, true, true, true, true, true, true, true, true, true, true, true, true, true, true, true] rfl rfl (any_of HT_.out (by kernel_rfl)) (fun _ _ _ h => h) (Or.inl ⟨by rfl, ?_⟩) ?_ ?_
                  rotate_left
                  ·intro w'
                   go_simp
                   with_reducible rfl
                  rotate_left
                  ·simp only [Act.put, List.setIfInBounds_toArray, List.set_cons_zero, List.set_cons_succ, i64_w, i32_w]
                   rfl
                  refine done_ (done_of HT_.out (by kernel_rfl)) ?_
                  have hcz49_0 : w47.cell? ⟨gb308, 0, none⟩ = some (.int .i64 ((rd_T25 l1 x57_3).f0)) := (blk_cell BK308.out 0).trans rfl
                  have hcz49_1 : w47.cell? ⟨gb308, 1, none⟩ = some (.int .i64 ((rd_T25 l1 x57_3).f1)) := (blk_cell BK308.out 1).trans rfl
                  have hcz49_2 : w47.cell? ⟨gb308, 2, none⟩ = some (.int .i64 ((rd_T25 l1 x57_3).f2)) := (blk_cell BK308.out 2).trans rfl
                  have hcz49_3 : w47.cell? ⟨gb308, 3, none⟩ = some (.int .i64 ((rd_T25 l1 x57_3).f3)) := (blk_cell BK308.out 3).trans rfl
                  have hcz49_4 : w47.cell? ⟨gb308, 4, none⟩ = some (.int .i64 ((rd_T25 l1 x57_3).f4)) := (blk_cell BK308.out 4).trans rfl
                  have hfz49_0 := blk_frozen BK308.out 0
                  have hfz49_1 := blk_frozen BK308.out 1
                  have hfz49_2 := blk_frozen BK308.out 2
                  have hfz49_3 := blk_frozen BK308.out 3
                  have hfz49_4 := blk_frozen BK308.out 4
                  have p312 : 0 ≤ (x57_3 : Int) := of_decide_eq_true (by first | (with_reducible assumption) | assumption)
                  have q312 : x57_3 < (t302.length : Int) := of_decide_eq_true (by first | (with_reducible assumption) | assumption)
                  obtain ⟨ad312, e312, hx312_0⟩ := Kd.at_int (Kd.R_reads' HO_5.out).2.2 x57_3 p312 q312
                  obtain rfl : ad309 = ad312 := (by injection e312)
                  replace p312 := eq_true p312
                  replace q312 := eq_true q312
                  have hrun := Mpi.GM.run (Mpi.GM.drew HM.out) (Go.Maps.int_keyed Try.underlying3) Try.underlying47 Try.underlying3 (zero3 _) ((rd_T25 l1 x57_3).f4) (Go.Maps.keyOf_int_mk Try.underlying3 (WalkArith.wf_i64 (by have := CSZ.out; omega)))
                  go_wp2
                  refine (wpIn_wide (n := 5)).1 ?_
                  refine Tail.region_tail (Tail.open_wide _ _) 9 (by kernel_rfl) (by kernel_rfl) (by kernel_rfl) ?_
                  simp only [List.take_succ_cons, List.take_zero, List.drop_succ_cons, List.drop_zero]
                  repeat still_step
                  try refine wpStill_nil ?_
                  refine Mpi.GM.storeIn (k := 3) (e := 3) (b := gbM) (n := x57_3.toNat) (xs := l1) (ns := t302.take x57_3.toNat) rfl _ _ _ rfl (Go.Maps.int_keyed Try.underlying3) Try.underlying47 Try.underlying3 rfl ?hown557 ?hn557 ((rd_T25 l1 x57_3).f4) (rd t302 x57_3) rfl (Go.Maps.keyOf_int_mk Try.underlying3 (WalkArith.wf_i64 (by have := CSZ.out; omega))) (by first | rfl | exact congrArg (Value.int .i64) (i64_w _) | (simp [i64_w]; done)) ?hid557 ?_
                  case hown557 => exact Mpi.GM.drew HM.out
                  case hn557 => have h1_ := XL.out; have h2_ := LL.out; have h3_ := HX0.out; unfold Go.maxLen; omega
                  case hid557 => rw [List.length_take, Nat.min_eq_left (by have := TL.out; have := HX0.out; omega)]; rfl
                  intro w1 hm1 hg1
                  have n0_ := Aside0.mk (Below.grown (below_drew1 HB.out) hg1 (below_size (below_drew1 HB.out)) (fun j hj => by cases hj; exact GBM.out)); have n1_ := Aside0.mk (Mpi.row_kept (Mpi.GM.drew HM.out) (Kd.R_drew HO_5.out) hg1); clear HB HM HO_5; have HB := n0_; have HO_5 := n1_
                  have HM := Aside0.mk hm1
                  clear n0_ n1_ hm1 hg1
                  gi_wp2
                  try go_wp2
                  go_roundg k3
                  case measure => have := HJ2.out; have := HJ15.out; have := HK3.out; omega
                  case rel => exact ⟨(wrap64 (x57_3 + 1)), (by first | rfl | (simp; done) | (simp [*]; done)), H', ⟨by have := HJ2.out; have := HJ15.out; have := HK3.out; omega⟩, ⟨by (with_reducible repeat (first | apply Kd.R_alloc | apply Kd.R_drewN | apply Kd.R_drew)); exact HO_5.out⟩, ⟨by repeat (first | (with_reducible first | exact HB.out | apply below_alloc | apply pw_below_drewN | apply below_drew1 | refine below_set ?_ GE308.out) | exact HB.out)⟩, ⟨Mpi.bnd57 HX0.out.1 XL.out LL.out⟩, ⟨Mpi.step57 HX0.out.1 XL.out LL.out TL.out HM.out⟩⟩
                 ·rw [if_neg c43] at H
                  have c43b0 : ((rd t302 x57_3) == 0) = false := beq_eq_false_iff_ne.mpr c43
                  have c43b1 : ((rd t302 x57_3) != 0) = true := bne_iff_ne.mpr c43
                  rw [hr_] at H; exact absurd H (by simp)
                ·rw [if_neg c42] at H
                 have c42b0 : (((rd_T25 l1 x57_3).f4) == 0) = false := beq_eq_false_iff_ne.mpr c42
                 have c42b1 : (((rd_T25 l1 x57_3).f4) != 0) = true := bne_iff_ne.mpr c42
                 have csz : (0 ≤ ((rd_T25 l1 x57_3).f4) ∧ ((rd_T25 l1 x57_3).f4) ≤ 1073741824) := by
                  by_cases csz : (0 ≤ ((rd_T25 l1 x57_3).f4) ∧ ((rd_T25 l1 x57_3).f4) ≤ 1073741824)
                  ·exact csz
                  ·rw [if_neg csz] at H
                   exact absurd H (by simp)
                 rw [if_pos csz] at H
                 have CSZ := Aside0.mk csz
                 clear csz
                 have H' := Aside0.mk H
                 clear H
                 have p307 : 0 ≤ (x57_3 : Int) := of_decide_eq_true (by first | (with_reducible assumption) | assumption)
                 have q307 : x57_3 < (l1.length : Int) := of_decide_eq_true (by first | (with_reducible assumption) | assumption)
                 obtain ⟨ad307, e307, hx307_0, hx307_1, hx307_2, hx307_3, hx307_4⟩ := at_T25 HR1.out x57_3 p307 q307
                 cases e307
                 replace hx307_0 := (HB.out.cell (World.block_lt_of_cell? w _ hx307_0)).trans hx307_0
                 replace hx307_1 := (HB.out.cell (World.block_lt_of_cell? w _ hx307_1)).trans hx307_1
                 replace hx307_2 := (HB.out.cell (World.block_lt_of_cell? w _ hx307_2)).trans hx307_2
                 replace hx307_3 := (HB.out.cell (World.block_lt_of_cell? w _ hx307_3)).trans hx307_3
                 replace hx307_4 := (HB.out.cell (World.block_lt_of_cell? w _ hx307_4)).trans hx307_4
                 replace p307 := eq_true p307
                 replace q307 := eq_true q307
                 try go_wp2_with (first | ((with_reducible refine gate_dst (N := 10) rfl ?_); refine box_event ?hg (N := 10) ?hd (cs := #[.int .i64 0, .int .i64 0, .int .i64 0, .int .i64 0, .int .i64 0]) (t := 25) ?hr ?_; (case hd => rfl); (case hg => rfl); (case hr => first | (go_simp; done) | (go_simp; rfl)); intro gb308 hg w55 hbox hb; have NBM308 := Aside0.mk (show gbM ≠ gb308 by rw [hg]; exact Nat.ne_of_lt (Mpi.GM.lt' HM.out (by repeat (first | (with_reducible exact HM.out) | (with_reducible refine Mpi.GM.drewN ?_ _) | (with_reducible refine Mpi.GM.drew ?_) | (with_reducible refine Mpi.GM.alloc ?_ _) | exact HM.out)))); have nM_ := Aside0.mk (Mpi.GM.below' HM.out (by repeat (first | (with_reducible exact HM.out) | (with_reducible refine Mpi.GM.drewN ?_ _) | (with_reducible refine Mpi.GM.drew ?_) | (with_reducible refine Mpi.GM.alloc ?_ _) | exact HM.out)) hb); clear HM; have HM := nM_; clear nM_; have n0_ := Aside0.mk (Kd.R_below (by (with_reducible repeat (first | apply Kd.R_alloc | apply Kd.R_drewN | apply Kd.R_drew)); exact HO_5.out) hb); have n1_ := Aside0.mk (below_step (by repeat (first | (with_reducible first | exact HB.out | apply below_alloc | apply pw_below_drewN | apply below_drew1) | exact HB.out)) hb); have n2_ := Aside0.mk (hbox); have n3_ := Aside0.mk ((by rw [hg]; exact (below_size (by repeat (first | (with_reducible first | exact HB.out | apply below_alloc | apply pw_below_drewN | apply below_drew1) | exact HB.out))) : w.heap.size ≤ gb308)); have n4_ := Aside0.mk ((by rw [hg]; exact (below_size (by repeat (first | (with_reducible first | exact HB.out | apply below_alloc | apply pw_below_drewN | apply below_drew1) | exact HB.out))) : w.heap.size ≤ gb308)); clear HO_5; clear HB; have HO_5 := n0_; have HB := n1_; have BK308 := n2_; have GW308 := n3_; have GE308 := n4_; clear n0_ n1_ n2_ n3_ n4_; clear hb hbox hg; have hcz56_0 : w55.cell? ⟨gb308, 0, none⟩ = some (.int .i64 0) := (blk_cell BK308.out 0).trans rfl; have hcz56_1 : w55.cell? ⟨gb308, 1, none⟩ = some (.int .i64 0) := (blk_cell BK308.out 1).trans rfl; have hcz56_2 : w55.cell? ⟨gb308, 2, none⟩ = some (.int .i64 0) := (blk_cell BK308.out 2).trans rfl; have hcz56_3 : w55.cell? ⟨gb308, 3, none⟩ = some (.int .i64 0) := (blk_cell BK308.out 3).trans rfl; have hcz56_4 : w55.cell? ⟨gb308, 4, none⟩ = some (.int .i64 0) := (blk_cell BK308.out 4).trans rfl; have hfz56_0 := blk_frozen BK308.out 0; have hfz56_1 := blk_frozen BK308.out 1; have hfz56_2 := blk_frozen BK308.out 2; have hfz56_3 := blk_frozen BK308.out 3; have hfz56_4 := blk_frozen BK308.out 4))
                 have n0_ : Aside0 (Kd.R (Kd.int .i64) 3 (((((w55.setCell ⟨gb308, 0, none⟩ (.int .i64 ((rd_T25 l1 x57_3).f0))).setCell ⟨gb308, 1, none⟩ (.int .i64 ((rd_T25 l1 x57_3).f1))).setCell ⟨gb308, 2, none⟩ (.int .i64 ((rd_T25 l1 x57_3).f2))).setCell ⟨gb308, 3, none⟩ (.int .i64 ((rd_T25 l1 x57_3).f3))).setCell ⟨gb308, 4, none⟩ (.int .i64 ((rd_T25 l1 x57_3).f4))) w.heap.size (fun _ => True) v305 t302) := ⟨by (with_reducible repeat (first | apply Kd.R_alloc | apply Kd.R_drewN | apply Kd.R_drew)); exact Kd.R_mono (Kd.R_far (p := ⟨gb308, 4, none⟩) (Kd.R_far (p := ⟨gb308, 3, none⟩) (Kd.R_far (p := ⟨gb308, 2, none⟩) (Kd.R_far (p := ⟨gb308, 1, none⟩) (Kd.R_far (p := ⟨gb308, 0, none⟩) (Kd.R_types HO_5.out BK308.out (by decide)) (fun _ hk => hk.2) (.int .i64 ((rd_T25 l1 x57_3).f0))) (fun _ hk => hk.2) (.int .i64 ((rd_T25 l1 x57_3).f1))) (fun _ hk => hk.2) (.int .i64 ((rd_T25 l1 x57_3).f2))) (fun _ hk => hk.2) (.int .i64 ((rd_T25 l1 x57_3).f3))) (fun _ hk => hk.2) (.int .i64 ((rd_T25 l1 x57_3).f4))) (fun _ hk => trivial)⟩
                 have n1_ : Aside0 ((((((w55.setCell ⟨gb308, 0, none⟩ (.int .i64 ((rd_T25 l1 x57_3).f0))).setCell ⟨gb308, 1, none⟩ (.int .i64 ((rd_T25 l1 x57_3).f1))).setCell ⟨gb308, 2, none⟩ (.int .i64 ((rd_T25 l1 x57_3).f2))).setCell ⟨gb308, 3, none⟩ (.int .i64 ((rd_T25 l1 x57_3).f3))).setCell ⟨gb308, 4, none⟩ (.int .i64 ((rd_T25 l1 x57_3).f4))).heap[gb308]? = some (.cells #[.int .i64 ((rd_T25 l1 x57_3).f0), .int .i64 ((rd_T25 l1 x57_3).f1), .int .i64 ((rd_T25 l1 x57_3).f2), .int .i64 ((rd_T25 l1 x57_3).f3), .int .i64 ((rd_T25 l1 x57_3).f4)] 25 (0, 0))) := ⟨by (with_reducible repeat (first | refine blk_drewN ?_ _ | refine blk_drew ?_ | refine blk_alloc ?_ _)); refine blk_put (cs := #[.int .i64 ((rd_T25 l1 x57_3).f0), .int .i64 ((rd_T25 l1 x57_3).f1), .int .i64 ((rd_T25 l1 x57_3).f2), .int .i64 ((rd_T25 l1 x57_3).f3), .int .i64 0]) ?_ 4 _ rfl; (with_reducible repeat (first | refine blk_drewN ?_ _ | refine blk_drew ?_ | refine blk_alloc ?_ _)); refine blk_put (cs := #[.int .i64 ((rd_T25 l1 x57_3).f0), .int .i64 ((rd_T25 l1 x57_3).f1), .int .i64 ((rd_T25 l1 x57_3).f2), .int .i64 0, .int .i64 0]) ?_ 3 _ rfl; (with_reducible repeat (first | refine blk_drewN ?_ _ | refine blk_drew ?_ | refine blk_alloc ?_ _)); refine blk_put (cs := #[.int .i64 ((rd_T25 l1 x57_3).f0), .int .i64 ((rd_T25 l1 x57_3).f1), .int .i64 0, .int .i64 0, .int .i64 0]) ?_ 2 _ rfl; (with_reducible repeat (first | refine blk_drewN ?_ _ | refine blk_drew ?_ | refine blk_alloc ?_ _)); refine blk_put (cs := #[.int .i64 ((rd_T25 l1 x57_3).f0), .int .i64 0, .int .i64 0, .int .i64 0, .int .i64 0]) ?_ 1 _ rfl; (with_reducible repeat (first | refine blk_drewN ?_ _ | refine blk_drew ?_ | refine blk_alloc ?_ _)); refine blk_put (cs := #[.int .i64 0, .int .i64 0, .int .i64 0, .int .i64 0, .int .i64 0]) ?_ 0 _ rfl; (with_reducible repeat (first | refine blk_drewN ?_ _ | refine blk_drew ?_ | refine blk_alloc ?_ _)); exact BK308.out⟩
                 have n2_ : Aside0 (Below w.heap.size w (((((w55.setCell ⟨gb308, 0, none⟩ (.int .i64 ((rd_T25 l1 x57_3).f0))).setCell ⟨gb308, 1, none⟩ (.int .i64 ((rd_T25 l1 x57_3).f1))).setCell ⟨gb308, 2, none⟩ (.int .i64 ((rd_T25 l1 x57_3).f2))).setCell ⟨gb308, 3, none⟩ (.int .i64 ((rd_T25 l1 x57_3).f3))).setCell ⟨gb308, 4, none⟩ (.int .i64 ((rd_T25 l1 x57_3).f4)))) := ⟨by repeat (first | (with_reducible first | exact HB.out | apply below_alloc | apply pw_below_drewN | apply below_drew1 | refine below_set ?_ GE308.out) | exact HB.out)⟩
                 (try clear HO_5); (try clear BK308); (try clear HB)
                 have nM_ : Aside0 (Mpi.GM Try.prog 3 3 (((((w55.setCell ⟨gb308, 0, none⟩ (.int .i64 ((rd_T25 l1 x57_3).f0))).setCell ⟨gb308, 1, none⟩ (.int .i64 ((rd_T25 l1 x57_3).f1))).setCell ⟨gb308, 2, none⟩ (.int .i64 ((rd_T25 l1 x57_3).f2))).setCell ⟨gb308, 3, none⟩ (.int .i64 ((rd_T25 l1 x57_3).f3))).setCell ⟨gb308, 4, none⟩ (.int .i64 ((rd_T25 l1 x57_3).f4))) gbM x57_3.toNat l1 (t302.take x57_3.toNat)) := ⟨by repeat (first | (with_reducible exact HM.out) | (with_reducible refine Mpi.GM.drewN ?_ _) | (with_reducible refine Mpi.GM.drew ?_) | (with_reducible refine Mpi.GM.alloc ?_ _) | (refine Mpi.GM.setCell ?_ NBM308.out _) | (refine Mpi.GM.setCell ?_ NBM315.out _) | exact HM.out)⟩
                 clear HM
                 generalize (((((w55.setCell ⟨gb308, 0, none⟩ (.int .i64 ((rd_T25 l1 x57_3).f0))).setCell ⟨gb308, 1, none⟩ (.int .i64 ((rd_T25 l1 x57_3).f1))).setCell ⟨gb308, 2, none⟩ (.int .i64 ((rd_T25 l1 x57_3).f2))).setCell ⟨gb308, 3, none⟩ (.int .i64 ((rd_T25 l1 x57_3).f3))).setCell ⟨gb308, 4, none⟩ (.int .i64 ((rd_T25 l1 x57_3).f4))) = w57 at nM_ n0_ n1_ n2_ ⊢
                 have HM := nM_; clear nM_; have HO_5 := n0_; have BK308 := n1_; have HB := n2_; clear n0_ n1_ n2_; have n0_ := Aside0.mk (Kd.R_drew HO_5.out); have n1_ := Aside0.mk (blk_drew BK308.out); have n2_ := Aside0.mk (below_drew1 HB.out); clear HO_5 BK308 HB; have HO_5 := n0_; have BK308 := n1_; have HB := n2_; clear n0_ n1_ n2_
                 obtain ⟨Ao59, co59, eo59⟩ := Kd.R_slice HO_5.out
                 (first | subst eo59 | (injection eo59 with f1_ f2_ f3_; have f4_ := f1_.symm; have f5_ := f3_.symm; clear f1_ f2_ f3_; subst f4_; subst f5_))
                 have p309 : 0 ≤ (x57_3 : Int) := of_decide_eq_true (by first | (with_reducible assumption) | assumption)
                 have q309 : x57_3 < (t302.length : Int) := of_decide_eq_true (by first | (with_reducible assumption) | assumption)
                 obtain ⟨ad309, e309, hx309_0⟩ := Kd.at_int (Kd.R_reads' HO_5.out).2.2 x57_3 p309 q309
                 cases e309
                 replace p309 := eq_true p309
                 replace q309 := eq_true q309
                 have p310 : 0 ≤ (x57_3 : Int) := of_decide_eq_true (by first | (with_reducible assumption) | assumption)
                 have q310 : x57_3 < (t302.length : Int) := of_decide_eq_true (by first | (with_reducible assumption) | assumption)
                 obtain ⟨ad310, e310, hx310_0⟩ := Kd.at_int (Kd.R_reads' HO_5.out).2.2 x57_3 p310 q310
                 obtain rfl : ad309 = ad310 := (by injection e310)
                 replace p310 := eq_true p310
                 replace q310 := eq_true q310
                 refine start_ (n := 26) (S := fun w' => w'.cell? ⟨gb308, 0, none⟩ = some (.int .i64 ((rd_T25 l1 x57_3).f0)) ∧ w'.cell? ⟨gb308, 1, none⟩ = some (.int .i64 ((rd_T25 l1 x57_3).f1)) ∧ w'.cell? ⟨gb308, 2, none⟩ = some (.int .i64 ((rd_T25 l1 x57_3).f2)) ∧ w'.cell? ⟨gb308, 3, none⟩ = some (.int .i64 ((rd_T25 l1 x57_3).f3)) ∧ w'.cell? ⟨gb308, 4, none⟩ = some (.int .i64 ((rd_T25 l1 x57_3).f4)) ∧ w'.cell? (ad309.add (x57_3).toNat) = some (.int .i64 (rd t302 x57_3)) ∧ w'.cell? (ad309.add (x57_3).toNat) = some (.int .i64 (rd t302 x57_3))) (ds := []) #[false, false, false, false, false, false, false, false, false, false, false, false, false, false, false, false, false, false, false, false, false, false, false, false, false, false] (by kernel_rfl) rfl rfl ⟨(blk_cell BK308.out 0).trans rfl, (blk_cell BK308.out 1).trans rfl, (blk_cell BK308.out 2).trans rfl, (blk_cell BK308.out 3).trans rfl, (blk_cell BK308.out 4).trans rfl, hx309_0, hx310_0⟩ (fun hHeld => ?_); refine with_tabW spilelaw47_ReliefBounded.tab12 spilelaw47_ReliefBounded.bits12 (fun HT_ HW_ => ?_)
                 have nM_ := Aside0.mk (Mpi.GM.drew HM.out); clear HM
                 generalize w57.drew = w58 at nM_ HO_5 BK308 HB hx309_0 hx310_0 hHeld ⊢
                 have HM := nM_; clear nM_
                 refine pure_ (i := 0) (N := some 62) (v := ?_) (a' := ?_) #[true, false, false, false, false, false, false, false, false, false, false, false, false, false, false, false, false, false, false, false, false, false, false, false, false, false] rfl rfl (any_of HT_.out (by kernel_rfl)) (fun _ _ _ h => h) (Or.inl ⟨by rfl, ?_⟩) ?_ ?_
                 rotate_left
                 ·intro w'
                  go_simp
                  with_reducible rfl
                 rotate_left
                 ·simp only [Act.put, List.setIfInBounds_toArray, List.set_cons_zero, List.set_cons_succ, i64_w, i32_w]
                  rfl
                 refine pure_ (i := 1) (N := some 63) (v := ?_) (a' := ?_) #[true, true, false, false, false, false, false, false, false, false, false, false, false, false, false, false, false, false, false, false, false, false, false, false, false, false] rfl rfl (any_of HT_.out (by kernel_rfl)) (fun _ _ _ h => h) (Or.inl ⟨by rfl, ?_⟩) ?_ ?_
                 rotate_left
                 ·intro w'
                  go_simp
                  with_reducible rfl
                 rotate_left
                 ·simp only [Act.put, List.setIfInBounds_toArray, List.set_cons_zero, List.set_cons_succ, i64_w, i32_w]
                  rfl
                 refine pure_ (i := 2) (N := some 64) (v := ?_) (a' := ?_) #[true, true, true, false, false, false, false, false, false, false, false, false, false, false, false, false, false, false, false, false, false, false, false, false, false, false] rfl rfl (any_of HT_.out (by kernel_rfl)) (fun _ _ _ h => h) (Or.inl ⟨by rfl, ?_⟩) ?_ ?_
                 rotate_left
                 ·intro w'
                  go_simp
                  with_reducible rfl
                 rotate_left
                 ·simp only [Act.put, List.setIfInBounds_toArray, List.set_cons_zero, List.set_cons_succ, i64_w, i32_w]
                  rfl
                 refine take_ (i := 3) (N := some 65) (v := ?_) (a' := ?_) #[true, true, true, true, false, false, false, false, false, false, false, false, false, false, false, false, false, false, false, false, false, false, false, false, false, false] rfl rfl (take_ofW HT_.out HW_.out (by kernel_rfl)) (fun _ _ _ h => h) (Or.inl ⟨by rfl, ?_⟩) hHeld ?_ ?_
                 rotate_left
                 ·rintro w' ⟨s0, s1, s2, s3, s4, s5, s6⟩
                  go_simp
                  with_reducible rfl
                 rotate_left
                 ·simp only [Act.put, List.setIfInBounds_toArray, List.set_cons_zero, List.set_cons_succ, i64_w, i32_w]
                  rfl
                 refine pure_ (i := 4) (N := some 66) (v := ?_) (a' := ?_) #[true, true, true, true, true, false, false, false, false, false, false, false, false, false, false, false, false, false, false, false, false, false, false, false, false, false] rfl rfl (any_of HT_.out (by kernel_rfl)) (fun _ _ _ h => h) (Or.inl ⟨by rfl, ?_⟩) ?_ ?_
                 rotate_left
                 ·intro w'
                  go_simp
                  with_reducible rfl
                 rotate_left
                 ·simp only [Act.put, List.setIfInBounds_toArray, List.set_cons_zero, List.set_cons_succ, i64_w, i32_w]
                  rfl
                 refine pure_ (i := 5) (N := some 67) (v := ?_) (a' := ?_) #[true, true, true, true, true, true, false, false, false, false, false, false, false, false, false, false, false, false, false, false, false, false, false, false, false, false] rfl rfl (any_of HT_.out (by kernel_rfl)) (fun _ _ _ h => h) (Or.inl ⟨by rfl, ?_⟩) ?_ ?_
                 rotate_left
                 ·intro w'
                  go_simp
                  with_reducible rfl
                 rotate_left
                 ·simp only [Act.put, List.setIfInBounds_toArray, List.set_cons_zero, List.set_cons_succ, i64_w, i32_w]
                  rfl
                 refine pure_ (i := 6) (N := some 68) (v := ?_) (a' := ?_) #[true, true, true, true, true, true, true, false, false, false, false, false, false, false, false, false, false, false, false, false, false, false, false, false, false, false] rfl rfl (any_of HT_.out (by kernel_rfl)) (fun _ _ _ h => h) (Or.inl ⟨by rfl, ?_⟩) ?_ ?_
                 rotate_left
                 ·intro w'
                  go_simp
                  with_reducible rfl
                 rotate_left
                 ·simp only [Act.put, List.setIfInBounds_toArray, List.set_cons_zero, List.set_cons_succ, i64_w, i32_w]
                  rfl
                 refine pure_ (i := 7) (N := some 69) (v := ?_) (a' := ?_) #[true, true, true, true, true, true, true, true, false, false, false, false, false, false, false, false, false, false, false, false, false, false, false, false, false, false] rfl rfl (any_of HT_.out (by kernel_rfl)) (fun _ _ _ h => h) (Or.inl ⟨by rfl, ?_⟩) ?_ ?_
                 rotate_left
                 ·intro w'
                  go_simp
                  with_reducible rfl
                 rotate_left
                 ·simp only [Act.put, List.setIfInBounds_toArray, List.set_cons_zero, List.set_cons_succ, i64_w, i32_w]
                  rfl
                 refine pure_ (i := 8) (N := some 70) (v := ?_) (a' := ?_) #[true, true, true, true, true, true, true, true, true, false, false, false, false, false, false, false, false, false, false, false, false, false, false, false, false, false] rfl rfl (any_of HT_.out (by kernel_rfl)) (fun _ _ _ h => h) (Or.inl ⟨by rfl, ?_⟩) ?_ ?_
                 rotate_left
                 ·intro w'
                  go_simp
                  with_reducible rfl
                 rotate_left
                 ·simp only [Act.put, List.setIfInBounds_toArray, List.set_cons_zero, List.set_cons_succ, i64_w, i32_w]
                  rfl
                 refine pure_ (i := 10) (N := some 72) (v := ?_) (a' := ?_) #[true, true, true, true, true, true, true, true, true, false, true, false, false, false, false, false, false, false, false, false, false, false, false, false, false, false] rfl rfl (any_of HT_.out (by kernel_rfl)) (fun _ _ _ h => h) (Or.inl ⟨by rfl, ?_⟩) ?_ ?_
                 rotate_left
                 ·intro w'
                  go_simp
                  with_reducible rfl
                 rotate_left
                 ·simp only [Act.put, List.setIfInBounds_toArray, List.set_cons_zero, List.set_cons_succ, i64_w, i32_w]
                  rfl
                 refine take_ (i := 9) (N := some 71) (v := ?_) (a' := ?_) #[true, true, true, true, true, true, true, true, true, true, true, false, false, false, false, false, false, false, false, false, false, false, false, false, false, false] rfl rfl (take_ofW HT_.out HW_.out (by kernel_rfl)) (fun _ _ _ h => h) (Or.inl ⟨by rfl, ?_⟩) hHeld ?_ ?_
                 rotate_left
                 ·rintro w' ⟨s0, s1, s2, s3, s4, s5, s6⟩
                  go_simp
                  with_reducible rfl
                 rotate_left
                 ·simp only [Act.put, List.setIfInBounds_toArray, List.set_cons_zero, List.set_cons_succ, i64_w, i32_w]
                  rfl
                 refine take_ (i := 11) (N := some 73) (v := ?_) (a' := ?_) #[true, true, true, true, true, true, true, true, true, true, true, true, false, false, false, false, false, false, false, false, false, false, false, false, false, false] rfl rfl (take_ofW HT_.out HW_.out (by kernel_rfl)) (fun _ _ _ h => h) (Or.inl ⟨by rfl, ?_⟩) hHeld ?_ ?_
                 rotate_left
                 ·rintro w' ⟨s0, s1, s2, s3, s4, s5, s6⟩
                  go_simp
                  with_reducible rfl
                 rotate_left
                 ·simp only [Act.put, List.setIfInBounds_toArray, List.set_cons_zero, List.set_cons_succ, i64_w, i32_w]
                  rfl
                 refine pure_ (i := 12) (N := some 74) (v := ?_) (a' := ?_) #[true, true, true, true, true, true, true, true, true, true, true, true, true, false, false, false, false, false, false, false, false, false, false, false, false, false] rfl rfl (any_of HT_.out (by kernel_rfl)) (fun _ _ _ h => h) (Or.inl ⟨by rfl, ?_⟩) ?_ ?_
                 rotate_left
                 ·intro w'
                  go_simp
                  with_reducible rfl
                 rotate_left
                 ·simp only [Act.put, List.setIfInBounds_toArray, List.set_cons_zero, List.set_cons_succ, i64_w, i32_w]
                  rfl
                 refine pure_ (i := 13) (N := some 75) (v := ?_) (a' := ?_) #[true, true, true, true, true, true, true, true, true, true, true, true, true, true, false, false, false, false, false, false, false, false, false, false, false, false] rfl rfl (any_of HT_.out (by kernel_rfl)) (fun _ _ _ h => h) (Or.inl ⟨by rfl, ?_⟩) ?_ ?_
                 rotate_left
                 ·intro w'
                  go_simp
                  with_reducible rfl
                 rotate_left
                 ·simp only [Act.put, List.setIfInBounds_toArray, List.set_cons_zero, List.set_cons_succ, i64_w, i32_w]
                  rfl
                 refine pure_ (i := 14) (N := some 76) (v := ?_) (a' := ?_) #[true, true, true, true, true, true, true, true, true, true, true, true, true, true, true, false, false, false, false, false, false, false, false, false, false, false] rfl rfl (any_of HT_.out (by kernel_rfl)) (fun _ _ _ h => h) (Or.inl ⟨by rfl, ?_⟩) ?_ ?_
                 rotate_left
                 ·intro w'
                  go_simp
                  with_reducible rfl
                 rotate_left
                 ·simp only [Act.put, List.setIfInBounds_toArray, List.set_cons_zero, List.set_cons_succ, i64_w, i32_w]
                  rfl
                 refine pure_ (i := 15) (N := some 77) (v := ?_) (a' := ?_) #[true, true, true, true, true, true, true, true, true, true, true, true, true, true, true, true, false, false, false, false, false, false, false, false, false, false] rfl rfl (any_of HT_.out (by kernel_rfl)) (fun _ _ _ h => h) (Or.inl ⟨by rfl, ?_⟩) ?_ ?_
                 rotate_left
                 ·intro w'
                  go_simp
                  with_reducible rfl
                 rotate_left
                 ·simp only [Act.put, List.setIfInBounds_toArray, List.set_cons_zero, List.set_cons_succ, i64_w, i32_w]
                  rfl
                 refine take_ (i := 16) (N := some 78) (v := ?_) (a' := ?_) #[true, true, true, true, true, true, true, true, true, true, true, true, true, true, true, true, true, false, false, false, false, false, false, false, false, false] rfl rfl (take_ofW HT_.out HW_.out (by kernel_rfl)) (fun _ _ _ h => h) (Or.inl ⟨by rfl, ?_⟩) hHeld ?_ ?_
                 rotate_left
                 ·rintro w' ⟨s0, s1, s2, s3, s4, s5, s6⟩
                  go_simp
                  with_reducible rfl
                 rotate_left
                 ·simp only [Act.put, List.setIfInBounds_toArray, List.set_cons_zero, List.set_cons_succ, i64_w, i32_w]
                  rfl
                 refine pure_ (i := 17) (N := some 79) (v := ?_) (a' := ?_) #[true, true, true, true, true, true, true, true, true, true, true, true, true, true, true, true, true, true, false, false, false, false, false, false, false, false] rfl rfl (any_of HT_.out (by kernel_rfl)) (fun _ _ _ h => h) (Or.inl ⟨by rfl, ?_⟩) ?_ ?_
                 rotate_left
                 ·intro w'
                  go_simp
                  with_reducible rfl
                 rotate_left
                 ·simp only [Act.put, List.setIfInBounds_toArray, List.set_cons_zero, List.set_cons_succ, i64_w, i32_w]
                  rfl
                 refine pure_ (i := 18) (N := some 80) (v := ?_) (a' := ?_) #[true, true, true, true, true, true, true, true, true, true, true, true, true, true, true, true, true, true, true, false, false, false, false, false, false, false] rfl rfl (any_of HT_.out (by kernel_rfl)) (fun _ _ _ h => h) (Or.inl ⟨by rfl, ?_⟩) ?_ ?_
                 rotate_left
                 ·intro w'
                  go_simp
                  with_reducible rfl
                 rotate_left
                 ·simp only [Act.put, List.setIfInBounds_toArray, List.set_cons_zero, List.set_cons_succ, i64_w, i32_w]
                  rfl
                 refine pure_ (i := 19) (N := some 81) (v := undef) (a' := ?_) #[true, true, true, true, true, true, true, true, true, true, true, true, true, true, true, true, true, true, true, true, false, false, false, false, false, false] rfl rfl (any_of HT_.out (by kernel_rfl)) (fun _ _ _ h => h) (Or.inr ⟨by rfl, rfl⟩) ?_ ?_
                 rotate_left
                 ·simp only [Act.put, List.setIfInBounds_toArray, List.set_cons_zero, List.set_cons_succ, i64_w, i32_w]
                  rfl
                 refine pure_ (i := 20) (N := some 82) (v := undef) (a' := ?_) #[true, true, true, true, true, true, true, true, true, true, true, true, true, true, true, true, true, true, true, true, true, false, false, false, false, false] rfl rfl (any_of HT_.out (by kernel_rfl)) (fun _ _ _ h => h) (Or.inr ⟨by rfl, rfl⟩) ?_ ?_
                 rotate_left
                 ·simp only [Act.put, List.setIfInBounds_toArray, List.set_cons_zero, List.set_cons_succ, i64_w, i32_w]
                  rfl
                 refine pure_ (i := 21) (N := some 83) (v := undef) (a' := ?_) #[true, true, true, true, true, true, true, true, true, true, true, true, true, true, true, true, true, true, true, true, true, true, false, false, false, false] rfl rfl (any_of HT_.out (by kernel_rfl)) (fun _ _ _ h => h) (Or.inr ⟨by rfl, rfl⟩) ?_ ?_
                 rotate_left
                 ·simp only [Act.put, List.setIfInBounds_toArray, List.set_cons_zero, List.set_cons_succ, i64_w, i32_w]
                  rfl
                 refine pure_ (i := 22) (N := some 84) (v := undef) (a' := ?_) #[true, true, true, true, true, true, true, true, true, true, true, true, true, true, true, true, true, true, true, true, true, true, true, false, false, false] rfl rfl (any_of HT_.out (by kernel_rfl)) (fun _ _ _ h => h) (Or.inr ⟨by rfl, rfl⟩) ?_ ?_
                 rotate_left
                 ·simp only [Act.put, List.setIfInBounds_toArray, List.set_cons_zero, List.set_cons_succ, i64_w, i32_w]
                  rfl
                 refine pure_ (i := 23) (N := some 85) (v := undef) (a' := ?_) #[true, true, true, true, true, true, true, true, true, true, true, true, true, true, true, true, true, true, true, true, true, true, true, true, false, false] rfl rfl (any_of HT_.out (by kernel_rfl)) (fun _ _ _ h => h) (Or.inr ⟨by rfl, rfl⟩) ?_ ?_
                 rotate_left
                 ·simp only [Act.put, List.setIfInBounds_toArray, List.set_cons_zero, List.set_cons_succ, i64_w, i32_w]
                  rfl
                 refine pure_ (i := 24) (N := some 86) (v := ?_) (a' := ?_) #[true, true, true, true, true, true, true, true, true, true, true, true, true, true, true, true, true, true, true, true, true, true, true, true, true, false] rfl rfl (any_of HT_.out (by kernel_rfl)) (fun _ _ _ h => h) (Or.inl ⟨by rfl, ?_⟩) ?_ ?_
                 rotate_left
                 ·intro w'
                  go_simp
                  with_reducible rfl
                 rotate_left
                 ·simp only [Act.put, List.setIfInBounds_toArray, List.set_cons_zero, List.set_cons_succ, i64_w, i32_w]
                  rfl
                 refine pure_ (i := 25) (N := some 87) (v := ?_) (a' := ?_) #[true, true, true, true, true, true, true, true, true, true, true, true, true, true, true, true, true, true, true, true, true, true, true, true, true, true] rfl rfl (any_of HT_.out (by kernel_rfl)) (fun _ _ _ h => h) (Or.inl ⟨by rfl, ?_⟩) ?_ ?_
                 rotate_left
                 ·intro w'
                  go_simp
                  with_reducible rfl
                 rotate_left
                 ·simp only [Act.put, List.setIfInBounds_toArray, List.set_cons_zero, List.set_cons_succ, i64_w, i32_w]
                  rfl
                 refine done_ (done_of HT_.out (by kernel_rfl)) ?_
                 have hcz60_0 : w58.cell? ⟨gb308, 0, none⟩ = some (.int .i64 ((rd_T25 l1 x57_3).f0)) := (blk_cell BK308.out 0).trans rfl
                 have hcz60_1 : w58.cell? ⟨gb308, 1, none⟩ = some (.int .i64 ((rd_T25 l1 x57_3).f1)) := (blk_cell BK308.out 1).trans rfl
                 have hcz60_2 : w58.cell? ⟨gb308, 2, none⟩ = some (.int .i64 ((rd_T25 l1 x57_3).f2)) := (blk_cell BK308.out 2).trans rfl
                 have hcz60_3 : w58.cell? ⟨gb308, 3, none⟩ = some (.int .i64 ((rd_T25 l1 x57_3).f3)) := (blk_cell BK308.out 3).trans rfl
                 have hcz60_4 : w58.cell? ⟨gb308, 4, none⟩ = some (.int .i64 ((rd_T25 l1 x57_3).f4)) := (blk_cell BK308.out 4).trans rfl
                 have hfz60_0 := blk_frozen BK308.out 0
                 have hfz60_1 := blk_frozen BK308.out 1
                 have hfz60_2 := blk_frozen BK308.out 2
                 have hfz60_3 := blk_frozen BK308.out 3
                 have hfz60_4 := blk_frozen BK308.out 4
                 have p313 : 0 ≤ (x57_3 : Int) := of_decide_eq_true (by first | (with_reducible assumption) | assumption)
                 have q313 : x57_3 < (t302.length : Int) := of_decide_eq_true (by first | (with_reducible assumption) | assumption)
                 obtain ⟨ad313, e313, hx313_0⟩ := Kd.at_int (Kd.R_reads' HO_5.out).2.2 x57_3 p313 q313
                 obtain rfl : ad309 = ad313 := (by injection e313)
                 replace p313 := eq_true p313
                 replace q313 := eq_true q313
                 have hrun := Mpi.GM.run (Mpi.GM.drew HM.out) (Go.Maps.int_keyed Try.underlying3) Try.underlying47 Try.underlying3 (zero3 _) ((rd_T25 l1 x57_3).f4) (Go.Maps.keyOf_int_mk Try.underlying3 (WalkArith.wf_i64 (by have := CSZ.out; omega)))
                 go_wp2
                 refine (wpIn_wide (n := 5)).1 ?_
                 refine Tail.region_tail (Tail.open_wide _ _) 9 (by kernel_rfl) (by kernel_rfl) (by kernel_rfl) ?_
                 simp only [List.take_succ_cons, List.take_zero, List.drop_succ_cons, List.drop_zero]
                 repeat still_step
                 try refine wpStill_nil ?_
                 refine Mpi.GM.storeIn (k := 3) (e := 3) (b := gbM) (n := x57_3.toNat) (xs := l1) (ns := t302.take x57_3.toNat) rfl _ _ _ rfl (Go.Maps.int_keyed Try.underlying3) Try.underlying47 Try.underlying3 rfl ?hown853 ?hn853 ((rd_T25 l1 x57_3).f4) (rd t302 x57_3) rfl (Go.Maps.keyOf_int_mk Try.underlying3 (WalkArith.wf_i64 (by have := CSZ.out; omega))) (by first | rfl | exact congrArg (Value.int .i64) (i64_w _) | (simp [i64_w]; done)) ?hid853 ?_
                 case hown853 => exact Mpi.GM.drew HM.out
                 case hn853 => have h1_ := XL.out; have h2_ := LL.out; have h3_ := HX0.out; unfold Go.maxLen; omega
                 case hid853 => rw [List.length_take, Nat.min_eq_left (by have := TL.out; have := HX0.out; omega)]; rfl
                 intro w1 hm1 hg1
                 have n0_ := Aside0.mk (Below.grown (below_drew1 HB.out) hg1 (below_size (below_drew1 HB.out)) (fun j hj => by cases hj; exact GBM.out)); have n1_ := Aside0.mk (Mpi.row_kept (Mpi.GM.drew HM.out) (Kd.R_drew HO_5.out) hg1); clear HB HM HO_5; have HB := n0_; have HO_5 := n1_
                 have HM := Aside0.mk hm1
                 clear n0_ n1_ hm1 hg1
                 gi_wp2
                 try go_wp2
                 go_roundg k3
                 case measure => have := HJ2.out; have := HJ15.out; have := HK3.out; omega
                 case rel => exact ⟨(wrap64 (x57_3 + 1)), (by first | rfl | (simp; done) | (simp [*]; done)), H', ⟨by have := HJ2.out; have := HJ15.out; have := HK3.out; omega⟩, ⟨by (with_reducible repeat (first | apply Kd.R_alloc | apply Kd.R_drewN | apply Kd.R_drew)); exact HO_5.out⟩, ⟨by repeat (first | (with_reducible first | exact HB.out | apply below_alloc | apply pw_below_drewN | apply below_drew1 | refine below_set ?_ GE308.out) | exact HB.out)⟩, ⟨Mpi.bnd57 HX0.out.1 XL.out LL.out⟩, ⟨Mpi.step57 HX0.out.1 XL.out LL.out TL.out HM.out⟩⟩
             ·rw [if_neg c29] at H
              exact absurd H (by simp)
            ·rw [if_neg c28] at H
             exact absurd H (by simp)
           ·rw [if_neg c27] at H
            exact absurd H (by simp)
          ·rw [if_neg c26] at H
           have c26b0 : decide (x57_3 < (l1.length : Int)) = false := decide_eq_false c26
           clear c26
           have H' := Aside0.mk H
           clear H
           have hx_ : x57_3.toNat = l1.length := by have h1_ := of_decide_eq_false c26b0; have h2_ := HX0.out; omega
           have nM_ := HM.out
           rw [hx_] at nM_
           clear HM
           have HM := Aside0.mk nM_
           clear nM_ hx_
           go_wp2
           go_loopg [100] k3 (fun kq v100 w' => ∃ (x100_4 : Int), v100 = .int .i64 x100_4 ∧ Aside0 (spilelaw47_ReliefBounded.l1 kq l0 l1 (t302.take l1.length) l0 (l0.length : Int) x100_4 = some r) ∧ Aside0 (kq ≤ k3) ∧ Aside0 (Below w.heap.size w w') ∧ Aside0 (Mpi.GM Try.prog 3 3 w' gbM l1.length l1 (t302.take l1.length)))
           case atStart => exact ⟨(0), (by first | rfl | (simp; done) | (simp [*]; done)), H', ⟨Nat.le_refl _⟩, ⟨by repeat (first | (with_reducible first | exact HB.out | apply below_alloc | apply pw_below_drewN | apply below_drew1) | exact HB.out)⟩, ⟨by repeat (first | (with_reducible exact HM.out) | (with_reducible refine Mpi.GM.drewN ?_ _) | (with_reducible refine Mpi.GM.drew ?_) | (with_reducible refine Mpi.GM.alloc ?_ _) | (refine Mpi.GM.setCell ?_ NBM308.out _) | (refine Mpi.GM.setCell ?_ NBM315.out _) | exact HM.out)⟩⟩
           case round =>
            clear H' HM
            obtain ⟨x100_4, rfl, HA, HK4, HB, HM⟩ := hrel
            cases gk with
            | zero => exact absurd HA.out (by simp [spilelaw47_ReliefBounded.l1])
            | succ k4 =>
             have H := HA.out; clear HA
             simp only [spilelaw47_ReliefBounded.l1] at H
             by_cases c61 : x100_4 < (l0.length : Int)
             ·rw [if_pos c61] at H
              have c61b0 : decide (x100_4 < (l0.length : Int)) = true := decide_eq_true c61
              clear c61
              by_cases c62 : 0 ≤ x100_4
              ·rw [if_pos c62] at H
               have c62b0 : decide (0 ≤ x100_4) = true := decide_eq_true c62
               clear c62
               by_cases c63 : x100_4 < (l0.length : Int)
               ·rw [if_pos c63] at H
                have c63b0 : decide (x100_4 < (l0.length : Int)) = true := decide_eq_true c63
                clear c63
                replace H := Option.bind_eq_some_iff.mp H
                obtain ⟨t316, A640, H⟩ := H
                try dsimp only at H
                have A64 := Aside0.mk A640
                clear A640
                replace H := Option.bind_eq_some_iff.mp H
                obtain ⟨t319, A650, H⟩ := H
                try dsimp only at H
                have A65 := Aside0.mk A650
                clear A650
                replace H := Option.bind_eq_some_iff.mp H
                obtain ⟨⟨t322, t323⟩, A660, H⟩ := H
                try dsimp only at H
                have A66 := Aside0.mk A660
                clear A660
                by_cases c67 : ((rd_T33 l0 x100_4).f6) = 0
                ·rw [if_pos c67] at H
                 have c67b0 : (((rd_T33 l0 x100_4).f6) == 0) = true := beq_iff_eq.mpr c67
                 have c67b1 : (((rd_T33 l0 x100_4).f6) != 0) = false := bne_eq_false_iff_eq.mpr c67
                 clear c67
                 by_cases c68 : t323 = 15
                 ·rw [if_pos c68] at H
                  have c68b0 : (t323 == 15) = true := beq_iff_eq.mpr c68
                  have c68b1 : (t323 != 15) = false := bne_eq_false_iff_eq.mpr c68
                  clear c68
                  have H' := Aside0.mk H
                  clear H
                  have p314 : 0 ≤ (x100_4 : Int) := of_decide_eq_true (by first | (with_reducible assumption) | assumption)
                  have q314 : x100_4 < (l0.length : Int) := of_decide_eq_true (by first | (with_reducible assumption) | assumption)
                  obtain ⟨ad314, e314, hx314_0, hx314_1, hx314_2, hx314_3, hx314_4, hx314_5, hx314_6⟩ := at_T33 HR0.out x100_4 p314 q314
                  cases e314
                  replace hx314_0 := (HB.out.cell (World.block_lt_of_cell? w _ hx314_0)).trans hx314_0
                  replace hx314_1 := (HB.out.cell (World.block_lt_of_cell? w _ hx314_1)).trans hx314_1
                  replace hx314_2 := (HB.out.cell (World.block_lt_of_cell? w _ hx314_2)).trans hx314_2
                  replace hx314_3 := (HB.out.cell (World.block_lt_of_cell? w _ hx314_3)).trans hx314_3
                  replace hx314_4 := (HB.out.cell (World.block_lt_of_cell? w _ hx314_4)).trans hx314_4
                  replace hx314_5 := (HB.out.cell (World.block_lt_of_cell? w _ hx314_5)).trans hx314_5
                  replace hx314_6 := (HB.out.cell (World.block_lt_of_cell? w _ hx314_6)).trans hx314_6
                  replace p314 := eq_true p314
                  replace q314 := eq_true q314
                  try go_wp2_with (first | ((with_reducible refine gate_dst (N := 12) rfl ?_); refine box_event ?hg (N := 12) ?hd (cs := #[.int .i64 0, .string (⟨#[]⟩ : ByteArray), .int .i64 0, .int .i64 0, .int .i64 0, .int .i64 0, .int .i64 0]) (t := 33) ?hr ?_; (case hd => rfl); (case hg => rfl); (case hr => first | (go_simp; done) | (go_simp; rfl)); intro gb315 hg w69 hbox hb; have NBM315 := Aside0.mk (show gbM ≠ gb315 by rw [hg]; exact Nat.ne_of_lt (Mpi.GM.lt' HM.out (by repeat (first | (with_reducible exact HM.out) | (with_reducible refine Mpi.GM.drewN ?_ _) | (with_reducible refine Mpi.GM.drew ?_) | (with_reducible refine Mpi.GM.alloc ?_ _) | exact HM.out)))); have nM_ := Aside0.mk (Mpi.GM.below' HM.out (by repeat (first | (with_reducible exact HM.out) | (with_reducible refine Mpi.GM.drewN ?_ _) | (with_reducible refine Mpi.GM.drew ?_) | (with_reducible refine Mpi.GM.alloc ?_ _) | exact HM.out)) hb); clear HM; have HM := nM_; clear nM_; have n0_ := Aside0.mk (below_step (by repeat (first | (with_reducible first | exact HB.out | apply below_alloc | apply pw_below_drewN | apply below_drew1) | exact HB.out)) hb); have n1_ := Aside0.mk (hbox); have n2_ := Aside0.mk ((by rw [hg]; exact (below_size (by repeat (first | (with_reducible first | exact HB.out | apply below_alloc | apply pw_below_drewN | apply below_drew1) | exact HB.out))) : w.heap.size ≤ gb315)); have n3_ := Aside0.mk ((by rw [hg]; exact (below_size (by repeat (first | (with_reducible first | exact HB.out | apply below_alloc | apply pw_below_drewN | apply below_drew1) | exact HB.out))) : w.heap.size ≤ gb315)); clear HB; have HB := n0_; have BK315 := n1_; have GW315 := n2_; have GE315 := n3_; clear n0_ n1_ n2_ n3_; clear hb hbox hg; have hcz70_0 : w69.cell? ⟨gb315, 0, none⟩ = some (.int .i64 0) := (blk_cell BK315.out 0).trans rfl; have hcz70_1 : w69.cell? ⟨gb315, 1, none⟩ = some (.string (⟨#[]⟩ : ByteArray)) := (blk_cell BK315.out 1).trans rfl; have hcz70_2 : w69.cell? ⟨gb315, 2, none⟩ = some (.int .i64 0) := (blk_cell BK315.out 2).trans rfl; have hcz70_3 : w69.cell? ⟨gb315, 3, none⟩ = some (.int .i64 0) := (blk_cell BK315.out 3).trans rfl; have hcz70_4 : w69.cell? ⟨gb315, 4, none⟩ = some (.int .i64 0) := (blk_cell BK315.out 4).trans rfl; have hcz70_5 : w69.cell? ⟨gb315, 5, none⟩ = some (.int .i64 0) := (blk_cell BK315.out 5).trans rfl; have hcz70_6 : w69.cell? ⟨gb315, 6, none⟩ = some (.int .i64 0) := (blk_cell BK315.out 6).trans rfl; have hfz70_0 := blk_frozen BK315.out 0; have hfz70_1 := blk_frozen BK315.out 1; have hfz70_2 := blk_frozen BK315.out 2; have hfz70_3 := blk_frozen BK315.out 3; have hfz70_4 := blk_frozen BK315.out 4; have hfz70_5 := blk_frozen BK315.out 5; have hfz70_6 := blk_frozen BK315.out 6))
                  have n0_ : Aside0 ((((((((w69.setCell ⟨gb315, 0, none⟩ (.int .i64 ((rd_T33 l0 x100_4).f0))).setCell ⟨gb315, 1, none⟩ (.string ((rd_T33 l0 x100_4).f1))).setCell ⟨gb315, 2, none⟩ (.int .i64 ((rd_T33 l0 x100_4).f2))).setCell ⟨gb315, 3, none⟩ (.int .i64 ((rd_T33 l0 x100_4).f3))).setCell ⟨gb315, 4, none⟩ (.int .i64 ((rd_T33 l0 x100_4).f4))).setCell ⟨gb315, 5, none⟩ (.int .i64 ((rd_T33 l0 x100_4).f5))).setCell ⟨gb315, 6, none⟩ (.int .i64 ((rd_T33 l0 x100_4).f6))).heap[gb315]? = some (.cells #[.int .i64 ((rd_T33 l0 x100_4).f0), .string ((rd_T33 l0 x100_4).f1), .int .i64 ((rd_T33 l0 x100_4).f2), .int .i64 ((rd_T33 l0 x100_4).f3), .int .i64 ((rd_T33 l0 x100_4).f4), .int .i64 ((rd_T33 l0 x100_4).f5), .int .i64 ((rd_T33 l0 x100_4).f6)] 33 (0, 0))) := ⟨by (with_reducible repeat (first | refine blk_drewN ?_ _ | refine blk_drew ?_ | refine blk_alloc ?_ _)); refine blk_put (cs := #[.int .i64 ((rd_T33 l0 x100_4).f0), .string ((rd_T33 l0 x100_4).f1), .int .i64 ((rd_T33 l0 x100_4).f2), .int .i64 ((rd_T33 l0 x100_4).f3), .int .i64 ((rd_T33 l0 x100_4).f4), .int .i64 ((rd_T33 l0 x100_4).f5), .int .i64 0]) ?_ 6 _ rfl; (with_reducible repeat (first | refine blk_drewN ?_ _ | refine blk_drew ?_ | refine blk_alloc ?_ _)); refine blk_put (cs := #[.int .i64 ((rd_T33 l0 x100_4).f0), .string ((rd_T33 l0 x100_4).f1), .int .i64 ((rd_T33 l0 x100_4).f2), .int .i64 ((rd_T33 l0 x100_4).f3), .int .i64 ((rd_T33 l0 x100_4).f4), .int .i64 0, .int .i64 0]) ?_ 5 _ rfl; (with_reducible repeat (first | refine blk_drewN ?_ _ | refine blk_drew ?_ | refine blk_alloc ?_ _)); refine blk_put (cs := #[.int .i64 ((rd_T33 l0 x100_4).f0), .string ((rd_T33 l0 x100_4).f1), .int .i64 ((rd_T33 l0 x100_4).f2), .int .i64 ((rd_T33 l0 x100_4).f3), .int .i64 0, .int .i64 0, .int .i64 0]) ?_ 4 _ rfl; (with_reducible repeat (first | refine blk_drewN ?_ _ | refine blk_drew ?_ | refine blk_alloc ?_ _)); refine blk_put (cs := #[.int .i64 ((rd_T33 l0 x100_4).f0), .string ((rd_T33 l0 x100_4).f1), .int .i64 ((rd_T33 l0 x100_4).f2), .int .i64 0, .int .i64 0, .int .i64 0, .int .i64 0]) ?_ 3 _ rfl; (with_reducible repeat (first | refine blk_drewN ?_ _ | refine blk_drew ?_ | refine blk_alloc ?_ _)); refine blk_put (cs := #[.int .i64 ((rd_T33 l0 x100_4).f0), .string ((rd_T33 l0 x100_4).f1), .int .i64 0, .int .i64 0, .int .i64 0, .int .i64 0, .int .i64 0]) ?_ 2 _ rfl; (with_reducible repeat (first | refine blk_drewN ?_ _ | refine blk_drew ?_ | refine blk_alloc ?_ _)); refine blk_put (cs := #[.int .i64 ((rd_T33 l0 x100_4).f0), .string (⟨#[]⟩ : ByteArray), .int .i64 0, .int .i64 0, .int .i64 0, .int .i64 0, .int .i64 0]) ?_ 1 _ rfl; (with_reducible repeat (first | refine blk_drewN ?_ _ | refine blk_drew ?_ | refine blk_alloc ?_ _)); refine blk_put (cs := #[.int .i64 0, .string (⟨#[]⟩ : ByteArray), .int .i64 0, .int .i64 0, .int .i64 0, .int .i64 0, .int .i64 0]) ?_ 0 _ rfl; (with_reducible repeat (first | refine blk_drewN ?_ _ | refine blk_drew ?_ | refine blk_alloc ?_ _)); exact BK315.out⟩
                  have n1_ : Aside0 (Below w.heap.size w (((((((w69.setCell ⟨gb315, 0, none⟩ (.int .i64 ((rd_T33 l0 x100_4).f0))).setCell ⟨gb315, 1, none⟩ (.string ((rd_T33 l0 x100_4).f1))).setCell ⟨gb315, 2, none⟩ (.int .i64 ((rd_T33 l0 x100_4).f2))).setCell ⟨gb315, 3, none⟩ (.int .i64 ((rd_T33 l0 x100_4).f3))).setCell ⟨gb315, 4, none⟩ (.int .i64 ((rd_T33 l0 x100_4).f4))).setCell ⟨gb315, 5, none⟩ (.int .i64 ((rd_T33 l0 x100_4).f5))).setCell ⟨gb315, 6, none⟩ (.int .i64 ((rd_T33 l0 x100_4).f6)))) := ⟨by repeat (first | (with_reducible first | exact HB.out | apply below_alloc | apply pw_below_drewN | apply below_drew1 | refine below_set ?_ GE315.out) | exact HB.out)⟩
                  (try clear BK315); (try clear HB)
                  have nM_ : Aside0 (Mpi.GM Try.prog 3 3 (((((((w69.setCell ⟨gb315, 0, none⟩ (.int .i64 ((rd_T33 l0 x100_4).f0))).setCell ⟨gb315, 1, none⟩ (.string ((rd_T33 l0 x100_4).f1))).setCell ⟨gb315, 2, none⟩ (.int .i64 ((rd_T33 l0 x100_4).f2))).setCell ⟨gb315, 3, none⟩ (.int .i64 ((rd_T33 l0 x100_4).f3))).setCell ⟨gb315, 4, none⟩ (.int .i64 ((rd_T33 l0 x100_4).f4))).setCell ⟨gb315, 5, none⟩ (.int .i64 ((rd_T33 l0 x100_4).f5))).setCell ⟨gb315, 6, none⟩ (.int .i64 ((rd_T33 l0 x100_4).f6))) gbM l1.length l1 (t302.take l1.length)) := ⟨by repeat (first | (with_reducible exact HM.out) | (with_reducible refine Mpi.GM.drewN ?_ _) | (with_reducible refine Mpi.GM.drew ?_) | (with_reducible refine Mpi.GM.alloc ?_ _) | (refine Mpi.GM.setCell ?_ NBM308.out _) | (refine Mpi.GM.setCell ?_ NBM315.out _) | exact HM.out)⟩
                  clear HM
                  generalize (((((((w69.setCell ⟨gb315, 0, none⟩ (.int .i64 ((rd_T33 l0 x100_4).f0))).setCell ⟨gb315, 1, none⟩ (.string ((rd_T33 l0 x100_4).f1))).setCell ⟨gb315, 2, none⟩ (.int .i64 ((rd_T33 l0 x100_4).f2))).setCell ⟨gb315, 3, none⟩ (.int .i64 ((rd_T33 l0 x100_4).f3))).setCell ⟨gb315, 4, none⟩ (.int .i64 ((rd_T33 l0 x100_4).f4))).setCell ⟨gb315, 5, none⟩ (.int .i64 ((rd_T33 l0 x100_4).f5))).setCell ⟨gb315, 6, none⟩ (.int .i64 ((rd_T33 l0 x100_4).f6))) = w71 at nM_ n0_ n1_ ⊢
                  have HM := nM_; clear nM_; have BK315 := n0_; have HB := n1_; clear n0_ n1_; have n0_ := Aside0.mk (blk_drew BK315.out); have n1_ := Aside0.mk (below_drew1 HB.out); clear BK315 HB; have BK315 := n0_; have HB := n1_; clear n0_ n1_
                  refine start_ (n := 12) (S := fun w' => w'.cell? ⟨gb315, 0, none⟩ = some (.int .i64 ((rd_T33 l0 x100_4).f0)) ∧ w'.cell? ⟨gb315, 1, none⟩ = some (.string ((rd_T33 l0 x100_4).f1)) ∧ w'.cell? ⟨gb315, 2, none⟩ = some (.int .i64 ((rd_T33 l0 x100_4).f2)) ∧ w'.cell? ⟨gb315, 3, none⟩ = some (.int .i64 ((rd_T33 l0 x100_4).f3)) ∧ w'.cell? ⟨gb315, 4, none⟩ = some (.int .i64 ((rd_T33 l0 x100_4).f4)) ∧ w'.cell? ⟨gb315, 5, none⟩ = some (.int .i64 ((rd_T33 l0 x100_4).f5)) ∧ w'.cell? ⟨gb315, 6, none⟩ = some (.int .i64 ((rd_T33 l0 x100_4).f6))) (ds := []) #[false, false, false, false, false, false, false, false, false, false, false, false] (by kernel_rfl) rfl rfl ⟨(blk_cell BK315.out 0).trans rfl, (blk_cell BK315.out 1).trans rfl, (blk_cell BK315.out 2).trans rfl, (blk_cell BK315.out 3).trans rfl, (blk_cell BK315.out 4).trans rfl, (blk_cell BK315.out 5).trans rfl, (blk_cell BK315.out 6).trans rfl⟩ (fun hHeld => ?_); refine with_tabW spilelaw47_ReliefBounded.tab19 spilelaw47_ReliefBounded.bits19 (fun HT_ HW_ => ?_)
                  have nM_ := Aside0.mk (Mpi.GM.drew HM.out); clear HM
                  generalize w71.drew = w72 at nM_ BK315 HB hHeld ⊢
                  have HM := nM_; clear nM_
                  refine pure_ (i := 0) (N := some 105) (v := ?_) (a' := ?_) #[true, false, false, false, false, false, false, false, false, false, false, false] rfl rfl (any_of HT_.out (by kernel_rfl)) (fun _ _ _ h => h) (Or.inl ⟨by rfl, ?_⟩) ?_ ?_
                  rotate_left
                  ·intro w'
                   go_simp
                   with_reducible rfl
                  rotate_left
                  ·simp only [Act.put, List.setIfInBounds_toArray, List.set_cons_zero, List.set_cons_succ, i64_w, i32_w]
                   rfl
                  refine pure_ (i := 2) (N := some 107) (v := ?_) (a' := ?_) #[true, false, true, false, false, false, false, false, false, false, false, false] rfl rfl (any_of HT_.out (by kernel_rfl)) (fun _ _ _ h => h) (Or.inl ⟨by rfl, ?_⟩) ?_ ?_
                  rotate_left
                  ·intro w'
                   go_simp
                   with_reducible rfl
                  rotate_left
                  ·simp only [Act.put, List.setIfInBounds_toArray, List.set_cons_zero, List.set_cons_succ, i64_w, i32_w]
                   rfl
                  refine pure_ (i := 4) (N := some 109) (v := ?_) (a' := ?_) #[true, false, true, false, true, false, false, false, false, false, false, false] rfl rfl (any_of HT_.out (by kernel_rfl)) (fun _ _ _ h => h) (Or.inl ⟨by rfl, ?_⟩) ?_ ?_
                  rotate_left
                  ·intro w'
                   go_simp
                   with_reducible rfl
                  rotate_left
                  ·simp only [Act.put, List.setIfInBounds_toArray, List.set_cons_zero, List.set_cons_succ, i64_w, i32_w]
                   rfl
                  refine take_ (i := 5) (N := some 110) (v := ?_) (a' := ?_) #[true, false, true, false, true, true, false, false, false, false, false, false] rfl rfl (take_ofW HT_.out HW_.out (by kernel_rfl)) (fun _ _ _ h => h) (Or.inl ⟨by rfl, ?_⟩) hHeld ?_ ?_
                  rotate_left
                  ·rintro w' ⟨s0, s1, s2, s3, s4, s5, s6⟩
                   go_simp
                   with_reducible rfl
                  rotate_left
                  ·simp only [Act.put, List.setIfInBounds_toArray, List.set_cons_zero, List.set_cons_succ, i64_w, i32_w]
                   rfl
                  refine one_ (i := 1) (N := some 106) #[true, true, true, false, true, true, false, false, false, false, false, false] rfl rfl (one_of HT_.out (by kernel_rfl)) (by decide) (fun K hK => ?_)
                  refine goes_ Try.func13 (by kernel_rfl) rfl #[.slice (some ad314) l0.length c0] (by rfl) rfl rfl (by (try simp only [List.map_toArray, List.map_cons, List.map_nil]); first | done | rfl | (simp only [List.length_drop, List.length_take]; rfl)) ?_
                  with_reducible refine (api_Relief_13.calls _ _ l0 t316 _ ?side1 ?side2 A64.out).mono ?_
                  (case side1 => repeat (first | exact (Kd.C_below HR0.out HB.out) | (with_reducible refine Kd.C_alloc ?_ _) | (with_reducible refine Kd.C_drewN ?_ _) | (with_reducible refine Kd.C_drew ?_)))
                  (case side2 => exact HC0.out)
                  rintro e w73 ⟨v317, rfl, ho0, hb⟩
                  refine ⟨_, rfl, ?_⟩
                  have n0_ := Aside0.mk (Kd.R_lower (Kd.R_newB ho0 (g := gb315) (o := .cells #[.int .i64 ((rd_T33 l0 x100_4).f0), .string ((rd_T33 l0 x100_4).f1), .int .i64 ((rd_T33 l0 x100_4).f2), .int .i64 ((rd_T33 l0 x100_4).f3), .int .i64 ((rd_T33 l0 x100_4).f4), .int .i64 ((rd_T33 l0 x100_4).f5), .int .i64 ((rd_T33 l0 x100_4).f6)] 33 (0, 0)) (by (with_reducible repeat (first | refine blk_drewN ?_ _ | refine blk_drew ?_ | refine blk_alloc ?_ _)); exact BK315.out)) (below_size (by repeat (first | (with_reducible first | exact HB.out | apply below_alloc | apply pw_below_drewN | apply below_drew1 | refine below_set ?_ GE315.out) | exact HB.out)))); have n1_ := Aside0.mk (blk_below (g := gb315) (o := .cells #[.int .i64 ((rd_T33 l0 x100_4).f0), .string ((rd_T33 l0 x100_4).f1), .int .i64 ((rd_T33 l0 x100_4).f2), .int .i64 ((rd_T33 l0 x100_4).f3), .int .i64 ((rd_T33 l0 x100_4).f4), .int .i64 ((rd_T33 l0 x100_4).f5), .int .i64 ((rd_T33 l0 x100_4).f6)] 33 (0, 0)) (by (with_reducible repeat (first | refine blk_drewN ?_ _ | refine blk_drew ?_ | refine blk_alloc ?_ _)); exact BK315.out) hb); have nM_ := Aside0.mk (Mpi.GM.below' HM.out (by repeat (first | (with_reducible exact HM.out) | (with_reducible refine Mpi.GM.drewN ?_ _) | (with_reducible refine Mpi.GM.drew ?_) | (with_reducible refine Mpi.GM.alloc ?_ _) | (refine Mpi.GM.setCell ?_ NBM308.out _) | (refine Mpi.GM.setCell ?_ NBM315.out _) | exact HM.out)) hb); have n2_ := Aside0.mk (below_step (by repeat (first | (with_reducible first | exact HB.out | apply below_alloc | apply pw_below_drewN | apply below_drew1 | refine below_set ?_ GE315.out) | exact HB.out)) hb); clear BK315 HB HM; have HM := nM_; clear nM_; have HO318 := n0_; have BK315 := n1_; have HB := n2_; clear n0_ n1_ n2_; (try clear hb); (try clear hb2); (try clear hk); (try clear hi); (try clear ho0)
                  refine hK.out _ _ ⟨(blk_cell BK315.out 0).trans rfl, (blk_cell BK315.out 1).trans rfl, (blk_cell BK315.out 2).trans rfl, (blk_cell BK315.out 3).trans rfl, (blk_cell BK315.out 4).trans rfl, (blk_cell BK315.out 5).trans rfl, (blk_cell BK315.out 6).trans rfl⟩ (fun hHeld => ?_)
                  clear hK K
                  refine norm_ (a' := ?_) ?_ ?_
                  rotate_left
                  ·show Act.put _ (some 106) _ = _
                   simp only [Act.put, List.setIfInBounds_toArray, List.set_cons_zero, List.set_cons_succ, i64_w, i32_w]
                   rfl
                  refine one_ (i := 3) (N := some 108) #[true, true, true, true, true, true, false, false, false, false, false, false] rfl rfl (one_of HT_.out (by kernel_rfl)) (by decide) (fun K hK => ?_)
                  refine goes_ Try.func14 (by kernel_rfl) rfl #[.slice A1 l1.length c1] (by rfl) rfl rfl (by (try simp only [List.map_toArray, List.map_cons, List.map_nil]); first | done | rfl | (simp only [List.length_drop, List.length_take]; rfl)) ?_
                  with_reducible refine (api_Item_14.calls _ _ l1 t319 _ ?side1 ?side2 A65.out).mono ?_
                  (case side1 => repeat (first | exact (Kd.C_below HR1.out HB.out) | (with_reducible refine Kd.C_alloc ?_ _) | (with_reducible refine Kd.C_drewN ?_ _) | (with_reducible refine Kd.C_drew ?_)))
                  (case side2 => exact HC1.out)
                  rintro e w74 ⟨v320, rfl, ho0, hb⟩
                  refine ⟨_, rfl, ?_⟩
                  have n0_ := Aside0.mk (Kd.R_below (by (with_reducible repeat (first | apply Kd.R_alloc | apply Kd.R_drewN | apply Kd.R_drew)); exact HO318.out) hb); have n1_ := Aside0.mk (Kd.R_lower ho0 (below_size (by repeat (first | (with_reducible first | exact HB.out | apply below_alloc | apply pw_below_drewN | apply below_drew1 | refine below_set ?_ GE315.out) | exact HB.out)))); have n2_ := Aside0.mk (blk_below (g := gb315) (o := .cells #[.int .i64 ((rd_T33 l0 x100_4).f0), .string ((rd_T33 l0 x100_4).f1), .int .i64 ((rd_T33 l0 x100_4).f2), .int .i64 ((rd_T33 l0 x100_4).f3), .int .i64 ((rd_T33 l0 x100_4).f4), .int .i64 ((rd_T33 l0 x100_4).f5), .int .i64 ((rd_T33 l0 x100_4).f6)] 33 (0, 0)) (by (with_reducible repeat (first | refine blk_drewN ?_ _ | refine blk_drew ?_ | refine blk_alloc ?_ _)); exact BK315.out) hb); have nM_ := Aside0.mk (Mpi.GM.below' HM.out (by repeat (first | (with_reducible exact HM.out) | (with_reducible refine Mpi.GM.drewN ?_ _) | (with_reducible refine Mpi.GM.drew ?_) | (with_reducible refine Mpi.GM.alloc ?_ _) | (refine Mpi.GM.setCell ?_ NBM308.out _) | (refine Mpi.GM.setCell ?_ NBM315.out _) | exact HM.out)) hb); have n3_ := Aside0.mk (below_step (by repeat (first | (with_reducible first | exact HB.out | apply below_alloc | apply pw_below_drewN | apply below_drew1 | refine below_set ?_ GE315.out) | exact HB.out)) hb); clear HO318 BK315 HB HM; have HM := nM_; clear nM_; have HO318 := n0_; have HO321 := n1_; have BK315 := n2_; have HB := n3_; clear n0_ n1_ n2_ n3_; (try clear hb); (try clear hb2); (try clear hk); (try clear hi); (try clear ho0)
                  obtain ⟨Ao75, co75, eo75⟩ := Kd.R_slice HO318.out
                  (first | subst eo75 | (injection eo75 with f1_ f2_ f3_; have f4_ := f1_.symm; have f5_ := f3_.symm; clear f1_ f2_ f3_; subst f4_; subst f5_))
                  obtain ⟨Ao76, co76, eo76⟩ := Kd.R_slice HO321.out
                  (first | subst eo76 | (injection eo76 with f1_ f2_ f3_; have f4_ := f1_.symm; have f5_ := f3_.symm; clear f1_ f2_ f3_; subst f4_; subst f5_))
                  refine hK.out _ _ ⟨(blk_cell BK315.out 0).trans rfl, (blk_cell BK315.out 1).trans rfl, (blk_cell BK315.out 2).trans rfl, (blk_cell BK315.out 3).trans rfl, (blk_cell BK315.out 4).trans rfl, (blk_cell BK315.out 5).trans rfl, (blk_cell BK315.out 6).trans rfl⟩ (fun hHeld => ?_)
                  clear hK K
                  refine norm_ (a' := ?_) ?_ ?_
                  rotate_left
                  ·show Act.put _ (some 108) _ = _
                   simp only [Act.put, List.setIfInBounds_toArray, List.set_cons_zero, List.set_cons_succ, i64_w, i32_w]
                   rfl
                  refine one_ (i := 6) (N := some 111) #[true, true, true, true, true, true, true, false, false, false, false, false] rfl rfl (one_of HT_.out (by kernel_rfl)) (by decide) (fun K hK => ?_)
                  refine goes_ Try.func23 (by kernel_rfl) rfl #[.slice Ao75 t316.length co75, .slice Ao76 t319.length co76, .int .i64 ((rd_T33 l0 x100_4).f0)] (by rfl) rfl rfl (by (try simp only [List.map_toArray, List.map_cons, List.map_nil]); first | done | rfl | (simp only [List.length_drop, List.length_take]; rfl)) ?_
                  with_reducible refine (relief_Left.calls k4 _ _ t316 _ _ t319 ((rd_T33 l0 x100_4).f0) t322 t323 _ ?side1 ?side2 ?side3 ?side4 A66.out).mono ?_
                  (case side1 => repeat (first | exact (Kd.R_reads' HO318.out).2.2 | (with_reducible refine Kd.C_alloc ?_ _) | (with_reducible refine Kd.C_drewN ?_ _) | (with_reducible refine Kd.C_drew ?_)))
                  (case side2 => exact (Kd.R_reads' HO318.out).2.1)
                  (case side3 => repeat (first | exact (Kd.R_reads' HO321.out).2.2 | (with_reducible refine Kd.C_alloc ?_ _) | (with_reducible refine Kd.C_drewN ?_ _) | (with_reducible refine Kd.C_drew ?_)))
                  (case side4 => exact (Kd.R_reads' HO321.out).2.1)
                  rintro e w77 ⟨rfl, hb⟩
                  refine ⟨_, rfl, ?_⟩
                  have n0_ := Aside0.mk (Kd.R_below (by (with_reducible repeat (first | apply Kd.R_alloc | apply Kd.R_drewN | apply Kd.R_drew)); exact HO318.out) hb); have n1_ := Aside0.mk (Kd.R_below (by (with_reducible repeat (first | apply Kd.R_alloc | apply Kd.R_drewN | apply Kd.R_drew)); exact HO321.out) hb); have n2_ := Aside0.mk (blk_below (g := gb315) (o := .cells #[.int .i64 ((rd_T33 l0 x100_4).f0), .string ((rd_T33 l0 x100_4).f1), .int .i64 ((rd_T33 l0 x100_4).f2), .int .i64 ((rd_T33 l0 x100_4).f3), .int .i64 ((rd_T33 l0 x100_4).f4), .int .i64 ((rd_T33 l0 x100_4).f5), .int .i64 ((rd_T33 l0 x100_4).f6)] 33 (0, 0)) (by (with_reducible repeat (first | refine blk_drewN ?_ _ | refine blk_drew ?_ | refine blk_alloc ?_ _)); exact BK315.out) hb); have nM_ := Aside0.mk (Mpi.GM.below' HM.out (by repeat (first | (with_reducible exact HM.out) | (with_reducible refine Mpi.GM.drewN ?_ _) | (with_reducible refine Mpi.GM.drew ?_) | (with_reducible refine Mpi.GM.alloc ?_ _) | (refine Mpi.GM.setCell ?_ NBM308.out _) | (refine Mpi.GM.setCell ?_ NBM315.out _) | exact HM.out)) hb); have n3_ := Aside0.mk (below_step (by repeat (first | (with_reducible first | exact HB.out | apply below_alloc | apply pw_below_drewN | apply below_drew1 | refine below_set ?_ GE315.out) | exact HB.out)) hb); clear HO318 HO321 BK315 HB HM; have HM := nM_; clear nM_; have HO318 := n0_; have HO321 := n1_; have BK315 := n2_; have HB := n3_; clear n0_ n1_ n2_ n3_; (try clear hb); (try clear hb2); (try clear hk); (try clear hi)
                  refine hK.out _ _ ⟨(blk_cell BK315.out 0).trans rfl, (blk_cell BK315.out 1).trans rfl, (blk_cell BK315.out 2).trans rfl, (blk_cell BK315.out 3).trans rfl, (blk_cell BK315.out 4).trans rfl, (blk_cell BK315.out 5).trans rfl, (blk_cell BK315.out 6).trans rfl⟩ (fun hHeld => ?_)
                  clear hK K
                  refine norm_ (a' := ?_) ?_ ?_
                  rotate_left
                  ·show Act.put _ (some 111) _ = _
                   simp only [Act.put, List.setIfInBounds_toArray, List.set_cons_zero, List.set_cons_succ, i64_w, i32_w]
                   rfl
                  refine pure_ (i := 7) (N := some 104) (v := ?_) (a' := ?_) #[true, true, true, true, true, true, true, true, false, false, false, false] rfl rfl (any_of HT_.out (by kernel_rfl)) (fun _ _ _ h => h) (Or.inl ⟨by rfl, ?_⟩) ?_ ?_
                  rotate_left
                  ·intro w'
                   go_simp
                   with_reducible rfl
                  rotate_left
                  ·simp only [Act.put, List.setIfInBounds_toArray, List.set_cons_zero, List.set_cons_succ, i64_w, i32_w]
                   rfl
                  refine pure_ (i := 8) (N := some 112) (v := ?_) (a' := ?_) #[true, true, true, true, true, true, true, true, true, false, false, false] rfl rfl (any_of HT_.out (by kernel_rfl)) (fun _ _ _ h => h) (Or.inl ⟨by rfl, ?_⟩) ?_ ?_
                  rotate_left
                  ·intro w'
                   go_simp
                   with_reducible rfl
                  rotate_left
                  ·simp only [Act.put, List.setIfInBounds_toArray, List.set_cons_zero, List.set_cons_succ, i64_w, i32_w]
                   rfl
                  refine pure_ (i := 9) (N := some 113) (v := ?_) (a' := ?_) #[true, true, true, true, true, true, true, true, true, true, false, false] rfl rfl (any_of HT_.out (by kernel_rfl)) (fun _ _ _ h => h) (Or.inl ⟨by rfl, ?_⟩) ?_ ?_
                  rotate_left
                  ·intro w'
                   go_simp
                   with_reducible rfl
                  rotate_left
                  ·simp only [Act.put, List.setIfInBounds_toArray, List.set_cons_zero, List.set_cons_succ, i64_w, i32_w]
                   rfl
                  refine pure_ (i := 10) (N := some 13) (v := ?_) (a' := ?_) #[true, true, true, true, true, true, true, true, true, true, true, false] rfl rfl (any_of HT_.out (by kernel_rfl)) (fun _ _ _ h => h) (Or.inl ⟨by rfl, ?_⟩) ?_ ?_
                  rotate_left
                  ·intro w'
                   go_simp
                   with_reducible rfl
                  rotate_left
                  ·simp only [Act.put, List.setIfInBounds_toArray, List.set_cons_zero, List.set_cons_succ, i64_w, i32_w]
                   rfl
                  refine pure_ (i := 11) (N := some 14) (v := ?_) (a' := ?_) #[true, true, true, true, true, true, true, true, true, true, true, true] rfl rfl (any_of HT_.out (by kernel_rfl)) (fun _ _ _ h => h) (Or.inl ⟨by rfl, ?_⟩) ?_ ?_
                  rotate_left
                  ·intro w'
                   go_simp
                   with_reducible rfl
                  rotate_left
                  ·simp only [Act.put, List.setIfInBounds_toArray, List.set_cons_zero, List.set_cons_succ, i64_w, i32_w]
                   rfl
                  refine done_ (done_of HT_.out (by kernel_rfl)) ?_
                  have hcz78_0 : w77.cell? ⟨gb315, 0, none⟩ = some (.int .i64 ((rd_T33 l0 x100_4).f0)) := (blk_cell BK315.out 0).trans rfl
                  have hcz78_1 : w77.cell? ⟨gb315, 1, none⟩ = some (.string ((rd_T33 l0 x100_4).f1)) := (blk_cell BK315.out 1).trans rfl
                  have hcz78_2 : w77.cell? ⟨gb315, 2, none⟩ = some (.int .i64 ((rd_T33 l0 x100_4).f2)) := (blk_cell BK315.out 2).trans rfl
                  have hcz78_3 : w77.cell? ⟨gb315, 3, none⟩ = some (.int .i64 ((rd_T33 l0 x100_4).f3)) := (blk_cell BK315.out 3).trans rfl
                  have hcz78_4 : w77.cell? ⟨gb315, 4, none⟩ = some (.int .i64 ((rd_T33 l0 x100_4).f4)) := (blk_cell BK315.out 4).trans rfl
                  have hcz78_5 : w77.cell? ⟨gb315, 5, none⟩ = some (.int .i64 ((rd_T33 l0 x100_4).f5)) := (blk_cell BK315.out 5).trans rfl
                  have hcz78_6 : w77.cell? ⟨gb315, 6, none⟩ = some (.int .i64 ((rd_T33 l0 x100_4).f6)) := (blk_cell BK315.out 6).trans rfl
                  have hfz78_0 := blk_frozen BK315.out 0
                  have hfz78_1 := blk_frozen BK315.out 1
                  have hfz78_2 := blk_frozen BK315.out 2
                  have hfz78_3 := blk_frozen BK315.out 3
                  have hfz78_4 := blk_frozen BK315.out 4
                  have hfz78_5 := blk_frozen BK315.out 5
                  have hfz78_6 := blk_frozen BK315.out 6
                  try go_wp2
                  go_roundg k4
                  case measure => have := HJ2.out; have := HJ15.out; have := HK3.out; have := HK4.out; omega
                  case rel => exact ⟨(wrap64 (x100_4 + 1)), (by first | rfl | (simp; done) | (simp [*]; done)), H', ⟨by have := HJ2.out; have := HJ15.out; have := HK3.out; have := HK4.out; omega⟩, ⟨by repeat (first | (with_reducible first | exact HB.out | apply below_alloc | apply pw_below_drewN | apply below_drew1 | refine below_set ?_ GE315.out) | exact HB.out)⟩, ⟨by repeat (first | (with_reducible exact HM.out) | (with_reducible refine Mpi.GM.drewN ?_ _) | (with_reducible refine Mpi.GM.drew ?_) | (with_reducible refine Mpi.GM.alloc ?_ _) | (refine Mpi.GM.setCell ?_ NBM308.out _) | (refine Mpi.GM.setCell ?_ NBM315.out _) | exact HM.out)⟩⟩
                 ·rw [if_neg c68] at H
                  have c68b0 : (t323 == 15) = false := beq_eq_false_iff_ne.mpr c68
                  have c68b1 : (t323 != 15) = true := bne_iff_ne.mpr c68
                  rw [hr_] at H; exact absurd H (by simp)
                ·rw [if_neg c67] at H
                 have c67b0 : (((rd_T33 l0 x100_4).f6) == 0) = false := beq_eq_false_iff_ne.mpr c67
                 have c67b1 : (((rd_T33 l0 x100_4).f6) != 0) = true := bne_iff_ne.mpr c67
                 by_cases c89 : t323 = 0
                 ·rw [if_pos c89] at H
                  have c89b0 : (t323 == 0) = true := beq_iff_eq.mpr c89
                  have c89b1 : (t323 != 0) = false := bne_eq_false_iff_eq.mpr c89
                  clear c89
                  by_cases c90 : t322 < 0
                  ·rw [if_pos c90] at H
                   have c90b0 : decide (t322 < 0) = true := decide_eq_true c90
                   clear c90
                   rw [hr_] at H; exact absurd H (by simp)
                  ·rw [if_neg c90] at H
                   have c90b0 : decide (t322 < 0) = false := decide_eq_false c90
                   clear c90
                   have csz : (0 ≤ ((rd_T33 l0 x100_4).f0) ∧ ((rd_T33 l0 x100_4).f0) ≤ 1073741824) := by
                    by_cases csz : (0 ≤ ((rd_T33 l0 x100_4).f0) ∧ ((rd_T33 l0 x100_4).f0) ≤ 1073741824)
                    ·exact csz
                    ·rw [if_neg csz] at H
                     exact absurd H (by simp)
                   rw [if_pos csz] at H
                   have CSZ := Aside0.mk csz
                   clear csz
                   by_cases c101 : (wrap64 (t322 + (Mpi.gv l1 (t302.take l1.length) ((rd_T33 l0 x100_4).f0)))) = ((rd_T33 l0 x100_4).f6)
                   ·rw [if_pos c101] at H
                    have c101b0 : ((wrap64 (t322 + (Mpi.gv l1 (t302.take l1.length) ((rd_T33 l0 x100_4).f0)))) == ((rd_T33 l0 x100_4).f6)) = true := beq_iff_eq.mpr c101
                    have c101b1 : ((wrap64 (t322 + (Mpi.gv l1 (t302.take l1.length) ((rd_T33 l0 x100_4).f0)))) != ((rd_T33 l0 x100_4).f6)) = false := bne_eq_false_iff_eq.mpr c101
                    clear c101
                    have H' := Aside0.mk H
                    clear H
                    have p314 : 0 ≤ (x100_4 : Int) := of_decide_eq_true (by first | (with_reducible assumption) | assumption)
                    have q314 : x100_4 < (l0.length : Int) := of_decide_eq_true (by first | (with_reducible assumption) | assumption)
                    obtain ⟨ad314, e314, hx314_0, hx314_1, hx314_2, hx314_3, hx314_4, hx314_5, hx314_6⟩ := at_T33 HR0.out x100_4 p314 q314
                    cases e314
                    replace hx314_0 := (HB.out.cell (World.block_lt_of_cell? w _ hx314_0)).trans hx314_0
                    replace hx314_1 := (HB.out.cell (World.block_lt_of_cell? w _ hx314_1)).trans hx314_1
                    replace hx314_2 := (HB.out.cell (World.block_lt_of_cell? w _ hx314_2)).trans hx314_2
                    replace hx314_3 := (HB.out.cell (World.block_lt_of_cell? w _ hx314_3)).trans hx314_3
                    replace hx314_4 := (HB.out.cell (World.block_lt_of_cell? w _ hx314_4)).trans hx314_4
                    replace hx314_5 := (HB.out.cell (World.block_lt_of_cell? w _ hx314_5)).trans hx314_5
                    replace hx314_6 := (HB.out.cell (World.block_lt_of_cell? w _ hx314_6)).trans hx314_6
                    replace p314 := eq_true p314
                    replace q314 := eq_true q314
                    try go_wp2_with (first | ((with_reducible refine gate_dst (N := 12) rfl ?_); refine box_event ?hg (N := 12) ?hd (cs := #[.int .i64 0, .string (⟨#[]⟩ : ByteArray), .int .i64 0, .int .i64 0, .int .i64 0, .int .i64 0, .int .i64 0]) (t := 33) ?hr ?_; (case hd => rfl); (case hg => rfl); (case hr => first | (go_simp; done) | (go_simp; rfl)); intro gb315 hg w102 hbox hb; have NBM315 := Aside0.mk (show gbM ≠ gb315 by rw [hg]; exact Nat.ne_of_lt (Mpi.GM.lt' HM.out (by repeat (first | (with_reducible exact HM.out) | (with_reducible refine Mpi.GM.drewN ?_ _) | (with_reducible refine Mpi.GM.drew ?_) | (with_reducible refine Mpi.GM.alloc ?_ _) | exact HM.out)))); have nM_ := Aside0.mk (Mpi.GM.below' HM.out (by repeat (first | (with_reducible exact HM.out) | (with_reducible refine Mpi.GM.drewN ?_ _) | (with_reducible refine Mpi.GM.drew ?_) | (with_reducible refine Mpi.GM.alloc ?_ _) | exact HM.out)) hb); clear HM; have HM := nM_; clear nM_; have n0_ := Aside0.mk (below_step (by repeat (first | (with_reducible first | exact HB.out | apply below_alloc | apply pw_below_drewN | apply below_drew1) | exact HB.out)) hb); have n1_ := Aside0.mk (hbox); have n2_ := Aside0.mk ((by rw [hg]; exact (below_size (by repeat (first | (with_reducible first | exact HB.out | apply below_alloc | apply pw_below_drewN | apply below_drew1) | exact HB.out))) : w.heap.size ≤ gb315)); have n3_ := Aside0.mk ((by rw [hg]; exact (below_size (by repeat (first | (with_reducible first | exact HB.out | apply below_alloc | apply pw_below_drewN | apply below_drew1) | exact HB.out))) : w.heap.size ≤ gb315)); clear HB; have HB := n0_; have BK315 := n1_; have GW315 := n2_; have GE315 := n3_; clear n0_ n1_ n2_ n3_; clear hb hbox hg; have hcz103_0 : w102.cell? ⟨gb315, 0, none⟩ = some (.int .i64 0) := (blk_cell BK315.out 0).trans rfl; have hcz103_1 : w102.cell? ⟨gb315, 1, none⟩ = some (.string (⟨#[]⟩ : ByteArray)) := (blk_cell BK315.out 1).trans rfl; have hcz103_2 : w102.cell? ⟨gb315, 2, none⟩ = some (.int .i64 0) := (blk_cell BK315.out 2).trans rfl; have hcz103_3 : w102.cell? ⟨gb315, 3, none⟩ = some (.int .i64 0) := (blk_cell BK315.out 3).trans rfl; have hcz103_4 : w102.cell? ⟨gb315, 4, none⟩ = some (.int .i64 0) := (blk_cell BK315.out 4).trans rfl; have hcz103_5 : w102.cell? ⟨gb315, 5, none⟩ = some (.int .i64 0) := (blk_cell BK315.out 5).trans rfl; have hcz103_6 : w102.cell? ⟨gb315, 6, none⟩ = some (.int .i64 0) := (blk_cell BK315.out 6).trans rfl; have hfz103_0 := blk_frozen BK315.out 0; have hfz103_1 := blk_frozen BK315.out 1; have hfz103_2 := blk_frozen BK315.out 2; have hfz103_3 := blk_frozen BK315.out 3; have hfz103_4 := blk_frozen BK315.out 4; have hfz103_5 := blk_frozen BK315.out 5; have hfz103_6 := blk_frozen BK315.out 6))
                    have n0_ : Aside0 ((((((((w102.setCell ⟨gb315, 0, none⟩ (.int .i64 ((rd_T33 l0 x100_4).f0))).setCell ⟨gb315, 1, none⟩ (.string ((rd_T33 l0 x100_4).f1))).setCell ⟨gb315, 2, none⟩ (.int .i64 ((rd_T33 l0 x100_4).f2))).setCell ⟨gb315, 3, none⟩ (.int .i64 ((rd_T33 l0 x100_4).f3))).setCell ⟨gb315, 4, none⟩ (.int .i64 ((rd_T33 l0 x100_4).f4))).setCell ⟨gb315, 5, none⟩ (.int .i64 ((rd_T33 l0 x100_4).f5))).setCell ⟨gb315, 6, none⟩ (.int .i64 ((rd_T33 l0 x100_4).f6))).heap[gb315]? = some (.cells #[.int .i64 ((rd_T33 l0 x100_4).f0), .string ((rd_T33 l0 x100_4).f1), .int .i64 ((rd_T33 l0 x100_4).f2), .int .i64 ((rd_T33 l0 x100_4).f3), .int .i64 ((rd_T33 l0 x100_4).f4), .int .i64 ((rd_T33 l0 x100_4).f5), .int .i64 ((rd_T33 l0 x100_4).f6)] 33 (0, 0))) := ⟨by (with_reducible repeat (first | refine blk_drewN ?_ _ | refine blk_drew ?_ | refine blk_alloc ?_ _)); refine blk_put (cs := #[.int .i64 ((rd_T33 l0 x100_4).f0), .string ((rd_T33 l0 x100_4).f1), .int .i64 ((rd_T33 l0 x100_4).f2), .int .i64 ((rd_T33 l0 x100_4).f3), .int .i64 ((rd_T33 l0 x100_4).f4), .int .i64 ((rd_T33 l0 x100_4).f5), .int .i64 0]) ?_ 6 _ rfl; (with_reducible repeat (first | refine blk_drewN ?_ _ | refine blk_drew ?_ | refine blk_alloc ?_ _)); refine blk_put (cs := #[.int .i64 ((rd_T33 l0 x100_4).f0), .string ((rd_T33 l0 x100_4).f1), .int .i64 ((rd_T33 l0 x100_4).f2), .int .i64 ((rd_T33 l0 x100_4).f3), .int .i64 ((rd_T33 l0 x100_4).f4), .int .i64 0, .int .i64 0]) ?_ 5 _ rfl; (with_reducible repeat (first | refine blk_drewN ?_ _ | refine blk_drew ?_ | refine blk_alloc ?_ _)); refine blk_put (cs := #[.int .i64 ((rd_T33 l0 x100_4).f0), .string ((rd_T33 l0 x100_4).f1), .int .i64 ((rd_T33 l0 x100_4).f2), .int .i64 ((rd_T33 l0 x100_4).f3), .int .i64 0, .int .i64 0, .int .i64 0]) ?_ 4 _ rfl; (with_reducible repeat (first | refine blk_drewN ?_ _ | refine blk_drew ?_ | refine blk_alloc ?_ _)); refine blk_put (cs := #[.int .i64 ((rd_T33 l0 x100_4).f0), .string ((rd_T33 l0 x100_4).f1), .int .i64 ((rd_T33 l0 x100_4).f2), .int .i64 0, .int .i64 0, .int .i64 0, .int .i64 0]) ?_ 3 _ rfl; (with_reducible repeat (first | refine blk_drewN ?_ _ | refine blk_drew ?_ | refine blk_alloc ?_ _)); refine blk_put (cs := #[.int .i64 ((rd_T33 l0 x100_4).f0), .string ((rd_T33 l0 x100_4).f1), .int .i64 0, .int .i64 0, .int .i64 0, .int .i64 0, .int .i64 0]) ?_ 2 _ rfl; (with_reducible repeat (first | refine blk_drewN ?_ _ | refine blk_drew ?_ | refine blk_alloc ?_ _)); refine blk_put (cs := #[.int .i64 ((rd_T33 l0 x100_4).f0), .string (⟨#[]⟩ : ByteArray), .int .i64 0, .int .i64 0, .int .i64 0, .int .i64 0, .int .i64 0]) ?_ 1 _ rfl; (with_reducible repeat (first | refine blk_drewN ?_ _ | refine blk_drew ?_ | refine blk_alloc ?_ _)); refine blk_put (cs := #[.int .i64 0, .string (⟨#[]⟩ : ByteArray), .int .i64 0, .int .i64 0, .int .i64 0, .int .i64 0, .int .i64 0]) ?_ 0 _ rfl; (with_reducible repeat (first | refine blk_drewN ?_ _ | refine blk_drew ?_ | refine blk_alloc ?_ _)); exact BK315.out⟩
                    have n1_ : Aside0 (Below w.heap.size w (((((((w102.setCell ⟨gb315, 0, none⟩ (.int .i64 ((rd_T33 l0 x100_4).f0))).setCell ⟨gb315, 1, none⟩ (.string ((rd_T33 l0 x100_4).f1))).setCell ⟨gb315, 2, none⟩ (.int .i64 ((rd_T33 l0 x100_4).f2))).setCell ⟨gb315, 3, none⟩ (.int .i64 ((rd_T33 l0 x100_4).f3))).setCell ⟨gb315, 4, none⟩ (.int .i64 ((rd_T33 l0 x100_4).f4))).setCell ⟨gb315, 5, none⟩ (.int .i64 ((rd_T33 l0 x100_4).f5))).setCell ⟨gb315, 6, none⟩ (.int .i64 ((rd_T33 l0 x100_4).f6)))) := ⟨by repeat (first | (with_reducible first | exact HB.out | apply below_alloc | apply pw_below_drewN | apply below_drew1 | refine below_set ?_ GE315.out) | exact HB.out)⟩
                    (try clear BK315); (try clear HB)
                    have nM_ : Aside0 (Mpi.GM Try.prog 3 3 (((((((w102.setCell ⟨gb315, 0, none⟩ (.int .i64 ((rd_T33 l0 x100_4).f0))).setCell ⟨gb315, 1, none⟩ (.string ((rd_T33 l0 x100_4).f1))).setCell ⟨gb315, 2, none⟩ (.int .i64 ((rd_T33 l0 x100_4).f2))).setCell ⟨gb315, 3, none⟩ (.int .i64 ((rd_T33 l0 x100_4).f3))).setCell ⟨gb315, 4, none⟩ (.int .i64 ((rd_T33 l0 x100_4).f4))).setCell ⟨gb315, 5, none⟩ (.int .i64 ((rd_T33 l0 x100_4).f5))).setCell ⟨gb315, 6, none⟩ (.int .i64 ((rd_T33 l0 x100_4).f6))) gbM l1.length l1 (t302.take l1.length)) := ⟨by repeat (first | (with_reducible exact HM.out) | (with_reducible refine Mpi.GM.drewN ?_ _) | (with_reducible refine Mpi.GM.drew ?_) | (with_reducible refine Mpi.GM.alloc ?_ _) | (refine Mpi.GM.setCell ?_ NBM308.out _) | (refine Mpi.GM.setCell ?_ NBM315.out _) | exact HM.out)⟩
                    clear HM
                    generalize (((((((w102.setCell ⟨gb315, 0, none⟩ (.int .i64 ((rd_T33 l0 x100_4).f0))).setCell ⟨gb315, 1, none⟩ (.string ((rd_T33 l0 x100_4).f1))).setCell ⟨gb315, 2, none⟩ (.int .i64 ((rd_T33 l0 x100_4).f2))).setCell ⟨gb315, 3, none⟩ (.int .i64 ((rd_T33 l0 x100_4).f3))).setCell ⟨gb315, 4, none⟩ (.int .i64 ((rd_T33 l0 x100_4).f4))).setCell ⟨gb315, 5, none⟩ (.int .i64 ((rd_T33 l0 x100_4).f5))).setCell ⟨gb315, 6, none⟩ (.int .i64 ((rd_T33 l0 x100_4).f6))) = w104 at nM_ n0_ n1_ ⊢
                    have HM := nM_; clear nM_; have BK315 := n0_; have HB := n1_; clear n0_ n1_; have n0_ := Aside0.mk (blk_drew BK315.out); have n1_ := Aside0.mk (below_drew1 HB.out); clear BK315 HB; have BK315 := n0_; have HB := n1_; clear n0_ n1_
                    refine start_ (n := 12) (S := fun w' => w'.cell? ⟨gb315, 0, none⟩ = some (.int .i64 ((rd_T33 l0 x100_4).f0)) ∧ w'.cell? ⟨gb315, 1, none⟩ = some (.string ((rd_T33 l0 x100_4).f1)) ∧ w'.cell? ⟨gb315, 2, none⟩ = some (.int .i64 ((rd_T33 l0 x100_4).f2)) ∧ w'.cell? ⟨gb315, 3, none⟩ = some (.int .i64 ((rd_T33 l0 x100_4).f3)) ∧ w'.cell? ⟨gb315, 4, none⟩ = some (.int .i64 ((rd_T33 l0 x100_4).f4)) ∧ w'.cell? ⟨gb315, 5, none⟩ = some (.int .i64 ((rd_T33 l0 x100_4).f5)) ∧ w'.cell? ⟨gb315, 6, none⟩ = some (.int .i64 ((rd_T33 l0 x100_4).f6))) (ds := []) #[false, false, false, false, false, false, false, false, false, false, false, false] (by kernel_rfl) rfl rfl ⟨(blk_cell BK315.out 0).trans rfl, (blk_cell BK315.out 1).trans rfl, (blk_cell BK315.out 2).trans rfl, (blk_cell BK315.out 3).trans rfl, (blk_cell BK315.out 4).trans rfl, (blk_cell BK315.out 5).trans rfl, (blk_cell BK315.out 6).trans rfl⟩ (fun hHeld => ?_); refine with_tabW spilelaw47_ReliefBounded.tab19 spilelaw47_ReliefBounded.bits19 (fun HT_ HW_ => ?_)
                    have nM_ := Aside0.mk (Mpi.GM.drew HM.out); clear HM
                    generalize w104.drew = w105 at nM_ BK315 HB hHeld ⊢
                    have HM := nM_; clear nM_
                    refine pure_ (i := 0) (N := some 105) (v := ?_) (a' := ?_) #[true, false, false, false, false, false, false, false, false, false, false, false] rfl rfl (any_of HT_.out (by kernel_rfl)) (fun _ _ _ h => h) (Or.inl ⟨by rfl, ?_⟩) ?_ ?_
                    rotate_left
                    ·intro w'
                     go_simp
                     with_reducible rfl
                    rotate_left
                    ·simp only [Act.put, List.setIfInBounds_toArray, List.set_cons_zero, List.set_cons_succ, i64_w, i32_w]
                     rfl
                    refine pure_ (i := 2) (N := some 107) (v := ?_) (a' := ?_) #[true, false, true, false, false, false, false, false, false, false, false, false] rfl rfl (any_of HT_.out (by kernel_rfl)) (fun _ _ _ h => h) (Or.inl ⟨by rfl, ?_⟩) ?_ ?_
                    rotate_left
                    ·intro w'
                     go_simp
                     with_reducible rfl
                    rotate_left
                    ·simp only [Act.put, List.setIfInBounds_toArray, List.set_cons_zero, List.set_cons_succ, i64_w, i32_w]
                     rfl
                    refine pure_ (i := 4) (N := some 109) (v := ?_) (a' := ?_) #[true, false, true, false, true, false, false, false, false, false, false, false] rfl rfl (any_of HT_.out (by kernel_rfl)) (fun _ _ _ h => h) (Or.inl ⟨by rfl, ?_⟩) ?_ ?_
                    rotate_left
                    ·intro w'
                     go_simp
                     with_reducible rfl
                    rotate_left
                    ·simp only [Act.put, List.setIfInBounds_toArray, List.set_cons_zero, List.set_cons_succ, i64_w, i32_w]
                     rfl
                    refine take_ (i := 5) (N := some 110) (v := ?_) (a' := ?_) #[true, false, true, false, true, true, false, false, false, false, false, false] rfl rfl (take_ofW HT_.out HW_.out (by kernel_rfl)) (fun _ _ _ h => h) (Or.inl ⟨by rfl, ?_⟩) hHeld ?_ ?_
                    rotate_left
                    ·rintro w' ⟨s0, s1, s2, s3, s4, s5, s6⟩
                     go_simp
                     with_reducible rfl
                    rotate_left
                    ·simp only [Act.put, List.setIfInBounds_toArray, List.set_cons_zero, List.set_cons_succ, i64_w, i32_w]
                     rfl
                    refine one_ (i := 1) (N := some 106) #[true, true, true, false, true, true, false, false, false, false, false, false] rfl rfl (one_of HT_.out (by kernel_rfl)) (by decide) (fun K hK => ?_)
                    refine goes_ Try.func13 (by kernel_rfl) rfl #[.slice (some ad314) l0.length c0] (by rfl) rfl rfl (by (try simp only [List.map_toArray, List.map_cons, List.map_nil]); first | done | rfl | (simp only [List.length_drop, List.length_take]; rfl)) ?_
                    with_reducible refine (api_Relief_13.calls _ _ l0 t316 _ ?side1 ?side2 A64.out).mono ?_
                    (case side1 => repeat (first | exact (Kd.C_below HR0.out HB.out) | (with_reducible refine Kd.C_alloc ?_ _) | (with_reducible refine Kd.C_drewN ?_ _) | (with_reducible refine Kd.C_drew ?_)))
                    (case side2 => exact HC0.out)
                    rintro e w106 ⟨v317, rfl, ho0, hb⟩
                    refine ⟨_, rfl, ?_⟩
                    have n0_ := Aside0.mk (Kd.R_lower (Kd.R_newB ho0 (g := gb315) (o := .cells #[.int .i64 ((rd_T33 l0 x100_4).f0), .string ((rd_T33 l0 x100_4).f1), .int .i64 ((rd_T33 l0 x100_4).f2), .int .i64 ((rd_T33 l0 x100_4).f3), .int .i64 ((rd_T33 l0 x100_4).f4), .int .i64 ((rd_T33 l0 x100_4).f5), .int .i64 ((rd_T33 l0 x100_4).f6)] 33 (0, 0)) (by (with_reducible repeat (first | refine blk_drewN ?_ _ | refine blk_drew ?_ | refine blk_alloc ?_ _)); exact BK315.out)) (below_size (by repeat (first | (with_reducible first | exact HB.out | apply below_alloc | apply pw_below_drewN | apply below_drew1 | refine below_set ?_ GE315.out) | exact HB.out)))); have n1_ := Aside0.mk (blk_below (g := gb315) (o := .cells #[.int .i64 ((rd_T33 l0 x100_4).f0), .string ((rd_T33 l0 x100_4).f1), .int .i64 ((rd_T33 l0 x100_4).f2), .int .i64 ((rd_T33 l0 x100_4).f3), .int .i64 ((rd_T33 l0 x100_4).f4), .int .i64 ((rd_T33 l0 x100_4).f5), .int .i64 ((rd_T33 l0 x100_4).f6)] 33 (0, 0)) (by (with_reducible repeat (first | refine blk_drewN ?_ _ | refine blk_drew ?_ | refine blk_alloc ?_ _)); exact BK315.out) hb); have nM_ := Aside0.mk (Mpi.GM.below' HM.out (by repeat (first | (with_reducible exact HM.out) | (with_reducible refine Mpi.GM.drewN ?_ _) | (with_reducible refine Mpi.GM.drew ?_) | (with_reducible refine Mpi.GM.alloc ?_ _) | (refine Mpi.GM.setCell ?_ NBM308.out _) | (refine Mpi.GM.setCell ?_ NBM315.out _) | exact HM.out)) hb); have n2_ := Aside0.mk (below_step (by repeat (first | (with_reducible first | exact HB.out | apply below_alloc | apply pw_below_drewN | apply below_drew1 | refine below_set ?_ GE315.out) | exact HB.out)) hb); clear BK315 HB HM; have HM := nM_; clear nM_; have HO318 := n0_; have BK315 := n1_; have HB := n2_; clear n0_ n1_ n2_; (try clear hb); (try clear hb2); (try clear hk); (try clear hi); (try clear ho0)
                    refine hK.out _ _ ⟨(blk_cell BK315.out 0).trans rfl, (blk_cell BK315.out 1).trans rfl, (blk_cell BK315.out 2).trans rfl, (blk_cell BK315.out 3).trans rfl, (blk_cell BK315.out 4).trans rfl, (blk_cell BK315.out 5).trans rfl, (blk_cell BK315.out 6).trans rfl⟩ (fun hHeld => ?_)
                    clear hK K
                    refine norm_ (a' := ?_) ?_ ?_
                    rotate_left
                    ·show Act.put _ (some 106) _ = _
                     simp only [Act.put, List.setIfInBounds_toArray, List.set_cons_zero, List.set_cons_succ, i64_w, i32_w]
                     rfl
                    refine one_ (i := 3) (N := some 108) #[true, true, true, true, true, true, false, false, false, false, false, false] rfl rfl (one_of HT_.out (by kernel_rfl)) (by decide) (fun K hK => ?_)
                    refine goes_ Try.func14 (by kernel_rfl) rfl #[.slice A1 l1.length c1] (by rfl) rfl rfl (by (try simp only [List.map_toArray, List.map_cons, List.map_nil]); first | done | rfl | (simp only [List.length_drop, List.length_take]; rfl)) ?_
                    with_reducible refine (api_Item_14.calls _ _ l1 t319 _ ?side1 ?side2 A65.out).mono ?_
                    (case side1 => repeat (first | exact (Kd.C_below HR1.out HB.out) | (with_reducible refine Kd.C_alloc ?_ _) | (with_reducible refine Kd.C_drewN ?_ _) | (with_reducible refine Kd.C_drew ?_)))
                    (case side2 => exact HC1.out)
                    rintro e w107 ⟨v320, rfl, ho0, hb⟩
                    refine ⟨_, rfl, ?_⟩
                    have n0_ := Aside0.mk (Kd.R_below (by (with_reducible repeat (first | apply Kd.R_alloc | apply Kd.R_drewN | apply Kd.R_drew)); exact HO318.out) hb); have n1_ := Aside0.mk (Kd.R_lower ho0 (below_size (by repeat (first | (with_reducible first | exact HB.out | apply below_alloc | apply pw_below_drewN | apply below_drew1 | refine below_set ?_ GE315.out) | exact HB.out)))); have n2_ := Aside0.mk (blk_below (g := gb315) (o := .cells #[.int .i64 ((rd_T33 l0 x100_4).f0), .string ((rd_T33 l0 x100_4).f1), .int .i64 ((rd_T33 l0 x100_4).f2), .int .i64 ((rd_T33 l0 x100_4).f3), .int .i64 ((rd_T33 l0 x100_4).f4), .int .i64 ((rd_T33 l0 x100_4).f5), .int .i64 ((rd_T33 l0 x100_4).f6)] 33 (0, 0)) (by (with_reducible repeat (first | refine blk_drewN ?_ _ | refine blk_drew ?_ | refine blk_alloc ?_ _)); exact BK315.out) hb); have nM_ := Aside0.mk (Mpi.GM.below' HM.out (by repeat (first | (with_reducible exact HM.out) | (with_reducible refine Mpi.GM.drewN ?_ _) | (with_reducible refine Mpi.GM.drew ?_) | (with_reducible refine Mpi.GM.alloc ?_ _) | (refine Mpi.GM.setCell ?_ NBM308.out _) | (refine Mpi.GM.setCell ?_ NBM315.out _) | exact HM.out)) hb); have n3_ := Aside0.mk (below_step (by repeat (first | (with_reducible first | exact HB.out | apply below_alloc | apply pw_below_drewN | apply below_drew1 | refine below_set ?_ GE315.out) | exact HB.out)) hb); clear HO318 BK315 HB HM; have HM := nM_; clear nM_; have HO318 := n0_; have HO321 := n1_; have BK315 := n2_; have HB := n3_; clear n0_ n1_ n2_ n3_; (try clear hb); (try clear hb2); (try clear hk); (try clear hi); (try clear ho0)
                    obtain ⟨Ao108, co108, eo108⟩ := Kd.R_slice HO318.out
                    (first | subst eo108 | (injection eo108 with f1_ f2_ f3_; have f4_ := f1_.symm; have f5_ := f3_.symm; clear f1_ f2_ f3_; subst f4_; subst f5_))
                    obtain ⟨Ao109, co109, eo109⟩ := Kd.R_slice HO321.out
                    (first | subst eo109 | (injection eo109 with f1_ f2_ f3_; have f4_ := f1_.symm; have f5_ := f3_.symm; clear f1_ f2_ f3_; subst f4_; subst f5_))
                    refine hK.out _ _ ⟨(blk_cell BK315.out 0).trans rfl, (blk_cell BK315.out 1).trans rfl, (blk_cell BK315.out 2).trans rfl, (blk_cell BK315.out 3).trans rfl, (blk_cell BK315.out 4).trans rfl, (blk_cell BK315.out 5).trans rfl, (blk_cell BK315.out 6).trans rfl⟩ (fun hHeld => ?_)
                    clear hK K
                    refine norm_ (a' := ?_) ?_ ?_
                    rotate_left
                    ·show Act.put _ (some 108) _ = _
                     simp only [Act.put, List.setIfInBounds_toArray, List.set_cons_zero, List.set_cons_succ, i64_w, i32_w]
                     rfl
                    refine one_ (i := 6) (N := some 111) #[true, true, true, true, true, true, true, false, false, false, false, false] rfl rfl (one_of HT_.out (by kernel_rfl)) (by decide) (fun K hK => ?_)
                    refine goes_ Try.func23 (by kernel_rfl) rfl #[.slice Ao108 t316.length co108, .slice Ao109 t319.length co109, .int .i64 ((rd_T33 l0 x100_4).f0)] (by rfl) rfl rfl (by (try simp only [List.map_toArray, List.map_cons, List.map_nil]); first | done | rfl | (simp only [List.length_drop, List.length_take]; rfl)) ?_
                    with_reducible refine (relief_Left.calls k4 _ _ t316 _ _ t319 ((rd_T33 l0 x100_4).f0) t322 t323 _ ?side1 ?side2 ?side3 ?side4 A66.out).mono ?_
                    (case side1 => repeat (first | exact (Kd.R_reads' HO318.out).2.2 | (with_reducible refine Kd.C_alloc ?_ _) | (with_reducible refine Kd.C_drewN ?_ _) | (with_reducible refine Kd.C_drew ?_)))
                    (case side2 => exact (Kd.R_reads' HO318.out).2.1)
                    (case side3 => repeat (first | exact (Kd.R_reads' HO321.out).2.2 | (with_reducible refine Kd.C_alloc ?_ _) | (with_reducible refine Kd.C_drewN ?_ _) | (with_reducible refine Kd.C_drew ?_)))
                    (case side4 => exact (Kd.R_reads' HO321.out).2.1)
                    rintro e w110 ⟨rfl, hb⟩
                    refine ⟨_, rfl, ?_⟩
                    have n0_ := Aside0.mk (Kd.R_below (by (with_reducible repeat (first | apply Kd.R_alloc | apply Kd.R_drewN | apply Kd.R_drew)); exact HO318.out) hb); have n1_ := Aside0.mk (Kd.R_below (by (with_reducible repeat (first | apply Kd.R_alloc | apply Kd.R_drewN | apply Kd.R_drew)); exact HO321.out) hb); have n2_ := Aside0.mk (blk_below (g := gb315) (o := .cells #[.int .i64 ((rd_T33 l0 x100_4).f0), .string ((rd_T33 l0 x100_4).f1), .int .i64 ((rd_T33 l0 x100_4).f2), .int .i64 ((rd_T33 l0 x100_4).f3), .int .i64 ((rd_T33 l0 x100_4).f4), .int .i64 ((rd_T33 l0 x100_4).f5), .int .i64 ((rd_T33 l0 x100_4).f6)] 33 (0, 0)) (by (with_reducible repeat (first | refine blk_drewN ?_ _ | refine blk_drew ?_ | refine blk_alloc ?_ _)); exact BK315.out) hb); have nM_ := Aside0.mk (Mpi.GM.below' HM.out (by repeat (first | (with_reducible exact HM.out) | (with_reducible refine Mpi.GM.drewN ?_ _) | (with_reducible refine Mpi.GM.drew ?_) | (with_reducible refine Mpi.GM.alloc ?_ _) | (refine Mpi.GM.setCell ?_ NBM308.out _) | (refine Mpi.GM.setCell ?_ NBM315.out _) | exact HM.out)) hb); have n3_ := Aside0.mk (below_step (by repeat (first | (with_reducible first | exact HB.out | apply below_alloc | apply pw_below_drewN | apply below_drew1 | refine below_set ?_ GE315.out) | exact HB.out)) hb); clear HO318 HO321 BK315 HB HM; have HM := nM_; clear nM_; have HO318 := n0_; have HO321 := n1_; have BK315 := n2_; have HB := n3_; clear n0_ n1_ n2_ n3_; (try clear hb); (try clear hb2); (try clear hk); (try clear hi)
                    refine hK.out _ _ ⟨(blk_cell BK315.out 0).trans rfl, (blk_cell BK315.out 1).trans rfl, (blk_cell BK315.out 2).trans rfl, (blk_cell BK315.out 3).trans rfl, (blk_cell BK315.out 4).trans rfl, (blk_cell BK315.out 5).trans rfl, (blk_cell BK315.out 6).trans rfl⟩ (fun hHeld => ?_)
                    clear hK K
                    refine norm_ (a' := ?_) ?_ ?_
                    rotate_left
                    ·show Act.put _ (some 111) _ = _
                     simp only [Act.put, List.setIfInBounds_toArray, List.set_cons_zero, List.set_cons_succ, i64_w, i32_w]
                     rfl
                    refine pure_ (i := 7) (N := some 104) (v := ?_) (a' := ?_) #[true, true, true, true, true, true, true, true, false, false, false, false] rfl rfl (any_of HT_.out (by kernel_rfl)) (fun _ _ _ h => h) (Or.inl ⟨by rfl, ?_⟩) ?_ ?_
                    rotate_left
                    ·intro w'
                     go_simp
                     with_reducible rfl
                    rotate_left
                    ·simp only [Act.put, List.setIfInBounds_toArray, List.set_cons_zero, List.set_cons_succ, i64_w, i32_w]
                     rfl
                    refine pure_ (i := 8) (N := some 112) (v := ?_) (a' := ?_) #[true, true, true, true, true, true, true, true, true, false, false, false] rfl rfl (any_of HT_.out (by kernel_rfl)) (fun _ _ _ h => h) (Or.inl ⟨by rfl, ?_⟩) ?_ ?_
                    rotate_left
                    ·intro w'
                     go_simp
                     with_reducible rfl
                    rotate_left
                    ·simp only [Act.put, List.setIfInBounds_toArray, List.set_cons_zero, List.set_cons_succ, i64_w, i32_w]
                     rfl
                    refine pure_ (i := 9) (N := some 113) (v := ?_) (a' := ?_) #[true, true, true, true, true, true, true, true, true, true, false, false] rfl rfl (any_of HT_.out (by kernel_rfl)) (fun _ _ _ h => h) (Or.inl ⟨by rfl, ?_⟩) ?_ ?_
                    rotate_left
                    ·intro w'
                     go_simp
                     with_reducible rfl
                    rotate_left
                    ·simp only [Act.put, List.setIfInBounds_toArray, List.set_cons_zero, List.set_cons_succ, i64_w, i32_w]
                     rfl
                    refine pure_ (i := 10) (N := some 13) (v := ?_) (a' := ?_) #[true, true, true, true, true, true, true, true, true, true, true, false] rfl rfl (any_of HT_.out (by kernel_rfl)) (fun _ _ _ h => h) (Or.inl ⟨by rfl, ?_⟩) ?_ ?_
                    rotate_left
                    ·intro w'
                     go_simp
                     with_reducible rfl
                    rotate_left
                    ·simp only [Act.put, List.setIfInBounds_toArray, List.set_cons_zero, List.set_cons_succ, i64_w, i32_w]
                     rfl
                    refine pure_ (i := 11) (N := some 14) (v := ?_) (a' := ?_) #[true, true, true, true, true, true, true, true, true, true, true, true] rfl rfl (any_of HT_.out (by kernel_rfl)) (fun _ _ _ h => h) (Or.inl ⟨by rfl, ?_⟩) ?_ ?_
                    rotate_left
                    ·intro w'
                     go_simp
                     with_reducible rfl
                    rotate_left
                    ·simp only [Act.put, List.setIfInBounds_toArray, List.set_cons_zero, List.set_cons_succ, i64_w, i32_w]
                     rfl
                    refine done_ (done_of HT_.out (by kernel_rfl)) ?_
                    have hcz111_0 : w110.cell? ⟨gb315, 0, none⟩ = some (.int .i64 ((rd_T33 l0 x100_4).f0)) := (blk_cell BK315.out 0).trans rfl
                    have hcz111_1 : w110.cell? ⟨gb315, 1, none⟩ = some (.string ((rd_T33 l0 x100_4).f1)) := (blk_cell BK315.out 1).trans rfl
                    have hcz111_2 : w110.cell? ⟨gb315, 2, none⟩ = some (.int .i64 ((rd_T33 l0 x100_4).f2)) := (blk_cell BK315.out 2).trans rfl
                    have hcz111_3 : w110.cell? ⟨gb315, 3, none⟩ = some (.int .i64 ((rd_T33 l0 x100_4).f3)) := (blk_cell BK315.out 3).trans rfl
                    have hcz111_4 : w110.cell? ⟨gb315, 4, none⟩ = some (.int .i64 ((rd_T33 l0 x100_4).f4)) := (blk_cell BK315.out 4).trans rfl
                    have hcz111_5 : w110.cell? ⟨gb315, 5, none⟩ = some (.int .i64 ((rd_T33 l0 x100_4).f5)) := (blk_cell BK315.out 5).trans rfl
                    have hcz111_6 : w110.cell? ⟨gb315, 6, none⟩ = some (.int .i64 ((rd_T33 l0 x100_4).f6)) := (blk_cell BK315.out 6).trans rfl
                    have hfz111_0 := blk_frozen BK315.out 0
                    have hfz111_1 := blk_frozen BK315.out 1
                    have hfz111_2 := blk_frozen BK315.out 2
                    have hfz111_3 := blk_frozen BK315.out 3
                    have hfz111_4 := blk_frozen BK315.out 4
                    have hfz111_5 := blk_frozen BK315.out 5
                    have hfz111_6 := blk_frozen BK315.out 6
                    have hrun := Mpi.GM.run HM.out (Go.Maps.int_keyed Try.underlying3) Try.underlying47 Try.underlying3 (zero3 _) ((rd_T33 l0 x100_4).f0) (Go.Maps.keyOf_int_mk Try.underlying3 (WalkArith.wf_i64 (by have := CSZ.out; omega)))
                    try go_wp2
                    go_roundg k4
                    case measure => have := HJ2.out; have := HJ15.out; have := HK3.out; have := HK4.out; omega
                    case rel => exact ⟨(wrap64 (x100_4 + 1)), (by first | rfl | (simp; done) | (simp [*]; done)), H', ⟨by have := HJ2.out; have := HJ15.out; have := HK3.out; have := HK4.out; omega⟩, ⟨by repeat (first | (with_reducible first | exact HB.out | apply below_alloc | apply pw_below_drewN | apply below_drew1 | refine below_set ?_ GE315.out) | exact HB.out)⟩, ⟨by repeat (first | (with_reducible exact HM.out) | (with_reducible refine Mpi.GM.drewN ?_ _) | (with_reducible refine Mpi.GM.drew ?_) | (with_reducible refine Mpi.GM.alloc ?_ _) | (refine Mpi.GM.setCell ?_ NBM308.out _) | (refine Mpi.GM.setCell ?_ NBM315.out _) | exact HM.out)⟩⟩
                   ·rw [if_neg c101] at H
                    have c101b0 : ((wrap64 (t322 + (Mpi.gv l1 (t302.take l1.length) ((rd_T33 l0 x100_4).f0)))) == ((rd_T33 l0 x100_4).f6)) = false := beq_eq_false_iff_ne.mpr c101
                    have c101b1 : ((wrap64 (t322 + (Mpi.gv l1 (t302.take l1.length) ((rd_T33 l0 x100_4).f0)))) != ((rd_T33 l0 x100_4).f6)) = true := bne_iff_ne.mpr c101
                    rw [hr_] at H; exact absurd H (by simp)
                 ·rw [if_neg c89] at H
                  have c89b0 : (t323 == 0) = false := beq_eq_false_iff_ne.mpr c89
                  have c89b1 : (t323 != 0) = true := bne_iff_ne.mpr c89
                  rw [hr_] at H; exact absurd H (by simp)
               ·rw [if_neg c63] at H
                exact absurd H (by simp)
              ·rw [if_neg c62] at H
               exact absurd H (by simp)
             ·rw [if_neg c61] at H
              have c61b0 : decide (x100_4 < (l0.length : Int)) = false := decide_eq_false c61
              clear c61
              obtain rfl := Option.some.inj H
              go_wp2
              go_ret
              exact ⟨by first | rfl | (simp [errW_none, errW_some] <;> rfl) | (simp [*, errW_none, errW_some] <;> rfl), by repeat (first | (with_reducible first | exact HB.out | apply below_alloc | apply pw_below_drewN | apply below_drew1) | exact HB.out)⟩
    ·rw [if_neg c15] at H
     have c15b0 : (t304 == 0) = false := beq_eq_false_iff_ne.mpr c15
     have c15b1 : (t304 != 0) = true := bne_iff_ne.mpr c15
     by_cases c132 : (t302.length : Int) = 0
     ·rw [if_pos c132] at H
      have c132b0 : ((t302.length : Int) == 0) = true := beq_iff_eq.mpr c132
      have c132b1 : ((t302.length : Int) != 0) = false := bne_eq_false_iff_eq.mpr c132
      clear c132
      obtain rfl := Option.some.inj H
      go_wp2_with (first | ((with_reducible refine gate_callee (f := 13) rfl ?_); refine goesL_ (some 26) rfl rfl Try.func13 (by kernel_rfl) rfl #[.slice A0 l0.length c0] rfl (by (try simp only [List.map_toArray, List.map_cons, List.map_nil]); first | done | rfl | (simp only [List.length_drop, List.length_take]; rfl)) ?_; (with_reducible refine (api_Relief_13.calls _ _ l0 t296 _ ?side1 ?side2 A12.out).mono ?_); (case side1 => repeat (first | exact (Kd.C_below HR0.out HB.out) | (with_reducible refine Kd.C_alloc ?_ _) | (with_reducible refine Kd.C_drewN ?_ _) | (with_reducible refine Kd.C_drew ?_))); (case side2 => exact HC0.out); rintro e w133 ⟨v297, rfl, ho0, hb⟩; refine ⟨_, rfl, ?_⟩; have n0_ := Aside0.mk (Kd.R_lower ho0 (below_size (by repeat (first | (with_reducible first | exact HB.out | apply below_alloc | apply pw_below_drewN | apply below_drew1) | exact HB.out)))); have n1_ := Aside0.mk (below_step (by repeat (first | (with_reducible first | exact HB.out | apply below_alloc | apply pw_below_drewN | apply below_drew1) | exact HB.out)) hb); clear HB; have HO298 := n0_; have HB := n1_; clear n0_ n1_; (try clear hb); (try clear hb2); (try clear hk); (try clear hi); (try clear ho0)) | ((with_reducible refine gate_callee (f := 14) rfl ?_); refine goesL_ (some 28) rfl rfl Try.func14 (by kernel_rfl) rfl #[.slice A1 l1.length c1] rfl (by (try simp only [List.map_toArray, List.map_cons, List.map_nil]); first | done | rfl | (simp only [List.length_drop, List.length_take]; rfl)) ?_; (with_reducible refine (api_Item_14.calls _ _ l1 t299 _ ?side1 ?side2 A13.out).mono ?_); (case side1 => repeat (first | exact (Kd.C_below HR1.out HB.out) | (with_reducible refine Kd.C_alloc ?_ _) | (with_reducible refine Kd.C_drewN ?_ _) | (with_reducible refine Kd.C_drew ?_))); (case side2 => exact HC1.out); rintro e w134 ⟨v300, rfl, ho0, hb⟩; refine ⟨_, rfl, ?_⟩; have n0_ := Aside0.mk (Kd.R_below (by (with_reducible repeat (first | apply Kd.R_alloc | apply Kd.R_drewN | apply Kd.R_drew)); exact HO298.out) hb); have n1_ := Aside0.mk (Kd.R_lower ho0 (below_size (by repeat (first | (with_reducible first | exact HB.out | apply below_alloc | apply pw_below_drewN | apply below_drew1) | exact HB.out)))); have n2_ := Aside0.mk (below_step (by repeat (first | (with_reducible first | exact HB.out | apply below_alloc | apply pw_below_drewN | apply below_drew1) | exact HB.out)) hb); clear HO298; clear HB; have HO298 := n0_; have HO301 := n1_; have HB := n2_; clear n0_ n1_ n2_; (try clear hb); (try clear hb2); (try clear hk); (try clear hi); (try clear ho0); obtain ⟨Ao135, co135, eo135⟩ := Kd.R_slice HO298.out; subst eo135; obtain ⟨Ao136, co136, eo136⟩ := Kd.R_slice HO301.out; subst eo136) | ((with_reducible refine gate_callee (f := 15) rfl ?_); refine goesL_ (some 29) rfl rfl Try.func15 (by kernel_rfl) rfl #[.slice Ao135 t296.length co135, .slice Ao136 t299.length co136] rfl (by (try simp only [List.map_toArray, List.map_cons, List.map_nil]); first | done | rfl | (simp only [List.length_drop, List.length_take]; rfl)) ?_; (with_reducible refine (relief_Grant.calls kj2 _ _ t296 _ _ t299 t302 t303 t304 _ ?side1 ?side2 ?side3 ?side4 A14.out).mono ?_); (case side1 => repeat (first | exact (Kd.R_reads' HO298.out).2.2 | (with_reducible refine Kd.C_alloc ?_ _) | (with_reducible refine Kd.C_drewN ?_ _) | (with_reducible refine Kd.C_drew ?_))); (case side2 => exact (Kd.R_reads' HO298.out).2.1); (case side3 => repeat (first | exact (Kd.R_reads' HO301.out).2.2 | (with_reducible refine Kd.C_alloc ?_ _) | (with_reducible refine Kd.C_drewN ?_ _) | (with_reducible refine Kd.C_drew ?_))); (case side4 => exact (Kd.R_reads' HO301.out).2.1); rintro e w137 ⟨v305, rfl, ho0, hb⟩; refine ⟨_, rfl, ?_⟩; have n0_ := Aside0.mk (Kd.R_below (by (with_reducible repeat (first | apply Kd.R_alloc | apply Kd.R_drewN | apply Kd.R_drew)); exact HO298.out) hb); have n1_ := Aside0.mk (Kd.R_below (by (with_reducible repeat (first | apply Kd.R_alloc | apply Kd.R_drewN | apply Kd.R_drew)); exact HO301.out) hb); have n2_ := Aside0.mk (Kd.R_lower ho0 (below_size (by repeat (first | (with_reducible first | exact HB.out | apply below_alloc | apply pw_below_drewN | apply below_drew1) | exact HB.out)))); have n3_ := Aside0.mk (below_step (by repeat (first | (with_reducible first | exact HB.out | apply below_alloc | apply pw_below_drewN | apply below_drew1) | exact HB.out)) hb); clear HO298; clear HO301; clear HB; have HO298 := n0_; have HO301 := n1_; have HO306 := n2_; have HB := n3_; clear n0_ n1_ n2_ n3_; (try clear hb); (try clear hb2); (try clear hk); (try clear hi); (try clear ho0); obtain ⟨Ao138, co138, eo138⟩ := Kd.R_slice HO306.out; subst eo138))
      go_ret
      exact ⟨by first | rfl | (simp [errW_none, errW_some] <;> rfl) | (simp [*, errW_none, errW_some] <;> rfl), by repeat (first | (with_reducible first | exact HB.out | apply below_alloc | apply pw_below_drewN | apply below_drew1) | exact HB.out)⟩
     ·rw [if_neg c132] at H
      have c132b0 : ((t302.length : Int) == 0) = false := beq_eq_false_iff_ne.mpr c132
      have c132b1 : ((t302.length : Int) != 0) = true := bne_iff_ne.mpr c132
      have c132b2 : ¬ (t302 = []) := fun h_ => c132 (by rw [h_]; rfl)
      rw [hr_] at H; exact absurd H (by simp)
end Go.Proofs.Ytccocolcgdiglaa.X
