-- Written by a program of this work, over the kit's print of the translation. Not trusted: Lean checks it.
import Derived.Test.YtccocolcgdiglaaXx0
import Derived.Test.YtccocolcgdiglaaXx2
import Derived.Test.YtccocolcgdiglaaXx3
import Derived.Test.YtccocolcgdiglaaAwk
import Derived.Test.YtccocolcgdiglaaCli
import Derived.Test.YtccocolcgdiglaaClr
import Derived.Test.YtccocolcgdiglaaGrl
namespace Go.Proofs.Ytccocolcgdiglaa.X
open Go.RowKit Go.Proofs.YtccocolcgdiglaaW.PrintWords Go.Proofs.YtccocolcgdiglaaW.PrintLast Go.Proofs.YtccocolcgdiglaaW.PrintMore
attribute [local go_sem] max2_int min2_int max_two min_two max_three min_three max_four min_four   -- for this text's walks alone
set_option linter.unusedVariables false
set_option linter.unusedSimpArgs false
/-! ### spilelaw47_ReliefEarlier: function 8 -/
mutual
def spilelaw47_ReliefEarlier.j0 : Nat → List (S33) → List (S25) → Int → Int → Bool → Option (Bool)
 | 0, _, _, _, _, _ => none
 | k + 1, x0, x1, x2, x3, x30 => if x30 = true then ((spilelaw47_awake.f k).bind fun t309 => (some t309)) else ((api_Relief_13.f x0).bind fun t310 => ((api_Item_14.f x1).bind fun t313 => ((relief_Grant.f k t310 t313).bind fun bt316 => (if bt316.2.2 = 0 then (spilelaw47_ReliefEarlier.j1 k x0 x1 x2 x3 bt316.1 ((bt316.1.length : Int) != (x1.length : Int))) else (spilelaw47_ReliefEarlier.j1 k x0 x1 x2 x3 bt316.1 true)))))
def spilelaw47_ReliefEarlier.j1 : Nat → List (S33) → List (S25) → Int → Int → List Int → Bool → Option (Bool)
 | 0, _, _, _, _, _, _ => none
 | k + 1, x0, x1, x2, x3, x9, x49 => if x49 = true then (some ((x9.length : Int) == 0)) else (if (wrap64 ((x1.length : Int) + 1)) = 0 then (none) else ((api_Relief_13.f x0).bind fun t321 => (if 0 ≤ (Int.tmod (wrap64 (x2)) (wrap64 ((x1.length : Int) + 1))) then (if (Int.tmod (wrap64 (x2)) (wrap64 ((x1.length : Int) + 1))) ≤ (x1.length : Int) then ((api_Item_14.f (x1.take ((Int.tmod (wrap64 (x2)) (wrap64 ((x1.length : Int) + 1))) : Int).toNat)).bind fun t328 => ((relief_Grant.f k t321 t328).bind fun bt331 => (spilelaw47_ReliefEarlier.l0 k x0 x3 x9 (Int.tmod (wrap64 (x2)) (wrap64 ((x1.length : Int) + 1))) bt331.1 bt331.2.2 ([] : List (S25)) ([] : List Int) x1 (x1.length : Int) 0))) else (none)) else (none))))
def spilelaw47_ReliefEarlier.l0 : Nat → List (S33) → Int → List Int → Int → List Int → Int → List (S25) → List Int → List (S25) → Int → Int → Option (Bool)
 | 0, _, _, _, _, _, _, _, _, _, _, _ => none
 | k + 1, x0, x3, x9, x12, x13, x15, x16, x17, x70, x71, x72 => if x72 < x71 then (if 0 ≤ x72 then (if x72 < (x70.length : Int) then (if ((rd_T25 x70 x72).f4) = x3 then (if x16.length < 3518437208883 then (if x72 < (x9.length : Int) then (if x17.length < 17592186044416 then (spilelaw47_ReliefEarlier.l0 k x0 x3 x9 x12 x13 x15 (x16 ++ [(⟨(rd_T25 x70 x72).f0, (rd_T25 x70 x72).f1, (rd_T25 x70 x72).f2, (rd_T25 x70 x72).f3, (rd_T25 x70 x72).f4⟩ : S25)]) (x17 ++ [rd x9 x72]) x70 x71 (wrap64 (x72 + 1))) else (none)) else (none)) else (none)) else (spilelaw47_ReliefEarlier.l0 k x0 x3 x9 x12 x13 x15 x16 x17 x70 x71 (wrap64 (x72 + 1)))) else (none)) else (none)) else ((api_Relief_13.f x0).bind fun t345 => ((relief_Grant.f k t345 x16).bind fun bt348 => (if x15 = 0 then (if bt348.2.2 = 0 then (if 0 ≤ x12 then (if x12 ≤ (x9.length : Int) then ((slices_Equal_int_int.f k x13 (x9.take (x12 : Int).toNat)).bind fun t357 => (if t357 = true then ((slices_Equal_int_int.f k bt348.1 x17).bind fun t358 => (some t358)) else (some false))) else (none)) else (none)) else (some false)) else (some false))))
end
def spilelaw47_ReliefEarlier.f (k : Nat) (l0 : List (S33)) (l1 : List (S25)) (a2 : Int) (a3 : Int) : Option (Bool) := (spilelaw47_awake.f k).bind fun t307 => (if t307 = true then ((spileref47_Few.f k l0 l1).bind fun t308 => (spilelaw47_ReliefEarlier.j0 k l0 l1 a2 a3 (!t308))) else (spilelaw47_ReliefEarlier.j0 k l0 l1 a2 a3 true))
theorem spilelaw47_ReliefEarlier.mono_l : ∀ k, (∀ y0 y1 y2 y3 y4, LeO (spilelaw47_ReliefEarlier.j0 k y0 y1 y2 y3 y4) (spilelaw47_ReliefEarlier.j0 (k + 1) y0 y1 y2 y3 y4)) ∧ (∀ y0 y1 y2 y3 y4 y5, LeO (spilelaw47_ReliefEarlier.j1 k y0 y1 y2 y3 y4 y5) (spilelaw47_ReliefEarlier.j1 (k + 1) y0 y1 y2 y3 y4 y5)) ∧ (∀ y0 y1 y2 y3 y4 y5 y6 y7 y8 y9 y10, LeO (spilelaw47_ReliefEarlier.l0 k y0 y1 y2 y3 y4 y5 y6 y7 y8 y9 y10) (spilelaw47_ReliefEarlier.l0 (k + 1) y0 y1 y2 y3 y4 y5 y6 y7 y8 y9 y10))
 | 0 => ⟨fun _ _ _ _ _ r h => by simp [spilelaw47_ReliefEarlier.j0] at h, fun _ _ _ _ _ _ r h => by simp [spilelaw47_ReliefEarlier.j1] at h, fun _ _ _ _ _ _ _ _ _ _ _ r h => by simp [spilelaw47_ReliefEarlier.l0] at h⟩
 | k + 1 => by
  obtain ⟨ih0, ih1, ih2⟩ := spilelaw47_ReliefEarlier.mono_l k
  refine ⟨?_, ?_, ?_⟩
  ·intro y0 y1 y2 y3 y4
   unfold spilelaw47_ReliefEarlier.j0
   repeat' first
   | (with_reducible exact ih0 _ _ _ _ _)
   | (with_reducible exact ih1 _ _ _ _ _ _)
   | (with_reducible exact ih2 _ _ _ _ _ _ _ _ _ _ _)
   | (with_reducible exact relief_Grant.mono _ _ _)
   | (with_reducible exact slices_Equal_int_int.mono _ _ _)
   | (with_reducible exact spilelaw47_awake.mono _)
   | (with_reducible exact spileref47_Few.mono _ _ _)
   | (with_reducible exact LeO.refl _)
   | (with_reducible exact LeO.none _)
   | (with_reducible refine LeO.ite ?_ ?_)
   | (with_reducible refine LeO.bind ?_ (fun _ => ?_))
   | exact ih0 _ _ _ _ _
   | exact ih1 _ _ _ _ _ _
   | exact ih2 _ _ _ _ _ _ _ _ _ _ _
   | exact relief_Grant.mono _ _ _
   | exact slices_Equal_int_int.mono _ _ _
   | exact spilelaw47_awake.mono _
   | exact spileref47_Few.mono _ _ _
   | exact LeO.none _
   | refine LeO.ite ?_ ?_
   | refine LeO.bind ?_ (fun _ => ?_)
  ·intro y0 y1 y2 y3 y4 y5
   unfold spilelaw47_ReliefEarlier.j1
   repeat' first
   | (with_reducible exact ih0 _ _ _ _ _)
   | (with_reducible exact ih1 _ _ _ _ _ _)
   | (with_reducible exact ih2 _ _ _ _ _ _ _ _ _ _ _)
   | (with_reducible exact relief_Grant.mono _ _ _)
   | (with_reducible exact slices_Equal_int_int.mono _ _ _)
   | (with_reducible exact spilelaw47_awake.mono _)
   | (with_reducible exact spileref47_Few.mono _ _ _)
   | (with_reducible exact LeO.refl _)
   | (with_reducible exact LeO.none _)
   | (with_reducible refine LeO.ite ?_ ?_)
   | (with_reducible refine LeO.bind ?_ (fun _ => ?_))
   | exact ih0 _ _ _ _ _
   | exact ih1 _ _ _ _ _ _
   | exact ih2 _ _ _ _ _ _ _ _ _ _ _
   | exact relief_Grant.mono _ _ _
   | exact slices_Equal_int_int.mono _ _ _
   | exact spilelaw47_awake.mono _
   | exact spileref47_Few.mono _ _ _
   | exact LeO.none _
   | refine LeO.ite ?_ ?_
   | refine LeO.bind ?_ (fun _ => ?_)
  ·intro y0 y1 y2 y3 y4 y5 y6 y7 y8 y9 y10
   unfold spilelaw47_ReliefEarlier.l0
   repeat' first
   | (with_reducible exact ih0 _ _ _ _ _)
   | (with_reducible exact ih1 _ _ _ _ _ _)
   | (with_reducible exact ih2 _ _ _ _ _ _ _ _ _ _ _)
   | (with_reducible exact relief_Grant.mono _ _ _)
   | (with_reducible exact slices_Equal_int_int.mono _ _ _)
   | (with_reducible exact spilelaw47_awake.mono _)
   | (with_reducible exact spileref47_Few.mono _ _ _)
   | (with_reducible exact LeO.refl _)
   | (with_reducible exact LeO.none _)
   | (with_reducible refine LeO.ite ?_ ?_)
   | (with_reducible refine LeO.bind ?_ (fun _ => ?_))
   | exact ih0 _ _ _ _ _
   | exact ih1 _ _ _ _ _ _
   | exact ih2 _ _ _ _ _ _ _ _ _ _ _
   | exact relief_Grant.mono _ _ _
   | exact slices_Equal_int_int.mono _ _ _
   | exact spilelaw47_awake.mono _
   | exact spileref47_Few.mono _ _ _
   | exact LeO.none _
   | refine LeO.ite ?_ ?_
   | refine LeO.bind ?_ (fun _ => ?_)
theorem spilelaw47_ReliefEarlier.mono : ∀ a0 a1 a2 a3 k, LeO (spilelaw47_ReliefEarlier.f k a0 a1 a2 a3) (spilelaw47_ReliefEarlier.f (k + 1) a0 a1 a2 a3) := by
 intro a0 a1 a2 a3 k
 obtain ⟨ih0, ih1, ih2⟩ := spilelaw47_ReliefEarlier.mono_l k
 unfold spilelaw47_ReliefEarlier.f
 repeat' first
   | (with_reducible exact ih0 _ _ _ _ _)
   | (with_reducible exact ih1 _ _ _ _ _ _)
   | (with_reducible exact ih2 _ _ _ _ _ _ _ _ _ _ _)
   | (with_reducible exact relief_Grant.mono _ _ _)
   | (with_reducible exact slices_Equal_int_int.mono _ _ _)
   | (with_reducible exact spilelaw47_awake.mono _)
   | (with_reducible exact spileref47_Few.mono _ _ _)
   | (with_reducible exact LeO.refl _)
   | (with_reducible exact LeO.none _)
   | (with_reducible refine LeO.ite ?_ ?_)
   | (with_reducible refine LeO.bind ?_ (fun _ => ?_))
   | exact ih0 _ _ _ _ _
   | exact ih1 _ _ _ _ _ _
   | exact ih2 _ _ _ _ _ _ _ _ _ _ _
   | exact relief_Grant.mono _ _ _
   | exact slices_Equal_int_int.mono _ _ _
   | exact spilelaw47_awake.mono _
   | exact spileref47_Few.mono _ _ _
   | exact LeO.none _
   | refine LeO.ite ?_ ?_
   | refine LeO.bind ?_ (fun _ => ?_)
def spilelaw47_ReliefEarlier.T7 : Bool × List (List Nat × List Nat) := (true, [([], []), ([0], [0]), ([], []), ([], []), ([2, 3], [2, 3]), ([4, 1], [4]), ([1, 5, 5], [1, 5]), ([6], [6]), ([7], [7]), ([7], [7]), ([7], [7]), ([8, 6, 0, 1, 2, 3, 4, 5, 6, 7, 8], [8]), ([9, 11, 0, 1, 2, 3, 4, 5, 6, 7, 8, 9, 11], [9]), ([10, 12, 0, 1, 2, 3, 4, 5, 6, 7, 8, 9, 10, 11, 12], [10])])
def spilelaw47_ReliefEarlier.B7 : List Nat := [0, 1, 0, 0, 12, 31, 63, 127, 255, 255, 255, 511, 3071, 8191]
theorem spilelaw47_ReliefEarlier.tab7 : rtab .any (opsOf Try.f8 7) = spilelaw47_ReliefEarlier.T7 := by kernel_rfl
theorem spilelaw47_ReliefEarlier.bits7 : waitsOk spilelaw47_ReliefEarlier.T7.2 spilelaw47_ReliefEarlier.B7 = true := by kernel_rfl
set_option maxHeartbeats 8000000 in
set_option maxRecDepth 100000 in
theorem spilelaw47_ReliefEarlier.calls (k : Nat) (A0 : Option Addr) (c0 : Nat) (l0 : List (S33)) (A1 : Option Addr) (c1 : Nat) (l1 : List (S25)) (a2 : Int) (a3 : Int) (r : Bool) (w : World) (hr0 : Kd.C k33 w A0 l0.length l0) (hc0 : l0.length ≤ c0) (hr1 : Kd.C k25 w A1 l1.length l1) (hc1 : l1.length ≤ c1) (h : spilelaw47_ReliefEarlier.f k l0 l1 a2 a3 = some r) (hr_ : r = true) :
  Calls Try.prog 8 #[.slice A0 l0.length c0, .slice A1 l1.length c1, .int .u8 a2, .int .i64 a3] w fun e w' => e = .returned (.bool r) ∧ Below w.heap.size w w' := by
 have hu25 := Try.underlying25
 have HR0 := Aside0.mk hr0
 have HC0 := Aside0.mk hc0
 clear hr0 hc0
 have HR1 := Aside0.mk hr1
 have HC1 := Aside0.mk hc1
 clear hr1 hc1; have HB := Aside0.mk (Below.refl w.heap.size w)
 have H : ((spilelaw47_awake.f k).bind fun t307 => (if t307 = true then ((spileref47_Few.f k l0 l1).bind fun t308 => (spilelaw47_ReliefEarlier.j0 k l0 l1 a2 a3 (!t308))) else (spilelaw47_ReliefEarlier.j0 k l0 l1 a2 a3 true))) = some r := h
 clear h
 have HC5 := Aside0.mk H
 clear H
 go_enter Try.func8, Try.ntmps8
 go_upto_region 1 with (fail)
 go_cut [30] (fun v30 wc => ∃ (kq : Nat) (x30_4 : Bool), v30 = .bool x30_4 ∧ Aside0 (spilelaw47_ReliefEarlier.j0 kq l0 l1 a2 a3 x30_4 = some r) ∧ Aside0 (kq ≤ k) ∧ Aside0 (Below w.heap.size w wc))
 case first =>
  have H := HC5.out; clear HC5
  replace H := Option.bind_eq_some_iff.mp H
  obtain ⟨t307, A60, H⟩ := H
  try dsimp only at H
  have A6 := Aside0.mk A60
  clear A60
  by_cases c7 : t307 = true
  ·subst c7
   have H1 : ((spileref47_Few.f k l0 l1).bind fun t308 => (spilelaw47_ReliefEarlier.j0 k l0 l1 a2 a3 (!t308))) = some r := by rw [if_pos rfl] at H; exact H
   clear H; have H := H1; clear H1
   replace H := Option.bind_eq_some_iff.mp H
   obtain ⟨t308, A80, H⟩ := H
   try dsimp only at H
   have A8 := Aside0.mk A80
   clear A80
   have H' := Aside0.mk H
   clear H
   go_wp2_with (first | ((with_reducible refine gate_callee (f := 10) rfl ?_); refine goesL_ (some 23) rfl rfl Try.func10 (by kernel_rfl) rfl #[] rfl (by (try simp only [List.map_toArray, List.map_cons, List.map_nil]); first | done | rfl | (simp only [List.length_drop, List.length_take]; rfl)) ?_; (with_reducible refine (spilelaw47_awake.calls k  true _ A6.out).mono ?_); rintro e w9 ⟨rfl, hb⟩; refine ⟨_, rfl, ?_⟩; have n0_ := Aside0.mk (below_step (by repeat (first | (with_reducible first | exact HB.out | apply below_alloc | apply pw_below_drewN | apply below_drew1) | exact HB.out)) hb); clear HB; have HB := n0_; clear n0_; (try clear hb); (try clear hb2); (try clear hk); (try clear hi)) | (go_at_call 11; (with_reducible refine (spileref47_Few.calls k _ _ l0 _ _ l1 t308 _ ?side1 ?side2 ?side3 ?side4 A8.out).mono ?_); (case side1 => repeat (first | exact (Kd.C_below HR0.out HB.out) | (with_reducible refine Kd.C_alloc ?_ _) | (with_reducible refine Kd.C_drewN ?_ _) | (with_reducible refine Kd.C_drew ?_))); (case side2 => exact HC0.out); (case side3 => repeat (first | exact (Kd.C_below HR1.out HB.out) | (with_reducible refine Kd.C_alloc ?_ _) | (with_reducible refine Kd.C_drewN ?_ _) | (with_reducible refine Kd.C_drew ?_))); (case side4 => exact HC1.out); rintro e w' ⟨rfl, ⟨nd, rfl⟩⟩))
   go_meet
   case rel => exact ⟨_, (!t308), (by first | rfl | (simp; done) | (simp [*]; done)), H', ⟨by first | omega | exact Nat.le_refl _⟩, ⟨by repeat (first | (with_reducible first | exact HB.out | apply below_alloc | apply pw_below_drewN | apply below_drew1) | exact HB.out)⟩⟩
  ·replace c7 := Bool.eq_false_iff.mpr c7
   subst c7
   have H1 : (spilelaw47_ReliefEarlier.j0 k l0 l1 a2 a3 true) = some r := by rw [if_neg (show ¬ (false = true) by decide)] at H; exact H
   clear H; have H := H1; clear H1
   have H' := Aside0.mk H
   clear H
   go_wp2_with (first | ((with_reducible refine gate_callee (f := 10) rfl ?_); refine goesL_ (some 23) rfl rfl Try.func10 (by kernel_rfl) rfl #[] rfl (by (try simp only [List.map_toArray, List.map_cons, List.map_nil]); first | done | rfl | (simp only [List.length_drop, List.length_take]; rfl)) ?_; (with_reducible refine (spilelaw47_awake.calls k  false _ A6.out).mono ?_); rintro e w10 ⟨rfl, hb⟩; refine ⟨_, rfl, ?_⟩; have n0_ := Aside0.mk (below_step (by repeat (first | (with_reducible first | exact HB.out | apply below_alloc | apply pw_below_drewN | apply below_drew1) | exact HB.out)) hb); clear HB; have HB := n0_; clear n0_; (try clear hb); (try clear hb2); (try clear hk); (try clear hi)))
   go_meet
   case rel => exact ⟨_, (true), (by first | rfl | (simp; done) | (simp [*]; done)), H', ⟨by first | omega | exact Nat.le_refl _⟩, ⟨by repeat (first | (with_reducible first | exact HB.out | apply below_alloc | apply pw_below_drewN | apply below_drew1) | exact HB.out)⟩⟩
 case rest =>
  clear HC5
  obtain ⟨kq, x30_4, rfl, HA, HJ4, HB⟩ := hcut
  cases kq with
  | zero => exact absurd HA.out (by simp [spilelaw47_ReliefEarlier.j0])
  | succ kj4 =>
   have H := HA.out; clear HA
   simp only [spilelaw47_ReliefEarlier.j0] at H
   by_cases c11 : x30_4 = true
   ·subst c11
    have H1 : ((spilelaw47_awake.f kj4).bind fun t309 => (some t309)) = some r := by rw [if_pos rfl] at H; exact H
    clear H; have H := H1; clear H1
    replace H := Option.bind_eq_some_iff.mp H
    obtain ⟨t309, A120, H⟩ := H
    try dsimp only at H
    have A12 := Aside0.mk A120
    clear A120
    obtain rfl := Option.some.inj H
    go_wp2_with (first | ((with_reducible refine gate_callee (f := 10) rfl ?_); refine goesL_ (some 31) rfl rfl Try.func10 (by kernel_rfl) rfl #[] rfl (by (try simp only [List.map_toArray, List.map_cons, List.map_nil]); first | done | rfl | (simp only [List.length_drop, List.length_take]; rfl)) ?_; (with_reducible refine (spilelaw47_awake.calls kj4  t309 _ A12.out).mono ?_); rintro e w13 ⟨rfl, hb⟩; refine ⟨_, rfl, ?_⟩; have n0_ := Aside0.mk (below_step (by repeat (first | (with_reducible first | exact HB.out | apply below_alloc | apply pw_below_drewN | apply below_drew1) | exact HB.out)) hb); clear HB; have HB := n0_; clear n0_; (try clear hb); (try clear hb2); (try clear hk); (try clear hi)))
    go_ret
    exact ⟨by first | rfl | (simp [errW_none, errW_some] <;> rfl) | (simp [*, errW_none, errW_some] <;> rfl), by repeat (first | (with_reducible first | exact HB.out | apply below_alloc | apply pw_below_drewN | apply below_drew1) | exact HB.out)⟩
   ·replace c11 := Bool.eq_false_iff.mpr c11
    subst c11
    have H1 : ((api_Relief_13.f l0).bind fun t310 => ((api_Item_14.f l1).bind fun t313 => ((relief_Grant.f kj4 t310 t313).bind fun bt316 => (if bt316.2.2 = 0 then (spilelaw47_ReliefEarlier.j1 kj4 l0 l1 a2 a3 bt316.1 ((bt316.1.length : Int) != (l1.length : Int))) else (spilelaw47_ReliefEarlier.j1 kj4 l0 l1 a2 a3 bt316.1 true))))) = some r := by rw [if_neg (show ¬ (false = true) by decide)] at H; exact H
    clear H; have H := H1; clear H1
    replace H := Option.bind_eq_some_iff.mp H
    obtain ⟨t310, A140, H⟩ := H
    try dsimp only at H
    have A14 := Aside0.mk A140
    clear A140
    replace H := Option.bind_eq_some_iff.mp H
    obtain ⟨t313, A150, H⟩ := H
    try dsimp only at H
    have A15 := Aside0.mk A150
    clear A150
    replace H := Option.bind_eq_some_iff.mp H
    obtain ⟨⟨t316, t317, t318⟩, A160, H⟩ := H
    try dsimp only at H
    have A16 := Aside0.mk A160
    clear A160
    have HC17 := Aside0.mk H
    clear H
    go_upto_region 4 with (first | ((with_reducible refine gate_callee (f := 13) rfl ?_); refine goesL_ (some 34) rfl rfl Try.func13 (by kernel_rfl) rfl #[.slice A0 l0.length c0] rfl (by (try simp only [List.map_toArray, List.map_cons, List.map_nil]); first | done | rfl | (simp only [List.length_drop, List.length_take]; rfl)) ?_; (with_reducible refine (api_Relief_13.calls _ _ l0 t310 _ ?side1 ?side2 A14.out).mono ?_); (case side1 => repeat (first | exact (Kd.C_below HR0.out HB.out) | (with_reducible refine Kd.C_alloc ?_ _) | (with_reducible refine Kd.C_drewN ?_ _) | (with_reducible refine Kd.C_drew ?_))); (case side2 => exact HC0.out); rintro e w18 ⟨v311, rfl, ho0, hb⟩; refine ⟨_, rfl, ?_⟩; have n0_ := Aside0.mk (Kd.R_lower ho0 (below_size (by repeat (first | (with_reducible first | exact HB.out | apply below_alloc | apply pw_below_drewN | apply below_drew1) | exact HB.out)))); have n1_ := Aside0.mk (below_step (by repeat (first | (with_reducible first | exact HB.out | apply below_alloc | apply pw_below_drewN | apply below_drew1) | exact HB.out)) hb); clear HB; have HO312 := n0_; have HB := n1_; clear n0_ n1_; (try clear hb); (try clear hb2); (try clear hk); (try clear hi); (try clear ho0)) | ((with_reducible refine gate_callee (f := 14) rfl ?_); refine goesL_ (some 36) rfl rfl Try.func14 (by kernel_rfl) rfl #[.slice A1 l1.length c1] rfl (by (try simp only [List.map_toArray, List.map_cons, List.map_nil]); first | done | rfl | (simp only [List.length_drop, List.length_take]; rfl)) ?_; (with_reducible refine (api_Item_14.calls _ _ l1 t313 _ ?side1 ?side2 A15.out).mono ?_); (case side1 => repeat (first | exact (Kd.C_below HR1.out HB.out) | (with_reducible refine Kd.C_alloc ?_ _) | (with_reducible refine Kd.C_drewN ?_ _) | (with_reducible refine Kd.C_drew ?_))); (case side2 => exact HC1.out); rintro e w19 ⟨v314, rfl, ho0, hb⟩; refine ⟨_, rfl, ?_⟩; have n0_ := Aside0.mk (Kd.R_below (by (with_reducible repeat (first | apply Kd.R_alloc | apply Kd.R_drewN | apply Kd.R_drew)); exact HO312.out) hb); have n1_ := Aside0.mk (Kd.R_lower ho0 (below_size (by repeat (first | (with_reducible first | exact HB.out | apply below_alloc | apply pw_below_drewN | apply below_drew1) | exact HB.out)))); have n2_ := Aside0.mk (below_step (by repeat (first | (with_reducible first | exact HB.out | apply below_alloc | apply pw_below_drewN | apply below_drew1) | exact HB.out)) hb); clear HO312; clear HB; have HO312 := n0_; have HO315 := n1_; have HB := n2_; clear n0_ n1_ n2_; (try clear hb); (try clear hb2); (try clear hk); (try clear hi); (try clear ho0); obtain ⟨Ao20, co20, eo20⟩ := Kd.R_slice HO312.out; subst eo20; obtain ⟨Ao21, co21, eo21⟩ := Kd.R_slice HO315.out; subst eo21) | ((with_reducible refine gate_callee (f := 15) rfl ?_); refine goesL_ (some 37) rfl rfl Try.func15 (by kernel_rfl) rfl #[.slice Ao20 t310.length co20, .slice Ao21 t313.length co21] rfl (by (try simp only [List.map_toArray, List.map_cons, List.map_nil]); first | done | rfl | (simp only [List.length_drop, List.length_take]; rfl)) ?_; (with_reducible refine (relief_Grant.calls kj4 _ _ t310 _ _ t313 t316 t317 t318 _ ?side1 ?side2 ?side3 ?side4 A16.out).mono ?_); (case side1 => repeat (first | exact (Kd.R_reads' HO312.out).2.2 | (with_reducible refine Kd.C_alloc ?_ _) | (with_reducible refine Kd.C_drewN ?_ _) | (with_reducible refine Kd.C_drew ?_))); (case side2 => exact (Kd.R_reads' HO312.out).2.1); (case side3 => repeat (first | exact (Kd.R_reads' HO315.out).2.2 | (with_reducible refine Kd.C_alloc ?_ _) | (with_reducible refine Kd.C_drewN ?_ _) | (with_reducible refine Kd.C_drew ?_))); (case side4 => exact (Kd.R_reads' HO315.out).2.1); rintro e w22 ⟨v319, rfl, ho0, hb⟩; refine ⟨_, rfl, ?_⟩; have n0_ := Aside0.mk (Kd.R_below (by (with_reducible repeat (first | apply Kd.R_alloc | apply Kd.R_drewN | apply Kd.R_drew)); exact HO312.out) hb); have n1_ := Aside0.mk (Kd.R_below (by (with_reducible repeat (first | apply Kd.R_alloc | apply Kd.R_drewN | apply Kd.R_drew)); exact HO315.out) hb); have n2_ := Aside0.mk (Kd.R_lower ho0 (below_size (by repeat (first | (with_reducible first | exact HB.out | apply below_alloc | apply pw_below_drewN | apply below_drew1) | exact HB.out)))); have n3_ := Aside0.mk (below_step (by repeat (first | (with_reducible first | exact HB.out | apply below_alloc | apply pw_below_drewN | apply below_drew1) | exact HB.out)) hb); clear HO312; clear HO315; clear HB; have HO312 := n0_; have HO315 := n1_; have HO320 := n2_; have HB := n3_; clear n0_ n1_ n2_ n3_; (try clear hb); (try clear hb2); (try clear hk); (try clear hi); (try clear ho0)))
    (try simp only [Act.put, List.setIfInBounds_toArray, List.set_cons_zero, List.set_cons_succ])
    go_cut [49] (fun v49 wc => ∃ (kq : Nat) (x49_16 : Bool), v49 = .bool x49_16 ∧ Aside0 (spilelaw47_ReliefEarlier.j1 kq l0 l1 a2 a3 t316 x49_16 = some r) ∧ Aside0 (kq ≤ kj4) ∧ Aside0 (Kd.R (Kd.int .i64) 3 wc w.heap.size (fun _ => True) v319 t316) ∧ Aside0 (Below w.heap.size w wc))
    case first =>
     have H := HC17.out; clear HC17
     by_cases c23 : t318 = 0
     ·rw [if_pos c23] at H
      have c23b0 : (t318 == 0) = true := beq_iff_eq.mpr c23
      have c23b1 : (t318 != 0) = false := bne_eq_false_iff_eq.mpr c23
      clear c23
      (first | rw [c23b0] | (simp only [i64_w, i32_w]; rw [c23b0]) | skip)
      have H' := Aside0.mk H
      clear H
      obtain ⟨Ao24, co24, eo24⟩ := Kd.R_slice HO320.out
      subst eo24
      go_wp2
      go_meet
      case rel => exact ⟨_, (((t316.length : Int) != (l1.length : Int))), (by first | rfl | (simp; done) | (simp [*]; done)), H', ⟨by have := HJ4.out; first | omega | exact Nat.le_refl _⟩, ⟨by (with_reducible repeat (first | apply Kd.R_alloc | apply Kd.R_drewN | apply Kd.R_drew)); exact HO320.out⟩, ⟨by repeat (first | (with_reducible first | exact HB.out | apply below_alloc | apply pw_below_drewN | apply below_drew1) | exact HB.out)⟩⟩
     ·rw [if_neg c23] at H
      have c23b0 : (t318 == 0) = false := beq_eq_false_iff_ne.mpr c23
      have c23b1 : (t318 != 0) = true := bne_iff_ne.mpr c23
      (first | rw [c23b0] | (simp only [i64_w, i32_w]; rw [c23b0]) | skip)
      have H' := Aside0.mk H
      clear H
      go_wp2
      go_meet
      case rel => exact ⟨_, (true), (by first | rfl | (simp; done) | (simp [*]; done)), H', ⟨by have := HJ4.out; first | omega | exact Nat.le_refl _⟩, ⟨by (with_reducible repeat (first | apply Kd.R_alloc | apply Kd.R_drewN | apply Kd.R_drew)); exact HO320.out⟩, ⟨by repeat (first | (with_reducible first | exact HB.out | apply below_alloc | apply pw_below_drewN | apply below_drew1) | exact HB.out)⟩⟩
    case rest =>
     clear HC17
     obtain ⟨kq, x49_16, rfl, HA, HJ16, HO_9, HB⟩ := hcut
     cases kq with
     | zero => exact absurd HA.out (by simp [spilelaw47_ReliefEarlier.j1])
     | succ kj16 =>
      have H := HA.out; clear HA
      simp only [spilelaw47_ReliefEarlier.j1] at H
      by_cases c25 : x49_16 = true
      ·subst c25
       have H1 : (some ((t316.length : Int) == 0)) = some r := by rw [if_pos rfl] at H; exact H
       clear H; have H := H1; clear H1
       obtain rfl := Option.some.inj H
       obtain ⟨Ao26, co26, eo26⟩ := Kd.R_slice HO_9.out
       subst eo26
       go_wp2
       go_ret
       exact ⟨by first | rfl | (simp [errW_none, errW_some] <;> rfl) | (simp [*, errW_none, errW_some] <;> rfl), by repeat (first | (with_reducible first | exact HB.out | apply below_alloc | apply pw_below_drewN | apply below_drew1) | exact HB.out)⟩
      ·replace c25 := Bool.eq_false_iff.mpr c25
       subst c25
       have H1 : (if (wrap64 ((l1.length : Int) + 1)) = 0 then (none) else ((api_Relief_13.f l0).bind fun t321 => (if 0 ≤ (Int.tmod (wrap64 (a2)) (wrap64 ((l1.length : Int) + 1))) then (if (Int.tmod (wrap64 (a2)) (wrap64 ((l1.length : Int) + 1))) ≤ (l1.length : Int) then ((api_Item_14.f (l1.take ((Int.tmod (wrap64 (a2)) (wrap64 ((l1.length : Int) + 1))) : Int).toNat)).bind fun t328 => ((relief_Grant.f kj16 t321 t328).bind fun bt331 => (spilelaw47_ReliefEarlier.l0 kj16 l0 a3 t316 (Int.tmod (wrap64 (a2)) (wrap64 ((l1.length : Int) + 1))) bt331.1 bt331.2.2 ([] : List (S25)) ([] : List Int) l1 (l1.length : Int) 0))) else (none)) else (none)))) = some r := by rw [if_neg (show ¬ (false = true) by decide)] at H; exact H
       clear H; have H := H1; clear H1
       by_cases c27 : (wrap64 ((l1.length : Int) + 1)) = 0
       ·rw [if_pos c27] at H
        exact absurd H (by simp)
       ·rw [if_neg c27] at H
        have c27b0 : ((wrap64 ((l1.length : Int) + 1)) == 0) = false := beq_eq_false_iff_ne.mpr c27
        have c27b1 : ((wrap64 ((l1.length : Int) + 1)) != 0) = true := bne_iff_ne.mpr c27
        replace H := Option.bind_eq_some_iff.mp H
        obtain ⟨t321, A280, H⟩ := H
        try dsimp only at H
        have A28 := Aside0.mk A280
        clear A280
        obtain ⟨ji29, hji29⟩ : ∃ j_ : Int, (Int.tmod (wrap64 (a2)) (wrap64 ((l1.length : Int) + 1))) = j_ := ⟨_, rfl⟩
        replace H : (if 0 ≤ (ji29) then (if (ji29) ≤ (l1.length : Int) then ((api_Item_14.f (l1.take ((ji29) : Int).toNat)).bind fun t328 => ((relief_Grant.f kj16 t321 t328).bind fun bt331 => (spilelaw47_ReliefEarlier.l0 kj16 l0 a3 t316 ji29 bt331.1 bt331.2.2 ([] : List (S25)) ([] : List Int) l1 (l1.length : Int) 0))) else (none)) else (none)) = some r := by first | (rw [hji29] at H; exact H) | (simp only [hji29] at H ⊢; exact H)
        (try rw [hji29] at A28)
        by_cases c30 : 0 ≤ (ji29)
        ·rw [if_pos c30] at H
         have c30b0 := eq_true c30
         have c30b1 : decide (0 ≤ (ji29)) = true := decide_eq_true c30
         clear c30
         by_cases c31 : (ji29) ≤ (l1.length : Int)
         ·rw [if_pos c31] at H
          have c31b0 := eq_true c31
          have c31b1 : decide ((ji29) ≤ (l1.length : Int)) = true := decide_eq_true c31
          clear c31
          obtain ⟨y324, hy324⟩ : ∃ y_ : List (S25), y_ = (l1.take ((ji29) : Int).toNat) := ⟨_, rfl⟩
          replace H : ((api_Item_14.f y324).bind fun t328 => ((relief_Grant.f kj16 t321 t328).bind fun bt331 => (spilelaw47_ReliefEarlier.l0 kj16 l0 a3 t316 ji29 bt331.1 bt331.2.2 ([] : List (S25)) ([] : List Int) l1 (l1.length : Int) 0))) = some r := by first | (rw [hy324]; with_reducible exact H) | (have H2_ := (Option.bind_some _ _).symm.trans H; rw [hy324]; with_reducible exact H2_) | (have H2_ := (Option.bind_some _ _).symm.trans H; with_reducible exact H2_) | with_reducible exact H | (rw [hy324]; exact H) | exact H
          have Ny324 := Aside0.mk hy324
          clear hy324
          replace H := Option.bind_eq_some_iff.mp H
          obtain ⟨t328, A320, H⟩ := H
          try dsimp only at H
          have A32 := Aside0.mk A320
          clear A320
          replace H := Option.bind_eq_some_iff.mp H
          obtain ⟨⟨t331, t332, t333⟩, A330, H⟩ := H
          try dsimp only at H
          have A33 := Aside0.mk A330
          clear A330
          have H' := Aside0.mk H
          clear H
          try go_wp2
          have n0_ := Aside0.mk (Kd.R_drew HO_9.out); have n1_ := Aside0.mk (below_drew1 HB.out); clear HO_9 HB; have HO_9 := n0_; have HB := n1_; clear n0_ n1_
          have q35 : ((ji29) : Int) ≤ ((l1.length : Int) : Int) := of_decide_eq_true (by first | (with_reducible assumption) | assumption)
          obtain ⟨i035, hi035, _, hsz35, _⟩ := info_parts info25
          have hroom35 : l1.length ≤ c1 := HC1.out
          have hC35 : Kd.C k25 _ A1 l1.length l1 := HR1.out
          have hcut35 := cut_to (P := Try.prog) 23 25 .i64 Try.underlying23 hi035 A1 l1.length c1 (ji29) (of_decide_eq_true (by first | (with_reducible assumption) | assumption)) q35 hroom35
          have hr35 := Kd.C_take (m := ((ji29) : Int).toNat) hC35 (by omega)
          have hy35 : y324.length = ((ji29) : Int).toNat := (by rw [Ny324.out, List.length_take]; omega)
          rw [← Ny324.out] at hr35
          rw [← hy35] at hcut35
          have HR327 := Aside0.mk hr35
          have HC327 := Aside0.mk (show y324.length ≤ c1 from by omega); clear hr35 hC35 hroom35 hi035 hsz35
          have KY35 := Aside0.mk hy35
          clear hy35
          replace q35 := eq_true q35
          refine start_ (n := 14) (S := fun w' => True) (ds := []) #[false, false, false, false, false, false, false, false, false, false, false, false, false, false] (by kernel_rfl) rfl rfl trivial (fun hHeld => ?_); refine with_tabW spilelaw47_ReliefEarlier.tab7 spilelaw47_ReliefEarlier.bits7 (fun HT_ HW_ => ?_)
          generalize wc.drew = w34 at HO_9 HB HR327 hHeld ⊢
          refine pure_ (i := 0) (N := some 60) (v := ?_) (a' := ?_) #[true, false, false, false, false, false, false, false, false, false, false, false, false, false] rfl rfl (any_of HT_.out (by kernel_rfl)) (fun _ _ _ h => h) (Or.inl ⟨by rfl, ?_⟩) ?_ ?_
          rotate_left
          ·intro w'
           go_simp
           with_reducible rfl
          rotate_left
          ·simp only [Act.put, List.setIfInBounds_toArray, List.set_cons_zero, List.set_cons_succ, i64_w, i32_w]
           rfl
          refine pure_ (i := 2) (N := some 62) (v := ?_) (a' := ?_) #[true, false, true, false, false, false, false, false, false, false, false, false, false, false] rfl rfl (any_of HT_.out (by kernel_rfl)) (fun _ _ _ h => h) (Or.inl ⟨by rfl, ?_⟩) ?_ ?_
          rotate_left
          ·intro w'
           go_simp
           with_reducible rfl
          rotate_left
          ·simp only [Act.put, List.setIfInBounds_toArray, List.set_cons_zero, List.set_cons_succ, i64_w, i32_w]
           rfl
          refine pure_ (i := 3) (N := some 63) (v := ?_) (a' := ?_) #[true, false, true, true, false, false, false, false, false, false, false, false, false, false] rfl rfl (any_of HT_.out (by kernel_rfl)) (fun _ _ _ h => h) (Or.inl ⟨by rfl, ?_⟩) ?_ ?_
          rotate_left
          ·intro w'
           go_simp
           with_reducible rfl
          rotate_left
          ·simp only [Act.put, List.setIfInBounds_toArray, List.set_cons_zero, List.set_cons_succ, i64_w, i32_w]
           rfl
          refine pure_ (i := 4) (N := some 64) (v := ?_) (a' := ?_) #[true, false, true, true, true, false, false, false, false, false, false, false, false, false] rfl rfl (any_of HT_.out (by kernel_rfl)) (fun _ _ _ h => h) (Or.inl ⟨by rfl, ?_⟩) ?_ ?_
          rotate_left
          ·intro w'
           go_simp
           with_reducible rfl
          rotate_left
          ·simp only [Act.put, List.setIfInBounds_toArray, List.set_cons_zero, List.set_cons_succ, i64_w, i32_w]
           rfl
          refine one_ (i := 1) (N := some 61) #[true, true, true, true, true, false, false, false, false, false, false, false, false, false] rfl rfl (one_of HT_.out (by kernel_rfl)) (by decide) (fun K hK => ?_)
          refine goes_ Try.func13 (by kernel_rfl) rfl #[.slice A0 l0.length c0] (by rfl) rfl rfl (by (try simp only [List.map_toArray, List.map_cons, List.map_nil]); first | done | rfl | (simp only [List.length_drop, List.length_take]; rfl)) ?_
          with_reducible refine (api_Relief_13.calls _ _ l0 t321 _ ?side1 ?side2 A28.out).mono ?_
          (case side1 => repeat (first | exact (Kd.C_below HR0.out HB.out) | (with_reducible refine Kd.C_alloc ?_ _) | (with_reducible refine Kd.C_drewN ?_ _) | (with_reducible refine Kd.C_drew ?_)))
          (case side2 => exact HC0.out)
          rintro e w36 ⟨v322, rfl, ho0, hb⟩
          refine ⟨_, rfl, ?_⟩
          have n0_ := Aside0.mk (Kd.R_below (by (with_reducible repeat (first | apply Kd.R_alloc | apply Kd.R_drewN | apply Kd.R_drew)); exact HO_9.out) hb); have n1_ := Aside0.mk (Kd.R_lower ho0 (below_size (by repeat (first | (with_reducible first | exact HB.out | apply below_alloc | apply pw_below_drewN | apply below_drew1) | exact HB.out)))); have n2_ := Aside0.mk (below_step (by repeat (first | (with_reducible first | exact HB.out | apply below_alloc | apply pw_below_drewN | apply below_drew1) | exact HB.out)) hb); clear HO_9 HB; have HO_9 := n0_; have HO323 := n1_; have HB := n2_; clear n0_ n1_ n2_; (try clear hb); (try clear hb2); (try clear hk); (try clear hi); (try clear ho0)
          refine hK.out _ _ trivial (fun hHeld => ?_)
          clear hK K
          refine norm_ (a' := ?_) ?_ ?_
          rotate_left
          ·show Act.put _ (some 61) _ = _
           simp only [Act.put, List.setIfInBounds_toArray, List.set_cons_zero, List.set_cons_succ, i64_w, i32_w]
           rfl
          refine one_ (i := 5) (N := some 65) #[true, true, true, true, true, true, false, false, false, false, false, false, false, false] rfl rfl (one_of HT_.out (by kernel_rfl)) (by decide) (fun K hK => ?_)
          refine goes_ Try.func14 (by kernel_rfl) rfl #[.slice A1 y324.length c1] (by rfl) rfl rfl (by (try simp only [List.map_toArray, List.map_cons, List.map_nil]); first | done | rfl | (simp only [List.length_drop, List.length_take]; rfl)) ?_
          with_reducible refine (api_Item_14.calls _ _ y324 t328 _ ?side1 ?side2 A32.out).mono ?_
          (case side1 => repeat (first | exact (Kd.C_below HR327.out HB.out) | (with_reducible refine Kd.C_alloc ?_ _) | (with_reducible refine Kd.C_drewN ?_ _) | (with_reducible refine Kd.C_drew ?_)))
          (case side2 => exact HC327.out)
          rintro e w37 ⟨v329, rfl, ho0, hb⟩
          refine ⟨_, rfl, ?_⟩
          have n0_ := Aside0.mk (Kd.R_below (by (with_reducible repeat (first | apply Kd.R_alloc | apply Kd.R_drewN | apply Kd.R_drew)); exact HO_9.out) hb); have n1_ := Aside0.mk (Kd.R_below (by (with_reducible repeat (first | apply Kd.R_alloc | apply Kd.R_drewN | apply Kd.R_drew)); exact HO323.out) hb); have n2_ := Aside0.mk (Kd.R_lower ho0 (below_size (by repeat (first | (with_reducible first | exact HB.out | apply below_alloc | apply pw_below_drewN | apply below_drew1) | exact HB.out)))); have n3_ := Aside0.mk (below_step (by repeat (first | (with_reducible first | exact HB.out | apply below_alloc | apply pw_below_drewN | apply below_drew1) | exact HB.out)) hb); clear HO_9 HO323 HB; have HO_9 := n0_; have HO323 := n1_; have HO330 := n2_; have HB := n3_; clear n0_ n1_ n2_ n3_; (try clear hb); (try clear hb2); (try clear hk); (try clear hi); (try clear ho0)
          obtain ⟨Ao38, co38, eo38⟩ := Kd.R_slice HO323.out
          (first | subst eo38 | (injection eo38 with f1_ f2_ f3_; have f4_ := f1_.symm; have f5_ := f3_.symm; clear f1_ f2_ f3_; subst f4_; subst f5_))
          obtain ⟨Ao39, co39, eo39⟩ := Kd.R_slice HO330.out
          (first | subst eo39 | (injection eo39 with f1_ f2_ f3_; have f4_ := f1_.symm; have f5_ := f3_.symm; clear f1_ f2_ f3_; subst f4_; subst f5_))
          refine hK.out _ _ trivial (fun hHeld => ?_)
          clear hK K
          refine norm_ (a' := ?_) ?_ ?_
          rotate_left
          ·show Act.put _ (some 65) _ = _
           simp only [Act.put, List.setIfInBounds_toArray, List.set_cons_zero, List.set_cons_succ, i64_w, i32_w]
           rfl
          refine one_ (i := 6) (N := some 66) #[true, true, true, true, true, true, true, false, false, false, false, false, false, false] rfl rfl (one_of HT_.out (by kernel_rfl)) (by decide) (fun K hK => ?_)
          refine goes_ Try.func15 (by kernel_rfl) rfl #[.slice Ao38 t321.length co38, .slice Ao39 t328.length co39] (by rfl) rfl rfl (by (try simp only [List.map_toArray, List.map_cons, List.map_nil]); first | done | rfl | (simp only [List.length_drop, List.length_take]; rfl)) ?_
          with_reducible refine (relief_Grant.calls kj16 _ _ t321 _ _ t328 t331 t332 t333 _ ?side1 ?side2 ?side3 ?side4 A33.out).mono ?_
          (case side1 => repeat (first | exact (Kd.R_reads' HO323.out).2.2 | (with_reducible refine Kd.C_alloc ?_ _) | (with_reducible refine Kd.C_drewN ?_ _) | (with_reducible refine Kd.C_drew ?_)))
          (case side2 => exact (Kd.R_reads' HO323.out).2.1)
          (case side3 => repeat (first | exact (Kd.R_reads' HO330.out).2.2 | (with_reducible refine Kd.C_alloc ?_ _) | (with_reducible refine Kd.C_drewN ?_ _) | (with_reducible refine Kd.C_drew ?_)))
          (case side4 => exact (Kd.R_reads' HO330.out).2.1)
          rintro e w40 ⟨v334, rfl, ho0, hb⟩
          refine ⟨_, rfl, ?_⟩
          have n0_ := Aside0.mk (Kd.R_elder' (by (with_reducible repeat (first | apply Kd.R_alloc | apply Kd.R_drewN | apply Kd.R_drew)); exact HO_9.out) (Kd.R_base ho0) hb); have n1_ := Aside0.mk (Kd.R_below (by (with_reducible repeat (first | apply Kd.R_alloc | apply Kd.R_drewN | apply Kd.R_drew)); exact HO323.out) hb); have n2_ := Aside0.mk (Kd.R_below (by (with_reducible repeat (first | apply Kd.R_alloc | apply Kd.R_drewN | apply Kd.R_drew)); exact HO330.out) hb); have n3_ := Aside0.mk (Kd.R_lower (Kd.R_new' ho0 (Kd.R_lt (by (with_reducible repeat (first | apply Kd.R_alloc | apply Kd.R_drewN | apply Kd.R_drew)); exact HO_9.out))) (below_size (by repeat (first | (with_reducible first | exact HB.out | apply below_alloc | apply pw_below_drewN | apply below_drew1) | exact HB.out)))); have n4_ := Aside0.mk (below_step (by repeat (first | (with_reducible first | exact HB.out | apply below_alloc | apply pw_below_drewN | apply below_drew1) | exact HB.out)) hb); clear HO_9 HO323 HO330 HB; have HO_9 := n0_; have HO323 := n1_; have HO330 := n2_; have HO335 := n3_; have HB := n4_; clear n0_ n1_ n2_ n3_ n4_; (try clear hb); (try clear hb2); (try clear hk); (try clear hi); (try clear ho0)
          refine hK.out _ _ trivial (fun hHeld => ?_)
          clear hK K
          refine norm_ (a' := ?_) ?_ ?_
          rotate_left
          ·show Act.put _ (some 66) _ = _
           simp only [Act.put, List.setIfInBounds_toArray, List.set_cons_zero, List.set_cons_succ, i64_w, i32_w]
           rfl
          refine pure_ (i := 7) (N := some 59) (v := ?_) (a' := ?_) #[true, true, true, true, true, true, true, true, false, false, false, false, false, false] rfl rfl (any_of HT_.out (by kernel_rfl)) (fun _ _ _ h => h) (Or.inl ⟨by rfl, ?_⟩) ?_ ?_
          rotate_left
          ·intro w'
           go_simp
           with_reducible rfl
          rotate_left
          ·simp only [Act.put, List.setIfInBounds_toArray, List.set_cons_zero, List.set_cons_succ, i64_w, i32_w]
           rfl
          refine pure_ (i := 8) (N := some 67) (v := ?_) (a' := ?_) #[true, true, true, true, true, true, true, true, true, false, false, false, false, false] rfl rfl (any_of HT_.out (by kernel_rfl)) (fun _ _ _ h => h) (Or.inl ⟨by rfl, ?_⟩) ?_ ?_
          rotate_left
          ·intro w'
           go_simp
           with_reducible rfl
          rotate_left
          ·simp only [Act.put, List.setIfInBounds_toArray, List.set_cons_zero, List.set_cons_succ, i64_w, i32_w]
           rfl
          refine pure_ (i := 9) (N := some 68) (v := ?_) (a' := ?_) #[true, true, true, true, true, true, true, true, true, true, false, false, false, false] rfl rfl (any_of HT_.out (by kernel_rfl)) (fun _ _ _ h => h) (Or.inl ⟨by rfl, ?_⟩) ?_ ?_
          rotate_left
          ·intro w'
           go_simp
           with_reducible rfl
          rotate_left
          ·simp only [Act.put, List.setIfInBounds_toArray, List.set_cons_zero, List.set_cons_succ, i64_w, i32_w]
           rfl
          refine pure_ (i := 10) (N := some 69) (v := ?_) (a' := ?_) #[true, true, true, true, true, true, true, true, true, true, true, false, false, false] rfl rfl (any_of HT_.out (by kernel_rfl)) (fun _ _ _ h => h) (Or.inl ⟨by rfl, ?_⟩) ?_ ?_
          rotate_left
          ·intro w'
           go_simp
           with_reducible rfl
          rotate_left
          ·simp only [Act.put, List.setIfInBounds_toArray, List.set_cons_zero, List.set_cons_succ, i64_w, i32_w]
           rfl
          refine pure_ (i := 11) (N := some 13) (v := ?_) (a' := ?_) #[true, true, true, true, true, true, true, true, true, true, true, true, false, false] rfl rfl (any_of HT_.out (by kernel_rfl)) (fun _ _ _ h => h) (Or.inl ⟨by rfl, ?_⟩) ?_ ?_
          rotate_left
          ·intro w'
           go_simp
           with_reducible rfl
          rotate_left
          ·simp only [Act.put, List.setIfInBounds_toArray, List.set_cons_zero, List.set_cons_succ, i64_w, i32_w]
           rfl
          refine pure_ (i := 12) (N := some 14) (v := ?_) (a' := ?_) #[true, true, true, true, true, true, true, true, true, true, true, true, true, false] rfl rfl (any_of HT_.out (by kernel_rfl)) (fun _ _ _ h => h) (Or.inl ⟨by rfl, ?_⟩) ?_ ?_
          rotate_left
          ·intro w'
           go_simp
           with_reducible rfl
          rotate_left
          ·simp only [Act.put, List.setIfInBounds_toArray, List.set_cons_zero, List.set_cons_succ, i64_w, i32_w]
           rfl
          refine pure_ (i := 13) (N := some 15) (v := ?_) (a' := ?_) #[true, true, true, true, true, true, true, true, true, true, true, true, true, true] rfl rfl (any_of HT_.out (by kernel_rfl)) (fun _ _ _ h => h) (Or.inl ⟨by rfl, ?_⟩) ?_ ?_
          rotate_left
          ·intro w'
           go_simp
           with_reducible rfl
          rotate_left
          ·simp only [Act.put, List.setIfInBounds_toArray, List.set_cons_zero, List.set_cons_succ, i64_w, i32_w]
           rfl
          refine done_ (done_of HT_.out (by kernel_rfl)) ?_
          try go_wp2
          go_loopg [16, 17, 72] kj16 (fun kq v16 v17 v72 w' => ∃ (x16_3 : List (S25)) (x17_3 : List Int) (x72_3 : Int), v72 = .int .i64 x72_3 ∧ Aside0 (spilelaw47_ReliefEarlier.l0 kq l0 a3 t316 ji29 t331 t333 x16_3 x17_3 l1 (l1.length : Int) x72_3 = some r) ∧ Aside0 (kq ≤ kj16) ∧ Aside0 (Kd.R (Kd.int .i64) 3 w' w.heap.size (fun k_ => some k_ ≠ (v334 : Value).ownBlock ∧ some k_ ≠ (v17 : Value).ownBlock) v319 t316) ∧ Aside0 (Kd.R (Kd.int .i64) 3 w' w.heap.size (fun k_ => some k_ ≠ (v319 : Value).ownBlock ∧ some k_ ≠ (v17 : Value).ownBlock) v334 t331) ∧ Aside0 (Kd.R k25 25 w' w.heap.size (fun _ => True) v16 x16_3) ∧ Aside0 (Kd.R (Kd.int .i64) 3 w' w.heap.size (fun k_ => some k_ ≠ (v319 : Value).ownBlock ∧ some k_ ≠ (v334 : Value).ownBlock) v17 x17_3) ∧ Aside0 (Below w.heap.size w w'))
          case atStart => exact ⟨(([] : List (S25))), (([] : List Int)), (0), (by first | rfl | (simp; done) | (simp [*]; done)), H', ⟨Nat.le_refl _⟩, ⟨by (with_reducible repeat (first | apply Kd.R_alloc | apply Kd.R_drewN | apply Kd.R_drew)); exact Kd.R_mono HO_9.out (fun _ hk => ⟨hk.2, (by simp [Value.ownBlock])⟩)⟩, ⟨by (with_reducible repeat (first | apply Kd.R_alloc | apply Kd.R_drewN | apply Kd.R_drew)); exact Kd.R_mono HO335.out (fun _ hk => ⟨hk.2, (by simp [Value.ownBlock])⟩)⟩, ⟨by first | exact Kd.R_nil _ _ _ _ _ | exact Kd.N_nil _ _ _ _ _ | exact Kd.V_nil _ _ _ _ _ | exact Kd.Q_nil _ _ _ _ _ | exact Kd.S_nil _ _ _ _ _⟩, ⟨by first | exact Kd.R_nil _ _ _ _ _ | exact Kd.N_nil _ _ _ _ _ | exact Kd.V_nil _ _ _ _ _ | exact Kd.Q_nil _ _ _ _ _ | exact Kd.S_nil _ _ _ _ _⟩, ⟨by repeat (first | (with_reducible first | exact HB.out | apply below_alloc | apply pw_below_drewN | apply below_drew1) | exact HB.out)⟩⟩
          case round =>
           clear H'
           obtain ⟨x16_3, x17_3, x72_3, rfl, HA, HK3, HO_9, HO_13, HO_16, HO_17, HB⟩ := hrel
           cases gk with
           | zero => exact absurd HA.out (by simp [spilelaw47_ReliefEarlier.l0])
           | succ k3 =>
            have H := HA.out; clear HA
            simp only [spilelaw47_ReliefEarlier.l0] at H
            by_cases c41 : x72_3 < (l1.length : Int)
            ·rw [if_pos c41] at H
             have c41b0 : decide (x72_3 < (l1.length : Int)) = true := decide_eq_true c41
             clear c41
             by_cases c42 : 0 ≤ x72_3
             ·rw [if_pos c42] at H
              have c42b0 : decide (0 ≤ x72_3) = true := decide_eq_true c42
              clear c42
              by_cases c43 : x72_3 < (l1.length : Int)
              ·rw [if_pos c43] at H
               have c43b0 : decide (x72_3 < (l1.length : Int)) = true := decide_eq_true c43
               clear c43
               by_cases c44 : ((rd_T25 l1 x72_3).f4) = a3
               ·rw [if_pos c44] at H
                have c44b0 : (((rd_T25 l1 x72_3).f4) == a3) = true := beq_iff_eq.mpr c44
                have c44b1 : (((rd_T25 l1 x72_3).f4) != a3) = false := bne_eq_false_iff_eq.mpr c44
                clear c44
                by_cases c45 : x16_3.length < 3518437208883
                ·rw [if_pos c45] at H
                 have LMc45 := Aside0.mk c45
                 clear c45
                 obtain ⟨y338, hy338⟩ : ∃ y_ : List (S25), y_ = (x16_3 ++ [(⟨(rd_T25 l1 x72_3).f0, (rd_T25 l1 x72_3).f1, (rd_T25 l1 x72_3).f2, (rd_T25 l1 x72_3).f3, (rd_T25 l1 x72_3).f4⟩ : S25)]) := ⟨_, rfl⟩
                 replace H : (if x72_3 < (t316.length : Int) then (if x17_3.length < 17592186044416 then (spilelaw47_ReliefEarlier.l0 k3 l0 a3 t316 ji29 t331 t333 y338 (x17_3 ++ [rd t316 x72_3]) l1 (l1.length : Int) (wrap64 (x72_3 + 1))) else (none)) else (none)) = some r := by first | (rw [hy338]; with_reducible exact H) | (have H2_ := (Option.bind_some _ _).symm.trans H; rw [hy338]; with_reducible exact H2_) | (have H2_ := (Option.bind_some _ _).symm.trans H; with_reducible exact H2_) | with_reducible exact H | (rw [hy338]; exact H) | exact H
                 have Ny338 := Aside0.mk hy338
                 clear hy338
                 by_cases c46 : x72_3 < (t316.length : Int)
                 ·rw [if_pos c46] at H
                  have c46b0 : decide (x72_3 < (t316.length : Int)) = true := decide_eq_true c46
                  clear c46
                  by_cases c47 : x17_3.length < 17592186044416
                  ·rw [if_pos c47] at H
                   have LMc47 := Aside0.mk c47
                   clear c47
                   obtain ⟨y342, hy342⟩ : ∃ y_ : List Int, y_ = (x17_3 ++ [rd t316 x72_3]) := ⟨_, rfl⟩
                   replace H : (spilelaw47_ReliefEarlier.l0 k3 l0 a3 t316 ji29 t331 t333 y338 y342 l1 (l1.length : Int) (wrap64 (x72_3 + 1))) = some r := by first | (rw [hy342]; with_reducible exact H) | (have H2_ := (Option.bind_some _ _).symm.trans H; rw [hy342]; with_reducible exact H2_) | (have H2_ := (Option.bind_some _ _).symm.trans H; with_reducible exact H2_) | with_reducible exact H | (rw [hy342]; exact H) | exact H
                   have Ny342 := Aside0.mk hy342
                   clear hy342
                   have H' := Aside0.mk H
                   clear H
                   have p336 : 0 ≤ (x72_3 : Int) := of_decide_eq_true (by first | (with_reducible assumption) | assumption)
                   have q336 : x72_3 < (l1.length : Int) := of_decide_eq_true (by first | (with_reducible assumption) | assumption)
                   obtain ⟨ad336, e336, hx336_0, hx336_1, hx336_2, hx336_3, hx336_4⟩ := at_T25 HR1.out x72_3 p336 q336
                   cases e336
                   replace hx336_0 := (HB.out.cell (World.block_lt_of_cell? w _ hx336_0)).trans hx336_0
                   replace hx336_1 := (HB.out.cell (World.block_lt_of_cell? w _ hx336_1)).trans hx336_1
                   replace hx336_2 := (HB.out.cell (World.block_lt_of_cell? w _ hx336_2)).trans hx336_2
                   replace hx336_3 := (HB.out.cell (World.block_lt_of_cell? w _ hx336_3)).trans hx336_3
                   replace hx336_4 := (HB.out.cell (World.block_lt_of_cell? w _ hx336_4)).trans hx336_4
                   replace p336 := eq_true p336
                   replace q336 := eq_true q336
                   go_wp2_with (first | ((with_reducible refine gate_dst (N := 19) rfl ?_); (try (refine gate_guard (by rfl) ?_; dsimp only)); refine box_event ?hg (N := 19) ?hd (cs := #[.int .i64 0, .int .i64 0, .int .i64 0, .int .i64 0, .int .i64 0]) (t := 25) ?hr ?_; (case hd => rfl); (case hg => rfl); (case hr => first | (go_simp; done) | (go_simp; rfl)); intro gb337 hg w48 hbox hb; have n0_ := Aside0.mk (Kd.R_below (by (with_reducible repeat (first | apply Kd.R_alloc | apply Kd.R_drewN | apply Kd.R_drew)); exact HO_9.out) hb); have n1_ := Aside0.mk (Kd.R_below (by (with_reducible repeat (first | apply Kd.R_alloc | apply Kd.R_drewN | apply Kd.R_drew)); exact HO_13.out) hb); have n2_ := Aside0.mk (Kd.R_below (Kd.R_elderB (by (with_reducible repeat (first | apply Kd.R_alloc | apply Kd.R_drewN | apply Kd.R_drew)); exact HO_16.out) gb337 (Nat.le_of_eq hg.symm)) hb); have n3_ := Aside0.mk (Kd.R_below (by (with_reducible repeat (first | apply Kd.R_alloc | apply Kd.R_drewN | apply Kd.R_drew)); exact HO_17.out) hb); have n4_ := Aside0.mk (below_step (by repeat (first | (with_reducible first | exact HB.out | apply below_alloc | apply pw_below_drewN | apply below_drew1) | exact HB.out)) hb); have n5_ := Aside0.mk (hbox); have n6_ := Aside0.mk ((by rw [hg]; exact (below_size (by repeat (first | (with_reducible first | exact HB.out | apply below_alloc | apply pw_below_drewN | apply below_drew1) | exact HB.out))) : w.heap.size ≤ gb337)); have n7_ := Aside0.mk ((by rw [hg]; exact (below_size (by repeat (first | (with_reducible first | exact HB.out | apply below_alloc | apply pw_below_drewN | apply below_drew1) | exact HB.out))) : w.heap.size ≤ gb337)); clear HO_9; clear HO_13; clear HO_16; clear HO_17; clear HB; have HO_9 := n0_; have HO_13 := n1_; have HO_16 := n2_; have HO_17 := n3_; have HB := n4_; have BK337 := n5_; have GW337 := n6_; have GE337 := n7_; clear n0_ n1_ n2_ n3_ n4_ n5_ n6_ n7_; clear hb hbox hg; have hcz49_0 : w48.cell? ⟨gb337, 0, none⟩ = some (.int .i64 0) := (blk_cell BK337.out 0).trans rfl; have hcz49_1 : w48.cell? ⟨gb337, 1, none⟩ = some (.int .i64 0) := (blk_cell BK337.out 1).trans rfl; have hcz49_2 : w48.cell? ⟨gb337, 2, none⟩ = some (.int .i64 0) := (blk_cell BK337.out 2).trans rfl; have hcz49_3 : w48.cell? ⟨gb337, 3, none⟩ = some (.int .i64 0) := (blk_cell BK337.out 3).trans rfl; have hcz49_4 : w48.cell? ⟨gb337, 4, none⟩ = some (.int .i64 0) := (blk_cell BK337.out 4).trans rfl; have hfz49_0 := blk_frozen BK337.out 0; have hfz49_1 := blk_frozen BK337.out 1; have hfz49_2 := blk_frozen BK337.out 2; have hfz49_3 := blk_frozen BK337.out 3; have hfz49_4 := blk_frozen BK337.out 4) | ((with_reducible refine gate_builtin (b := .append) (xs := #[.tmp 81, .tmp 83]) rfl ?_); (try (refine gate_guard (by rfl) ?_; dsimp only)); at_builtin; refine Kd.R_append k25 (w0 := w) w.heap.size rfl (.tmp 81) (.tmp 83) 23 25 (.agg #[(.int .i64 0), (.int .i64 0), (.int .i64 0), (.int .i64 0), (.int .i64 0)]) 40 rfl Try.underlying23 info25 rfl (by decide) (by omega) u16 x16_3 (⟨(rd_T25 l1 x72_3).f0, (rd_T25 l1 x72_3).f1, (rd_T25 l1 x72_3).f2, (rd_T25 l1 x72_3).f3, (rd_T25 l1 x72_3).f4⟩ : S25) [.int .i64 ((rd_T25 l1 x72_3).f0), .int .i64 ((rd_T25 l1 x72_3).f1), .int .i64 ((rd_T25 l1 x72_3).f2), .int .i64 ((rd_T25 l1 x72_3).f3), .int .i64 ((rd_T25 l1 x72_3).f4)] (fun k_ => k_ ≠ gb337) (fun _ => False) rfl (by first | (go_simp; done) | (go_simp; rfl)) ?aP (fun _ hk => hk.elim) ?aF ?aO ?aB ?aS ?aL ?_; (case aP => exact k25_mkM _ _ _ (⟨(rd_T25 l1 x72_3).f0, (rd_T25 l1 x72_3).f1, (rd_T25 l1 x72_3).f2, (rd_T25 l1 x72_3).f3, (rd_T25 l1 x72_3).f4⟩ : S25)); (case aB => exact (by repeat (first | (with_reducible first | exact HB.out | apply below_alloc | apply pw_below_drewN | apply below_drew1 | refine below_set ?_ GE337.out) | exact HB.out))); (case aF => exact (fun k_ hk => Kd.freshB (g := gb337) (o := .cells #[.int .i64 ((rd_T25 l1 x72_3).f0), .int .i64 ((rd_T25 l1 x72_3).f1), .int .i64 ((rd_T25 l1 x72_3).f2), .int .i64 ((rd_T25 l1 x72_3).f3), .int .i64 ((rd_T25 l1 x72_3).f4)] 25 (0, 0)) (by (with_reducible repeat (first | refine blk_drewN ?_ _ | refine blk_drew ?_ | refine blk_alloc ?_ _)); refine blk_put (cs := #[.int .i64 ((rd_T25 l1 x72_3).f0), .int .i64 ((rd_T25 l1 x72_3).f1), .int .i64 ((rd_T25 l1 x72_3).f2), .int .i64 ((rd_T25 l1 x72_3).f3), .int .i64 0]) ?_ 4 _ rfl; (with_reducible repeat (first | refine blk_drewN ?_ _ | refine blk_drew ?_ | refine blk_alloc ?_ _)); refine blk_put (cs := #[.int .i64 ((rd_T25 l1 x72_3).f0), .int .i64 ((rd_T25 l1 x72_3).f1), .int .i64 ((rd_T25 l1 x72_3).f2), .int .i64 0, .int .i64 0]) ?_ 3 _ rfl; (with_reducible repeat (first | refine blk_drewN ?_ _ | refine blk_drew ?_ | refine blk_alloc ?_ _)); refine blk_put (cs := #[.int .i64 ((rd_T25 l1 x72_3).f0), .int .i64 ((rd_T25 l1 x72_3).f1), .int .i64 0, .int .i64 0, .int .i64 0]) ?_ 2 _ rfl; (with_reducible repeat (first | refine blk_drewN ?_ _ | refine blk_drew ?_ | refine blk_alloc ?_ _)); refine blk_put (cs := #[.int .i64 ((rd_T25 l1 x72_3).f0), .int .i64 0, .int .i64 0, .int .i64 0, .int .i64 0]) ?_ 1 _ rfl; (with_reducible repeat (first | refine blk_drewN ?_ _ | refine blk_drew ?_ | refine blk_alloc ?_ _)); refine blk_put (cs := #[.int .i64 0, .int .i64 0, .int .i64 0, .int .i64 0, .int .i64 0]) ?_ 0 _ rfl; (with_reducible repeat (first | refine blk_drewN ?_ _ | refine blk_drew ?_ | refine blk_alloc ?_ _)); exact BK337.out) k_ hk)); (case aO => exact (by (with_reducible repeat (first | apply Kd.R_alloc | apply Kd.R_drewN | apply Kd.R_drew)); exact Kd.R_mono (Kd.R_far (p := ⟨gb337, 4, none⟩) (Kd.R_far (p := ⟨gb337, 3, none⟩) (Kd.R_far (p := ⟨gb337, 2, none⟩) (Kd.R_far (p := ⟨gb337, 1, none⟩) (Kd.R_far (p := ⟨gb337, 0, none⟩) (Kd.R_mono HO_16.out (fun k_ hk => (⟨hk, hk.2⟩ : _ ∧ k_ ≠ gb337))) (fun _ hk => hk.2) (.int .i64 ((rd_T25 l1 x72_3).f0))) (fun _ hk => hk.2) (.int .i64 ((rd_T25 l1 x72_3).f1))) (fun _ hk => hk.2) (.int .i64 ((rd_T25 l1 x72_3).f2))) (fun _ hk => hk.2) (.int .i64 ((rd_T25 l1 x72_3).f3))) (fun _ hk => hk.2) (.int .i64 ((rd_T25 l1 x72_3).f4))) (fun _ hk => hk.1.2))); (case aS => exact (below_size (by repeat (first | (with_reducible first | exact HB.out | apply below_alloc | apply pw_below_drewN | apply below_drew1 | refine below_set ?_ GE337.out) | exact HB.out)))); (case aL => have := LMc45.out; omega); intro v339 w50 ho hb hg hat; rw [← Ny338.out] at ho; have n0_ := Aside0.mk (Kd.R_over' (by (with_reducible repeat (first | apply Kd.R_alloc | apply Kd.R_drewN | apply Kd.R_drew)); exact (Kd.R_mono (Kd.R_far (p := ⟨gb337, 4, none⟩) (Kd.R_far (p := ⟨gb337, 3, none⟩) (Kd.R_far (p := ⟨gb337, 2, none⟩) (Kd.R_far (p := ⟨gb337, 1, none⟩) (Kd.R_far (p := ⟨gb337, 0, none⟩) (Kd.R_types HO_9.out BK337.out (by decide)) (fun _ hk => hk.2) (.int .i64 ((rd_T25 l1 x72_3).f0))) (fun _ hk => hk.2) (.int .i64 ((rd_T25 l1 x72_3).f1))) (fun _ hk => hk.2) (.int .i64 ((rd_T25 l1 x72_3).f2))) (fun _ hk => hk.2) (.int .i64 ((rd_T25 l1 x72_3).f3))) (fun _ hk => hk.2) (.int .i64 ((rd_T25 l1 x72_3).f4))) (fun _ h_ => h_.1))) (Kd.R_typed (by (with_reducible repeat (first | apply Kd.R_alloc | apply Kd.R_drewN | apply Kd.R_drew)); exact (Kd.R_mono (Kd.R_far (p := ⟨gb337, 4, none⟩) (Kd.R_far (p := ⟨gb337, 3, none⟩) (Kd.R_far (p := ⟨gb337, 2, none⟩) (Kd.R_far (p := ⟨gb337, 1, none⟩) (Kd.R_far (p := ⟨gb337, 0, none⟩) (Kd.R_mono HO_16.out (fun k_ hk => (⟨hk, hk.2⟩ : _ ∧ k_ ≠ gb337))) (fun _ hk => hk.2) (.int .i64 ((rd_T25 l1 x72_3).f0))) (fun _ hk => hk.2) (.int .i64 ((rd_T25 l1 x72_3).f1))) (fun _ hk => hk.2) (.int .i64 ((rd_T25 l1 x72_3).f2))) (fun _ hk => hk.2) (.int .i64 ((rd_T25 l1 x72_3).f3))) (fun _ hk => hk.2) (.int .i64 ((rd_T25 l1 x72_3).f4))) (fun _ h_ => h_.1)))) (by decide) hg); have n1_ := Aside0.mk (Kd.R_over' (by (with_reducible repeat (first | apply Kd.R_alloc | apply Kd.R_drewN | apply Kd.R_drew)); exact (Kd.R_mono (Kd.R_far (p := ⟨gb337, 4, none⟩) (Kd.R_far (p := ⟨gb337, 3, none⟩) (Kd.R_far (p := ⟨gb337, 2, none⟩) (Kd.R_far (p := ⟨gb337, 1, none⟩) (Kd.R_far (p := ⟨gb337, 0, none⟩) (Kd.R_types HO_13.out BK337.out (by decide)) (fun _ hk => hk.2) (.int .i64 ((rd_T25 l1 x72_3).f0))) (fun _ hk => hk.2) (.int .i64 ((rd_T25 l1 x72_3).f1))) (fun _ hk => hk.2) (.int .i64 ((rd_T25 l1 x72_3).f2))) (fun _ hk => hk.2) (.int .i64 ((rd_T25 l1 x72_3).f3))) (fun _ hk => hk.2) (.int .i64 ((rd_T25 l1 x72_3).f4))) (fun _ h_ => h_.1))) (Kd.R_typed (by (with_reducible repeat (first | apply Kd.R_alloc | apply Kd.R_drewN | apply Kd.R_drew)); exact (Kd.R_mono (Kd.R_far (p := ⟨gb337, 4, none⟩) (Kd.R_far (p := ⟨gb337, 3, none⟩) (Kd.R_far (p := ⟨gb337, 2, none⟩) (Kd.R_far (p := ⟨gb337, 1, none⟩) (Kd.R_far (p := ⟨gb337, 0, none⟩) (Kd.R_mono HO_16.out (fun k_ hk => (⟨hk, hk.2⟩ : _ ∧ k_ ≠ gb337))) (fun _ hk => hk.2) (.int .i64 ((rd_T25 l1 x72_3).f0))) (fun _ hk => hk.2) (.int .i64 ((rd_T25 l1 x72_3).f1))) (fun _ hk => hk.2) (.int .i64 ((rd_T25 l1 x72_3).f2))) (fun _ hk => hk.2) (.int .i64 ((rd_T25 l1 x72_3).f3))) (fun _ hk => hk.2) (.int .i64 ((rd_T25 l1 x72_3).f4))) (fun _ h_ => h_.1)))) (by decide) hg); have n2_ := Aside0.mk (Kd.R_over' (by (with_reducible repeat (first | apply Kd.R_alloc | apply Kd.R_drewN | apply Kd.R_drew)); exact (Kd.R_mono (Kd.R_far (p := ⟨gb337, 4, none⟩) (Kd.R_far (p := ⟨gb337, 3, none⟩) (Kd.R_far (p := ⟨gb337, 2, none⟩) (Kd.R_far (p := ⟨gb337, 1, none⟩) (Kd.R_far (p := ⟨gb337, 0, none⟩) (Kd.R_types HO_17.out BK337.out (by decide)) (fun _ hk => hk.2) (.int .i64 ((rd_T25 l1 x72_3).f0))) (fun _ hk => hk.2) (.int .i64 ((rd_T25 l1 x72_3).f1))) (fun _ hk => hk.2) (.int .i64 ((rd_T25 l1 x72_3).f2))) (fun _ hk => hk.2) (.int .i64 ((rd_T25 l1 x72_3).f3))) (fun _ hk => hk.2) (.int .i64 ((rd_T25 l1 x72_3).f4))) (fun _ h_ => h_.1))) (Kd.R_typed (by (with_reducible repeat (first | apply Kd.R_alloc | apply Kd.R_drewN | apply Kd.R_drew)); exact (Kd.R_mono (Kd.R_far (p := ⟨gb337, 4, none⟩) (Kd.R_far (p := ⟨gb337, 3, none⟩) (Kd.R_far (p := ⟨gb337, 2, none⟩) (Kd.R_far (p := ⟨gb337, 1, none⟩) (Kd.R_far (p := ⟨gb337, 0, none⟩) (Kd.R_mono HO_16.out (fun k_ hk => (⟨hk, hk.2⟩ : _ ∧ k_ ≠ gb337))) (fun _ hk => hk.2) (.int .i64 ((rd_T25 l1 x72_3).f0))) (fun _ hk => hk.2) (.int .i64 ((rd_T25 l1 x72_3).f1))) (fun _ hk => hk.2) (.int .i64 ((rd_T25 l1 x72_3).f2))) (fun _ hk => hk.2) (.int .i64 ((rd_T25 l1 x72_3).f3))) (fun _ hk => hk.2) (.int .i64 ((rd_T25 l1 x72_3).f4))) (fun _ h_ => h_.1)))) (by decide) hg); have n3_ := Aside0.mk (blk_grown (g := gb337) (o := .cells #[.int .i64 ((rd_T25 l1 x72_3).f0), .int .i64 ((rd_T25 l1 x72_3).f1), .int .i64 ((rd_T25 l1 x72_3).f2), .int .i64 ((rd_T25 l1 x72_3).f3), .int .i64 ((rd_T25 l1 x72_3).f4)] 25 (0, 0)) (by (with_reducible repeat (first | refine blk_drewN ?_ _ | refine blk_drew ?_ | refine blk_alloc ?_ _)); refine blk_put (cs := #[.int .i64 ((rd_T25 l1 x72_3).f0), .int .i64 ((rd_T25 l1 x72_3).f1), .int .i64 ((rd_T25 l1 x72_3).f2), .int .i64 ((rd_T25 l1 x72_3).f3), .int .i64 0]) ?_ 4 _ rfl; (with_reducible repeat (first | refine blk_drewN ?_ _ | refine blk_drew ?_ | refine blk_alloc ?_ _)); refine blk_put (cs := #[.int .i64 ((rd_T25 l1 x72_3).f0), .int .i64 ((rd_T25 l1 x72_3).f1), .int .i64 ((rd_T25 l1 x72_3).f2), .int .i64 0, .int .i64 0]) ?_ 3 _ rfl; (with_reducible repeat (first | refine blk_drewN ?_ _ | refine blk_drew ?_ | refine blk_alloc ?_ _)); refine blk_put (cs := #[.int .i64 ((rd_T25 l1 x72_3).f0), .int .i64 ((rd_T25 l1 x72_3).f1), .int .i64 0, .int .i64 0, .int .i64 0]) ?_ 2 _ rfl; (with_reducible repeat (first | refine blk_drewN ?_ _ | refine blk_drew ?_ | refine blk_alloc ?_ _)); refine blk_put (cs := #[.int .i64 ((rd_T25 l1 x72_3).f0), .int .i64 0, .int .i64 0, .int .i64 0, .int .i64 0]) ?_ 1 _ rfl; (with_reducible repeat (first | refine blk_drewN ?_ _ | refine blk_drew ?_ | refine blk_alloc ?_ _)); refine blk_put (cs := #[.int .i64 0, .int .i64 0, .int .i64 0, .int .i64 0, .int .i64 0]) ?_ 0 _ rfl; (with_reducible repeat (first | refine blk_drewN ?_ _ | refine blk_drew ?_ | refine blk_alloc ?_ _)); exact BK337.out) hg (Kd.R_away HO_16.out (fun _ hk => hk.2))); have n4_ := Aside0.mk (hb); have n5_ := Aside0.mk (ho); clear HO_9; clear HO_13; clear HO_17; clear BK337; clear HB; clear HO_16; have HO_9 := n0_; have HO_13 := n1_; have HO_17 := n2_; have BK337 := n3_; have HB := n4_; have HO340 := n5_; clear n0_ n1_ n2_ n3_ n4_ n5_; clear ho hb hg hat; obtain ⟨Ao51, co51, eo51⟩ := Kd.R_slice HO_9.out; subst eo51; have p341 : 0 ≤ (x72_3 : Int) := of_decide_eq_true (by first | (with_reducible assumption) | assumption); have q341 : x72_3 < (t316.length : Int) := of_decide_eq_true (by first | (with_reducible assumption) | assumption); obtain ⟨ad341, e341, hx341_0⟩ := Kd.at_int (Kd.R_reads' HO_9.out).2.2 x72_3 p341 q341; cases e341; replace p341 := eq_true p341; replace q341 := eq_true q341) | ((with_reducible refine gate_builtin (b := .append) (xs := #[.tmp 85, .tmp 90]) rfl ?_); (try (refine gate_guard (by rfl) ?_; dsimp only)); at_builtin; refine Kd.R_append (Kd.int .i64) (w0 := w) w.heap.size rfl (.tmp 85) (.tmp 90) 35 3 (.int .i64 0) 8 rfl Try.underlying35 info3 rfl (by decide) (by omega) u17 x17_3 (rd t316 x72_3) [.int .i64 (rd t316 x72_3)] (fun k_ => some k_ ≠ (.slice (some ad341) t316.length co51 : Value).ownBlock ∧ some k_ ≠ (v334 : Value).ownBlock) (fun _ => False) rfl rfl ?aP (fun _ hk => hk.elim) ?aF ?aO ?aB ?aS ?aL ?_; (case aP => exact rfl); (case aB => exact (by repeat (first | (with_reducible first | exact HB.out | apply below_alloc | apply pw_below_drewN | apply below_drew1 | refine below_set ?_ GE337.out) | exact HB.out))); (case aF => exact (fun k_ hk => ⟨Kd.fresh' (Kd.R_lt (by (with_reducible repeat (first | apply Kd.R_alloc | apply Kd.R_drewN | apply Kd.R_drew)); exact HO_9.out)) k_ hk, Kd.fresh' (Kd.R_lt (by (with_reducible repeat (first | apply Kd.R_alloc | apply Kd.R_drewN | apply Kd.R_drew)); exact HO_13.out)) k_ hk⟩)); (case aO => exact (by (with_reducible repeat (first | apply Kd.R_alloc | apply Kd.R_drewN | apply Kd.R_drew)); exact HO_17.out)); (case aS => exact (below_size (by repeat (first | (with_reducible first | exact HB.out | apply below_alloc | apply pw_below_drewN | apply below_drew1 | refine below_set ?_ GE337.out) | exact HB.out)))); (case aL => have := LMc47.out; omega); intro v343 w52 ho hb hg hat; rw [← Ny342.out] at ho; have n0_ := Aside0.mk (Kd.R_after (ok := (fun k_ => some k_ ≠ (v334 : Value).ownBlock)) (by (with_reducible repeat (first | apply Kd.R_alloc | apply Kd.R_drewN | apply Kd.R_drew)); exact HO_9.out) hg hat); have n1_ := Aside0.mk (Kd.R_after (ok := (fun k_ => some k_ ≠ (.slice (some ad341) t316.length co51 : Value).ownBlock)) (by (with_reducible repeat (first | apply Kd.R_alloc | apply Kd.R_drewN | apply Kd.R_drew)); exact HO_13.out) hg hat); have n2_ := Aside0.mk (blk_grown (g := gb337) (o := .cells #[.int .i64 ((rd_T25 l1 x72_3).f0), .int .i64 ((rd_T25 l1 x72_3).f1), .int .i64 ((rd_T25 l1 x72_3).f2), .int .i64 ((rd_T25 l1 x72_3).f3), .int .i64 ((rd_T25 l1 x72_3).f4)] 25 (0, 0)) (by (with_reducible repeat (first | refine blk_drewN ?_ _ | refine blk_drew ?_ | refine blk_alloc ?_ _)); exact BK337.out) hg (Kd.R_ne HO_17.out BK337.out (by decide))); have n3_ := Aside0.mk (Kd.R_over' (by (with_reducible repeat (first | apply Kd.R_alloc | apply Kd.R_drewN | apply Kd.R_drew)); exact HO340.out) (Kd.R_typed (by (with_reducible repeat (first | apply Kd.R_alloc | apply Kd.R_drewN | apply Kd.R_drew)); exact HO_17.out)) (by decide) hg); have n4_ := Aside0.mk (hb); have n5_ := Aside0.mk (ho); clear HO_9; clear HO_13; clear BK337; clear HO340; clear HB; clear HO_17; have HO_9 := n0_; have HO_13 := n1_; have BK337 := n2_; have HO340 := n3_; have HB := n4_; have HO344 := n5_; clear n0_ n1_ n2_ n3_ n4_ n5_; clear ho hb hg hat))
                   go_roundg k3
                   case measure => have := HJ4.out; have := HJ16.out; have := HK3.out; omega
                   case rel => exact ⟨(y338), (y342), (wrap64 (x72_3 + 1)), (by first | rfl | (simp; done) | (simp [*]; done)), H', ⟨by have := HJ4.out; have := HJ16.out; have := HK3.out; omega⟩, ⟨by (with_reducible repeat (first | apply Kd.R_alloc | apply Kd.R_drewN | apply Kd.R_drew)); exact HO_9.out⟩, ⟨by (with_reducible repeat (first | apply Kd.R_alloc | apply Kd.R_drewN | apply Kd.R_drew)); exact HO_13.out⟩, ⟨by (with_reducible repeat (first | apply Kd.R_alloc | apply Kd.R_drewN | apply Kd.R_drew)); exact Kd.R_mono HO340.out (fun _ hk => trivial)⟩, ⟨by (with_reducible repeat (first | apply Kd.R_alloc | apply Kd.R_drewN | apply Kd.R_drew)); exact HO344.out⟩, ⟨by repeat (first | (with_reducible first | exact HB.out | apply below_alloc | apply pw_below_drewN | apply below_drew1 | refine below_set ?_ GE337.out) | exact HB.out)⟩⟩
                  ·rw [if_neg c47] at H
                   exact absurd H (by simp)
                 ·rw [if_neg c46] at H
                  exact absurd H (by simp)
                ·rw [if_neg c45] at H
                 exact absurd H (by simp)
               ·rw [if_neg c44] at H
                have c44b0 : (((rd_T25 l1 x72_3).f4) == a3) = false := beq_eq_false_iff_ne.mpr c44
                have c44b1 : (((rd_T25 l1 x72_3).f4) != a3) = true := bne_iff_ne.mpr c44
                have H' := Aside0.mk H
                clear H
                have p336 : 0 ≤ (x72_3 : Int) := of_decide_eq_true (by first | (with_reducible assumption) | assumption)
                have q336 : x72_3 < (l1.length : Int) := of_decide_eq_true (by first | (with_reducible assumption) | assumption)
                obtain ⟨ad336, e336, hx336_0, hx336_1, hx336_2, hx336_3, hx336_4⟩ := at_T25 HR1.out x72_3 p336 q336
                cases e336
                replace hx336_0 := (HB.out.cell (World.block_lt_of_cell? w _ hx336_0)).trans hx336_0
                replace hx336_1 := (HB.out.cell (World.block_lt_of_cell? w _ hx336_1)).trans hx336_1
                replace hx336_2 := (HB.out.cell (World.block_lt_of_cell? w _ hx336_2)).trans hx336_2
                replace hx336_3 := (HB.out.cell (World.block_lt_of_cell? w _ hx336_3)).trans hx336_3
                replace hx336_4 := (HB.out.cell (World.block_lt_of_cell? w _ hx336_4)).trans hx336_4
                replace p336 := eq_true p336
                replace q336 := eq_true q336
                go_wp2_with (first | ((with_reducible refine gate_dst (N := 19) rfl ?_); (try (refine gate_guard (by rfl) ?_; dsimp only)); refine box_event ?hg (N := 19) ?hd (cs := #[.int .i64 0, .int .i64 0, .int .i64 0, .int .i64 0, .int .i64 0]) (t := 25) ?hr ?_; (case hd => rfl); (case hg => rfl); (case hr => first | (go_simp; done) | (go_simp; rfl)); intro gb337 hg w53 hbox hb; have n0_ := Aside0.mk (Kd.R_below (by (with_reducible repeat (first | apply Kd.R_alloc | apply Kd.R_drewN | apply Kd.R_drew)); exact HO_9.out) hb); have n1_ := Aside0.mk (Kd.R_below (by (with_reducible repeat (first | apply Kd.R_alloc | apply Kd.R_drewN | apply Kd.R_drew)); exact HO_13.out) hb); have n2_ := Aside0.mk (Kd.R_below (Kd.R_elderB (by (with_reducible repeat (first | apply Kd.R_alloc | apply Kd.R_drewN | apply Kd.R_drew)); exact HO_16.out) gb337 (Nat.le_of_eq hg.symm)) hb); have n3_ := Aside0.mk (Kd.R_below (by (with_reducible repeat (first | apply Kd.R_alloc | apply Kd.R_drewN | apply Kd.R_drew)); exact HO_17.out) hb); have n4_ := Aside0.mk (below_step (by repeat (first | (with_reducible first | exact HB.out | apply below_alloc | apply pw_below_drewN | apply below_drew1) | exact HB.out)) hb); have n5_ := Aside0.mk (hbox); have n6_ := Aside0.mk ((by rw [hg]; exact (below_size (by repeat (first | (with_reducible first | exact HB.out | apply below_alloc | apply pw_below_drewN | apply below_drew1) | exact HB.out))) : w.heap.size ≤ gb337)); have n7_ := Aside0.mk ((by rw [hg]; exact (below_size (by repeat (first | (with_reducible first | exact HB.out | apply below_alloc | apply pw_below_drewN | apply below_drew1) | exact HB.out))) : w.heap.size ≤ gb337)); clear HO_9; clear HO_13; clear HO_16; clear HO_17; clear HB; have HO_9 := n0_; have HO_13 := n1_; have HO_16 := n2_; have HO_17 := n3_; have HB := n4_; have BK337 := n5_; have GW337 := n6_; have GE337 := n7_; clear n0_ n1_ n2_ n3_ n4_ n5_ n6_ n7_; clear hb hbox hg; have hcz54_0 : w53.cell? ⟨gb337, 0, none⟩ = some (.int .i64 0) := (blk_cell BK337.out 0).trans rfl; have hcz54_1 : w53.cell? ⟨gb337, 1, none⟩ = some (.int .i64 0) := (blk_cell BK337.out 1).trans rfl; have hcz54_2 : w53.cell? ⟨gb337, 2, none⟩ = some (.int .i64 0) := (blk_cell BK337.out 2).trans rfl; have hcz54_3 : w53.cell? ⟨gb337, 3, none⟩ = some (.int .i64 0) := (blk_cell BK337.out 3).trans rfl; have hcz54_4 : w53.cell? ⟨gb337, 4, none⟩ = some (.int .i64 0) := (blk_cell BK337.out 4).trans rfl; have hfz54_0 := blk_frozen BK337.out 0; have hfz54_1 := blk_frozen BK337.out 1; have hfz54_2 := blk_frozen BK337.out 2; have hfz54_3 := blk_frozen BK337.out 3; have hfz54_4 := blk_frozen BK337.out 4))
                go_roundg k3
                case measure => have := HJ4.out; have := HJ16.out; have := HK3.out; omega
                case rel => exact ⟨(x16_3), (x17_3), (wrap64 (x72_3 + 1)), (by first | rfl | (simp; done) | (simp [*]; done)), H', ⟨by have := HJ4.out; have := HJ16.out; have := HK3.out; omega⟩, ⟨by (with_reducible repeat (first | apply Kd.R_alloc | apply Kd.R_drewN | apply Kd.R_drew)); exact Kd.R_mono (Kd.R_far (p := ⟨gb337, 4, none⟩) (Kd.R_far (p := ⟨gb337, 3, none⟩) (Kd.R_far (p := ⟨gb337, 2, none⟩) (Kd.R_far (p := ⟨gb337, 1, none⟩) (Kd.R_far (p := ⟨gb337, 0, none⟩) (Kd.R_types HO_9.out BK337.out (by decide)) (fun _ hk => hk.2) (.int .i64 ((rd_T25 l1 x72_3).f0))) (fun _ hk => hk.2) (.int .i64 ((rd_T25 l1 x72_3).f1))) (fun _ hk => hk.2) (.int .i64 ((rd_T25 l1 x72_3).f2))) (fun _ hk => hk.2) (.int .i64 ((rd_T25 l1 x72_3).f3))) (fun _ hk => hk.2) (.int .i64 ((rd_T25 l1 x72_3).f4))) (fun _ hk => ⟨hk.1.1, hk.1.2⟩)⟩, ⟨by (with_reducible repeat (first | apply Kd.R_alloc | apply Kd.R_drewN | apply Kd.R_drew)); exact Kd.R_mono (Kd.R_far (p := ⟨gb337, 4, none⟩) (Kd.R_far (p := ⟨gb337, 3, none⟩) (Kd.R_far (p := ⟨gb337, 2, none⟩) (Kd.R_far (p := ⟨gb337, 1, none⟩) (Kd.R_far (p := ⟨gb337, 0, none⟩) (Kd.R_types HO_13.out BK337.out (by decide)) (fun _ hk => hk.2) (.int .i64 ((rd_T25 l1 x72_3).f0))) (fun _ hk => hk.2) (.int .i64 ((rd_T25 l1 x72_3).f1))) (fun _ hk => hk.2) (.int .i64 ((rd_T25 l1 x72_3).f2))) (fun _ hk => hk.2) (.int .i64 ((rd_T25 l1 x72_3).f3))) (fun _ hk => hk.2) (.int .i64 ((rd_T25 l1 x72_3).f4))) (fun _ hk => ⟨hk.1.1, hk.1.2⟩)⟩, ⟨by (with_reducible repeat (first | apply Kd.R_alloc | apply Kd.R_drewN | apply Kd.R_drew)); exact Kd.R_mono (Kd.R_far (p := ⟨gb337, 4, none⟩) (Kd.R_far (p := ⟨gb337, 3, none⟩) (Kd.R_far (p := ⟨gb337, 2, none⟩) (Kd.R_far (p := ⟨gb337, 1, none⟩) (Kd.R_far (p := ⟨gb337, 0, none⟩) (Kd.R_mono HO_16.out (fun k_ hk => (⟨hk, hk.2⟩ : _ ∧ k_ ≠ gb337))) (fun _ hk => hk.2) (.int .i64 ((rd_T25 l1 x72_3).f0))) (fun _ hk => hk.2) (.int .i64 ((rd_T25 l1 x72_3).f1))) (fun _ hk => hk.2) (.int .i64 ((rd_T25 l1 x72_3).f2))) (fun _ hk => hk.2) (.int .i64 ((rd_T25 l1 x72_3).f3))) (fun _ hk => hk.2) (.int .i64 ((rd_T25 l1 x72_3).f4))) (fun _ hk => trivial)⟩, ⟨by (with_reducible repeat (first | apply Kd.R_alloc | apply Kd.R_drewN | apply Kd.R_drew)); exact Kd.R_mono (Kd.R_far (p := ⟨gb337, 4, none⟩) (Kd.R_far (p := ⟨gb337, 3, none⟩) (Kd.R_far (p := ⟨gb337, 2, none⟩) (Kd.R_far (p := ⟨gb337, 1, none⟩) (Kd.R_far (p := ⟨gb337, 0, none⟩) (Kd.R_types HO_17.out BK337.out (by decide)) (fun _ hk => hk.2) (.int .i64 ((rd_T25 l1 x72_3).f0))) (fun _ hk => hk.2) (.int .i64 ((rd_T25 l1 x72_3).f1))) (fun _ hk => hk.2) (.int .i64 ((rd_T25 l1 x72_3).f2))) (fun _ hk => hk.2) (.int .i64 ((rd_T25 l1 x72_3).f3))) (fun _ hk => hk.2) (.int .i64 ((rd_T25 l1 x72_3).f4))) (fun _ hk => ⟨hk.1.1, hk.1.2⟩)⟩, ⟨by repeat (first | (with_reducible first | exact HB.out | apply below_alloc | apply pw_below_drewN | apply below_drew1 | refine below_set ?_ GE337.out) | exact HB.out)⟩⟩
              ·rw [if_neg c43] at H
               exact absurd H (by simp)
             ·rw [if_neg c42] at H
              exact absurd H (by simp)
            ·rw [if_neg c41] at H
             have c41b0 : decide (x72_3 < (l1.length : Int)) = false := decide_eq_false c41
             clear c41
             replace H := Option.bind_eq_some_iff.mp H
             obtain ⟨t345, A550, H⟩ := H
             try dsimp only at H
             have A55 := Aside0.mk A550
             clear A550
             replace H := Option.bind_eq_some_iff.mp H
             obtain ⟨⟨t348, t349, t350⟩, A560, H⟩ := H
             try dsimp only at H
             have A56 := Aside0.mk A560
             clear A560
             by_cases c57 : t333 = 0
             ·rw [if_pos c57] at H
              have c57b0 : (t333 == 0) = true := beq_iff_eq.mpr c57
              have c57b1 : (t333 != 0) = false := bne_eq_false_iff_eq.mpr c57
              clear c57
              by_cases c58 : t350 = 0
              ·rw [if_pos c58] at H
               have c58b0 : (t350 == 0) = true := beq_iff_eq.mpr c58
               have c58b1 : (t350 != 0) = false := bne_eq_false_iff_eq.mpr c58
               clear c58
               by_cases c59 : 0 ≤ ji29
               ·rw [if_pos c59] at H
                have c59b0 := eq_true c59
                have c59b1 : decide (0 ≤ ji29) = true := decide_eq_true c59
                clear c59
                by_cases c60 : ji29 ≤ (t316.length : Int)
                ·rw [if_pos c60] at H
                 have c60b0 := eq_true c60
                 have c60b1 : decide (ji29 ≤ (t316.length : Int)) = true := decide_eq_true c60
                 clear c60
                 obtain ⟨y353, hy353⟩ : ∃ y_ : List Int, y_ = (t316.take (ji29 : Int).toNat) := ⟨_, rfl⟩
                 replace H : ((slices_Equal_int_int.f k3 t331 y353).bind fun t357 => (if t357 = true then ((slices_Equal_int_int.f k3 t348 x17_3).bind fun t358 => (some t358)) else (some false))) = some r := by first | (rw [hy353]; with_reducible exact H) | (have H2_ := (Option.bind_some _ _).symm.trans H; rw [hy353]; with_reducible exact H2_) | (have H2_ := (Option.bind_some _ _).symm.trans H; with_reducible exact H2_) | with_reducible exact H | (rw [hy353]; exact H) | exact H
                 have Ny353 := Aside0.mk hy353
                 clear hy353
                 replace H := Option.bind_eq_some_iff.mp H
                 obtain ⟨t357, A610, H⟩ := H
                 try dsimp only at H
                 have A61 := Aside0.mk A610
                 clear A610
                 by_cases c62 : t357 = true
                 ·subst c62
                  have H1 : ((slices_Equal_int_int.f k3 t348 x17_3).bind fun t358 => (some t358)) = some r := by rw [if_pos rfl] at H; exact H
                  clear H; have H := H1; clear H1
                  replace H := Option.bind_eq_some_iff.mp H
                  obtain ⟨t358, A630, H⟩ := H
                  try dsimp only at H
                  have A63 := Aside0.mk A630
                  clear A630
                  obtain rfl := Option.some.inj H
                  go_wp2_with (first | ((with_reducible refine gate_callee (f := 13) rfl ?_); refine goesL_ (some 95) rfl rfl Try.func13 (by kernel_rfl) rfl #[.slice A0 l0.length c0] rfl (by (try simp only [List.map_toArray, List.map_cons, List.map_nil]); first | done | rfl | (simp only [List.length_drop, List.length_take]; rfl)) ?_; (with_reducible refine (api_Relief_13.calls _ _ l0 t345 _ ?side1 ?side2 A55.out).mono ?_); (case side1 => repeat (first | exact (Kd.C_below HR0.out HB.out) | (with_reducible refine Kd.C_alloc ?_ _) | (with_reducible refine Kd.C_drewN ?_ _) | (with_reducible refine Kd.C_drew ?_))); (case side2 => exact HC0.out); rintro e w64 ⟨v346, rfl, ho0, hb⟩; refine ⟨_, rfl, ?_⟩; have n0_ := Aside0.mk (Kd.R_below (by (with_reducible repeat (first | apply Kd.R_alloc | apply Kd.R_drewN | apply Kd.R_drew)); exact HO_9.out) hb); have n1_ := Aside0.mk (Kd.R_below (by (with_reducible repeat (first | apply Kd.R_alloc | apply Kd.R_drewN | apply Kd.R_drew)); exact HO_13.out) hb); have n2_ := Aside0.mk (Kd.R_below (by (with_reducible repeat (first | apply Kd.R_alloc | apply Kd.R_drewN | apply Kd.R_drew)); exact HO_16.out) hb); have n3_ := Aside0.mk (Kd.R_below (by (with_reducible repeat (first | apply Kd.R_alloc | apply Kd.R_drewN | apply Kd.R_drew)); exact HO_17.out) hb); have n4_ := Aside0.mk (Kd.R_lower ho0 (below_size (by repeat (first | (with_reducible first | exact HB.out | apply below_alloc | apply pw_below_drewN | apply below_drew1) | exact HB.out)))); have n5_ := Aside0.mk (below_step (by repeat (first | (with_reducible first | exact HB.out | apply below_alloc | apply pw_below_drewN | apply below_drew1) | exact HB.out)) hb); clear HO_9; clear HO_13; clear HO_16; clear HO_17; clear HB; have HO_9 := n0_; have HO_13 := n1_; have HO_16 := n2_; have HO_17 := n3_; have HO347 := n4_; have HB := n5_; clear n0_ n1_ n2_ n3_ n4_ n5_; (try clear hb); (try clear hb2); (try clear hk); (try clear hi); (try clear ho0); obtain ⟨Ao65, co65, eo65⟩ := Kd.R_slice HO347.out; subst eo65; obtain ⟨Ao66, co66, eo66⟩ := Kd.R_slice HO_16.out; subst eo66) | ((with_reducible refine gate_callee (f := 15) rfl ?_); refine goesL_ (some 97) rfl rfl Try.func15 (by kernel_rfl) rfl #[.slice Ao65 t345.length co65, .slice Ao66 x16_3.length co66] rfl (by (try simp only [List.map_toArray, List.map_cons, List.map_nil]); first | done | rfl | (simp only [List.length_drop, List.length_take]; rfl)) ?_; (with_reducible refine (relief_Grant.calls k3 _ _ t345 _ _ x16_3 t348 t349 t350 _ ?side1 ?side2 ?side3 ?side4 A56.out).mono ?_); (case side1 => repeat (first | exact (Kd.R_reads' HO347.out).2.2 | (with_reducible refine Kd.C_alloc ?_ _) | (with_reducible refine Kd.C_drewN ?_ _) | (with_reducible refine Kd.C_drew ?_))); (case side2 => exact (Kd.R_reads' HO347.out).2.1); (case side3 => repeat (first | exact (Kd.R_reads' HO_16.out).2.2 | (with_reducible refine Kd.C_alloc ?_ _) | (with_reducible refine Kd.C_drewN ?_ _) | (with_reducible refine Kd.C_drew ?_))); (case side4 => exact (Kd.R_reads' HO_16.out).2.1); rintro e w67 ⟨v351, rfl, ho0, hb⟩; refine ⟨_, rfl, ?_⟩; have n0_ := Aside0.mk (Kd.R_elder' (by (with_reducible repeat (first | apply Kd.R_alloc | apply Kd.R_drewN | apply Kd.R_drew)); exact HO_9.out) (Kd.R_base ho0) hb); have n1_ := Aside0.mk (Kd.R_elder' (by (with_reducible repeat (first | apply Kd.R_alloc | apply Kd.R_drewN | apply Kd.R_drew)); exact HO_13.out) (Kd.R_base ho0) hb); have n2_ := Aside0.mk (Kd.R_below (by (with_reducible repeat (first | apply Kd.R_alloc | apply Kd.R_drewN | apply Kd.R_drew)); exact HO_16.out) hb); have n3_ := Aside0.mk (Kd.R_elder' (by (with_reducible repeat (first | apply Kd.R_alloc | apply Kd.R_drewN | apply Kd.R_drew)); exact HO_17.out) (Kd.R_base ho0) hb); have n4_ := Aside0.mk (Kd.R_below (by (with_reducible repeat (first | apply Kd.R_alloc | apply Kd.R_drewN | apply Kd.R_drew)); exact HO347.out) hb); have n5_ := Aside0.mk (Kd.R_lower (Kd.R_new' (Kd.R_new' (Kd.R_new' ho0 (Kd.R_lt (by (with_reducible repeat (first | apply Kd.R_alloc | apply Kd.R_drewN | apply Kd.R_drew)); exact HO_9.out))) (Kd.R_lt (by (with_reducible repeat (first | apply Kd.R_alloc | apply Kd.R_drewN | apply Kd.R_drew)); exact HO_13.out))) (Kd.R_lt (by (with_reducible repeat (first | apply Kd.R_alloc | apply Kd.R_drewN | apply Kd.R_drew)); exact HO_17.out))) (below_size (by repeat (first | (with_reducible first | exact HB.out | apply below_alloc | apply pw_below_drewN | apply below_drew1) | exact HB.out)))); have n6_ := Aside0.mk (below_step (by repeat (first | (with_reducible first | exact HB.out | apply below_alloc | apply pw_below_drewN | apply below_drew1) | exact HB.out)) hb); clear HO_9; clear HO_13; clear HO_16; clear HO_17; clear HO347; clear HB; have HO_9 := n0_; have HO_13 := n1_; have HO_16 := n2_; have HO_17 := n3_; have HO347 := n4_; have HO352 := n5_; have HB := n6_; clear n0_ n1_ n2_ n3_ n4_ n5_ n6_; (try clear hb); (try clear hb2); (try clear hk); (try clear hi); (try clear ho0); obtain ⟨Ao69, co69, eo69⟩ := Kd.R_slice HO_9.out; subst eo69; have q68 : (ji29 : Int) ≤ ((t316.length : Int) : Int) := of_decide_eq_true (by first | (with_reducible assumption) | assumption); obtain ⟨i068, hi068, _, hsz68, _⟩ := info_parts info3; have hroom68 : t316.length ≤ co69 := (Kd.R_reads' HO_9.out).2.1; have hC68 : Kd.C (Kd.int .i64) _ Ao69 t316.length t316 := (Kd.R_reads' HO_9.out).2.2; have hcut68 := cut_to (P := Try.prog) 35 3 .i64 Try.underlying35 hi068 Ao69 t316.length co69 ji29 (of_decide_eq_true (by first | (with_reducible assumption) | assumption)) q68 hroom68; have hr68 := Kd.C_take (m := (ji29 : Int).toNat) hC68 (by omega); have hy68 : y353.length = (ji29 : Int).toNat := (by rw [Ny353.out, List.length_take]; omega); rw [← Ny353.out] at hr68; rw [← hy68] at hcut68; have HR356 := Aside0.mk hr68; have HC356 := Aside0.mk (show y353.length ≤ co69 from by omega); clear hr68 hC68 hroom68 hi068 hsz68; have KY68 := Aside0.mk hy68; clear hy68; have KL68 := Aside0.mk (show (ji29 : Int).toNat ≤ t316.length from by omega); replace q68 := eq_true q68; obtain ⟨Ao70, co70, eo70⟩ := Kd.R_slice HO_13.out; subst eo70) | (go_at_call 25; (with_reducible refine (slices_Equal_int_int.calls k3 _ _ t331 _ _ y353 true _ ?side1 ?side2 ?side3 ?side4 A61.out).mono ?_); (case side1 => repeat (first | exact (Kd.R_reads' HO_13.out).2.2 | (with_reducible refine Kd.C_alloc ?_ _) | (with_reducible refine Kd.C_drewN ?_ _) | (with_reducible refine Kd.C_drew ?_))); (case side2 => exact (Kd.R_reads' HO_13.out).2.1); (case side3 => repeat (first | exact (by repeat (first | (with_reducible exact HR356.out) | (with_reducible refine Kd.C_alloc ?_ _) | (with_reducible refine Kd.C_drewN ?_ _) | (with_reducible refine Kd.C_drew ?_) | exact HR356.out)) | (with_reducible refine Kd.C_alloc ?_ _) | (with_reducible refine Kd.C_drewN ?_ _) | (with_reducible refine Kd.C_drew ?_))); (case side4 => exact HC356.out); rintro e w' ⟨rfl, ⟨nd, rfl⟩⟩; obtain ⟨Ao71, co71, eo71⟩ := Kd.R_slice HO352.out; subst eo71; obtain ⟨Ao72, co72, eo72⟩ := Kd.R_slice HO_17.out; subst eo72) | (go_at_call 25; (with_reducible refine (slices_Equal_int_int.calls k3 _ _ t348 _ _ x17_3 t358 _ ?side1 ?side2 ?side3 ?side4 A63.out).mono ?_); (case side1 => repeat (first | exact (Kd.R_reads' HO352.out).2.2 | (with_reducible refine Kd.C_alloc ?_ _) | (with_reducible refine Kd.C_drewN ?_ _) | (with_reducible refine Kd.C_drew ?_))); (case side2 => exact (Kd.R_reads' HO352.out).2.1); (case side3 => repeat (first | exact (Kd.R_reads' HO_17.out).2.2 | (with_reducible refine Kd.C_alloc ?_ _) | (with_reducible refine Kd.C_drewN ?_ _) | (with_reducible refine Kd.C_drew ?_))); (case side4 => exact (Kd.R_reads' HO_17.out).2.1); rintro e w' ⟨rfl, ⟨nd, rfl⟩⟩))
                  go_ret
                  exact ⟨by first | rfl | (simp [errW_none, errW_some] <;> rfl) | (simp only [← hji29]; first | rfl | (simp [errW_none, errW_some] <;> rfl)) | (simp [*, errW_none, errW_some] <;> rfl), by repeat (first | (with_reducible first | exact HB.out | apply below_alloc | apply pw_below_drewN | apply below_drew1) | exact HB.out)⟩
                 ·replace c62 := Bool.eq_false_iff.mpr c62
                  subst c62
                  have H1 : (some false) = some r := by rw [if_neg (show ¬ (false = true) by decide)] at H; exact H
                  clear H; have H := H1; clear H1
                  rw [hr_] at H; exact absurd H (by simp)
                ·rw [if_neg c60] at H
                 exact absurd H (by simp)
               ·rw [if_neg c59] at H
                exact absurd H (by simp)
              ·rw [if_neg c58] at H
               have c58b0 : (t350 == 0) = false := beq_eq_false_iff_ne.mpr c58
               have c58b1 : (t350 != 0) = true := bne_iff_ne.mpr c58
               rw [hr_] at H; exact absurd H (by simp)
             ·rw [if_neg c57] at H
              have c57b0 : (t333 == 0) = false := beq_eq_false_iff_ne.mpr c57
              have c57b1 : (t333 != 0) = true := bne_iff_ne.mpr c57
              rw [hr_] at H; exact absurd H (by simp)
         ·rw [if_neg c31] at H
          exact absurd H (by simp)
        ·rw [if_neg c30] at H
         exact absurd H (by simp)
end Go.Proofs.Ytccocolcgdiglaa.X
