import Derived.Test.YtcbmmhedefigeaaCow
import Derived.Test.YtcbmmhedefigeaaRag
import Derived.Test.YtcbmmhedefigeaaAwk8
import Derived.Test.YtcbmmhedefigeaaEq8
import Derived.Test.YtcbmmhedefigeaaAgr
import Derived.Test.YtcbmmhedefigeaaXx3
import Derived.Test.YtcbmmhedefigeaaXx4
/-! The law of Volume, Agrees and Room: the walk. -/
namespace Go.Proofs.Ytcbmmhedefigeaa.X
set_option linter.unusedVariables false
set_option linter.unusedSimpArgs false
open Go.RowKit Go.Shelf Go.Proofs.YtcbmmhedefigeaaW.PrintWords Go.Proofs.YtcbmmhedefigeaaW.PrintLast Go.Proofs.YtcbmmhedefigeaaW.PrintMore
attribute [local go_sem] Oper.semAt_some eqA32

set_option maxRecDepth 100000 in
set_option maxHeartbeats 2000000 in
theorem casks_walk (k : Nat) (n : ByteArray) (p d : Int) (A : Option Addr) (c : Nat) (l : List S30) (tol v : Int) (w : World) (hr : Kd.C k30 w A l.length l) (hc : l.length ≤ c) (few : Bool) (haw : spilelaw10_awake.f k = some true) (hfew : spileref09_Few.f k [⟨n, p, l, d⟩] = some few)
    (h : few = true → ∃ b1 b2 e1 x g q1 q2 i, spileref09_Copy.f k [⟨n, p, l, d⟩] = some [⟨n, p, l, d⟩] ∧ capacity_Volume.f k n p l d = some (b1, b2, e1) ∧ spileref10_Volume.f k n p l d = some (b1, b2, e1) ∧ capacity_Agrees.f k n p l d tol = some (x, g) ∧ spileref10_Agrees.f k n p l d tol = some (x, g) ∧
      capacity_Room.f k n p l d v = some (q1, q2, i) ∧ spileref10_Room.f k n p l d v = some (q1, q2, i)) :
    Calls Try.prog 4 #[cv n p A l.length c d, .int .i64 tol, .int .i64 v] w fun e w' => e = .returned (.bool true) ∧ Below w.heap.size w w' := by
  have HR := Lib.hid hr
  have HC := Lib.hid hc
  have HAW := Lib.hid haw
  have HF := Lib.hid hfew
  clear hr hc haw hfew
  have hu40 := Try.underlying40
  have hu32 := Try.underlying32
  have hge := fun args w => enters_ Try.func18 (by kernel_rfl) rfl args w
  refine (callsIn_wide (n := 5)).1 ?_
  refine callsIn_of_wp_marks Try.func4 rfl trivial ?_
  simp only [Try.ntmps4, List.size_toArray, List.length_cons, List.length_nil, Nat.reduceAdd, Nat.reduceSub, Array.replicate_succ, Array.replicate_zero, List.push_toArray, List.append_toArray, List.nil_append, List.cons_append]
  cases few with
  | false =>
    gi_wp2_with (first
      | (refine ⟨trivial, ?_⟩; gi_at_call 10; refine (callsIn_wide.2 (spilelaw10_awake.calls k true _ HAW.out)).mono ?_; rintro e w1 ⟨rfl, hb1⟩; have HX1 := Lib.hid (blk_below (blk_new w (.cells #[.string n, .int .i64 p, .slice A l.length c, .int .i64 d] 40)) hb1); have HB1 := Lib.hid (below_step (below_alloc (Below.refl w.heap.size w) (.cells #[.string n, .int .i64 p, .slice A l.length c, .int .i64 d] 40)) hb1); have x0_ := (blk_cell HX1.out 0).trans rfl; have x1_ := (blk_cell HX1.out 1).trans rfl; have x2_ := (blk_cell HX1.out 2).trans rfl; have x3_ := (blk_cell HX1.out 3).trans rfl; )
      | (refine ⟨trivial, ?_⟩; gi_at_call 17; refine (callsIn_wide.2 (spileref09_Few.calls k _ _ [⟨n, p, l, d⟩] false _ ?cf0 ?cf1 HF.out)).mono ?_; (case cf0 => exact one_cask (blk_new _ _) HC.out (Kd.C_alloc (Kd.C_below HR.out HB1.out) _)); (case cf1 => exact Nat.le_refl 1); rintro e w2 ⟨rfl, hd2⟩; have hb2 := below_of_drawn hd2; have HX2 := Lib.hid (blk_below (blk_alloc HX1.out (.cells #[.string n, .int .i64 p, .slice A l.length c, .int .i64 d] 40)) hb2); have HB2 := Lib.hid (below_step (below_alloc HB1.out (.cells #[.string n, .int .i64 p, .slice A l.length c, .int .i64 d] 40)) hb2); clear hd2; (try clear x0_ x1_ x2_ x3_); have x0_ := (blk_cell HX2.out 0).trans rfl; have x1_ := (blk_cell HX2.out 1).trans rfl; have x2_ := (blk_cell HX2.out 2).trans rfl; have x3_ := (blk_cell HX2.out 3).trans rfl; ))
    exact ⟨_, by simp [results, Try.f4, go_sem], rfl, HB2.out⟩
  | true =>
    obtain ⟨b1, b2, e1, x, g, q1, q2, i, hcp, hv, hrv, ha, hra, hm, hrm⟩ := h rfl
    have HCP := Lib.hid hcp
    have HV := Lib.hid hv
    have HRV := Lib.hid hrv
    have HA := Lib.hid ha
    have HRA := Lib.hid hra
    have HM := Lib.hid hm
    have HRM := Lib.hid hrm
    clear hcp hv hrv ha hra hm hrm h
    gi_wp2_with (first
      | (refine ⟨trivial, ?_⟩; gi_at_call 10; refine (callsIn_wide.2 (spilelaw10_awake.calls k true _ HAW.out)).mono ?_; rintro e w1 ⟨rfl, hb1⟩; have HX1 := Lib.hid (blk_below (blk_new w (.cells #[.string n, .int .i64 p, .slice A l.length c, .int .i64 d] 40)) hb1); have HB1 := Lib.hid (below_step (below_alloc (Below.refl w.heap.size w) (.cells #[.string n, .int .i64 p, .slice A l.length c, .int .i64 d] 40)) hb1); have x0_ := (blk_cell HX1.out 0).trans rfl; have x1_ := (blk_cell HX1.out 1).trans rfl; have x2_ := (blk_cell HX1.out 2).trans rfl; have x3_ := (blk_cell HX1.out 3).trans rfl; )
      | (refine ⟨trivial, ?_⟩; gi_at_call 17; refine (callsIn_wide.2 (spileref09_Few.calls k _ _ [⟨n, p, l, d⟩] true _ ?cf0 ?cf1 HF.out)).mono ?_; (case cf0 => exact one_cask (blk_new _ _) HC.out (Kd.C_alloc (Kd.C_below HR.out HB1.out) _)); (case cf1 => exact Nat.le_refl 1); rintro e w2 ⟨rfl, hd2⟩; have hb2 := below_of_drawn hd2; have HX2 := Lib.hid (blk_below (blk_alloc HX1.out (.cells #[.string n, .int .i64 p, .slice A l.length c, .int .i64 d] 40)) hb2); have HB2 := Lib.hid (below_step (below_alloc HB1.out (.cells #[.string n, .int .i64 p, .slice A l.length c, .int .i64 d] 40)) hb2); clear hd2; (try clear x0_ x1_ x2_ x3_); have x0_ := (blk_cell HX2.out 0).trans rfl; have x1_ := (blk_cell HX2.out 1).trans rfl; have x2_ := (blk_cell HX2.out 2).trans rfl; have x3_ := (blk_cell HX2.out 3).trans rfl; )
      | (refine ⟨trivial, ?_⟩; gi_at_call 18; refine (callsIn_wide.2 (own_calls18 k w.heap.size n p d A c l _ HX2.out HC.out (Kd.C_below HR.out HB2.out) HCP.out)).mono ?_; rintro e w3 ⟨A1, c1, rfl, hl1, hC1, hb3⟩; have HL1 := Lib.hid hl1; have HC1 := Lib.hid hC1; clear hl1 hC1; have HX3 := Lib.hid (blk_below HX2.out hb3); have HB3 := Lib.hid (below_step HB2.out hb3); )
      | (refine ⟨trivial, ?_⟩; gi_at_call 20; refine (callsIn_wide.2 (capacity_Volume.calls k n p _ _ l d b1 b2 e1 _ HC1.out HL1.out HV.out)).mono ?_; rintro e w4 ⟨rfl, hb4⟩; have HX4 := Lib.hid (blk_below HX3.out hb4); have HB4 := Lib.hid (below_step HB3.out hb4); have HXa := Lib.hid (blk_alloc HX4.out (.cells #[.int .i64 b1, .int .i64 b2] 32)); have HBa := Lib.hid (below_alloc HB4.out (.cells #[.int .i64 b1, .int .i64 b2] 32)); have HKa := Lib.hid (blk_new w4 (.cells #[.int .i64 b1, .int .i64 b2] 32)); (try clear x0_ x1_ x2_ x3_); have x0_ := (blk_cell HXa.out 0).trans rfl; have x1_ := (blk_cell HXa.out 1).trans rfl; have x2_ := (blk_cell HXa.out 2).trans rfl; have x3_ := (blk_cell HXa.out 3).trans rfl; )
      | (refine ⟨trivial, ?_⟩; gi_at_call 21; refine (callsIn_wide.2 (spileref10_Volume.calls k n p _ _ l d b1 b2 e1 _ (Kd.C_below HR.out HBa.out) HC.out HRV.out)).mono ?_; rintro e w5 ⟨rfl, hb5⟩; have HX5 := Lib.hid (blk_below HXa.out hb5); have HB5 := Lib.hid (below_step HBa.out hb5); have HKa5 := Lib.hid (blk_alloc (blk_below HKa.out hb5) (.cells #[.int .i64 b1, .int .i64 b2] 32)); have HXb := Lib.hid (blk_alloc HX5.out (.cells #[.int .i64 b1, .int .i64 b2] 32)); have HBb := Lib.hid (below_alloc HB5.out (.cells #[.int .i64 b1, .int .i64 b2] 32)); have HKb := Lib.hid (blk_new w5 (.cells #[.int .i64 b1, .int .i64 b2] 32)); (try clear x0_ x1_ x2_ x3_); have x0_ := (blk_cell HXb.out 0).trans rfl; have x1_ := (blk_cell HXb.out 1).trans rfl; have x2_ := (blk_cell HXb.out 2).trans rfl; have x3_ := (blk_cell HXb.out 3).trans rfl; )
      | (refine ⟨trivial, ?_⟩; gi_at_call 18; refine (callsIn_wide.2 (own_calls18 k w.heap.size n p d A c l _ HXb.out HC.out (Kd.C_below HR.out HBb.out) HCP.out)).mono ?_; rintro e w6 ⟨A2, c2, rfl, hl2, hC2, hb6⟩; have HL2 := Lib.hid hl2; have HC2 := Lib.hid hC2; clear hl2 hC2; have HX6 := Lib.hid (blk_below HXb.out hb6); have HB6 := Lib.hid (below_step HBb.out hb6); have HKa6 := Lib.hid (blk_below HKa5.out hb6); have HKb6 := Lib.hid (blk_below HKb.out hb6); )
      | (refine ⟨trivial, ?_⟩; gi_at_call 22; refine (callsIn_wide.2 (capacity_Agrees.calls k n p _ _ l d tol x g _ HC2.out HL2.out HA.out)).mono ?_; rintro e w7 ⟨rfl, hb7⟩; have HX7 := Lib.hid (blk_below HX6.out hb7); have HB7 := Lib.hid (below_step HB6.out hb7); have HKa7 := Lib.hid (blk_below HKa6.out hb7); have HKb7 := Lib.hid (blk_below HKb6.out hb7); (try clear x0_ x1_ x2_ x3_); have x0_ := (blk_cell HX7.out 0).trans rfl; have x1_ := (blk_cell HX7.out 1).trans rfl; have x2_ := (blk_cell HX7.out 2).trans rfl; have x3_ := (blk_cell HX7.out 3).trans rfl; )
      | (refine ⟨trivial, ?_⟩; gi_at_call 23; refine (callsIn_wide.2 (spileref10_Agrees.calls k n p _ _ l d tol x g _ (Kd.C_below HR.out HB7.out) HC.out HRA.out)).mono ?_; rintro e w8 ⟨rfl, hb8⟩; have HX8 := Lib.hid (blk_below HX7.out hb8); have HB8 := Lib.hid (below_step HB7.out hb8); have HKa8 := Lib.hid (blk_below HKa7.out hb8); have HKb8 := Lib.hid (blk_below HKb7.out hb8); (try clear x0_ x1_ x2_ x3_); have x0_ := (blk_cell HX8.out 0).trans rfl; have x1_ := (blk_cell HX8.out 1).trans rfl; have x2_ := (blk_cell HX8.out 2).trans rfl; have x3_ := (blk_cell HX8.out 3).trans rfl; )
      | (refine ⟨trivial, ?_⟩; gi_at_call 18; refine (callsIn_wide.2 (own_calls18 k w.heap.size n p d A c l _ HX8.out HC.out (Kd.C_below HR.out HB8.out) HCP.out)).mono ?_; rintro e w9 ⟨A3, c3, rfl, hl3, hC3, hb9⟩; have HL3 := Lib.hid hl3; have HC3 := Lib.hid hC3; clear hl3 hC3; have HX9 := Lib.hid (blk_below HX8.out hb9); have HB9 := Lib.hid (below_step HB8.out hb9); have HKa9 := Lib.hid (blk_below HKa8.out hb9); have HKb9 := Lib.hid (blk_below HKb8.out hb9); )
      | (refine ⟨trivial, ?_⟩; gi_at_call 24; refine (callsIn_wide.2 (capacity_Room.calls k n p _ _ l d v q1 q2 i _ HC3.out HL3.out HM.out)).mono ?_; rintro e w10 ⟨rfl, hb10⟩; have HX10 := Lib.hid (blk_below HX9.out hb10); have HB10 := Lib.hid (below_step HB9.out hb10); have HKa10 := Lib.hid (blk_alloc (blk_below HKa9.out hb10) (.cells #[.int .i64 q1, .int .i64 q2] 32)); have HKb10 := Lib.hid (blk_alloc (blk_below HKb9.out hb10) (.cells #[.int .i64 q1, .int .i64 q2] 32)); have HKc10 := Lib.hid (blk_new w10 (.cells #[.int .i64 q1, .int .i64 q2] 32)); have HXc := Lib.hid (blk_alloc HX10.out (.cells #[.int .i64 q1, .int .i64 q2] 32)); have HBc := Lib.hid (below_alloc HB10.out (.cells #[.int .i64 q1, .int .i64 q2] 32)); (try clear x0_ x1_ x2_ x3_); have x0_ := (blk_cell HXc.out 0).trans rfl; have x1_ := (blk_cell HXc.out 1).trans rfl; have x2_ := (blk_cell HXc.out 2).trans rfl; have x3_ := (blk_cell HXc.out 3).trans rfl; )
      | (refine ⟨trivial, ?_⟩; gi_at_call 25; refine (callsIn_wide.2 (spileref10_Room.calls k n p _ _ l d v q1 q2 i _ (Kd.C_below HR.out HBc.out) HC.out HRM.out)).mono ?_; rintro e w11 ⟨rfl, hb11⟩; have HX11 := Lib.hid (blk_below HXc.out hb11); have HB11 := Lib.hid (below_step HBc.out hb11); have ka := blk_alloc (blk_below HKa10.out hb11) (.cells #[.int .i64 q1, .int .i64 q2] 32); have kb := blk_alloc (blk_below HKb10.out hb11) (.cells #[.int .i64 q1, .int .i64 q2] 32); have kc := blk_alloc (blk_below HKc10.out hb11) (.cells #[.int .i64 q1, .int .i64 q2] 32); have kd := blk_new w11 (.cells #[.int .i64 q1, .int .i64 q2] 32); have HBd := Lib.hid (below_alloc HB11.out (.cells #[.int .i64 q1, .int .i64 q2] 32)); (try clear x0_ x1_ x2_ x3_); have ya0_ := (blk_cell ka 0).trans rfl; have ya1_ := (blk_cell ka 1).trans rfl; have yb0_ := (blk_cell kb 0).trans rfl; have yb1_ := (blk_cell kb 1).trans rfl; have yc0_ := (blk_cell kc 0).trans rfl; have yc1_ := (blk_cell kc 1).trans rfl; have yd0_ := (blk_cell kd 0).trans rfl; have yd1_ := (blk_cell kd 1).trans rfl; ))
    exact ⟨_, by simp [results, Try.f4, go_sem], rfl, HBd.out⟩
end Go.Proofs.Ytcbmmhedefigeaa.X
