import Derived.Test.YtcbmmhedefigeaaCow
import Derived.Test.YtcbmmhedefigeaaCoy
import Derived.Test.YtcbmmhedefigeaaAwk8
import Derived.Test.YtcbmmhedefigeaaAgr
import Derived.Test.YtcbmmhedefigeaaXx3
/-! The law of Agrees under a greater tolerance and at its own high bound: the walk. -/
namespace Go.Proofs.Ytcbmmhedefigeaa.X
set_option linter.unusedVariables false
set_option linter.unusedSimpArgs false
open Go.RowKit Go.Shelf Go.Proofs.YtcbmmhedefigeaaW.PrintWords Go.Proofs.YtcbmmhedefigeaaW.PrintLast Go.Proofs.YtcbmmhedefigeaaW.PrintMore
attribute [local go_sem] Oper.semAt_some

set_option maxRecDepth 100000 in
set_option maxHeartbeats 8000000 in
theorem tol_few (k : Nat) (n : ByteArray) (p d : Int) (A : Option Addr) (c : Nat) (l : List S30) (tol more : Int) (w : World) (hr : Kd.C k30 w A l.length l) (hc : l.length ≤ c) (few : Bool) (haw : spilelaw10_awake.f k = some true) (hfew : spileref09_Few.f k [⟨n, p, l, d⟩] = some false) :
    Calls Try.prog 6 #[cv n p A l.length c d, .int .i64 tol, .int .i64 more] w fun e w' => e = .returned (.bool true) ∧ Below w.heap.size w w' := by
  have HR := Lib.hid hr
  have HC := Lib.hid hc
  have HAW := Lib.hid haw
  have HF := Lib.hid hfew
  clear hr hc haw hfew
  have hu40 := Try.underlying40
  have hu32 := Try.underlying32
  have hge := fun args w => enters_ Try.func28 (by kernel_rfl) rfl args w
  refine (callsIn_wide (n := 5)).1 ?_
  refine callsIn_of_wp_marks Try.func6 rfl trivial ?_
  simp only [Try.ntmps6, List.size_toArray, List.length_cons, List.length_nil, Nat.reduceAdd, Nat.reduceSub, Array.replicate_succ, Array.replicate_zero, List.push_toArray, List.append_toArray, List.nil_append, List.cons_append]
  gi_wp2_with (first
    | (refine ⟨trivial, ?_⟩; gi_at_call 10; refine (callsIn_wide.2 (spilelaw10_awake.calls k true _ HAW.out)).mono ?_; rintro e w1 ⟨rfl, hb1⟩; have HX1 := Lib.hid (blk_below (blk_new w (.cells #[.string n, .int .i64 p, .slice A l.length c, .int .i64 d] 40)) hb1); have HB1 := Lib.hid (below_step (below_alloc (Below.refl w.heap.size w) (.cells #[.string n, .int .i64 p, .slice A l.length c, .int .i64 d] 40)) hb1); have x0_ := (blk_cell HX1.out 0).trans rfl; have x1_ := (blk_cell HX1.out 1).trans rfl; have x2_ := (blk_cell HX1.out 2).trans rfl; have x3_ := (blk_cell HX1.out 3).trans rfl; )
    | (refine ⟨trivial, ?_⟩; gi_at_call 17; refine (callsIn_wide.2 (spileref09_Few.calls k _ _ [⟨n, p, l, d⟩] false _ ?cf0 ?cf1 HF.out)).mono ?_; (case cf0 => exact one_cask (blk_new _ _) HC.out (Kd.C_alloc (Kd.C_below HR.out HB1.out) _)); (case cf1 => exact Nat.le_refl 1); rintro e w2 ⟨rfl, hd2⟩; have hb2 := below_of_drawn hd2; have HX2 := Lib.hid (blk_below (blk_alloc HX1.out (.cells #[.string n, .int .i64 p, .slice A l.length c, .int .i64 d] 40)) hb2); have HB2 := Lib.hid (below_step (below_alloc HB1.out (.cells #[.string n, .int .i64 p, .slice A l.length c, .int .i64 d] 40)) hb2); clear hd2; (try clear x0_ x1_ x2_ x3_); have x0_ := (blk_cell HX2.out 0).trans rfl; have x1_ := (blk_cell HX2.out 1).trans rfl; have x2_ := (blk_cell HX2.out 2).trans rfl; have x3_ := (blk_cell HX2.out 3).trans rfl; ))
  all_goals exact ⟨_, by simp [results, Try.f6, go_sem, *], rfl, HB2.out⟩

set_option maxRecDepth 100000 in
set_option maxHeartbeats 8000000 in
theorem tol_out (k : Nat) (n : ByteArray) (p d : Int) (A : Option Addr) (c : Nat) (l : List S30) (tol more : Int) (w : World) (hr : Kd.C k30 w A l.length l) (hc : l.length ≤ c) (few : Bool) (haw : spilelaw10_awake.f k = some true) (hfew : spileref09_Few.f k [⟨n, p, l, d⟩] = some true) (ho : more < 0 ∨ more > 1000 ∨ tol > 1000) :
    Calls Try.prog 6 #[cv n p A l.length c d, .int .i64 tol, .int .i64 more] w fun e w' => e = .returned (.bool true) ∧ Below w.heap.size w w' := by
  have HR := Lib.hid hr
  have HC := Lib.hid hc
  have HAW := Lib.hid haw
  have HF := Lib.hid hfew
  clear hr hc haw hfew
  have hu40 := Try.underlying40
  have hu32 := Try.underlying32
  have hge := fun args w => enters_ Try.func28 (by kernel_rfl) rfl args w
  refine (callsIn_wide (n := 5)).1 ?_
  refine callsIn_of_wp_marks Try.func6 rfl trivial ?_
  simp only [Try.ntmps6, List.size_toArray, List.length_cons, List.length_nil, Nat.reduceAdd, Nat.reduceSub, Array.replicate_succ, Array.replicate_zero, List.push_toArray, List.append_toArray, List.nil_append, List.cons_append]
  gi_wp2_with (first
    | (refine ⟨trivial, ?_⟩; gi_at_call 10; refine (callsIn_wide.2 (spilelaw10_awake.calls k true _ HAW.out)).mono ?_; rintro e w1 ⟨rfl, hb1⟩; have HX1 := Lib.hid (blk_below (blk_new w (.cells #[.string n, .int .i64 p, .slice A l.length c, .int .i64 d] 40)) hb1); have HB1 := Lib.hid (below_step (below_alloc (Below.refl w.heap.size w) (.cells #[.string n, .int .i64 p, .slice A l.length c, .int .i64 d] 40)) hb1); have x0_ := (blk_cell HX1.out 0).trans rfl; have x1_ := (blk_cell HX1.out 1).trans rfl; have x2_ := (blk_cell HX1.out 2).trans rfl; have x3_ := (blk_cell HX1.out 3).trans rfl; )
    | (refine ⟨trivial, ?_⟩; gi_at_call 17; refine (callsIn_wide.2 (spileref09_Few.calls k _ _ [⟨n, p, l, d⟩] true _ ?cf0 ?cf1 HF.out)).mono ?_; (case cf0 => exact one_cask (blk_new _ _) HC.out (Kd.C_alloc (Kd.C_below HR.out HB1.out) _)); (case cf1 => exact Nat.le_refl 1); rintro e w2 ⟨rfl, hd2⟩; have hb2 := below_of_drawn hd2; have HX2 := Lib.hid (blk_below (blk_alloc HX1.out (.cells #[.string n, .int .i64 p, .slice A l.length c, .int .i64 d] 40)) hb2); have HB2 := Lib.hid (below_step (below_alloc HB1.out (.cells #[.string n, .int .i64 p, .slice A l.length c, .int .i64 d] 40)) hb2); clear hd2; (try clear x0_ x1_ x2_ x3_); have x0_ := (blk_cell HX2.out 0).trans rfl; have x1_ := (blk_cell HX2.out 1).trans rfl; have x2_ := (blk_cell HX2.out 2).trans rfl; have x3_ := (blk_cell HX2.out 3).trans rfl; ))
  all_goals exact ⟨_, by simp [results, Try.f6, go_sem, *], rfl, HB2.out⟩

set_option maxRecDepth 100000 in
set_option maxHeartbeats 8000000 in
theorem tol_err (k : Nat) (n : ByteArray) (p d : Int) (A : Option Addr) (c : Nat) (l : List S30) (tol more : Int) (w : World) (hr : Kd.C k30 w A l.length l) (hc : l.length ≤ c) (few : Bool) (haw : spilelaw10_awake.f k = some true) (hfew : spileref09_Few.f k [⟨n, p, l, d⟩] = some true) (q1 : 0 ≤ more) (q2 : more ≤ 1000) (q3 : tol ≤ 1000) (hcp : spileref09_Copy.f k [⟨n, p, l, d⟩] = some [⟨n, p, l, d⟩]) (a e1 : Int) (ha : capacity_Agrees.f k n p l d tol = some (0, e1)) (he : e1 ≠ 0) :
    Calls Try.prog 6 #[cv n p A l.length c d, .int .i64 tol, .int .i64 more] w fun e w' => e = .returned (.bool true) ∧ Below w.heap.size w w' := by
  have HR := Lib.hid hr
  have HC := Lib.hid hc
  have HAW := Lib.hid haw
  have HF := Lib.hid hfew
  clear hr hc haw hfew
  have hu40 := Try.underlying40
  have hu32 := Try.underlying32
  have hge := fun args w => enters_ Try.func28 (by kernel_rfl) rfl args w
  refine (callsIn_wide (n := 5)).1 ?_
  refine callsIn_of_wp_marks Try.func6 rfl trivial ?_
  simp only [Try.ntmps6, List.size_toArray, List.length_cons, List.length_nil, Nat.reduceAdd, Nat.reduceSub, Array.replicate_succ, Array.replicate_zero, List.push_toArray, List.append_toArray, List.nil_append, List.cons_append]
  have HCP := Lib.hid hcp
  have HA := Lib.hid ha
  clear hcp ha
  gi_wp2_with (first
    | (refine ⟨trivial, ?_⟩; gi_at_call 10; refine (callsIn_wide.2 (spilelaw10_awake.calls k true _ HAW.out)).mono ?_; rintro e w1 ⟨rfl, hb1⟩; have HX1 := Lib.hid (blk_below (blk_new w (.cells #[.string n, .int .i64 p, .slice A l.length c, .int .i64 d] 40)) hb1); have HB1 := Lib.hid (below_step (below_alloc (Below.refl w.heap.size w) (.cells #[.string n, .int .i64 p, .slice A l.length c, .int .i64 d] 40)) hb1); have x0_ := (blk_cell HX1.out 0).trans rfl; have x1_ := (blk_cell HX1.out 1).trans rfl; have x2_ := (blk_cell HX1.out 2).trans rfl; have x3_ := (blk_cell HX1.out 3).trans rfl; )
    | (refine ⟨trivial, ?_⟩; gi_at_call 17; refine (callsIn_wide.2 (spileref09_Few.calls k _ _ [⟨n, p, l, d⟩] true _ ?cf0 ?cf1 HF.out)).mono ?_; (case cf0 => exact one_cask (blk_new _ _) HC.out (Kd.C_alloc (Kd.C_below HR.out HB1.out) _)); (case cf1 => exact Nat.le_refl 1); rintro e w2 ⟨rfl, hd2⟩; have hb2 := below_of_drawn hd2; have HX2 := Lib.hid (blk_below (blk_alloc HX1.out (.cells #[.string n, .int .i64 p, .slice A l.length c, .int .i64 d] 40)) hb2); have HB2 := Lib.hid (below_step (below_alloc HB1.out (.cells #[.string n, .int .i64 p, .slice A l.length c, .int .i64 d] 40)) hb2); clear hd2; (try clear x0_ x1_ x2_ x3_); have x0_ := (blk_cell HX2.out 0).trans rfl; have x1_ := (blk_cell HX2.out 1).trans rfl; have x2_ := (blk_cell HX2.out 2).trans rfl; have x3_ := (blk_cell HX2.out 3).trans rfl; )
    | (refine ⟨trivial, ?_⟩; gi_at_call 28; refine (callsIn_wide.2 (own_calls28 k w.heap.size n p d A c l _ HX2.out HC.out (Kd.C_below HR.out HB2.out) HCP.out)).mono ?_; rintro e w3 ⟨A1, c1, rfl, hl1, hC1, hb3⟩; have HL1 := Lib.hid hl1; have HC1 := Lib.hid hC1; clear hl1 hC1; have HX3 := Lib.hid (blk_below HX2.out hb3); have HB3 := Lib.hid (below_step HB2.out hb3); )
    | (refine ⟨trivial, ?_⟩; gi_at_call 22; refine (callsIn_wide.2 (capacity_Agrees.calls k n p _ _ l d tol 0 e1 _ HC1.out HL1.out HA.out)).mono ?_; rintro e w4 ⟨rfl, hb4⟩; have HX4 := Lib.hid (blk_below HX3.out hb4); have HB4 := Lib.hid (below_step HB3.out hb4); clear HC1 HL1; (try clear x0_ x1_ x2_ x3_); have x0_ := (blk_cell HX4.out 0).trans rfl; have x1_ := (blk_cell HX4.out 1).trans rfl; have x2_ := (blk_cell HX4.out 2).trans rfl; have x3_ := (blk_cell HX4.out 3).trans rfl; skip))
  all_goals exact ⟨_, by simp [results, Try.f6, go_sem, *], rfl, HB4.out⟩

set_option maxRecDepth 100000 in
set_option maxHeartbeats 8000000 in
theorem tol_f (k : Nat) (n : ByteArray) (p d : Int) (A : Option Addr) (c : Nat) (l : List S30) (tol more : Int) (w : World) (hr : Kd.C k30 w A l.length l) (hc : l.length ≤ c) (few : Bool) (haw : spilelaw10_awake.f k = some true) (hfew : spileref09_Few.f k [⟨n, p, l, d⟩] = some true) (q1 : 0 ≤ more) (q2 : more ≤ 1000) (q3 : tol ≤ 1000) (hcp : spileref09_Copy.f k [⟨n, p, l, d⟩] = some [⟨n, p, l, d⟩]) (a b f v1 v2 x hh : Int) (ha : capacity_Agrees.f k n p l d tol = some (a, 0)) (ha2 : capacity_Agrees.f k n p l d (wrap64 (tol + more)) = some (b, f)) (hv : capacity_Volume.f k n p l d = some (v1, v2, 0)) (ha4 : capacity_Agrees.f k n p l v2 tol = some (x, hh)) (hx : x ≠ 2) (hf : f ≠ 0) :
    Calls Try.prog 6 #[cv n p A l.length c d, .int .i64 tol, .int .i64 more] w fun e w' => e = .returned (.bool true) ∧ Below w.heap.size w w' := by
  have HR := Lib.hid hr
  have HC := Lib.hid hc
  have HAW := Lib.hid haw
  have HF := Lib.hid hfew
  clear hr hc haw hfew
  have hu40 := Try.underlying40
  have hu32 := Try.underlying32
  have hge := fun args w => enters_ Try.func28 (by kernel_rfl) rfl args w
  refine (callsIn_wide (n := 5)).1 ?_
  refine callsIn_of_wp_marks Try.func6 rfl trivial ?_
  simp only [Try.ntmps6, List.size_toArray, List.length_cons, List.length_nil, Nat.reduceAdd, Nat.reduceSub, Array.replicate_succ, Array.replicate_zero, List.push_toArray, List.append_toArray, List.nil_append, List.cons_append]
  have HCP := Lib.hid hcp
  have HA := Lib.hid ha
  have HA2 := Lib.hid ha2
  have HV := Lib.hid hv
  have HA4 := Lib.hid ha4
  clear hcp ha ha2 hv ha4
  gi_wp2_with (first
    | (refine ⟨trivial, ?_⟩; gi_at_call 10; refine (callsIn_wide.2 (spilelaw10_awake.calls k true _ HAW.out)).mono ?_; rintro e w1 ⟨rfl, hb1⟩; have HX1 := Lib.hid (blk_below (blk_new w (.cells #[.string n, .int .i64 p, .slice A l.length c, .int .i64 d] 40)) hb1); have HB1 := Lib.hid (below_step (below_alloc (Below.refl w.heap.size w) (.cells #[.string n, .int .i64 p, .slice A l.length c, .int .i64 d] 40)) hb1); have x0_ := (blk_cell HX1.out 0).trans rfl; have x1_ := (blk_cell HX1.out 1).trans rfl; have x2_ := (blk_cell HX1.out 2).trans rfl; have x3_ := (blk_cell HX1.out 3).trans rfl; )
    | (refine ⟨trivial, ?_⟩; gi_at_call 17; refine (callsIn_wide.2 (spileref09_Few.calls k _ _ [⟨n, p, l, d⟩] true _ ?cf0 ?cf1 HF.out)).mono ?_; (case cf0 => exact one_cask (blk_new _ _) HC.out (Kd.C_alloc (Kd.C_below HR.out HB1.out) _)); (case cf1 => exact Nat.le_refl 1); rintro e w2 ⟨rfl, hd2⟩; have hb2 := below_of_drawn hd2; have HX2 := Lib.hid (blk_below (blk_alloc HX1.out (.cells #[.string n, .int .i64 p, .slice A l.length c, .int .i64 d] 40)) hb2); have HB2 := Lib.hid (below_step (below_alloc HB1.out (.cells #[.string n, .int .i64 p, .slice A l.length c, .int .i64 d] 40)) hb2); clear hd2; (try clear x0_ x1_ x2_ x3_); have x0_ := (blk_cell HX2.out 0).trans rfl; have x1_ := (blk_cell HX2.out 1).trans rfl; have x2_ := (blk_cell HX2.out 2).trans rfl; have x3_ := (blk_cell HX2.out 3).trans rfl; )
    | (refine ⟨trivial, ?_⟩; gi_at_call 28; refine (callsIn_wide.2 (own_calls28 k w.heap.size n p d A c l _ HX2.out HC.out (Kd.C_below HR.out HB2.out) HCP.out)).mono ?_; rintro e w3 ⟨A1, c1, rfl, hl1, hC1, hb3⟩; have HL1 := Lib.hid hl1; have HC1 := Lib.hid hC1; clear hl1 hC1; have HX3 := Lib.hid (blk_below HX2.out hb3); have HB3 := Lib.hid (below_step HB2.out hb3); )
    | (refine ⟨trivial, ?_⟩; gi_at_call 22; refine (callsIn_wide.2 (capacity_Agrees.calls k n p _ _ l d tol a 0 _ HC1.out HL1.out HA.out)).mono ?_; rintro e w4 ⟨rfl, hb4⟩; have HX4 := Lib.hid (blk_below HX3.out hb4); have HB4 := Lib.hid (below_step HB3.out hb4); clear HC1 HL1; (try clear x0_ x1_ x2_ x3_); have x0_ := (blk_cell HX4.out 0).trans rfl; have x1_ := (blk_cell HX4.out 1).trans rfl; have x2_ := (blk_cell HX4.out 2).trans rfl; have x3_ := (blk_cell HX4.out 3).trans rfl; skip)
    | (refine ⟨trivial, ?_⟩; gi_at_call 28; refine (callsIn_wide.2 (own_calls28 k w.heap.size n p d A c l _ HX4.out HC.out (Kd.C_below HR.out HB4.out) HCP.out)).mono ?_; rintro e w5 ⟨A2, c2, rfl, hl2, hC2, hb5⟩; have HL2 := Lib.hid hl2; have HC2 := Lib.hid hC2; clear hl2 hC2; have HX5 := Lib.hid (blk_below HX4.out hb5); have HB5 := Lib.hid (below_step HB4.out hb5); )
    | (refine ⟨trivial, ?_⟩; gi_at_call 22; refine (callsIn_wide.2 (capacity_Agrees.calls k n p _ _ l d (wrap64 (tol + more)) b f _ HC2.out HL2.out HA2.out)).mono ?_; rintro e w6 ⟨rfl, hb6⟩; have HX6 := Lib.hid (blk_below HX5.out hb6); have HB6 := Lib.hid (below_step HB5.out hb6); clear HC2 HL2; (try clear x0_ x1_ x2_ x3_); have x0_ := (blk_cell HX6.out 0).trans rfl; have x1_ := (blk_cell HX6.out 1).trans rfl; have x2_ := (blk_cell HX6.out 2).trans rfl; have x3_ := (blk_cell HX6.out 3).trans rfl; skip)
    | (refine ⟨trivial, ?_⟩; gi_at_call 28; refine (callsIn_wide.2 (own_calls28 k w.heap.size n p d A c l _ HX6.out HC.out (Kd.C_below HR.out HB6.out) HCP.out)).mono ?_; rintro e w7 ⟨A3, c3, rfl, hl3, hC3, hb7⟩; have HL3 := Lib.hid hl3; have HC3 := Lib.hid hC3; clear hl3 hC3; have HX7 := Lib.hid (blk_below HX6.out hb7); have HB7 := Lib.hid (below_step HB6.out hb7); )
    | (refine ⟨trivial, ?_⟩; gi_at_call 20; refine (callsIn_wide.2 (capacity_Volume.calls k n p _ _ l d v1 v2 0 _ HC3.out HL3.out HV.out)).mono ?_; rintro e w8 ⟨rfl, hb8⟩; have HX8 := Lib.hid (blk_below HX7.out hb8); have HB8 := Lib.hid (below_step HB7.out hb8); clear HC3 HL3; have HXa := Lib.hid (blk_alloc HX8.out (.cells #[.int .i64 v1, .int .i64 v2] 32)); have HBa := Lib.hid (below_alloc HB8.out (.cells #[.int .i64 v1, .int .i64 v2] 32)); have HKa := Lib.hid (blk_new w8 (.cells #[.int .i64 v1, .int .i64 v2] 32)); (try clear x0_ x1_ x2_ x3_); have x0_ := (blk_cell HXa.out 0).trans rfl; have x1_ := (blk_cell HXa.out 1).trans rfl; have x2_ := (blk_cell HXa.out 2).trans rfl; have x3_ := (blk_cell HXa.out 3).trans rfl; )
    | (refine ⟨trivial, ?_⟩; gi_at_call 28; refine (callsIn_wide.2 (own_calls28 k w.heap.size n p d A c l _ HXa.out HC.out (Kd.C_below HR.out HBa.out) HCP.out)).mono ?_; rintro e w9 ⟨A4, c4, rfl, hl4, hC4, hb9⟩; have HL4 := Lib.hid hl4; have HC4 := Lib.hid hC4; clear hl4 hC4; have HX9 := Lib.hid (blk_below HXa.out hb9); have HB9 := Lib.hid (below_step HBa.out hb9); have ha := blk_alloc (blk_below HKa.out hb9) (.cells #[.string n, .int .i64 p, .slice A4 l.length c4, .int .i64 d] 40); have y0_ := (blk_cell ha 0).trans rfl; have y1_ := (blk_cell ha 1).trans rfl; have hd := blk_new w9 (.cells #[.string n, .int .i64 p, .slice A4 l.length c4, .int .i64 d] 40); have hd' := blk_put hd 3 (.int .i64 v2) rfl; have z0_ := (blk_cell hd 0).trans rfl; have z1_ := (blk_cell hd 1).trans rfl; have z2_ := (blk_cell hd 2).trans rfl; have z3_ := (blk_cell hd 3).trans rfl; have f3_ := blk_frozen hd 3; have u0_ := (blk_cell hd' 0).trans rfl; have u1_ := (blk_cell hd' 1).trans rfl; have u2_ := (blk_cell hd' 2).trans rfl; have u3_ := (blk_cell hd' 3).trans rfl; clear ha hd hd'; )
    | (refine ⟨trivial, ?_⟩; gi_at_call 22; refine (callsIn_wide.2 (capacity_Agrees.calls k n p _ _ l v2 tol x hh _ ?cc1 HL4.out HA4.out)).mono ?_; (case cc1 => exact Kd.C_alloc HC4.out _); rintro e w10 ⟨rfl, hb10⟩; have HB10 := Lib.hid (below_step (below_alloc HB9.out (.cells #[.string n, .int .i64 p, .slice A4 l.length c4, .int .i64 v2] 40)) hb10); skip))
  all_goals exact ⟨_, by simp [results, Try.f6, go_sem, *], rfl, HB10.out⟩

set_option maxRecDepth 100000 in
set_option maxHeartbeats 8000000 in
theorem tol_a1 (k : Nat) (n : ByteArray) (p d : Int) (A : Option Addr) (c : Nat) (l : List S30) (tol more : Int) (w : World) (hr : Kd.C k30 w A l.length l) (hc : l.length ≤ c) (few : Bool) (haw : spilelaw10_awake.f k = some true) (hfew : spileref09_Few.f k [⟨n, p, l, d⟩] = some true) (q1 : 0 ≤ more) (q2 : more ≤ 1000) (q3 : tol ≤ 1000) (hcp : spileref09_Copy.f k [⟨n, p, l, d⟩] = some [⟨n, p, l, d⟩]) (a b f v1 v2 x hh : Int) (ha : capacity_Agrees.f k n p l d tol = some (1, 0)) (ha2 : capacity_Agrees.f k n p l d (wrap64 (tol + more)) = some (1, 0)) (hv : capacity_Volume.f k n p l d = some (v1, v2, 0)) (ha4 : capacity_Agrees.f k n p l v2 tol = some (x, hh)) (hx : x ≠ 2) :
    Calls Try.prog 6 #[cv n p A l.length c d, .int .i64 tol, .int .i64 more] w fun e w' => e = .returned (.bool true) ∧ Below w.heap.size w w' := by
  have HR := Lib.hid hr
  have HC := Lib.hid hc
  have HAW := Lib.hid haw
  have HF := Lib.hid hfew
  clear hr hc haw hfew
  have hu40 := Try.underlying40
  have hu32 := Try.underlying32
  have hge := fun args w => enters_ Try.func28 (by kernel_rfl) rfl args w
  refine (callsIn_wide (n := 5)).1 ?_
  refine callsIn_of_wp_marks Try.func6 rfl trivial ?_
  simp only [Try.ntmps6, List.size_toArray, List.length_cons, List.length_nil, Nat.reduceAdd, Nat.reduceSub, Array.replicate_succ, Array.replicate_zero, List.push_toArray, List.append_toArray, List.nil_append, List.cons_append]
  have HCP := Lib.hid hcp
  have HA := Lib.hid ha
  have HA2 := Lib.hid ha2
  have HV := Lib.hid hv
  have HA4 := Lib.hid ha4
  clear hcp ha ha2 hv ha4
  gi_wp2_with (first
    | (refine ⟨trivial, ?_⟩; gi_at_call 10; refine (callsIn_wide.2 (spilelaw10_awake.calls k true _ HAW.out)).mono ?_; rintro e w1 ⟨rfl, hb1⟩; have HX1 := Lib.hid (blk_below (blk_new w (.cells #[.string n, .int .i64 p, .slice A l.length c, .int .i64 d] 40)) hb1); have HB1 := Lib.hid (below_step (below_alloc (Below.refl w.heap.size w) (.cells #[.string n, .int .i64 p, .slice A l.length c, .int .i64 d] 40)) hb1); have x0_ := (blk_cell HX1.out 0).trans rfl; have x1_ := (blk_cell HX1.out 1).trans rfl; have x2_ := (blk_cell HX1.out 2).trans rfl; have x3_ := (blk_cell HX1.out 3).trans rfl; )
    | (refine ⟨trivial, ?_⟩; gi_at_call 17; refine (callsIn_wide.2 (spileref09_Few.calls k _ _ [⟨n, p, l, d⟩] true _ ?cf0 ?cf1 HF.out)).mono ?_; (case cf0 => exact one_cask (blk_new _ _) HC.out (Kd.C_alloc (Kd.C_below HR.out HB1.out) _)); (case cf1 => exact Nat.le_refl 1); rintro e w2 ⟨rfl, hd2⟩; have hb2 := below_of_drawn hd2; have HX2 := Lib.hid (blk_below (blk_alloc HX1.out (.cells #[.string n, .int .i64 p, .slice A l.length c, .int .i64 d] 40)) hb2); have HB2 := Lib.hid (below_step (below_alloc HB1.out (.cells #[.string n, .int .i64 p, .slice A l.length c, .int .i64 d] 40)) hb2); clear hd2; (try clear x0_ x1_ x2_ x3_); have x0_ := (blk_cell HX2.out 0).trans rfl; have x1_ := (blk_cell HX2.out 1).trans rfl; have x2_ := (blk_cell HX2.out 2).trans rfl; have x3_ := (blk_cell HX2.out 3).trans rfl; )
    | (refine ⟨trivial, ?_⟩; gi_at_call 28; refine (callsIn_wide.2 (own_calls28 k w.heap.size n p d A c l _ HX2.out HC.out (Kd.C_below HR.out HB2.out) HCP.out)).mono ?_; rintro e w3 ⟨A1, c1, rfl, hl1, hC1, hb3⟩; have HL1 := Lib.hid hl1; have HC1 := Lib.hid hC1; clear hl1 hC1; have HX3 := Lib.hid (blk_below HX2.out hb3); have HB3 := Lib.hid (below_step HB2.out hb3); )
    | (refine ⟨trivial, ?_⟩; gi_at_call 22; refine (callsIn_wide.2 (capacity_Agrees.calls k n p _ _ l d tol 1 0 _ HC1.out HL1.out HA.out)).mono ?_; rintro e w4 ⟨rfl, hb4⟩; have HX4 := Lib.hid (blk_below HX3.out hb4); have HB4 := Lib.hid (below_step HB3.out hb4); clear HC1 HL1; (try clear x0_ x1_ x2_ x3_); have x0_ := (blk_cell HX4.out 0).trans rfl; have x1_ := (blk_cell HX4.out 1).trans rfl; have x2_ := (blk_cell HX4.out 2).trans rfl; have x3_ := (blk_cell HX4.out 3).trans rfl; skip)
    | (refine ⟨trivial, ?_⟩; gi_at_call 28; refine (callsIn_wide.2 (own_calls28 k w.heap.size n p d A c l _ HX4.out HC.out (Kd.C_below HR.out HB4.out) HCP.out)).mono ?_; rintro e w5 ⟨A2, c2, rfl, hl2, hC2, hb5⟩; have HL2 := Lib.hid hl2; have HC2 := Lib.hid hC2; clear hl2 hC2; have HX5 := Lib.hid (blk_below HX4.out hb5); have HB5 := Lib.hid (below_step HB4.out hb5); )
    | (refine ⟨trivial, ?_⟩; gi_at_call 22; refine (callsIn_wide.2 (capacity_Agrees.calls k n p _ _ l d (wrap64 (tol + more)) 1 0 _ HC2.out HL2.out HA2.out)).mono ?_; rintro e w6 ⟨rfl, hb6⟩; have HX6 := Lib.hid (blk_below HX5.out hb6); have HB6 := Lib.hid (below_step HB5.out hb6); clear HC2 HL2; (try clear x0_ x1_ x2_ x3_); have x0_ := (blk_cell HX6.out 0).trans rfl; have x1_ := (blk_cell HX6.out 1).trans rfl; have x2_ := (blk_cell HX6.out 2).trans rfl; have x3_ := (blk_cell HX6.out 3).trans rfl; skip)
    | (refine ⟨trivial, ?_⟩; gi_at_call 28; refine (callsIn_wide.2 (own_calls28 k w.heap.size n p d A c l _ HX6.out HC.out (Kd.C_below HR.out HB6.out) HCP.out)).mono ?_; rintro e w7 ⟨A3, c3, rfl, hl3, hC3, hb7⟩; have HL3 := Lib.hid hl3; have HC3 := Lib.hid hC3; clear hl3 hC3; have HX7 := Lib.hid (blk_below HX6.out hb7); have HB7 := Lib.hid (below_step HB6.out hb7); )
    | (refine ⟨trivial, ?_⟩; gi_at_call 20; refine (callsIn_wide.2 (capacity_Volume.calls k n p _ _ l d v1 v2 0 _ HC3.out HL3.out HV.out)).mono ?_; rintro e w8 ⟨rfl, hb8⟩; have HX8 := Lib.hid (blk_below HX7.out hb8); have HB8 := Lib.hid (below_step HB7.out hb8); clear HC3 HL3; have HXa := Lib.hid (blk_alloc HX8.out (.cells #[.int .i64 v1, .int .i64 v2] 32)); have HBa := Lib.hid (below_alloc HB8.out (.cells #[.int .i64 v1, .int .i64 v2] 32)); have HKa := Lib.hid (blk_new w8 (.cells #[.int .i64 v1, .int .i64 v2] 32)); (try clear x0_ x1_ x2_ x3_); have x0_ := (blk_cell HXa.out 0).trans rfl; have x1_ := (blk_cell HXa.out 1).trans rfl; have x2_ := (blk_cell HXa.out 2).trans rfl; have x3_ := (blk_cell HXa.out 3).trans rfl; )
    | (refine ⟨trivial, ?_⟩; gi_at_call 28; refine (callsIn_wide.2 (own_calls28 k w.heap.size n p d A c l _ HXa.out HC.out (Kd.C_below HR.out HBa.out) HCP.out)).mono ?_; rintro e w9 ⟨A4, c4, rfl, hl4, hC4, hb9⟩; have HL4 := Lib.hid hl4; have HC4 := Lib.hid hC4; clear hl4 hC4; have HX9 := Lib.hid (blk_below HXa.out hb9); have HB9 := Lib.hid (below_step HBa.out hb9); have ha := blk_alloc (blk_below HKa.out hb9) (.cells #[.string n, .int .i64 p, .slice A4 l.length c4, .int .i64 d] 40); have y0_ := (blk_cell ha 0).trans rfl; have y1_ := (blk_cell ha 1).trans rfl; have hd := blk_new w9 (.cells #[.string n, .int .i64 p, .slice A4 l.length c4, .int .i64 d] 40); have hd' := blk_put hd 3 (.int .i64 v2) rfl; have z0_ := (blk_cell hd 0).trans rfl; have z1_ := (blk_cell hd 1).trans rfl; have z2_ := (blk_cell hd 2).trans rfl; have z3_ := (blk_cell hd 3).trans rfl; have f3_ := blk_frozen hd 3; have u0_ := (blk_cell hd' 0).trans rfl; have u1_ := (blk_cell hd' 1).trans rfl; have u2_ := (blk_cell hd' 2).trans rfl; have u3_ := (blk_cell hd' 3).trans rfl; clear ha hd hd'; )
    | (refine ⟨trivial, ?_⟩; gi_at_call 22; refine (callsIn_wide.2 (capacity_Agrees.calls k n p _ _ l v2 tol x hh _ ?cc1 HL4.out HA4.out)).mono ?_; (case cc1 => exact Kd.C_alloc HC4.out _); rintro e w10 ⟨rfl, hb10⟩; have HB10 := Lib.hid (below_step (below_alloc HB9.out (.cells #[.string n, .int .i64 p, .slice A4 l.length c4, .int .i64 v2] 40)) hb10); skip))
  all_goals exact ⟨_, by simp [results, Try.f6, go_sem, *], rfl, HB10.out⟩

set_option maxRecDepth 100000 in
set_option maxHeartbeats 8000000 in
theorem tol_a2 (k : Nat) (n : ByteArray) (p d : Int) (A : Option Addr) (c : Nat) (l : List S30) (tol more : Int) (w : World) (hr : Kd.C k30 w A l.length l) (hc : l.length ≤ c) (few : Bool) (haw : spilelaw10_awake.f k = some true) (hfew : spileref09_Few.f k [⟨n, p, l, d⟩] = some true) (q1 : 0 ≤ more) (q2 : more ≤ 1000) (q3 : tol ≤ 1000) (hcp : spileref09_Copy.f k [⟨n, p, l, d⟩] = some [⟨n, p, l, d⟩]) (a b f v1 v2 x hh : Int) (ha : capacity_Agrees.f k n p l d tol = some (2, 0)) (ha2 : capacity_Agrees.f k n p l d (wrap64 (tol + more)) = some (b, 0)) (hv : capacity_Volume.f k n p l d = some (v1, v2, 0)) (ha4 : capacity_Agrees.f k n p l v2 tol = some (x, hh)) (hx : x ≠ 2) :
    Calls Try.prog 6 #[cv n p A l.length c d, .int .i64 tol, .int .i64 more] w fun e w' => e = .returned (.bool true) ∧ Below w.heap.size w w' := by
  have HR := Lib.hid hr
  have HC := Lib.hid hc
  have HAW := Lib.hid haw
  have HF := Lib.hid hfew
  clear hr hc haw hfew
  have hu40 := Try.underlying40
  have hu32 := Try.underlying32
  have hge := fun args w => enters_ Try.func28 (by kernel_rfl) rfl args w
  refine (callsIn_wide (n := 5)).1 ?_
  refine callsIn_of_wp_marks Try.func6 rfl trivial ?_
  simp only [Try.ntmps6, List.size_toArray, List.length_cons, List.length_nil, Nat.reduceAdd, Nat.reduceSub, Array.replicate_succ, Array.replicate_zero, List.push_toArray, List.append_toArray, List.nil_append, List.cons_append]
  have HCP := Lib.hid hcp
  have HA := Lib.hid ha
  have HA2 := Lib.hid ha2
  have HV := Lib.hid hv
  have HA4 := Lib.hid ha4
  clear hcp ha ha2 hv ha4
  gi_wp2_with (first
    | (refine ⟨trivial, ?_⟩; gi_at_call 10; refine (callsIn_wide.2 (spilelaw10_awake.calls k true _ HAW.out)).mono ?_; rintro e w1 ⟨rfl, hb1⟩; have HX1 := Lib.hid (blk_below (blk_new w (.cells #[.string n, .int .i64 p, .slice A l.length c, .int .i64 d] 40)) hb1); have HB1 := Lib.hid (below_step (below_alloc (Below.refl w.heap.size w) (.cells #[.string n, .int .i64 p, .slice A l.length c, .int .i64 d] 40)) hb1); have x0_ := (blk_cell HX1.out 0).trans rfl; have x1_ := (blk_cell HX1.out 1).trans rfl; have x2_ := (blk_cell HX1.out 2).trans rfl; have x3_ := (blk_cell HX1.out 3).trans rfl; )
    | (refine ⟨trivial, ?_⟩; gi_at_call 17; refine (callsIn_wide.2 (spileref09_Few.calls k _ _ [⟨n, p, l, d⟩] true _ ?cf0 ?cf1 HF.out)).mono ?_; (case cf0 => exact one_cask (blk_new _ _) HC.out (Kd.C_alloc (Kd.C_below HR.out HB1.out) _)); (case cf1 => exact Nat.le_refl 1); rintro e w2 ⟨rfl, hd2⟩; have hb2 := below_of_drawn hd2; have HX2 := Lib.hid (blk_below (blk_alloc HX1.out (.cells #[.string n, .int .i64 p, .slice A l.length c, .int .i64 d] 40)) hb2); have HB2 := Lib.hid (below_step (below_alloc HB1.out (.cells #[.string n, .int .i64 p, .slice A l.length c, .int .i64 d] 40)) hb2); clear hd2; (try clear x0_ x1_ x2_ x3_); have x0_ := (blk_cell HX2.out 0).trans rfl; have x1_ := (blk_cell HX2.out 1).trans rfl; have x2_ := (blk_cell HX2.out 2).trans rfl; have x3_ := (blk_cell HX2.out 3).trans rfl; )
    | (refine ⟨trivial, ?_⟩; gi_at_call 28; refine (callsIn_wide.2 (own_calls28 k w.heap.size n p d A c l _ HX2.out HC.out (Kd.C_below HR.out HB2.out) HCP.out)).mono ?_; rintro e w3 ⟨A1, c1, rfl, hl1, hC1, hb3⟩; have HL1 := Lib.hid hl1; have HC1 := Lib.hid hC1; clear hl1 hC1; have HX3 := Lib.hid (blk_below HX2.out hb3); have HB3 := Lib.hid (below_step HB2.out hb3); )
    | (refine ⟨trivial, ?_⟩; gi_at_call 22; refine (callsIn_wide.2 (capacity_Agrees.calls k n p _ _ l d tol 2 0 _ HC1.out HL1.out HA.out)).mono ?_; rintro e w4 ⟨rfl, hb4⟩; have HX4 := Lib.hid (blk_below HX3.out hb4); have HB4 := Lib.hid (below_step HB3.out hb4); clear HC1 HL1; (try clear x0_ x1_ x2_ x3_); have x0_ := (blk_cell HX4.out 0).trans rfl; have x1_ := (blk_cell HX4.out 1).trans rfl; have x2_ := (blk_cell HX4.out 2).trans rfl; have x3_ := (blk_cell HX4.out 3).trans rfl; skip)
    | (refine ⟨trivial, ?_⟩; gi_at_call 28; refine (callsIn_wide.2 (own_calls28 k w.heap.size n p d A c l _ HX4.out HC.out (Kd.C_below HR.out HB4.out) HCP.out)).mono ?_; rintro e w5 ⟨A2, c2, rfl, hl2, hC2, hb5⟩; have HL2 := Lib.hid hl2; have HC2 := Lib.hid hC2; clear hl2 hC2; have HX5 := Lib.hid (blk_below HX4.out hb5); have HB5 := Lib.hid (below_step HB4.out hb5); )
    | (refine ⟨trivial, ?_⟩; gi_at_call 22; refine (callsIn_wide.2 (capacity_Agrees.calls k n p _ _ l d (wrap64 (tol + more)) b 0 _ HC2.out HL2.out HA2.out)).mono ?_; rintro e w6 ⟨rfl, hb6⟩; have HX6 := Lib.hid (blk_below HX5.out hb6); have HB6 := Lib.hid (below_step HB5.out hb6); clear HC2 HL2; (try clear x0_ x1_ x2_ x3_); have x0_ := (blk_cell HX6.out 0).trans rfl; have x1_ := (blk_cell HX6.out 1).trans rfl; have x2_ := (blk_cell HX6.out 2).trans rfl; have x3_ := (blk_cell HX6.out 3).trans rfl; skip)
    | (refine ⟨trivial, ?_⟩; gi_at_call 28; refine (callsIn_wide.2 (own_calls28 k w.heap.size n p d A c l _ HX6.out HC.out (Kd.C_below HR.out HB6.out) HCP.out)).mono ?_; rintro e w7 ⟨A3, c3, rfl, hl3, hC3, hb7⟩; have HL3 := Lib.hid hl3; have HC3 := Lib.hid hC3; clear hl3 hC3; have HX7 := Lib.hid (blk_below HX6.out hb7); have HB7 := Lib.hid (below_step HB6.out hb7); )
    | (refine ⟨trivial, ?_⟩; gi_at_call 20; refine (callsIn_wide.2 (capacity_Volume.calls k n p _ _ l d v1 v2 0 _ HC3.out HL3.out HV.out)).mono ?_; rintro e w8 ⟨rfl, hb8⟩; have HX8 := Lib.hid (blk_below HX7.out hb8); have HB8 := Lib.hid (below_step HB7.out hb8); clear HC3 HL3; have HXa := Lib.hid (blk_alloc HX8.out (.cells #[.int .i64 v1, .int .i64 v2] 32)); have HBa := Lib.hid (below_alloc HB8.out (.cells #[.int .i64 v1, .int .i64 v2] 32)); have HKa := Lib.hid (blk_new w8 (.cells #[.int .i64 v1, .int .i64 v2] 32)); (try clear x0_ x1_ x2_ x3_); have x0_ := (blk_cell HXa.out 0).trans rfl; have x1_ := (blk_cell HXa.out 1).trans rfl; have x2_ := (blk_cell HXa.out 2).trans rfl; have x3_ := (blk_cell HXa.out 3).trans rfl; )
    | (refine ⟨trivial, ?_⟩; gi_at_call 28; refine (callsIn_wide.2 (own_calls28 k w.heap.size n p d A c l _ HXa.out HC.out (Kd.C_below HR.out HBa.out) HCP.out)).mono ?_; rintro e w9 ⟨A4, c4, rfl, hl4, hC4, hb9⟩; have HL4 := Lib.hid hl4; have HC4 := Lib.hid hC4; clear hl4 hC4; have HX9 := Lib.hid (blk_below HXa.out hb9); have HB9 := Lib.hid (below_step HBa.out hb9); have ha := blk_alloc (blk_below HKa.out hb9) (.cells #[.string n, .int .i64 p, .slice A4 l.length c4, .int .i64 d] 40); have y0_ := (blk_cell ha 0).trans rfl; have y1_ := (blk_cell ha 1).trans rfl; have hd := blk_new w9 (.cells #[.string n, .int .i64 p, .slice A4 l.length c4, .int .i64 d] 40); have hd' := blk_put hd 3 (.int .i64 v2) rfl; have z0_ := (blk_cell hd 0).trans rfl; have z1_ := (blk_cell hd 1).trans rfl; have z2_ := (blk_cell hd 2).trans rfl; have z3_ := (blk_cell hd 3).trans rfl; have f3_ := blk_frozen hd 3; have u0_ := (blk_cell hd' 0).trans rfl; have u1_ := (blk_cell hd' 1).trans rfl; have u2_ := (blk_cell hd' 2).trans rfl; have u3_ := (blk_cell hd' 3).trans rfl; clear ha hd hd'; )
    | (refine ⟨trivial, ?_⟩; gi_at_call 22; refine (callsIn_wide.2 (capacity_Agrees.calls k n p _ _ l v2 tol x hh _ ?cc1 HL4.out HA4.out)).mono ?_; (case cc1 => exact Kd.C_alloc HC4.out _); rintro e w10 ⟨rfl, hb10⟩; have HB10 := Lib.hid (below_step (below_alloc HB9.out (.cells #[.string n, .int .i64 p, .slice A4 l.length c4, .int .i64 v2] 40)) hb10); skip))
  all_goals exact ⟨_, by simp [results, Try.f6, go_sem, *], rfl, HB10.out⟩

set_option maxRecDepth 100000 in
set_option maxHeartbeats 8000000 in
theorem tol_a3 (k : Nat) (n : ByteArray) (p d : Int) (A : Option Addr) (c : Nat) (l : List S30) (tol more : Int) (w : World) (hr : Kd.C k30 w A l.length l) (hc : l.length ≤ c) (few : Bool) (haw : spilelaw10_awake.f k = some true) (hfew : spileref09_Few.f k [⟨n, p, l, d⟩] = some true) (q1 : 0 ≤ more) (q2 : more ≤ 1000) (q3 : tol ≤ 1000) (hcp : spileref09_Copy.f k [⟨n, p, l, d⟩] = some [⟨n, p, l, d⟩]) (a b f v1 v2 x hh : Int) (ha : capacity_Agrees.f k n p l d tol = some (a, 0)) (ha2 : capacity_Agrees.f k n p l d (wrap64 (tol + more)) = some (b, 0)) (hv : capacity_Volume.f k n p l d = some (v1, v2, 0)) (ha4 : capacity_Agrees.f k n p l v2 tol = some (x, hh)) (hx : x ≠ 2) (h1 : a ≠ 1) (h2 : a ≠ 2) (h3 : b ≠ 2) :
    Calls Try.prog 6 #[cv n p A l.length c d, .int .i64 tol, .int .i64 more] w fun e w' => e = .returned (.bool true) ∧ Below w.heap.size w w' := by
  have HR := Lib.hid hr
  have HC := Lib.hid hc
  have HAW := Lib.hid haw
  have HF := Lib.hid hfew
  clear hr hc haw hfew
  have hu40 := Try.underlying40
  have hu32 := Try.underlying32
  have hge := fun args w => enters_ Try.func28 (by kernel_rfl) rfl args w
  refine (callsIn_wide (n := 5)).1 ?_
  refine callsIn_of_wp_marks Try.func6 rfl trivial ?_
  simp only [Try.ntmps6, List.size_toArray, List.length_cons, List.length_nil, Nat.reduceAdd, Nat.reduceSub, Array.replicate_succ, Array.replicate_zero, List.push_toArray, List.append_toArray, List.nil_append, List.cons_append]
  have HCP := Lib.hid hcp
  have HA := Lib.hid ha
  have HA2 := Lib.hid ha2
  have HV := Lib.hid hv
  have HA4 := Lib.hid ha4
  clear hcp ha ha2 hv ha4
  gi_wp2_with (first
    | (refine ⟨trivial, ?_⟩; gi_at_call 10; refine (callsIn_wide.2 (spilelaw10_awake.calls k true _ HAW.out)).mono ?_; rintro e w1 ⟨rfl, hb1⟩; have HX1 := Lib.hid (blk_below (blk_new w (.cells #[.string n, .int .i64 p, .slice A l.length c, .int .i64 d] 40)) hb1); have HB1 := Lib.hid (below_step (below_alloc (Below.refl w.heap.size w) (.cells #[.string n, .int .i64 p, .slice A l.length c, .int .i64 d] 40)) hb1); have x0_ := (blk_cell HX1.out 0).trans rfl; have x1_ := (blk_cell HX1.out 1).trans rfl; have x2_ := (blk_cell HX1.out 2).trans rfl; have x3_ := (blk_cell HX1.out 3).trans rfl; )
    | (refine ⟨trivial, ?_⟩; gi_at_call 17; refine (callsIn_wide.2 (spileref09_Few.calls k _ _ [⟨n, p, l, d⟩] true _ ?cf0 ?cf1 HF.out)).mono ?_; (case cf0 => exact one_cask (blk_new _ _) HC.out (Kd.C_alloc (Kd.C_below HR.out HB1.out) _)); (case cf1 => exact Nat.le_refl 1); rintro e w2 ⟨rfl, hd2⟩; have hb2 := below_of_drawn hd2; have HX2 := Lib.hid (blk_below (blk_alloc HX1.out (.cells #[.string n, .int .i64 p, .slice A l.length c, .int .i64 d] 40)) hb2); have HB2 := Lib.hid (below_step (below_alloc HB1.out (.cells #[.string n, .int .i64 p, .slice A l.length c, .int .i64 d] 40)) hb2); clear hd2; (try clear x0_ x1_ x2_ x3_); have x0_ := (blk_cell HX2.out 0).trans rfl; have x1_ := (blk_cell HX2.out 1).trans rfl; have x2_ := (blk_cell HX2.out 2).trans rfl; have x3_ := (blk_cell HX2.out 3).trans rfl; )
    | (refine ⟨trivial, ?_⟩; gi_at_call 28; refine (callsIn_wide.2 (own_calls28 k w.heap.size n p d A c l _ HX2.out HC.out (Kd.C_below HR.out HB2.out) HCP.out)).mono ?_; rintro e w3 ⟨A1, c1, rfl, hl1, hC1, hb3⟩; have HL1 := Lib.hid hl1; have HC1 := Lib.hid hC1; clear hl1 hC1; have HX3 := Lib.hid (blk_below HX2.out hb3); have HB3 := Lib.hid (below_step HB2.out hb3); )
    | (refine ⟨trivial, ?_⟩; gi_at_call 22; refine (callsIn_wide.2 (capacity_Agrees.calls k n p _ _ l d tol a 0 _ HC1.out HL1.out HA.out)).mono ?_; rintro e w4 ⟨rfl, hb4⟩; have HX4 := Lib.hid (blk_below HX3.out hb4); have HB4 := Lib.hid (below_step HB3.out hb4); clear HC1 HL1; (try clear x0_ x1_ x2_ x3_); have x0_ := (blk_cell HX4.out 0).trans rfl; have x1_ := (blk_cell HX4.out 1).trans rfl; have x2_ := (blk_cell HX4.out 2).trans rfl; have x3_ := (blk_cell HX4.out 3).trans rfl; skip)
    | (refine ⟨trivial, ?_⟩; gi_at_call 28; refine (callsIn_wide.2 (own_calls28 k w.heap.size n p d A c l _ HX4.out HC.out (Kd.C_below HR.out HB4.out) HCP.out)).mono ?_; rintro e w5 ⟨A2, c2, rfl, hl2, hC2, hb5⟩; have HL2 := Lib.hid hl2; have HC2 := Lib.hid hC2; clear hl2 hC2; have HX5 := Lib.hid (blk_below HX4.out hb5); have HB5 := Lib.hid (below_step HB4.out hb5); )
    | (refine ⟨trivial, ?_⟩; gi_at_call 22; refine (callsIn_wide.2 (capacity_Agrees.calls k n p _ _ l d (wrap64 (tol + more)) b 0 _ HC2.out HL2.out HA2.out)).mono ?_; rintro e w6 ⟨rfl, hb6⟩; have HX6 := Lib.hid (blk_below HX5.out hb6); have HB6 := Lib.hid (below_step HB5.out hb6); clear HC2 HL2; (try clear x0_ x1_ x2_ x3_); have x0_ := (blk_cell HX6.out 0).trans rfl; have x1_ := (blk_cell HX6.out 1).trans rfl; have x2_ := (blk_cell HX6.out 2).trans rfl; have x3_ := (blk_cell HX6.out 3).trans rfl; skip)
    | (refine ⟨trivial, ?_⟩; gi_at_call 28; refine (callsIn_wide.2 (own_calls28 k w.heap.size n p d A c l _ HX6.out HC.out (Kd.C_below HR.out HB6.out) HCP.out)).mono ?_; rintro e w7 ⟨A3, c3, rfl, hl3, hC3, hb7⟩; have HL3 := Lib.hid hl3; have HC3 := Lib.hid hC3; clear hl3 hC3; have HX7 := Lib.hid (blk_below HX6.out hb7); have HB7 := Lib.hid (below_step HB6.out hb7); )
    | (refine ⟨trivial, ?_⟩; gi_at_call 20; refine (callsIn_wide.2 (capacity_Volume.calls k n p _ _ l d v1 v2 0 _ HC3.out HL3.out HV.out)).mono ?_; rintro e w8 ⟨rfl, hb8⟩; have HX8 := Lib.hid (blk_below HX7.out hb8); have HB8 := Lib.hid (below_step HB7.out hb8); clear HC3 HL3; have HXa := Lib.hid (blk_alloc HX8.out (.cells #[.int .i64 v1, .int .i64 v2] 32)); have HBa := Lib.hid (below_alloc HB8.out (.cells #[.int .i64 v1, .int .i64 v2] 32)); have HKa := Lib.hid (blk_new w8 (.cells #[.int .i64 v1, .int .i64 v2] 32)); (try clear x0_ x1_ x2_ x3_); have x0_ := (blk_cell HXa.out 0).trans rfl; have x1_ := (blk_cell HXa.out 1).trans rfl; have x2_ := (blk_cell HXa.out 2).trans rfl; have x3_ := (blk_cell HXa.out 3).trans rfl; )
    | (refine ⟨trivial, ?_⟩; gi_at_call 28; refine (callsIn_wide.2 (own_calls28 k w.heap.size n p d A c l _ HXa.out HC.out (Kd.C_below HR.out HBa.out) HCP.out)).mono ?_; rintro e w9 ⟨A4, c4, rfl, hl4, hC4, hb9⟩; have HL4 := Lib.hid hl4; have HC4 := Lib.hid hC4; clear hl4 hC4; have HX9 := Lib.hid (blk_below HXa.out hb9); have HB9 := Lib.hid (below_step HBa.out hb9); have ha := blk_alloc (blk_below HKa.out hb9) (.cells #[.string n, .int .i64 p, .slice A4 l.length c4, .int .i64 d] 40); have y0_ := (blk_cell ha 0).trans rfl; have y1_ := (blk_cell ha 1).trans rfl; have hd := blk_new w9 (.cells #[.string n, .int .i64 p, .slice A4 l.length c4, .int .i64 d] 40); have hd' := blk_put hd 3 (.int .i64 v2) rfl; have z0_ := (blk_cell hd 0).trans rfl; have z1_ := (blk_cell hd 1).trans rfl; have z2_ := (blk_cell hd 2).trans rfl; have z3_ := (blk_cell hd 3).trans rfl; have f3_ := blk_frozen hd 3; have u0_ := (blk_cell hd' 0).trans rfl; have u1_ := (blk_cell hd' 1).trans rfl; have u2_ := (blk_cell hd' 2).trans rfl; have u3_ := (blk_cell hd' 3).trans rfl; clear ha hd hd'; )
    | (refine ⟨trivial, ?_⟩; gi_at_call 22; refine (callsIn_wide.2 (capacity_Agrees.calls k n p _ _ l v2 tol x hh _ ?cc1 HL4.out HA4.out)).mono ?_; (case cc1 => exact Kd.C_alloc HC4.out _); rintro e w10 ⟨rfl, hb10⟩; have HB10 := Lib.hid (below_step (below_alloc HB9.out (.cells #[.string n, .int .i64 p, .slice A4 l.length c4, .int .i64 v2] 40)) hb10); skip))
  all_goals first
  | exact ⟨_, by simp [results, Try.f6, go_sem, *], rfl, HB10.out⟩
  | (exfalso; rename_i q_; exact h3 (eq_of_beq q_.2))
end Go.Proofs.Ytcbmmhedefigeaa.X
