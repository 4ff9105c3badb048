import Derived.Test.YtcbmmhedefigeaaPc8
import Derived.Test.YtcbmmhedefigeaaCf8
import Derived.Lib.Hide
import Derived.Test.YtcbmmhedefigeaaIt8
/-! profile.Check: what it comes to, and the walk. -/
namespace Go.Proofs.Ytcbmmhedefigeaa.X
set_option linter.unusedVariables false
set_option linter.unusedSimpArgs false
open Go.RowKit Go.Shelf Go.Proofs.YtcbmmhedefigeaaW.PrintWords Go.Proofs.YtcbmmhedefigeaaW.PrintLast
open Go.Proofs.Ytcbmmhedefigeaa.It
attribute [local go_sem] Oper.semAt_some
theorem lt_of_cell {w : World} {x : Addr} {v : Value} (h : w.cell? x = some v) : x.block < w.heap.size := World.block_lt_of_cell? w x h
/-- what is read, as the iterator's contract wants it -/
theorem holds_of_reads {w : World} {A : Option Addr} {zs : List S30} (h : Kd.C k30 w A zs.length zs) : Holds w.heap.size w A zs := by
 cases zs with
 | nil => exact .inl rfl
 | cons z zs =>
  have key : ∀ j, j < (z :: zs).length → ∃ ad, A = some ad ∧ w.cell? (ad.add (j * 2)) = some (.int .i64 ((z :: zs)[j]?.getD z30).f0) ∧ w.cell? ⟨(ad.add (j * 2)).block, (ad.add (j * 2)).off + 1, none⟩ = some (.int .i64 ((z :: zs)[j]?.getD z30).f1) := by
   intro j hj
   obtain ⟨ad, e, h0, h1⟩ := at_T30 h (j : Int) (by omega) (by omega)
   have ej : ((j : Int).toNat) = j := by simp
   have ex : rd_T30 (z :: zs) (j : Int) = (z :: zs)[j]?.getD z30 := by unfold rd_T30; rw [ej]; simp [List.getD]
   rw [ex, ej] at h0 h1
   exact ⟨ad, e, h0, h1⟩
  obtain ⟨ad, e, h0, _⟩ := key 0 (by simp)
  refine .inr ⟨ad, e, ?_, fun j hj => ?_⟩
  ·have := lt_of_cell h0
   rwa [It.add_block] at this
  ·obtain ⟨ad', e', h0', h1'⟩ := key j hj
   rw [e] at e'
   obtain rfl := Option.some.inj e'
   exact ⟨h0', h1'⟩
theorem own_blk {W W' : World} {row : Option Nat} {b : Nat} {cs : Array Value} {t : TypeId} {fr : Nat × Nat} (h : W.heap[b]? = some (.cells cs t fr)) (hg : W.grownBy W' row) (hr : ∀ r, row = some r → ∃ o : Obj, W.heap[r]? = some o ∧ o.isCells = false) : W'.heap[b]? = some (.cells cs t fr) := by
 refine (hg.block b (Array.getElem?_eq_some_iff.1 h).1 ?_).trans h
 intro e
 obtain ⟨o, ho, hc⟩ := hr b e.symm
 rw [h] at ho
 cases ho
 cases hc
def meas (n : Int) : Bool := decide (0 ≤ n ∧ n ≤ 100000)
theorem measure_spec (n : Int) : profile_measure.f n = some (meas n) := by
 unfold profile_measure.f meas
 by_cases h : n ≥ 0
 ·rw [if_pos h]; simp [show 0 ≤ n from h]
 ·rw [if_neg h]; simp; omega
/-- out of range -/
def far (x : S30) : Bool := !(meas x.f0 && meas x.f1)
theorem far_spec (x : S30) : profile_Check_1.f x.f0 x.f1 = some (far x) := by
 unfold profile_Check_1.f far
 rw [measure_spec, Option.bind_some, measure_spec, Option.bind_some]
 cases meas x.f0 <;> simp
def flat (x : S30) : Bool := x.f1 == 0
theorem flat_spec (x : S30) : profile_Check_2.f x.f0 x.f1 = some (flat x) := rfl
/-- further along -/
def along (p : S30 × S30) : Bool := decide (p.1.f0 < p.2.f0)
/-- whether the radius grew after it fell, and whether it fell -/
def step (s : Bool × Bool) (p : S30 × S30) : Bool × Bool := (s.1 || (s.2 && decide (p.1.f1 < p.2.f1)), s.2 || decide (p.2.f1 < p.1.f1))
def st (ps : List (S30 × S30)) : Bool × Bool := ps.foldl step (false, false)
theorem st_snoc (ps : List (S30 × S30)) (p : S30 × S30) : st (ps ++ [p]) = step (st ps) p := by simp [st]
theorem st_bad (ps qs : List (S30 × S30)) (h : (st ps).1 = true) : (st (ps ++ qs)).1 = true := by
 unfold st at *
 rw [List.foldl_append]
 generalize ps.foldl step (false, false) = s at *
 induction qs generalizing s with
 | nil => exact h
 | cons q qs ih => exact ih _ (by simp [step, h])
def sCheck (l : List S30) : Int :=
 if l.length < 2 then 9 else if 32 < l.length then 8 else if l.any far = true then 2 else if (l[0]?.getD z30).f0 ≠ 0 then 5
 else if (upto (nb l) (l.length - 1)).all along = false then 5 else if l.any flat = true then 16 else if (st (upto (nb l) (l.length - 1))).1 = true then 10 else 0
def profile_Check.f (l0 : List S30) : Option Int := some (sCheck l0)
structure Fell (pre : List (S30 × S30)) : Prop where
 out : pre.all along = false
structure Rose (pre : List (S30 × S30)) : Prop where
 out : (st pre).1 = true
theorem upto_prefix {α : Type} (f : Nat → α) (k m : Nat) (h : k ≤ m) : ∃ r, upto f m = upto f k ++ r := by
 obtain ⟨d, rfl⟩ := Nat.le.dest h
 induction d with
 | zero => exact ⟨[], by simp⟩
 | succ d ih =>
  obtain ⟨r, hr⟩ := ih (by omega)
  refine ⟨r ++ [f (k + d)], ?_⟩
  have e : k + (d + 1) = (k + d) + 1 := by omega
  rw [e, upto_succ, hr, List.append_assoc]
set_option maxRecDepth 100000 in
set_option maxHeartbeats 400000 in
theorem profile_Check.calls (A0 : Option Addr) (c0 : Nat) (l0 : List S30) (r : Int) (w : World) (hr0 : Kd.C k30 w A0 l0.length l0) (hc0 : l0.length ≤ c0) (h : profile_Check.f l0 = some r) :
  Calls Try.prog 32 #[.slice A0 l0.length c0] w fun e w' => e = .returned (.int .i64 r) ∧ Below w.heap.size w w' := by
 have hI := holds_of_reads hr0
 have HR := Lib.hid hr0
 have HC := Lib.hid hc0
 clear hr0 hc0; have hu30 := Try.underlying30
 refine (callsIn_wide (n := 5)).1 ?_
 refine callsIn_of_wp_marks Try.func32 rfl trivial ?_
 simp only [Try.ntmps32, List.size_toArray, List.length_cons, List.length_nil, Nat.reduceAdd, Nat.reduceSub, Array.replicate_succ, Array.replicate_zero, List.push_toArray, List.append_toArray, List.nil_append, List.cons_append]
 obtain rfl := Option.some.inj h
 clear h
 unfold sCheck
 by_cases h2 : l0.length < 2
 ·rw [if_pos h2]
  have hd : decide ((l0.length : Int) < 2) = true := decide_eq_true (by omega)
  gi_wp2
  exact ⟨.int .i64 9, by simp [results, Try.f32, go_sem], rfl, (Below.refl _ w).alloc (Nat.le_refl _) _⟩
 ·rw [if_neg h2]
  have hd : decide ((l0.length : Int) < 2) = false := decide_eq_false (by omega)
  by_cases h32 : 32 < l0.length
  ·rw [if_pos h32]
   have hd : decide (32 < (l0.length : Int)) = true := decide_eq_true (by omega)
   gi_wp2
   exact ⟨.int .i64 8, by simp [results, Try.f32, go_sem], rfl, (Below.refl _ w).alloc (Nat.le_refl _) _⟩
  ·rw [if_neg h32]
   have hd2 : decide (32 < (l0.length : Int)) = false := decide_eq_false (by omega)
   have hlen : l0.length < 1000000000000 := by omega
   have K1 := fun (W : World) (hb : Below w.heap.size w W) => contains_calls 47 #[] far A0 c0 l0 W (Kd.C_below HR.out hb) HC.out hlen (enters_of Try.func47 (by kernel_rfl) rfl) (fun x w' _ => profile_Check_1.calls x.f0 x.f1 _ w' (far_spec x))
   cases hfar : l0.any far with
   | true =>
    rw [if_pos rfl]
    gi_wp2_with (refine ⟨trivial, ?_⟩; gi_at_call 46; refine (callsIn_wide.2 (K1 _ ((Below.refl _ w).alloc (Nat.le_refl _) _))).mono ?_; rw [hfar]; rintro e w1 ⟨rfl, hb1⟩; have hbk := blk_below (g := w.heap.size) (o := .cells #[.int .i64 0] 25 (0, 0)) (blk_new w _) hb1; have hcl := (blk_cell hbk 0).trans rfl; have hfz := blk_frozen hbk 0)
    exact ⟨.int .i64 2, by simp [results, Try.f32, go_sem, hcl], rfl, (below_step ((Below.refl _ w).alloc (Nat.le_refl _) _) hb1).setCell (p := ⟨w.heap.size, 0, none⟩) (Nat.le_refl _) _⟩
   | false =>
    rw [if_neg (by simp)]
    rcases hI with hnil | ⟨ad, rfl, hb, hcs⟩
    ·simp [hnil] at h2
    have HCS := Lib.hid hcs
    clear hcs
    have hx0 := (HCS.out 0 (by omega)).1
    have ea : ad.add (0 * 2) = ad := by unfold Addr.add; simp
    rw [ea] at hx0
    clear ea
    obtain ⟨x0, hz⟩ : ∃ z, (l0[0]?.getD z30).f0 = z := ⟨_, rfl⟩
    rw [hz] at hx0 ⊢
    have hl0 : (0 : Int) < (l0.length : Int) := by omega
    by_cases hx : x0 = 0
    ·subst hx
     rw [if_neg (by simp)]
     obtain ⟨res, hres⟩ : ∃ res, (if (upto (nb l0) (l0.length - 1)).all along = false then (5 : Int) else if l0.any flat = true then 16 else if (st (upto (nb l0) (l0.length - 1))).1 = true then 10 else 0) = res := ⟨_, rfl⟩
     rw [hres]
     have HRES := Lib.hid hres
     clear hres
     gi_wp2_with (first | (refine ⟨trivial, ?_⟩; gi_at_call 46; refine (callsIn_wide.2 (K1 _ ((Below.refl _ w).alloc (Nat.le_refl _) _))).mono ?_; rw [hfar]; rintro e w1 ⟨rfl, hb1⟩; have hbk := blk_below (g := w.heap.size) (o := .cells #[.int .i64 0] 25 (0, 0)) (blk_new w _) hb1; have hcl := (blk_cell hbk 0).trans rfl; have hfz := blk_frozen hbk 0; have hB1 := below_step ((Below.refl w.heap.size w).alloc (Nat.le_refl _) (.cells #[.int .i64 0] 25)) hb1; replace hx0 := (hB1.cell (p := ad) hb).trans hx0) | (refine ⟨trivial, ?_⟩; gi_at_call 49; refine (strips_in _ _ _ _ _).mono ?_; rintro e w' ⟨rfl, rfl⟩))
     have hR1 : w1.heap[w.heap.size]? = some (.cells #[.int .i64 0] 25 (0, 0)) := blk_below (g := w.heap.size) (o := .cells #[.int .i64 0] 25 (0, 0)) (blk_new w _) hb1
     have hlt1 := blk_lt hR1
     obtain ⟨W0, hW0⟩ : ∃ W0, w1.alloc (.cells #[.slice (some ad) l0.length c0] 22) = W0 := ⟨_, rfl⟩
     have hZ0 : W0.heap.size = w1.heap.size + 1 := by rw [← hW0]; simp
     have hR0 : W0.heap[w.heap.size]? = some (.cells #[.int .i64 0] 25 (0, 0)) := by rw [← hW0]; exact blk_alloc hR1 _
     have hN0 : W0.heap[w1.heap.size]? = some (.cells #[.slice (some ad) l0.length c0] 22 (0, 0)) := by rw [← hW0]; exact blk_new w1 _
     have hB0 : Below w.heap.size w W0 := by rw [← hW0]; exact below_alloc hB1 _
     rw [hW0]
     clear hW0 hR1 hbk hcl hfz hb1
     refine wpIn_rangeFunc_ownH rfl (by omega) (gf := 56) (lb := #[.pointer (some ⟨w1.heap.size, 0, none⟩)]) rfl trivial (enters_of Try.func56 (by kernel_rfl) rfl)
      (strips_stops 4 (by omega) w1.heap.size w.heap.size c0 (some ad) l0 hlen _ (by omega) (by omega) ((blk_cell hN0 0).trans rfl) (Holds.below hB0 (.inr ⟨ad, rfl, hb, HCS.out⟩))) kb_t (kb_b (by omega) (by omega)) (Below.refl _ _) (fun _ => rfl)
      (fun pre W => (pre.all along = true ∧ W.heap[w.heap.size]? = some (.cells #[.int .i64 0] 25 (0, 0)) ∧ W.heap[w1.heap.size]? = some (.cells #[.slice (some ad) l0.length c0] 22 (0, 0))) ∧ Below w.heap.size w W)
      (fun c pre W => (c = .ret ∧ Fell pre ∧ W.heap[w.heap.size]? = some (.cells #[.int .i64 5] 25 (0, 0))) ∧ Below w.heap.size w W)
      (OwnFrom.and (Own.from (fun s A B row hs hg hr => ⟨hs.1, own_blk hs.2.1 hg hr, own_blk hs.2.2 hg hr⟩) _) (ownFrom_below (Nat.le_refl _) (by omega)))
      (fun c => OwnFrom.and (Own.from (fun s A B row hs hg hr => ⟨hs.1, hs.2.1, own_blk hs.2.2 hg hr⟩) _) (ownFrom_below (Nat.le_refl _) (by omega)))
      ⟨⟨rfl, hR0, hN0⟩, hB0⟩
      (fun x a' W => ∃ Bp Bq : Nat, W.heap[Bp]? = some (.cells #[.int .i64 x.1.f0, .int .i64 x.1.f1] 30 (0, 0)) ∧ W.heap[Bq]? = some (.cells #[.int .i64 x.2.f0, .int .i64 x.2.f1] 30 (0, 0)) ∧
       a' = { tmps := #[.slice (some ad) l0.length c0, undef, .pointer (some ⟨w.heap.size, 0, none⟩), .pointer (some ⟨Bp, 0, none⟩), .pointer (some ⟨Bq, 0, none⟩), undef, undef, undef, .bool false, .slice (some ad) l0.length c0, .int .i64 (l0.length : Int), .bool false, .bool false, .slice (some ad) l0.length c0,
        .int .i64 (l0.length : Int), .bool false, .bool false, .slice (some ad) l0.length c0, .bool false, .bool false, .slice (some ad) l0.length c0, .pointer (some ad), .pointer (some ad), .int .i64 0, .bool false, .slice (some ad) l0.length c0,
        .func (.func 56) #[] #[.pointer (some ⟨w1.heap.size, 0, none⟩)], pv x.1, pv x.2, undef, undef, undef, undef, undef, undef, undef, undef, undef, undef, undef, undef, undef, undef, undef, undef, undef, undef, undef, undef, undef, undef, undef, undef, undef, undef, undef], defers := [] })
      (fun x a' => Own.from (fun s A B row hs hg hr => by obtain ⟨Bp, Bq, h3, h4, h5⟩ := hs; exact ⟨Bp, Bq, own_blk h3 hg hr, own_blk h4 hg hr, h5⟩) _) ?assign ?body ?done ?stop
     case assign =>
      rintro l pre x W K ⟨⟨hp, hR, hN⟩, hB⟩ hK
      have HK := Lib.hid hK
      clear hK
      have hltN := blk_lt hN
      gi_wp2
      exact HK.out _ _ (((KeepsOthers.alloc _ _).trans (KeepsOthers.alloc _ _)).from _) (((KB.refl _ _ _).alloc hB.size hltN _).alloc (by rw [World.size_alloc]; have := hB.size; omega) (by rw [World.size_alloc]; omega) _)
       ⟨⟨hp, blk_alloc (blk_alloc hR _) _, blk_alloc (blk_alloc hN _) _⟩, below_alloc (below_alloc hB _) _⟩
       ⟨W.heap.size, W.heap.size + 1, blk_alloc (blk_new W _) _, by have := blk_new (W.alloc (.cells #[.int .i64 x.1.f0, .int .i64 x.1.f1] 30)) (.cells #[.int .i64 x.2.f0, .int .i64 x.2.f1] 30); rwa [World.size_alloc] at this, rfl⟩
     case body =>
      rintro l pre x a' W hl ⟨r, hr⟩ ⟨⟨hp, hR, hN⟩, hB⟩ ⟨Bp, Bq, hP, hQ, rfl⟩ _
      have HPp := Lib.hid hp
      clear hp
      have hcP := (blk_cell hP 0).trans rfl
      have hcQ := (blk_cell hQ 0).trans rfl
      have hcR := (blk_cell hR 0).trans rfl
      have hfR := blk_frozen hR 0
      by_cases hx : x.1.f0 < x.2.f0
      ·have hxd : decide (x.2.f0 ≤ x.1.f0) = false := decide_eq_false (by omega)
       have HX : Hid (along x = true) := Lib.hid (by unfold along; exact decide_eq_true hx)
       gi_wp2
       exact ⟨KeepsFrom.refl _ _, KB.refl _ _ _, ⟨by rw [List.all_append, HPp.out]; simp [HX.out], hR, hN⟩, hB⟩
      ·have hxd : decide (x.2.f0 ≤ x.1.f0) = true := decide_eq_true (by omega)
       have HX : Hid (along x = false) := Lib.hid (by unfold along; exact decide_eq_false hx)
       gi_wp2
       exact ⟨(KeepsOthers.setCell _ _ _).from _, ⟨rfl, ⟨by rw [List.all_append]; simp [HX.out]⟩, blk_put hR 0 _ rfl⟩, hB.setCell (p := ⟨w.heap.size, 0, none⟩) (Nat.le_refl _) _⟩
     case done =>
      rintro D ys W hD rfl ⟨⟨hne, hR, hN⟩, hB⟩ hK
      have h := HRES.out
      rw [hne, if_neg (by simp)] at h
      clear hne HRES hN
      have K2 := fun (W : World) (hb : Below w.heap.size w W) => contains_calls 50 #[] flat (some ad) c0 l0 W (Kd.C_below HR.out hb) HC.out hlen (enters_of Try.func50 (by kernel_rfl) rfl) (fun x w' _ => profile_Check_2.calls x.f0 x.f1 _ w' (flat_spec x))
      cases hfl : l0.any flat with
      | true =>
       rw [hfl, if_pos rfl] at h
       subst h
       gi_wp2_with (refine ⟨trivial, ?_⟩; gi_at_call 46; refine (callsIn_wide.2 (K2 _ hB)).mono ?_; rw [hfl]; rintro e w2 ⟨rfl, hb2⟩; have hR2 := blk_below hR hb2; have hcl := (blk_cell hR2 0).trans rfl; have hfz := blk_frozen hR2 0)
       have hK2 := (hb2.block D (blk_lt hK)).trans hK
       have hK' := (KeepsOthers.setCell w2 ⟨w.heap.size, 0, none⟩ (.int .i64 16)).same D _ hK2 rfl
       refine ⟨by simp, .inl ⟨_, _, rfl, run_takeDeferred hK', ?_⟩⟩
       have hc5 := cell_kept ((blk_cell (blk_put hR2 0 (.int .i64 16) rfl) 0).trans rfl) (grownBy_putObj' _ D (.deferred none)) (fun r e => by cases e; exact ⟨_, hK', rfl⟩)
       refine ⟨.int .i64 16, ?_, rfl, ((below_step hB hb2).setCell (p := ⟨w.heap.size, 0, none⟩) (Nat.le_refl _) _).trans (belowK_b (w := w) (Nat.le_refl _) _ D _ _ (by have := hB0.size; omega) hK' rfl rfl)⟩
       simp [results, Try.f32, go_sem, hc5]
      | false =>
       rw [hfl, if_neg (by simp)] at h
       gi_wp2_with (first | (refine ⟨trivial, ?_⟩; gi_at_call 46; refine (callsIn_wide.2 (K2 _ hB)).mono ?_; rw [hfl]; rintro e w2 ⟨rfl, hb2⟩; have hR2 := blk_below hR hb2; have hcl := (blk_cell hR2 0).trans rfl; have hfz := blk_frozen hR2 0) | (refine ⟨trivial, ?_⟩; gi_at_call 49; refine (strips_in _ _ _ _ _).mono ?_; rintro e w' ⟨rfl, rfl⟩))
       have hK2 := (hb2.block D (blk_lt hK)).trans hK
       have hltD := blk_lt hK2
       have hltR := blk_lt hR2
       have hB2 := below_step hB hb2
       obtain ⟨V0, hV0⟩ : ∃ V0, (w2.alloc (.cells #[.bool false] 4)).alloc (.cells #[.slice (some ad) l0.length c0] 22) = V0 := ⟨_, rfl⟩
       have hZ2 : V0.heap.size = w2.heap.size + 1 + 1 := by rw [← hV0]; simp
       have hRV : V0.heap[w.heap.size]? = some (.cells #[.int .i64 0] 25 (0, 0)) := by rw [← hV0]; exact blk_alloc (blk_alloc hR2 _) _
       have hFV : V0.heap[w2.heap.size]? = some (.cells #[.bool false] 4 (0, 0)) := by rw [← hV0]; exact blk_alloc (blk_new w2 _) _
       have hNV : V0.heap[w2.heap.size + 1]? = some (.cells #[.slice (some ad) l0.length c0] 22 (0, 0)) := by rw [← hV0]; have := blk_new (w2.alloc (.cells #[.bool false] 4)) (.cells #[.slice (some ad) l0.length c0] 22); rwa [World.size_alloc] at this
       have hDV : V0.heap[D]? = some (.deferred (some [])) := by rw [← hV0]; exact blk_alloc (blk_alloc hK2 _) _
       have hBV : Below w.heap.size w V0 := by rw [← hV0]; exact below_alloc (below_alloc hB2 _) _
       have hszw := hB2.size
       rw [hV0]
       have HRES := Lib.hid h
       clear h hV0 hcl hfz hR2 hb2 hK hR hK2
       refine wpIn_rangeFunc_ownH rfl (by omega) (gf := 56) (lb := #[.pointer (some ⟨w2.heap.size + 1, 0, none⟩)]) rfl trivial (enters_of Try.func56 (by kernel_rfl) rfl)
        (strips_stops 4 (by omega) (w2.heap.size + 1) w.heap.size c0 (some ad) l0 hlen _ (by omega) (by omega) ((blk_cell hNV 0).trans rfl) (Holds.below hBV (.inr ⟨ad, rfl, hb, HCS.out⟩))) kb_t (kb_b (by omega) (by omega)) (Below.refl _ _) (fun _ => rfl)
        (fun pre W => ((st pre).1 = false ∧ W.heap[w.heap.size]? = some (.cells #[.int .i64 0] 25 (0, 0)) ∧ W.heap[w2.heap.size]? = some (.cells #[.bool (st pre).2] 4 (0, 0)) ∧ W.heap[w2.heap.size + 1]? = some (.cells #[.slice (some ad) l0.length c0] 22 (0, 0))) ∧ (W.heap[D]? = some (.deferred (some [])) ∧ Below w.heap.size w W))
        (fun c pre W => (c = .ret ∧ Rose pre ∧ W.heap[w.heap.size]? = some (.cells #[.int .i64 10] 25 (0, 0))) ∧ (W.heap[D]? = some (.deferred (some [])) ∧ Below w.heap.size w W))
        (OwnFrom.and (Own.from (fun s A B row hs hg hr => ⟨hs.1, own_blk hs.2.1 hg hr, own_blk hs.2.2.1 hg hr, own_blk hs.2.2.2 hg hr⟩) _) (OwnFrom.and (fun s A B row hs hg hr => (hg.block D (blk_lt hs) (fun e => by have := (hr D e.symm).1; omega)).trans hs) (ownFrom_below (Nat.le_refl _) (by omega))))
        (fun c => OwnFrom.and (Own.from (fun s A B row hs hg hr => ⟨hs.1, hs.2.1, own_blk hs.2.2 hg hr⟩) _) (OwnFrom.and (fun s A B row hs hg hr => (hg.block D (blk_lt hs) (fun e => by have := (hr D e.symm).1; omega)).trans hs) (ownFrom_below (Nat.le_refl _) (by omega))))
        ⟨⟨rfl, hRV, hFV, hNV⟩, hDV, hBV⟩
        (fun x a' W => ∃ Bp Bq : Nat, W.heap[Bp]? = some (.cells #[.int .i64 x.1.f0, .int .i64 x.1.f1] 30 (0, 0)) ∧ W.heap[Bq]? = some (.cells #[.int .i64 x.2.f0, .int .i64 x.2.f1] 30 (0, 0)) ∧
         a' = { tmps := #[.slice (some ad) l0.length c0, undef, .pointer (some ⟨w.heap.size, 0, none⟩), undef, undef, .pointer (some ⟨w2.heap.size, 0, none⟩), .pointer (some ⟨Bp, 0, none⟩), .pointer (some ⟨Bq, 0, none⟩), .bool false, .slice (some ad) l0.length c0, .int .i64 (l0.length : Int), .bool false, .bool false, .slice (some ad) l0.length c0,
          .int .i64 (l0.length : Int), .bool false, .bool false, .slice (some ad) l0.length c0, .bool false, .bool false, .slice (some ad) l0.length c0, .pointer (some ad), .pointer (some ad), .int .i64 0, .bool false, .slice (some ad) l0.length c0,
          .func (.func 56) #[] #[.pointer (some ⟨w1.heap.size, 0, none⟩)], undef, undef, undef, undef, undef, undef, undef, .slice (some ad) l0.length c0, .bool false, .slice (some ad) l0.length c0, .func (.func 56) #[] #[.pointer (some ⟨w2.heap.size + 1, 0, none⟩)], pv x.1, pv x.2,
          undef, undef, undef, undef, undef, undef, undef, undef, undef, undef, undef, undef, undef, undef, undef, undef], defers := [] })
        (fun x a' => Own.from (fun s A B row hs hg hr => by obtain ⟨Bp, Bq, h3, h4, h5⟩ := hs; exact ⟨Bp, Bq, own_blk h3 hg hr, own_blk h4 hg hr, h5⟩) _) ?assign2 ?body2 ?done2 ?stop2
       case assign2 =>
        rintro l pre x W K ⟨⟨hp, hR, hF, hN⟩, hDD, hB⟩ hK
        have HK := Lib.hid hK
        clear hK
        have hltN := blk_lt hN
        gi_wp2
        exact HK.out _ _ (((KeepsOthers.alloc _ _).trans (KeepsOthers.alloc _ _)).from _) (((KB.refl _ _ _).alloc hB.size hltN _).alloc (by rw [World.size_alloc]; have := hB.size; omega) (by rw [World.size_alloc]; omega) _)
         ⟨⟨hp, blk_alloc (blk_alloc hR _) _, blk_alloc (blk_alloc hF _) _, blk_alloc (blk_alloc hN _) _⟩, blk_alloc (blk_alloc hDD _) _, below_alloc (below_alloc hB _) _⟩
         ⟨W.heap.size, W.heap.size + 1, blk_alloc (blk_new W _) _, by have := blk_new (W.alloc (.cells #[.int .i64 x.1.f0, .int .i64 x.1.f1] 30)) (.cells #[.int .i64 x.2.f0, .int .i64 x.2.f1] 30); rwa [World.size_alloc] at this, rfl⟩
       case body2 =>
        rintro l pre x a' W hl ⟨r, hr⟩ ⟨⟨hp, hR, hF, hN⟩, hDD, hB⟩ ⟨Bp, Bq, hP, hQ, rfl⟩ _
        have hcP := (blk_cell hP 1).trans rfl
        have hcQ := (blk_cell hQ 1).trans rfl
        have hcR := (blk_cell hR 0).trans rfl
        have hfR := blk_frozen hR 0
        have hfF := blk_frozen hF 0
        have e1 : st (pre ++ [x]) = step (st pre) x := st_snoc pre x
        obtain ⟨⟨bad, b⟩, hs⟩ : ∃ s, st pre = s := ⟨_, rfl⟩
        rw [hs] at hp hF e1
        obtain rfl : bad = false := hp
        have hcF := (blk_cell hF 0).trans rfl
        have hnF : w.heap.size ≠ w2.heap.size := by omega
        have hnN : w2.heap.size + 1 ≠ w2.heap.size := by omega
        have hnD : D ≠ w2.heap.size := by omega
        have E1 := Lib.hid e1
        clear e1 hs
        cases b with
        | true =>
         by_cases hx : x.1.f1 < x.2.f1
         ·have hxd : decide (x.1.f1 < x.2.f1) = true := decide_eq_true hx
          gi_wp2
          exact ⟨(KeepsOthers.setCell _ _ _).from _, ⟨rfl, ⟨by rw [E1.out]; simp [step, hx]⟩, blk_put hR 0 _ rfl⟩, (Below.heap_setCell _ _ _ _ (by show D ≠ w.heap.size; omega)).trans hDD, hB.setCell (p := ⟨w.heap.size, 0, none⟩) (Nat.le_refl _) _⟩
         ·have hxd : decide (x.1.f1 < x.2.f1) = false := decide_eq_false hx
          gi_wp2
          exact ⟨(KeepsOthers.setCell _ _ _).from _, (KB.refl _ _ _).setCell (p := ⟨w2.heap.size, 0, none⟩) hszw hnN _, ⟨⟨by rw [E1.out]; simp [step, hx], blk_far hR hnF _, by rw [E1.out]; exact blk_put hF 0 _ rfl, blk_far hN hnN _⟩, (Below.heap_setCell _ _ _ _ hnD).trans hDD, hB.setCell (p := ⟨w2.heap.size, 0, none⟩) hszw _⟩⟩
        | false =>
         gi_wp2
         exact ⟨(KeepsOthers.setCell _ _ _).from _, (KB.refl _ _ _).setCell (p := ⟨w2.heap.size, 0, none⟩) hszw hnN _, ⟨⟨by rw [E1.out]; simp [step], blk_far hR hnF _, by rw [E1.out]; exact blk_put hF 0 _ (by simp [step]), blk_far hN hnN _⟩, (Below.heap_setCell _ _ _ _ hnD).trans hDD, hB.setCell (p := ⟨w2.heap.size, 0, none⟩) hszw _⟩⟩
       case done2 =>
        rintro D2 ys W hD2 rfl ⟨⟨hne, hR, hF, hN⟩, hDD, hB⟩ hK
        have h := HRES.out
        rw [hne, if_neg (by simp)] at h
        subst h
        have hcR := (blk_cell hR 0).trans rfl
        have hfR := blk_frozen hR 0
        clear hne HRES hN hF
        gi_wp2
        have hne2 : D ≠ D2 := by omega
        have hK' := (KeepsOthers.setCell W ⟨w.heap.size, 0, none⟩ (.int .i64 0)).same D2 _ hK rfl
        have hD' := (KeepsOthers.setCell W ⟨w.heap.size, 0, none⟩ (.int .i64 0)).same D _ hDD rfl
        have hD2' := (World.putObj_heap_other (o := .deferred none) hne2).trans hD'
        refine ⟨by simp, .inl ⟨_, _, rfl, run_takeDeferred hK', ?_⟩⟩
        refine ⟨by simp, .inl ⟨_, _, rfl, run_takeDeferred hD2', ?_⟩⟩
        have hc4 := cell_kept ((blk_cell (blk_put hR 0 (.int .i64 0) rfl) 0).trans rfl) (grownBy_putObj' _ D2 (.deferred none)) (fun r e => by cases e; exact ⟨_, hK', rfl⟩); have hc5 := cell_kept hc4 (grownBy_putObj' _ D (.deferred none)) (fun r e => by cases e; exact ⟨_, hD2', rfl⟩)
        refine ⟨.int .i64 0, ?_, rfl, ((hB.setCell (p := ⟨w.heap.size, 0, none⟩) (Nat.le_refl _) _).trans (belowK_b (w := w) (Nat.le_refl _) _ D2 _ _ (by have := hBV.size; omega) hK' rfl rfl)).trans (belowK_b (w := w) (Nat.le_refl _) _ D _ _ (by have := hB0.size; omega) hD2' rfl rfl)⟩
        simp [results, Try.f32, go_sem, hc5]
       case stop2 =>
        rintro D2 c pre W hD2 ⟨k, hk, rfl⟩ ⟨⟨rfl, hne, hR⟩, hDD, hB⟩ hK
        have h := HRES.out
        obtain ⟨tl, htl⟩ := upto_prefix (nb l0) k (l0.length - 1) hk
        rw [htl, if_pos (st_bad _ _ hne.out)] at h
        subst h
        clear hne htl HRES
        gi_wp2
        have hne2 : D ≠ D2 := by omega
        have hD2' := (World.putObj_heap_other (o := .deferred none) hne2).trans hDD
        refine ⟨by simp, .inl ⟨_, _, rfl, run_takeDeferred hK, ?_⟩⟩
        refine ⟨by simp, .inl ⟨_, _, rfl, run_takeDeferred hD2', ?_⟩⟩
        have hc4 := cell_kept ((blk_cell hR 0).trans rfl) (grownBy_putObj' _ D2 (.deferred none)) (fun r e => by cases e; exact ⟨_, hK, rfl⟩); have hc5 := cell_kept hc4 (grownBy_putObj' _ D (.deferred none)) (fun r e => by cases e; exact ⟨_, hD2', rfl⟩)
        refine ⟨.int .i64 10, ?_, rfl, (hB.trans (belowK_b (w := w) (Nat.le_refl _) _ D2 _ _ (by have := hBV.size; omega) hK rfl rfl)).trans (belowK_b (w := w) (Nat.le_refl _) _ D _ _ (by have := hB0.size; omega) hD2' rfl rfl)⟩
        simp [results, Try.f32, go_sem, hc5]
     case stop =>
      rintro D c pre W hD ⟨k, hk, rfl⟩ ⟨⟨rfl, hne, hR⟩, hB⟩ hK
      have h := HRES.out
      obtain ⟨tl, htl⟩ := upto_prefix (nb l0) k (l0.length - 1) hk
      have hne2 := hne.out
      rw [htl, List.all_append, hne2, if_pos (by simp)] at h
      subst h
      clear hne hne2 htl HRES
      gi_wp2
      refine ⟨by simp, .inl ⟨_, _, rfl, run_takeDeferred hK, ?_⟩⟩
      have hc5 := cell_kept ((blk_cell hR 0).trans rfl) (grownBy_putObj' _ D (.deferred none)) (fun r e => by cases e; exact ⟨_, hK, rfl⟩)
      refine ⟨.int .i64 5, ?_, rfl, hB.trans (belowK_b (w := w) (Nat.le_refl _) W D _ _ (by have := hB0.size; omega) hK rfl rfl)⟩
      simp [results, Try.f32, go_sem, hc5]
    ·rw [if_pos hx]
     have hxn : (x0 != 0) = true := by simpa using hx
     gi_wp2_with (refine ⟨trivial, ?_⟩; gi_at_call 46; refine (callsIn_wide.2 (K1 _ ((Below.refl _ w).alloc (Nat.le_refl _) _))).mono ?_; rw [hfar]; rintro e w1 ⟨rfl, hb1⟩; have hbk := blk_below (g := w.heap.size) (o := .cells #[.int .i64 0] 25 (0, 0)) (blk_new w _) hb1; have hcl := (blk_cell hbk 0).trans rfl; have hfz := blk_frozen hbk 0; have hB1 := below_step ((Below.refl w.heap.size w).alloc (Nat.le_refl _) (.cells #[.int .i64 0] 25)) hb1; replace hx0 := (hB1.cell (p := ad) hb).trans hx0)
     exact ⟨.int .i64 5, by simp [results, Try.f32, go_sem, hcl], rfl, hB1.setCell (p := ⟨w.heap.size, 0, none⟩) (Nat.le_refl _) _⟩
end Go.Proofs.Ytcbmmhedefigeaa.X
