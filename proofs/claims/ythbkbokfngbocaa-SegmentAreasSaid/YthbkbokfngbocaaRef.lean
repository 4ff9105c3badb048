import Derived.Test.YthbkbokfngbocaaAre
/-! segment.Refine: what it comes to, and the walk. -/
namespace Go.Proofs.Ythbkbokfngbocaa.X
set_option linter.unusedVariables false
set_option linter.unusedSimpArgs false
open Go.RowKit Go.Shelf Go.Proofs.YthbkbokfngbocaaW.PrintWords Go.Proofs.YthbkbokfngbocaaW.PrintLast
open Go.Proofs.Ythbkbokfngbocaa.It Go.Proofs.Ythbkbokfngbocaa.Sq
attribute [local go_sem] Oper.semAt_some

def mid (p : Int × Int) : List Int := [wrap64 (Int.tdiv (wrap64 (p.1 + p.2)) 2), p.2]
def sRefine (l : List Int) : List Int × Int :=
  if sCheck l = 0 then (if 65 < 2 * (l.length : Int) - 1 then ([], 15) else (l[0]?.getD 0 :: (upto (nb l) (l.length - 1)).flatMap mid, 0)) else ([], sCheck l)
def segment_Refine.f (l0 : List Int) : Option (List Int × Int) := some (sRefine l0)

theorem sCheck_ok {l : List Int} (h : sCheck l = 0) : 2 ≤ l.length ∧ l.length ≤ 65 ∧ l.all inRange = true ∧ (upto (nb l) (l.length - 1)).all rising = true := by
  unfold sCheck at h
  by_cases h1 : l.length < 2
  · rw [if_pos h1] at h; omega
  · rw [if_neg h1] at h
    by_cases h2 : 65 < l.length
    · rw [if_pos h2] at h; omega
    · rw [if_neg h2] at h
      by_cases h3 : l.all inRange = true
      · rw [if_pos h3] at h
        by_cases h4 : (upto (nb l) (l.length - 1)).all rising = true
        · exact ⟨by omega, by omega, h3, h4⟩
        · rw [if_neg h4] at h; omega
      · rw [if_neg h3] at h; omega

theorem flat_len (z : Int) (pre : List (Int × Int)) : (z :: pre.flatMap mid).length = 1 + 2 * pre.length := by
  induction pre with
  | nil => rfl
  | cons p ps ih => simp only [List.flatMap_cons, List.length_cons, List.length_append, mid] at ih ⊢; simp at ih ⊢; omega

/-- what the loop holds: the variable out, the row that it leads to, the box of the slice -/
structure Hold (w w1 : World) (sv : Value) (z : Int) (pre : List (Int × Int)) (W : World) : Prop where
  out : (∃ v, W.heap[w1.heap.size + 1]? = some (.cells #[v] 28 (0, 0)) ∧ Kd.R (Kd.int .i64) 3 W w.heap.size (fun k_ => k_ ≠ w1.heap.size + 1 ∧ k_ ≠ w1.heap.size + 1 + 1) v (z :: pre.flatMap mid))
    ∧ W.heap[w1.heap.size + 1 + 1]? = some (.cells #[sv] 28 (0, 0)) ∧ Below w.heap.size w W

theorem own_R {W W' : World} {row : Option Nat} {base e : Nat} {ok : Nat → Prop} {v : Value} {xs : List Int} (h : Kd.R (Kd.int .i64) e W base ok v xs) (hg : W.grownBy W' row) (hr : ∀ r, row = some r → ∃ o : Obj, W.heap[r]? = some o ∧ o.isCells = false) : Kd.R (Kd.int .i64) e W' base ok v xs :=
  Kd.R_mono (Kd.R_grown (Kd.R_bound h) hg (fun k hk hc => by
    obtain ⟨_, _, _, _, _, cells, hc2⟩ := hk
    obtain ⟨o, ho, hcc⟩ := hr k hc.symm
    rw [hc2] at ho
    cases ho
    cases hcc)) (fun _ hk => hk.1)

theorem hold_own {w w1 : World} {sv : Value} {z : Int} {B : Nat} (hB : w.heap.size ≤ B) : OwnFrom B (fun pre W => Hold w w1 sv z pre W) := fun s W W' row hs hg hr => by
  obtain ⟨⟨v, hO, hR⟩, hN, hb⟩ := hs.out
  have hr2 : ∀ r, row = some r → ∃ o : Obj, W.heap[r]? = some o ∧ o.isCells = false := fun r e => (hr r e).2
  exact ⟨⟨v, own_blk hO hg hr2, own_R hR hg hr2⟩, own_blk hN hg hr2, hb.grown hg hb.size (fun k e => by have := (hr k e).1; omega)⟩

set_option maxRecDepth 100000 in
set_option maxHeartbeats 400000 in
theorem segment_Refine.calls (A0 : Option Addr) (c0 : Nat) (l0 : List Int) (r1 : List Int) (r2 : Int) (w : World) (hr0 : Kd.C (Kd.int .i64) w A0 l0.length l0) (hc0 : l0.length ≤ c0) (h : segment_Refine.f l0 = some (r1, r2)) :
    Calls Try.prog 14 #[.slice A0 l0.length c0] w fun e w' => ∃ v0_ : Value, e = .returned (.tuple #[v0_, .int .i64 r2]) ∧ Kd.R (Kd.int .i64) 3 w' w.heap.size (fun _ => True) v0_ r1 ∧ Below w.heap.size w w' := by
  have hI := holds_of_reads hr0
  have hR0 := Aside0.mk hr0
  clear hr0
  have hC0 := Aside0.mk hc0
  clear hc0
  have h := Option.some.inj h
  unfold sRefine at h
  have M2 := Aside0.mk (check_spec l0)
  by_cases he : sCheck l0 = 0
  · rw [if_pos he] at h
    have M3 : Aside0 (segment_Check.f l0 = some 0) := ⟨by rw [M2.out, he]⟩
    obtain ⟨hl2, hl65, _, _⟩ := sCheck_ok he
    clear M2 he
    by_cases hlen : 65 < 2 * (l0.length : Int) - 1
    · rw [if_pos hlen] at h
      simp only [Prod.mk.injEq] at h
      obtain ⟨rfl, rfl⟩ := h
      have hd : decide (65 < 2 * (l0.length : Int) - 1) = true := decide_eq_true hlen
      go_enter Try.func14, Try.ntmps14
      go_wp2_with (first | (go_at_call 18; refine (segment_Check.calls _ _ _ _ _ hR0.out hC0.out M3.out).mono ?_; rintro e w1 ⟨rfl, hb⟩))
      go_ret2
      exact ⟨_, rfl, Kd.R_nil _ _ _ _ _, hb⟩
    · rw [if_neg hlen] at h
      have hd : decide (65 < 2 * (l0.length : Int) - 1) = false := decide_eq_false hlen
      simp only [Prod.mk.injEq] at h
      obtain ⟨h1, rfl⟩ := h
      have H1 := Lib.hid h1
      clear h1
      rcases hI with hnil | ⟨ad, rfl, hb0, hcs⟩
      · rw [hnil] at hl2; simp at hl2
      have hc00 := hcs 0 (by omega)
      obtain ⟨z, hz⟩ : ∃ z, l0[0]?.getD 0 = z := ⟨_, rfl⟩
      rw [hz] at hc00
      have HZ := Lib.hid hz
      have HCS := Lib.hid hcs
      clear hz hcs
      refine (callsIn_wide (n := 5)).1 ?_
      refine callsIn_of_wp_marks Try.func14 rfl trivial ?_
      simp only [Try.ntmps14, List.size_toArray, List.length_cons, List.length_nil, Nat.reduceAdd, Nat.reduceSub, Array.replicate_succ, Array.replicate_zero, List.push_toArray, List.append_toArray, List.nil_append, List.cons_append]
      gi_wp2_with (first | (refine ⟨trivial, ?_⟩; gi_at_call 18; refine (callsIn_wide.2 (segment_Check.calls _ _ _ _ _ hR0.out hC0.out M3.out)).mono ?_; rintro e w1 ⟨rfl, hb⟩; have hc1 := (hb.cell (p := ad.add 0) (by rw [It.add_block]; exact hb0)).trans hc00; rw [Addr.add_zero'] at hc1) | (refine ⟨trivial, ?_⟩; gi_at_call 26; refine (strips_in _ _ _ _ _).mono ?_; rintro e w' ⟨rfl, rfl⟩))
      obtain ⟨W0, hW0⟩ : ∃ W0, ((w1.alloc (.cells #[.int .i64 z] 3)).alloc (.cells #[.slice (some ⟨w1.heap.size, 0, none⟩) 1 1] 28)).alloc (.cells #[.slice (some ad) l0.length c0] 28) = W0 := ⟨_, rfl⟩
      have hB0 : Below w.heap.size w W0 := by rw [← hW0]; exact below_alloc (below_alloc (below_alloc hb _) _) _
      have hZ0 : W0.heap.size = w1.heap.size + 1 + 1 + 1 := by rw [← hW0]; simp
      have hG0 : W0.heap[w1.heap.size]? = some (.cells #[.int .i64 z] 3 (0, 0)) := by
        rw [← hW0]; exact blk_alloc (blk_alloc (blk_new w1 _) _) _
      have hO0 : W0.heap[w1.heap.size + 1]? = some (.cells #[.slice (some ⟨w1.heap.size, 0, none⟩) 1 1] 28 (0, 0)) := by
        rw [← hW0]; exact blk_alloc (by have := blk_new (w1.alloc (.cells #[.int .i64 z] 3)) (.cells #[.slice (some ⟨w1.heap.size, 0, none⟩) 1 1] 28); rwa [World.size_alloc] at this) _
      have hN0 : W0.heap[w1.heap.size + 1 + 1]? = some (.cells #[.slice (some ad) l0.length c0] 28 (0, 0)) := by
        rw [← hW0]; have := blk_new ((w1.alloc (.cells #[.int .i64 z] 3)).alloc (.cells #[.slice (some ⟨w1.heap.size, 0, none⟩) 1 1] 28)) (.cells #[.slice (some ad) l0.length c0] 28); rwa [World.size_alloc, World.size_alloc] at this
      have hws1 := hb.size
      have hR0W : Kd.R (Kd.int .i64) 3 W0 w.heap.size (fun k_ => k_ ≠ w1.heap.size + 1 ∧ k_ ≠ w1.heap.size + 1 + 1) (.slice (some ⟨w1.heap.size, 0, none⟩) 1 1) [z] :=
        Kd.R_of_own ⟨rfl, .inr ⟨w1.heap.size, 1, _, rfl, hws1, hG0, Nat.le_refl _, by decide, rfl, rfl⟩⟩ (fun k hk => by
          have : w1.heap.size = k := by simpa [Value.ownBlock] using hk
          omega)
      rw [hW0]
      have hreach : l0.length * 8 ≤ 140737488355328 := by omega
      clear hW0 hG0 hc1 hc00
      have HN := Lib.hid hN0
      clear hN0
      have HI0 : Hold w w1 (.slice (some ad) l0.length c0) z [] W0 := ⟨⟨_, hO0, hR0W⟩, HN.out, hB0⟩
      clear hO0 hR0W
      refine wpIn_rangeFunc_ownG rfl (by omega) (gf := 30) (lb := #[.pointer (some ⟨w1.heap.size + 1 + 1, 0, none⟩)]) rfl trivial (enters_of Try.func30 (by kernel_rfl) rfl)
        (strips_stops 4 (by omega) (w1.heap.size + 1 + 1) w.heap.size c0 (some ad) l0 hreach _ (by omega) (by omega) ((blk_cell HN.out 0).trans rfl) (Holds.below hB0 (.inr ⟨ad, rfl, hb0, HCS.out⟩))) kb_t (kb_b (by omega) (by omega)) (Below.refl _ _) (fun _ => rfl)
        (fun pre W => Hold w w1 (.slice (some ad) l0.length c0) z pre W)
        (fun c pre W => False)
        (hold_own (by omega))
        (fun c => fun s A B row hs hg hr => hs)
        HI0
        (fun x => { tmps := #[.slice (some ad) l0.length c0, undef, .slice none 0 0, .int .i64 0, .int .i64 0, .pointer (some ⟨w1.heap.size + 1, 0, none⟩), .int .i64 x.1, .int .i64 x.2, .slice (some ad) l0.length c0, .int .i64 0, .int .i64 0, .bool false, undef, .slice (some ad) l0.length c0, .int .i64 (l0.length : Int), .int .i64 (2 * (l0.length : Int)), .int .i64 (2 * (l0.length : Int) - 1), .bool false, .slice (some ad) l0.length c0, .pointer (some ad), .int .i64 z, .slice (some ⟨w1.heap.size, 0, none⟩) 1 1, .slice (some ad) l0.length c0,
          .func (.func 30) #[] #[.pointer (some ⟨w1.heap.size + 1 + 1, 0, none⟩)], .int .i64 x.1, .int .i64 x.2, undef, undef, undef, undef, undef, undef, undef, undef, undef], defers := [] }) ?assign ?body ?done ?stop
      case assign =>
        intro l x W K hK
        gi_wp2
        exact hK
      case body =>
        rintro l pre x W hI hlt
        obtain ⟨⟨v, hO, hR⟩, hN, hB⟩ := hI.out
        have hcO : W.cell? ⟨w1.heap.size + 1, 0, none⟩ = some v := (blk_cell hO 0).trans rfl
        have HO := Lib.hid hO
        have HN2 := Lib.hid hN
        obtain ⟨xs, hxs⟩ : ∃ xs, z :: pre.flatMap mid = xs := ⟨_, rfl⟩
        rw [hxs] at hR
        have HXS := Aside0.mk hxs
        clear hxs
        have HR := Aside0.mk hR
        have HB := Aside0.mk hB
        have HL := Aside0.mk hlt
        clear hO hN hR hB hI hlt
        refine wpIn_block ?_
        refine Tail.region_list (Tail.open_round l _ _) (by kernel_rfl) (by rintro ⟨a_, w_, h_⟩; exact h_) ?_
        obtain ⟨y, hy⟩ : ∃ y : List Int, y = ([wrap64 (Int.tdiv (wrap64 (x.1 + x.2)) 2), x.2] : List Int) := ⟨_, rfl⟩
        have NY := Aside0.mk hy
        have hy2 : y.length = 2 := by rw [hy]; rfl
        have HYL := Aside0.mk hy2
        clear hy hy2
        have hOlt := blk_lt HO.out
        have hNlt := blk_lt HN2.out
        go_wp2_with (first | ((with_reducible refine gate_dst (N := 32) rfl ?_); refine Kd.R_lit (Kd.int .i64) _ 3 ?hg (N := 32) ?hd (xs := ([wrap64 (Int.tdiv (wrap64 (x.1 + x.2)) 2), x.2] : List Int)) (inner := [.int .i64 (wrap64 (Int.tdiv (wrap64 (x.1 + x.2)) 2)), .int .i64 x.2]) (ok := fun _ => True) (okp := fun _ => True) ?hr ?hp (fun _ hk => hk) trivial (Below.refl _ _) (Nat.le_refl _) (by simp) ?_; (case hd => rfl); (case hg => rfl); (case hr => first | (go_simp; done) | (go_simp; rfl)); (case hp => exact (Reps.one (show Kd.M (Kd.int .i64) _ _ _ (wrap64 (Int.tdiv (wrap64 (x.1 + x.2)) 2)) [.int .i64 (wrap64 (Int.tdiv (wrap64 (x.1 + x.2)) 2))] from rfl) (Reps.one (show Kd.M (Kd.int .i64) _ _ _ x.2 [.int .i64 x.2] from rfl) (Reps.none _ _)))); intro v190 w15 ho16 hb15 hg_ hnew_; rw [← NY.out] at ho16; obtain ⟨Ao, co, rfl⟩ := Kd.R_slice ho16; have HY := Aside0.mk ho16; have HB15 := Aside0.mk hb15; clear hg_ hnew_ ho16 hb15) | ((with_reducible refine gate_dst (N := 33) rfl ?_); refine Kd.R_append_rows (Kd.int .i64) (w0 := w) w.heap.size (by rfl) (.tmp 26) (.tmp 32) 28 3 (.int .i64 0) 8 rfl Try.underlying28 info3 rfl (by decide) (by omega) v xs y _ _ _ (fun k_ => k_ ≠ w1.heap.size + 1 ∧ k_ ≠ w1.heap.size + 1 + 1) (fun _ => False) rfl rfl (Kd.R_below HR.out HB15.out) (Kd.R_reads' HY.out).2.2 (fun _ _ h => h) (fun _ h => h.elim) (fun k_ hk => by have := HB15.out.size; omega) (below_step HB.out HB15.out) (below_step HB.out HB15.out).size (by rw [HYL.out, ← HXS.out]; have := flat_len z pre; have := HL.out; omega) ?_; intro v2 w3 hO3 hB3 hg3 hat3; obtain ⟨Ao2, co2, e2⟩ := Kd.R_slice hO3; obtain ⟨nn, hnn⟩ : ∃ nn, (xs ++ y).length = nn := ⟨_, rfl⟩; rw [hnn] at e2; subst e2; clear hnn; have hOv : some (w1.heap.size + 1) ≠ v.ownBlock := (fun e => (HR.out.1 _ e.symm).1 rfl); have hNv : some (w1.heap.size + 1 + 1) ≠ v.ownBlock := (fun e => (HR.out.1 _ e.symm).2 rfl); have hO4 := blk_grown (blk_below HO.out HB15.out) hg3 hOv; have hN4 := blk_grown (blk_below HN2.out HB15.out) hg3 hNv; have hcO4 : w3.cell? ⟨w1.heap.size + 1, 0, none⟩ = some v := (blk_cell hO4 0).trans rfl; have hfO4 := blk_frozen hO4 0; have HO4 := Aside0.mk hO4; have HN4 := Aside0.mk hN4; have HO3 := Aside0.mk hO3; have HB3 := Aside0.mk hB3; have HG3 := Aside0.mk hg3; clear hO4 hN4 hO3 hB3 hg3 hat3 hOv hNv))
        have hK1 : KeepsFrom W0.heap.size W w15 := ⟨HB15.out.size, fun b o _ ho _ => blk_below ho HB15.out⟩
        have hK2 : KeepsFrom W0.heap.size w15 w3 := (KeepsOthers.of_grownBy HG3.out (fun j o hj ho => by
          obtain ⟨_, _, _, _, _, cells, hc2⟩ := (Kd.R_bound (Kd.R_below HR.out HB15.out)).1 j hj
          rw [hc2] at ho; cases ho; rfl)).from _
        have hKB1 : KB w.heap.size (w1.heap.size + 1 + 1) W w15 := (KB.refl _ _ _).below HB15.out HB.out.size hNlt
        have hKB2 : KB w.heap.size (w1.heap.size + 1 + 1) w15 w3 := ⟨(Below.refl w.heap.size w15).grown HG3.out (by have := HB.out.size; have := HB15.out.size; omega) (fun k e => Kd.R_base HR.out k e),
          HG3.out.block _ (by have := HB15.out.size; omega) (fun e => (HR.out.1 _ e.symm).2 rfl)⟩
        have hfl : z :: (pre ++ [x]).flatMap mid = xs ++ y := by rw [← HXS.out, NY.out]; simp [mid]
        refine ⟨(hK1.trans hK2).trans ((KeepsOthers.setCell _ _ _).from _), (hKB1.trans hKB2).setCell (p := ⟨w1.heap.size + 1, 0, none⟩) (by show w.heap.size ≤ w1.heap.size + 1; omega) (by show w1.heap.size + 1 + 1 ≠ w1.heap.size + 1; omega) _, ⟨⟨_, blk_put HO4.out 0 _ rfl, ?_⟩, ?_, ?_⟩⟩
        · rw [hfl]; exact Kd.R_far HO3.out (p := ⟨w1.heap.size + 1, 0, none⟩) (fun k hk => hk.1) _
        · exact blk_far HN4.out (by show w1.heap.size + 1 + 1 ≠ w1.heap.size + 1; omega) _
        · exact below_set HB3.out (by omega)
      case done =>
        rintro D ys W hD rfl hI hK
        obtain ⟨⟨v, hO, hR⟩, hN, hB⟩ := hI.out
        have hcO : W.cell? ⟨w1.heap.size + 1, 0, none⟩ = some v := (blk_cell hO 0).trans rfl
        have hfin : z :: (upto (nb l0) (l0.length - 1)).flatMap mid = r1 := by rw [← HZ.out]; exact H1.out
        rw [hfin] at hR
        have HR := Aside0.mk hR
        have HK := Lib.hid hK
        clear hO hN hI hR hfin hK
        gi_wp2
        refine ⟨by simp, .inl ⟨_, _, rfl, run_takeDeferred HK.out, ?_⟩⟩
        refine ⟨.tuple #[v, .int .i64 0], by simp [results, Try.f14, go_sem], v, rfl, ?_, ?_⟩
        · exact Kd.R_mono (own_R HR.out (grownBy_putObj' _ D (.deferred none)) (fun r e => by cases e; exact ⟨_, HK.out, rfl⟩)) (fun _ _ => trivial)
        · exact hB.trans (belowK_b (w := w) (Nat.le_refl _) _ D _ _ (by omega) HK.out rfl rfl)
      case stop =>
        rintro D c pre W hD _ h _
        exact h.elim
  · rw [if_neg he] at h
    simp only [Prod.mk.injEq] at h
    obtain ⟨rfl, rfl⟩ := h
    have HE := Lib.hid he
    clear he
    obtain ⟨e, hee⟩ : ∃ e, sCheck l0 = e := ⟨_, rfl⟩
    rw [hee] at M2 HE ⊢
    clear hee
    have he1 : (e == 0) = false := beq_eq_false_iff_ne.mpr HE.out
    have he2 : (e != 0) = true := bne_iff_ne.mpr HE.out
    go_enter Try.func14, Try.ntmps14
    go_wp2_with (first | (go_at_call 18; refine (segment_Check.calls _ _ _ _ _ hR0.out hC0.out M2.out).mono ?_; rintro e w1 ⟨rfl, hb⟩))
    go_ret2
    exact ⟨_, rfl, Kd.R_nil _ _ _ _ _, hb⟩
end Go.Proofs.Ythbkbokfngbocaa.X
