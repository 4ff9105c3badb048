import Derived.Test.YthbkbokfngbocaaXx3
import Derived.WideLaws
import Derived.Test.YthbkbokfngbocaaStp
import Derived.Test.YthbkbokfngbocaaStq
import Derived.Test.YthbkbokfngbocaaChk
/-! segment.Area: what it comes to, and the walk. -/
namespace Go.Proofs.Ythbkbokfngbocaa.X
set_option linter.unusedVariables false
set_option linter.unusedSimpArgs false
open Go.RowKit Go.Shelf Go.Proofs.YthbkbokfngbocaaW.PrintWords Go.Proofs.YthbkbokfngbocaaW.PrintLast
open Go.Proofs.Ythbkbokfngbocaa.It Go.Proofs.Ythbkbokfngbocaa.Sq
attribute [local go_sem] Oper.semAt_some

theorem run_store_func {P : Program} {w : World} {a : Addr} {m : _} (f : Fn) (x y : Array Value) : (store a (.func f x y) m).run P w = stored P w a (.func f x y) m := run_store P w a _ m rfl
attribute [local go_sem] run_store_func

/-- one strip more -/
def addS (r c : Int) (s : Int × Int) (p : Int × Int) : Int × Int := (wrap64 (s.1 + (sStrip r c p.1 p.2).1), wrap64 (s.2 + (sStrip r c p.1 p.2).2))
/-- the sum of strips -/
def sumS (r c : Int) (ps : List (Int × Int)) : Int × Int := ps.foldl (addS r c) (0, 0)
theorem sumS_snoc (r c : Int) (ps : List (Int × Int)) (p : Int × Int) : sumS r c (ps ++ [p]) = addS r c (sumS r c ps) p := by simp [sumS]
/-- the first error of heights -/
def sCheck (l : List Int) : Int := if l.length < 2 then 9 else if 65 < l.length then 8 else if l.all inRange = true then (if (upto (nb l) (l.length - 1)).all rising = true then 0 else 5) else 2
theorem check_spec (l : List Int) : segment_Check.f l = some (sCheck l) := by
  unfold segment_Check.f sCheck
  by_cases h1 : l.length < 2
  · rw [if_pos h1, if_pos h1]
  · rw [if_neg h1, if_neg h1]
    by_cases h2 : 65 < l.length
    · rw [if_pos h2, if_pos h2]
    · rw [if_neg h2, if_neg h2]
      by_cases h3 : l.all inRange = true
      · rw [if_pos h3, if_pos h3]
        by_cases h4 : (upto (nb l) (l.length - 1)).all rising = true
        · rw [if_pos h4, if_pos h4]
        · rw [if_neg h4, if_neg h4]
      · rw [if_neg h3, if_neg h3]
/-- the bounds between heights, and the error -/
def sArea (r c : Int) (l : List Int) : Int × Int × Int :=
  if isM r = true then (if isM c = true then (if sCheck l = 0 then ((sumS r c (upto (nb l) (l.length - 1))).1, (sumS r c (upto (nb l) (l.length - 1))).2, 0) else (0, 0, sCheck l)) else (0, 0, 2)) else (0, 0, 2)
def segment_Area.f (a0 : Int) (a1 : Int) (l2 : List Int) : Option (Int × Int × Int) := some (sArea a0 a1 l2)

theorem own_blk {W W' : World} {row : Option Nat} {b : Nat} {cs : Array Value} {t : TypeId} {fr : Nat × Nat} (h : W.heap[b]? = some (.cells cs t fr)) (hg : W.grownBy W' row) (hr : ∀ r, row = some r → ∃ o : Obj, W.heap[r]? = some o ∧ o.isCells = false) : W'.heap[b]? = some (.cells cs t fr) := by
  refine (hg.block b (Array.getElem?_eq_some_iff.1 h).1 ?_).trans h
  intro e
  obtain ⟨o, ho, hc⟩ := hr b e.symm
  rw [h] at ho
  cases ho
  cases hc

theorem bcell {W w1 : World} (hb : Below W.heap.size W w1) : (∀ b o, b < W.heap.size → w1.cell? ⟨b, o, none⟩ = W.cell? ⟨b, o, none⟩) ∧ (∀ b o, b < W.heap.size → w1.frozen? ⟨b, o, none⟩ = W.frozen? ⟨b, o, none⟩) :=
  ⟨fun b o h => hb.cell (p := ⟨b, o, none⟩) h, fun b o h => hb.frozen (p := ⟨b, o, none⟩) h⟩

set_option maxRecDepth 100000 in
set_option maxHeartbeats 400000 in
theorem segment_Area.calls (a0 : Int) (a1 : Int) (A2 : Option Addr) (c2 : Nat) (l2 : List Int) (r1 : Int) (r2 : Int) (r3 : Int) (w : World) (hr2 : Kd.C (Kd.int .i64) w A2 l2.length l2) (hc2 : l2.length ≤ c2) (h : segment_Area.f a0 a1 l2 = some (r1, r2, r3)) :
    Calls Try.prog 12 #[.int .i64 a0, .int .i64 a1, .slice A2 l2.length c2] w fun e w' => e = .returned (.tuple #[.agg #[.int .i64 r1, .int .i64 r2], .int .i64 r3]) ∧ Below w.heap.size w w' := by
  have hI := holds_of_reads hr2
  have hR0 := Aside0.mk hr2
  clear hr2
  have hC0 := Aside0.mk hc2
  clear hc2
  have hu24 := Try.underlying24
  have h := Option.some.inj h
  unfold sArea at h
  have MM := measure_spec
  cases e0 : isM a0 with
  | false =>
    have M0 := Aside0.mk ((measure_spec a0).trans (by rw [e0]))
    rw [e0, if_neg (by simp)] at h
    clear e0
    simp only [Prod.mk.injEq] at h
    obtain ⟨rfl, rfl, rfl⟩ := h
    go_enter Try.func12, Try.ntmps12
    go_wp2_with (first | (go_at_call 24; refine (segment_measure.calls a0 false _ M0.out).mono ?_; rintro e w' ⟨rfl, ⟨m, rfl⟩⟩))
    exact bodyPost_ret (v := .tuple #[.agg #[.int .i64 0, .int .i64 0], .int .i64 2]) (by simp [results, Try.f12, go_sem, hu24]) rfl ⟨rfl, ((pw_below_drewN ((Below.refl _ w).alloc (Nat.le_refl _) _) _).setCell (p := ⟨w.heap.size, 0, none⟩) (Nat.le_refl _) _).setCell (p := ⟨w.heap.size, 1, none⟩) (Nat.le_refl _) _⟩
  | true =>
    have M0 := Aside0.mk ((measure_spec a0).trans (by rw [e0]))
    rw [e0, if_pos rfl] at h
    clear e0
    cases e1 : isM a1 with
    | false =>
      have M1 := Aside0.mk ((measure_spec a1).trans (by rw [e1]))
      rw [e1, if_neg (by simp)] at h
      clear e1
      simp only [Prod.mk.injEq] at h
      obtain ⟨rfl, rfl, rfl⟩ := h
      go_enter Try.func12, Try.ntmps12
      go_wp2_with (first | (go_at_call 24; refine (segment_measure.calls a0 true _ M0.out).mono ?_; clear M0; rintro e w' ⟨rfl, ⟨m, rfl⟩⟩) | (go_at_call 24; refine (segment_measure.calls a1 false _ M1.out).mono ?_; rintro e w' ⟨rfl, ⟨m2, rfl⟩⟩))
      exact bodyPost_ret (v := .tuple #[.agg #[.int .i64 0, .int .i64 0], .int .i64 2]) (by simp [results, Try.f12, go_sem, hu24]) rfl ⟨rfl, ((pw_below_drewN ((Below.refl _ w).alloc (Nat.le_refl _) _) _).setCell (p := ⟨w.heap.size, 0, none⟩) (Nat.le_refl _) _).setCell (p := ⟨w.heap.size, 1, none⟩) (Nat.le_refl _) _⟩
    | true =>
      have M1 := Aside0.mk ((measure_spec a1).trans (by rw [e1]))
      rw [e1, if_pos rfl] at h
      clear e1
      have M2 := Aside0.mk (check_spec l2)
      by_cases he : sCheck l2 = 0
      · rw [if_pos he] at h
        have M3 : Aside0 (segment_Check.f l2 = some 0) := ⟨by rw [M2.out, he]⟩
        clear M2 he MM
        simp only [Prod.mk.injEq] at h
        obtain ⟨h1, h2, rfl⟩ := h
        have H1 := Lib.hid h1
        have H2 := Lib.hid h2
        clear h1 h2
        refine (callsIn_wide (n := 5)).1 ?_
        refine callsIn_of_wp_marks Try.func12 rfl trivial ?_
        simp only [Try.ntmps12, List.size_toArray, List.length_cons, List.length_nil, Nat.reduceAdd, Nat.reduceSub, Array.replicate_succ, Array.replicate_zero, List.push_toArray, List.append_toArray, List.nil_append, List.cons_append]
        gi_wp2_with (first | (refine ⟨trivial, ?_⟩; gi_at_call 24; refine (callsIn_wide.2 (segment_measure.calls a0 true _ M0.out)).mono ?_; clear M0; rintro e w' ⟨rfl, ⟨m, rfl⟩⟩) | (refine ⟨trivial, ?_⟩; gi_at_call 24; refine (callsIn_wide.2 (segment_measure.calls a1 true _ M1.out)).mono ?_; clear M1; rintro e w' ⟨rfl, ⟨m2, rfl⟩⟩) | (refine ⟨trivial, ?_⟩; gi_at_call 18; refine (callsIn_wide.2 (segment_Check.calls _ _ _ _ _ (Kd.C_below hR0.out (pw_below_drewN ((Below.refl _ w).alloc (Nat.le_refl _) _) _)) hC0.out M3.out)).mono ?_; rintro e w1 ⟨rfl, hb⟩; have hc := bcell hb; have hz : w.heap.size < w1.heap.size := (by have := hb.size; simp at this; omega)) | (refine ⟨trivial, ?_⟩; gi_at_call 26; refine (strips_in _ _ _ _ _).mono ?_; rintro e w' ⟨rfl, rfl⟩))
        have hBA : Below w.heap.size w w1 := below_step (pw_below_drewN ((Below.refl _ w).alloc (Nat.le_refl _) _) _) hb
        have hR1 : w1.heap[w.heap.size]? = some (.cells #[.int .i64 0, .int .i64 0] 24 (0, 0)) := blk_below (g := w.heap.size) (o := .cells #[.int .i64 0, .int .i64 0] 24 (0, 0)) (blk_drewN (blk_new w _) _) hb
        clear hc hb
        obtain ⟨W0, hW0⟩ : ∃ W0, ((w1.alloc (.cells #[.func (.func 25) #[.agg #[.int .i64 a0, .int .i64 a1]] #[]] 43)).alloc (.cells #[.int .i64 0, .int .i64 0] 24)).alloc (.cells #[.slice A2 l2.length c2] 28) = W0 := ⟨_, rfl⟩
        have hB0 : Below w.heap.size w W0 := by rw [← hW0]; exact below_alloc (below_alloc (below_alloc hBA _) _) _
        have hZ0 : W0.heap.size = w1.heap.size + 1 + 1 + 1 := by rw [← hW0]; simp
        have hP0 : W0.heap[w1.heap.size]? = some (.cells #[.func (.func 25) #[.agg #[.int .i64 a0, .int .i64 a1]] #[]] 43 (0, 0)) := by
          rw [← hW0]; exact blk_alloc (blk_alloc (blk_new w1 _) _) _
        have hS0 : W0.heap[w1.heap.size + 1]? = some (.cells #[.int .i64 0, .int .i64 0] 24 (0, 0)) := by
          rw [← hW0]; exact blk_alloc (by have := blk_new (w1.alloc (.cells #[.func (.func 25) #[.agg #[.int .i64 a0, .int .i64 a1]] #[]] 43)) (.cells #[.int .i64 0, .int .i64 0] 24); rwa [World.size_alloc] at this) _
        have hN0 : W0.heap[w1.heap.size + 1 + 1]? = some (.cells #[.slice A2 l2.length c2] 28 (0, 0)) := by
          rw [← hW0]; have := blk_new ((w1.alloc (.cells #[.func (.func 25) #[.agg #[.int .i64 a0, .int .i64 a1]] #[]] 43)).alloc (.cells #[.int .i64 0, .int .i64 0] 24)) (.cells #[.slice A2 l2.length c2] 28); rwa [World.size_alloc, World.size_alloc] at this
        have hR0' : W0.heap[w.heap.size]? = some (.cells #[.int .i64 0, .int .i64 0] 24 (0, 0)) := by
          rw [← hW0]; exact blk_alloc (blk_alloc (blk_alloc hR1 _) _) _
        rw [hW0]
        have hreach : l2.length * 8 ≤ 140737488355328 := by
          have := M3.out
          unfold segment_Check.f at this
          by_cases h1 : l2.length < 2
          · omega
          · by_cases h2 : 65 < l2.length
            · rw [if_neg h1, if_pos h2] at this; simp at this
            · omega
        clear hW0 hR1 hBA
        refine wpIn_rangeFunc_ownG rfl (by omega) (gf := 30) (lb := #[.pointer (some ⟨w1.heap.size + 1 + 1, 0, none⟩)]) rfl trivial (enters_of Try.func30 (by kernel_rfl) rfl)
          (strips_stops 4 (by omega) (w1.heap.size + 1 + 1) w.heap.size c2 A2 l2 hreach _ (by omega) (by omega) ((blk_cell hN0 0).trans rfl) (hI.below hB0)) kb_t (kb_b (by omega) (by omega)) (Below.refl _ _) (fun _ => rfl)
          (fun pre W => (W.heap[w1.heap.size + 1]? = some (.cells #[.int .i64 (sumS a0 a1 pre).1, .int .i64 (sumS a0 a1 pre).2] 24 (0, 0)) ∧ W.heap[w1.heap.size]? = some (.cells #[.func (.func 25) #[.agg #[.int .i64 a0, .int .i64 a1]] #[]] 43 (0, 0))
            ∧ W.heap[w.heap.size]? = some (.cells #[.int .i64 0, .int .i64 0] 24 (0, 0)) ∧ W.heap[w1.heap.size + 1 + 1]? = some (.cells #[.slice A2 l2.length c2] 28 (0, 0))) ∧ Below w.heap.size w W)
          (fun c pre W => False)
          (OwnFrom.and (Own.from (fun s A B row hs hg hr => ⟨own_blk hs.1 hg hr, own_blk hs.2.1 hg hr, own_blk hs.2.2.1 hg hr, own_blk hs.2.2.2 hg hr⟩) _) (ownFrom_below (Nat.le_refl _) (by omega)))
          (fun c => fun s A B row hs hg hr => hs)
          ⟨⟨hS0, hP0, hR0', hN0⟩, hB0⟩
          (fun x => { tmps := #[.int .i64 a0, .int .i64 a1, .slice A2 l2.length c2, undef, undef, undef, .pointer (some ⟨w.heap.size, 0, none⟩), .int .i64 0, .int .i64 0, .pointer (some ⟨w1.heap.size, 0, none⟩), .pointer (some ⟨w1.heap.size + 1, 0, none⟩), .int .i64 x.1, .int .i64 x.2, undef, .int .i64 a0, .bool true, .bool false, .bool false, .int .i64 a1, .bool true, .bool false, .bool false, undef, .slice A2 l2.length c2, .int .i64 0, .int .i64 0, .bool false, undef, undef, .int .i64 a0, .int .i64 a1, .agg #[.int .i64 a0, .int .i64 a1], .func (.func 25) #[.agg #[.int .i64 a0, .int .i64 a1]] #[], .slice A2 l2.length c2, .func (.func 30) #[] #[.pointer (some ⟨w1.heap.size + 1 + 1, 0, none⟩)],
            .int .i64 x.1, .int .i64 x.2, undef, undef, undef, undef, undef, undef, undef, undef, undef, undef, undef, undef, undef, undef, undef, undef, undef], defers := [] }) ?assign ?body ?done ?stop
        case assign =>
          intro l x W K hK
          gi_wp2
          exact hK
        case body =>
          rintro l pre x W ⟨⟨hS, hP, hRr, hNn⟩, hB⟩ _
          have hcP : W.cell? ⟨w1.heap.size, 0, none⟩ = some (.func (.func 25) #[.agg #[.int .i64 a0, .int .i64 a1]] #[]) := (blk_cell hP 0).trans rfl
          have HS := Lib.hid hS
          have HP := Lib.hid hP
          have HRr := Lib.hid hRr
          have HNn := Lib.hid hNn
          clear hS hP hRr hNn
          obtain ⟨⟨v1, v2⟩, hv⟩ : ∃ v, sStrip a0 a1 x.1 x.2 = v := ⟨_, rfl⟩
          have HV : Aside0 (segment_circle_strip.f 60 a0 a1 x.1 x.2 = some (v1, v2)) := ⟨by rw [strip_spec _ _ _ _ (by decide), hv]⟩
          have HVV := Lib.hid hv
          clear hv
          obtain ⟨⟨lo, hi⟩, hs⟩ : ∃ s, sumS a0 a1 pre = s := ⟨_, rfl⟩
          rw [hs] at HS
          have HSUM := Lib.hid hs
          clear hs
          have hws := blk_lt HS.out
          gi_wp2_with (refine ⟨trivial, ?_⟩; gi_at_call 25; refine (CallsIn.inRound l (callsIn_wide.2 (segment_circle_strip.calls 60 a0 a1 x.1 x.2 v1 v2 W HV.out))).mono ?_; rintro e w2 ⟨rfl, hb⟩)
          obtain ⟨Wx, hWx⟩ : ∃ Wx, w2.alloc (.cells #[.int .i64 v1, .int .i64 v2] 24) = Wx := ⟨_, rfl⟩
          obtain ⟨X, hX⟩ : ∃ X, w2.heap.size = X := ⟨_, rfl⟩
          have hbx : Below W.heap.size W Wx := by rw [← hWx]; exact below_alloc hb _
          have BS : Aside0 (Wx.heap[w1.heap.size + 1]? = some (.cells #[.int .i64 lo, .int .i64 hi] 24 (0, 0))) := ⟨blk_below HS.out hbx⟩
          have BX : Aside0 (Wx.heap[X]? = some (.cells #[.int .i64 v1, .int .i64 v2] 24 (0, 0))) := ⟨by rw [← hWx, ← hX]; exact blk_new w2 _⟩
          have HNE : w1.heap.size + 1 < X := by have := hb.size; omega
          have hne : X ≠ w1.heap.size + 1 := by omega
          have hHeld : Wx.drew.cell? ⟨X, 0, none⟩ = some (.int .i64 v1) ∧ Wx.drew.cell? ⟨X, 1, none⟩ = some (.int .i64 v2) ∧ Wx.drew.cell? ⟨w1.heap.size + 1, 1, none⟩ = some (.int .i64 hi) :=
            ⟨(blk_cell (blk_drew BX.out) 0).trans rfl, (blk_cell (blk_drew BX.out) 1).trans rfl, (blk_cell (blk_drew BS.out) 1).trans rfl⟩
          rw [hWx, hX]
          have HPx := Lib.hid (blk_below HP.out hbx)
          have HRx := Lib.hid (blk_below HRr.out hbx)
          have HNx := Lib.hid (blk_below HNn.out hbx)
          have hNlt := blk_lt HNn.out
          have hKx : KeepsFrom W0.heap.size W Wx := ⟨hbx.size, fun b o _ ho _ => blk_below ho hbx⟩
          have hKBx : KB w.heap.size (w1.heap.size + 1 + 1) W Wx := (KB.refl _ _ _).below hbx hB.size hNlt
          have hBx := below_step hB hbx
          clear hWx hb BX HS HP HRr hcP
          refine Tail.region_any (Tail.open_round l _ _) #[false, false, false, false, false, false, false, false, false, false, false, false, false, false] (by kernel_rfl) (by kernel_rfl) (by rintro ⟨a_, w_, h_⟩; exact h_) rfl rfl ?_
          refine wpAny_of_last (S := fun w' => w'.cell? ⟨X, 0, none⟩ = some (.int .i64 v1) ∧ w'.cell? ⟨X, 1, none⟩ = some (.int .i64 v2) ∧ w'.cell? ⟨w1.heap.size + 1, 1, none⟩ = some (.int .i64 hi)) (ds := [13]) _ _ _ _ ?_
          have BS := Aside0.mk (blk_drew BS.out)
          obtain ⟨Wd, hWd⟩ : ∃ Wd, Wx.drew = Wd := ⟨_, rfl⟩
          have hBd : Below w.heap.size W Wd := by rw [← hWd]; exact ((hbx.mono (by have := hB.size; omega)).drew)
          have HPd := Lib.hid (blk_drew HPx.out)
          have HRd := Lib.hid (blk_drew HRx.out)
          have HNd := Lib.hid (blk_drew HNx.out)
          have hKd : KeepsFrom W0.heap.size W Wd := by rw [← hWd]; exact hKx.trans ((KeepsOthers.drew _).from _)
          have hKBd : KB w.heap.size (w1.heap.size + 1 + 1) W Wd := by rw [← hWd]; exact hKBx.trans (KB.drew _ _ _)
          rw [hWd] at hHeld BS HPd HRd HNd ⊢
          refine pure_ (i := 0) (N := some 41) (v := ?_) (a' := ?_) #[true, false, false, false, false, false, false, false, false, false, false, false, false, false] rfl rfl (by kernel_rfl) (fun _ _ _ h => h) (Or.inl ⟨by rfl, ?_⟩) ?_ ?_
          rotate_left
          · intro w'
            go_simp
            with_reducible rfl
          rotate_left
          · simp only [Act.put, List.setIfInBounds_toArray, List.set_cons_zero, List.set_cons_succ, i64_w, i32_w]
            rfl
          refine pure_ (i := 2) (N := some 43) (v := ?_) (a' := ?_) #[true, false, true, false, false, false, false, false, false, false, false, false, false, false] rfl rfl (by kernel_rfl) (fun _ _ _ h => h) (Or.inl ⟨by rfl, ?_⟩) ?_ ?_
          rotate_left
          · intro w'
            go_simp
            with_reducible rfl
          rotate_left
          · simp only [Act.put, List.setIfInBounds_toArray, List.set_cons_zero, List.set_cons_succ, i64_w, i32_w]
            rfl
          refine pure_ (i := 5) (N := some 46) (v := ?_) (a' := ?_) #[true, false, true, false, false, true, false, false, false, false, false, false, false, false] rfl rfl (by kernel_rfl) (fun _ _ _ h => h) (Or.inl ⟨by rfl, ?_⟩) ?_ ?_
          rotate_left
          · intro w'
            go_simp
            with_reducible rfl
          rotate_left
          · simp only [Act.put, List.setIfInBounds_toArray, List.set_cons_zero, List.set_cons_succ, i64_w, i32_w]
            rfl
          refine pure_ (i := 7) (N := some 48) (v := ?_) (a' := ?_) #[true, false, true, false, false, true, false, true, false, false, false, false, false, false] rfl rfl (by kernel_rfl) (fun _ _ _ h => h) (Or.inl ⟨by rfl, ?_⟩) ?_ ?_
          rotate_left
          · intro w'
            go_simp
            with_reducible rfl
          rotate_left
          · simp only [Act.put, List.setIfInBounds_toArray, List.set_cons_zero, List.set_cons_succ, i64_w, i32_w]
            rfl
          refine take_ (i := 3) (N := some 44) (v := ?_) (a' := ?_) #[true, false, true, true, false, true, false, true, false, false, false, false, false, false] rfl rfl (by kernel_rfl) (fun _ _ _ h => h) (Or.inl ⟨by rfl, ?_⟩) hHeld ?_ ?_
          rotate_left
          · rintro w' ⟨s0, s1, s2⟩
            go_simp
            with_reducible rfl
          rotate_left
          · simp only [Act.put, List.setIfInBounds_toArray, List.set_cons_zero, List.set_cons_succ, i64_w, i32_w]
            rfl
          refine take_ (i := 6) (N := some 47) (v := ?_) (a' := ?_) #[true, false, true, true, false, true, true, true, false, false, false, false, false, false] rfl rfl (by kernel_rfl) (fun _ _ _ h => h) (Or.inl ⟨by rfl, ?_⟩) hHeld ?_ ?_
          rotate_left
          · rintro w' ⟨s0, s1, s2⟩
            go_simp
            with_reducible rfl
          rotate_left
          · simp only [Act.put, List.setIfInBounds_toArray, List.set_cons_zero, List.set_cons_succ, i64_w, i32_w]
            rfl
          refine take_ (i := 8) (N := some 49) (v := ?_) (a' := ?_) #[true, false, true, true, false, true, true, true, true, false, false, false, false, false] rfl rfl (by kernel_rfl) (fun _ _ _ h => h) (Or.inl ⟨by rfl, ?_⟩) hHeld ?_ ?_
          rotate_left
          · rintro w' ⟨s0, s1, s2⟩
            go_simp
            with_reducible rfl
          rotate_left
          · simp only [Act.put, List.setIfInBounds_toArray, List.set_cons_zero, List.set_cons_succ, i64_w, i32_w]
            rfl
          refine pure_ (i := 9) (N := some 50) (v := ?_) (a' := ?_) #[true, false, true, true, false, true, true, true, true, true, false, false, false, false] rfl rfl (by kernel_rfl) (fun _ _ _ h => h) (Or.inl ⟨by rfl, ?_⟩) ?_ ?_
          rotate_left
          · intro w'
            go_simp
            with_reducible rfl
          rotate_left
          · simp only [Act.put, List.setIfInBounds_toArray, List.set_cons_zero, List.set_cons_succ, i64_w, i32_w]
            rfl
          refine one_ (i := 1) (N := some 42) #[true, true, true, true, false, true, true, true, true, true, false, false, false, false] rfl rfl (by kernel_rfl) (by decide) (fun K hK => ?_)
          have hlo_ := (blk_cell BS.out 0).trans rfl
          refine value_ (v := .int .i64 lo) (w1 := ?_) (by rfl) rfl ?_ ?_
          rotate_left
          · go_simp
            rfl
          clear hlo_
          refine hK.out _ _ hHeld (fun hHeld => ?_)
          clear hK K
          refine norm_ (a' := ?_) ?_ ?_
          rotate_left
          · show Act.put _ (some 42) _ = _
            simp only [Act.put, List.setIfInBounds_toArray, List.set_cons_zero, List.set_cons_succ, i64_w, i32_w]
            rfl
          refine pure_ (i := 4) (N := some 45) (v := ?_) (a' := ?_) #[true, true, true, true, true, true, true, true, true, true, false, false, false, false] rfl rfl (by kernel_rfl) (fun _ _ _ h => h) (Or.inl ⟨by rfl, ?_⟩) ?_ ?_
          rotate_left
          · intro w'
            go_simp
            with_reducible rfl
          rotate_left
          · simp only [Act.put, List.setIfInBounds_toArray, List.set_cons_zero, List.set_cons_succ, i64_w, i32_w]
            rfl
          refine pure_ (i := 10) (N := some 51) (v := ?_) (a' := ?_) #[true, true, true, true, true, true, true, true, true, true, true, false, false, false] rfl rfl (by kernel_rfl) (fun _ _ _ h => h) (Or.inl ⟨by rfl, ?_⟩) ?_ ?_
          rotate_left
          · intro w'
            go_simp
            with_reducible rfl
          rotate_left
          · simp only [Act.put, List.setIfInBounds_toArray, List.set_cons_zero, List.set_cons_succ, i64_w, i32_w]
            rfl
          refine one_ (i := 11) (N := none) #[true, true, true, true, true, true, true, true, true, true, true, true, false, false] rfl rfl (by kernel_rfl) (by decide) (fun K hK => ?_)
          have hlo_ := (blk_cell BS.out 0).trans rfl
          have hfz_ := blk_frozen BS.out 0
          refine skip_ (w1 := ?_) (by rfl) rfl ?_ ?_
          rotate_left
          · go_simp
            rfl
          clear hlo_ hfz_
          have BS2 := Aside0.mk (blk_put BS.out 0 (.int .i64 (wrap64 (lo + v1))) rfl)
          clear BS
          refine hK.out _ _ ⟨(cell_far (p := ⟨w1.heap.size + 1, _, none⟩) hne _).trans hHeld.1, (cell_far (p := ⟨w1.heap.size + 1, _, none⟩) hne _).trans hHeld.2.1, (blk_cell BS2.out 1).trans rfl⟩ (fun hHeld => ?_)
          clear hK K
          refine pure_ (i := 12) (N := some 52) (v := ?_) (a' := ?_) #[true, true, true, true, true, true, true, true, true, true, true, true, true, false] rfl rfl (by kernel_rfl) (fun _ _ _ h => h) (Or.inl ⟨by rfl, ?_⟩) ?_ ?_
          rotate_left
          · intro w'
            go_simp
            with_reducible rfl
          rotate_left
          · simp only [Act.put, List.setIfInBounds_toArray, List.set_cons_zero, List.set_cons_succ, i64_w, i32_w]
            rfl
          refine last_ (i := 13) (N := none) #[true, true, true, true, true, true, true, true, true, true, true, true, true, true] rfl rfl (by kernel_rfl) (by decide) (fun K hK => ?_)
          have hhi_ := (blk_cell BS2.out 1).trans rfl
          have hfz_ := blk_frozen BS2.out 1
          refine skip_ (w1 := ?_) (by rfl) rfl ?_ ?_
          rotate_left
          · go_simp
            rfl
          clear hhi_ hfz_
          have BS3 := Aside0.mk (blk_put BS2.out 1 (.int .i64 (wrap64 (hi + v2))) rfl)
          clear BS2
          refine hK.out _ _ ?_
          clear hK K
          refine done_ (by kernel_rfl) ?_
          have hSum : sumS a0 a1 (pre ++ [x]) = (wrap64 (lo + v1), wrap64 (hi + v2)) := by rw [sumS_snoc]; unfold addS; rw [HSUM.out, HVV.out]
          refine ⟨hKd.trans (((KeepsOthers.setCell _ _ _).trans (KeepsOthers.setCell _ _ _)).from _), (hKBd.setCell (p := ⟨w1.heap.size + 1, 0, none⟩) (by show w.heap.size ≤ w1.heap.size + 1; omega) (by show w1.heap.size + 1 + 1 ≠ w1.heap.size + 1; omega) _).setCell (p := ⟨w1.heap.size + 1, 1, none⟩) (by show w.heap.size ≤ w1.heap.size + 1; omega) (by show w1.heap.size + 1 + 1 ≠ w1.heap.size + 1; omega) _, ⟨?_, ?_, ?_, ?_⟩, ?_⟩
          · rw [hSum]; exact BS3.out
          · exact blk_far (blk_far HPd.out (by show _ ≠ w1.heap.size + 1; omega) _) (by show _ ≠ w1.heap.size + 1; omega) _
          · exact blk_far (blk_far HRd.out (by show _ ≠ w1.heap.size + 1; omega) _) (by show _ ≠ w1.heap.size + 1; omega) _
          · exact blk_far (blk_far HNd.out (by show _ ≠ w1.heap.size + 1; omega) _) (by show _ ≠ w1.heap.size + 1; omega) _
          · exact below_set (below_set (hB.trans hBd) (by omega)) (by omega)
        case done =>
          rintro D ys W hD rfl ⟨⟨hS, hP, hRr, hNn⟩, hB⟩ hK
          rw [H1.out, H2.out] at hS
          have hc0 : W.cell? ⟨w1.heap.size + 1, 0, none⟩ = some (.int .i64 r1) := (blk_cell hS 0).trans rfl
          have hc1 : W.cell? ⟨w1.heap.size + 1, 1, none⟩ = some (.int .i64 r2) := (blk_cell hS 1).trans rfl
          have hd0 : W.cell? ⟨w.heap.size, 0, none⟩ = some (.int .i64 0) := (blk_cell hRr 0).trans rfl
          have hd1 : W.cell? ⟨w.heap.size, 1, none⟩ = some (.int .i64 0) := (blk_cell hRr 1).trans rfl
          have hf0 := blk_frozen hRr 0
          have hf1 := blk_frozen hRr 1
          have HRr := Lib.hid hRr
          have HK := Lib.hid hK
          clear hS hP hRr hNn hK
          gi_wp2
          have hDn : w.heap.size ≠ D := by have := hD; omega
          have hK' := ((KeepsOthers.setCell W ⟨w.heap.size, 0, none⟩ (.int .i64 r1)).trans (KeepsOthers.setCell _ ⟨w.heap.size, 1, none⟩ (.int .i64 r2))).same D _ HK.out rfl
          have hRf := blk_put (blk_put HRr.out 0 (.int .i64 r1) rfl) 1 (.int .i64 r2) rfl
          refine ⟨by simp, .inl ⟨_, _, rfl, run_takeDeferred hK', ?_⟩⟩
          have hRg := (World.putObj_heap_other (o := .deferred none) (w := (W.setCell ⟨w.heap.size, 0, none⟩ (.int .i64 r1)).setCell ⟨w.heap.size, 1, none⟩ (.int .i64 r2)) hDn).trans hRf
          have hg0 := (blk_cell hRg 0).trans rfl
          have hg1 := (blk_cell hRg 1).trans rfl
          refine ⟨.tuple #[.agg #[.int .i64 r1, .int .i64 r2], .int .i64 0], ?_, rfl, ?_⟩
          · simp [results, Try.f12, go_sem, hu24, hg0, hg1]
          · exact (below_set (below_set hB (Nat.le_refl _)) (Nat.le_refl _)).trans (belowK_b (w := w) (Nat.le_refl _) _ D _ _ (by omega) hK' rfl rfl)
        case stop =>
          rintro D c pre W hD _ h _
          exact h.elim
      · rw [if_neg he] at h
        simp only [Prod.mk.injEq] at h
        obtain ⟨rfl, rfl, rfl⟩ := h
        have HE := Lib.hid he
        clear he
        obtain ⟨e, hee⟩ : ∃ e, sCheck l2 = e := ⟨_, rfl⟩
        rw [hee] at M2 HE ⊢
        clear hee MM
        have he1 : (e == 0) = false := beq_eq_false_iff_ne.mpr HE.out
        have he2 : (e != 0) = true := bne_iff_ne.mpr HE.out
        go_enter Try.func12, Try.ntmps12
        go_wp2_with (first | (go_at_call 24; refine (segment_measure.calls a0 true _ M0.out).mono ?_; clear M0; rintro e w' ⟨rfl, ⟨m, rfl⟩⟩) | (go_at_call 24; refine (segment_measure.calls a1 true _ M1.out).mono ?_; clear M1; rintro e w' ⟨rfl, ⟨m2, rfl⟩⟩) | (go_at_call 18; refine (segment_Check.calls _ _ _ _ _ (Kd.C_below hR0.out (pw_below_drewN ((Below.refl _ w).alloc (Nat.le_refl _) _) _)) hC0.out M2.out).mono ?_; rintro e w1 ⟨rfl, hb⟩; have hc := bcell hb; have hz : w.heap.size < w1.heap.size := (by have := hb.size; simp at this; omega)))
        have hB0 : Below w.heap.size w w1 := below_step (pw_below_drewN ((Below.refl _ w).alloc (Nat.le_refl _) _) _) hb
        exact bodyPost_ret (v := .tuple #[.agg #[.int .i64 0, .int .i64 0], .int .i64 e]) (by simp [results, Try.f12, go_sem, hu24, hc, hz]) rfl ⟨rfl, (hB0.setCell (p := ⟨w.heap.size, 0, none⟩) (Nat.le_refl _) _).setCell (p := ⟨w.heap.size, 1, none⟩) (Nat.le_refl _) _⟩
end Go.Proofs.Ythbkbokfngbocaa.X
