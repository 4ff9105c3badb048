import Derived.Test.YtccocolcgdiglaaItb
import Derived.Test.YtccocolcgdiglaaGrt
import Derived.Test.YtccocolcgdiglaaCnc
import Derived.Test.YtccocolcgdiglaaTail
import Derived.Lib.Hide
/-! relief.Best: what it comes to, and the walk. -/
namespace Go.Proofs.Ytccocolcgdiglaa.X
set_option linter.unusedVariables false
set_option linter.unusedSimpArgs false
open Go.RowKit Go.Shelf Go.Proofs.YtccocolcgdiglaaW.PrintWords Go.Proofs.YtccocolcgdiglaaW.PrintLast
open Go.Proofs.Ytccocolcgdiglaa.It
attribute [local go_sem] Oper.semAt_some

/-- what an item gets -/
def getsN (r : S33) (a g : Int) : Int := if r.f6 = 0 then (wrap64 (Int.tdiv (wrap64 (a * r.f5)) 10000)) else (mn (wrap64 (Int.tdiv (wrap64 (a * r.f5)) 10000)) (wrap64 (r.f6 - g)))
theorem gets_f (r : S33) (a g : Int) : relief_gets.f r.f0 r.f1 r.f2 r.f3 r.f4 r.f5 r.f6 a g = some (getsN r a g) := by
  unfold relief_gets.f getsN
  split <;> rfl
theorem gets_calls (r : S33) (a g : Int) (w : World) : Calls Try.prog 31 #[rv r, .int .i64 a, .int .i64 g] w fun e w' => e = .returned (.int .i64 (getsN r a g)) ∧ Below w.heap.size w w' :=
  relief_gets.calls r.f0 r.f1 r.f2 r.f3 r.f4 r.f5 r.f6 a g _ w (gets_f r a g)
/-- one relief more -/
def bestStep (l1 : List S25) (t : List Int) (x : S25) (s : Int × Int) (r : S33) : Int × Int := if s.2 < getsN r x.f3 (Mpi.gv l1 t r.f0) then (r.f0, getsN r x.f3 (Mpi.gv l1 t r.f0)) else s
def bestOf (l0 : List S33) (l1 : List S25) (t : List Int) (x : S25) : Int × Int := (l0.filter (fun r => appl r x)).foldl (bestStep l1 t x) (0, 0)
def okid (r : S33) : Bool := decide (0 ≤ r.f0) && decide (r.f0 ≤ 1073741824)
def relief_Best.f (k : Nat) (l0 : List S33) (l1 : List S25) (x0 x1 x2 x3 x4 : Int) : Option (Int × Int × Int) :=
  (relief_grant.f k l0 l1).bind fun g => if g.2.2.2 = 0 then ((api_Item_29.f k [l1, [⟨x0, x1, x2, x3, x4⟩]]).bind fun c => (relief_Items.f k c).bind fun d =>
    if d.2 = 0 then (if l0.length < 1000000000000 ∧ l0.all okid = true then some ((bestOf l0 l1 g.1 ⟨x0, x1, x2, x3, x4⟩).1, (bestOf l0 l1 g.1 ⟨x0, x1, x2, x3, x4⟩).2, 0) else none) else some (0, 0, 1)) else some (0, 0, g.2.2.2)
theorem relief_Best.mono : ∀ a0 a1 a2 a3 a4 a5 a6 k, LeO (relief_Best.f k a0 a1 a2 a3 a4 a5 a6) (relief_Best.f (k + 1) a0 a1 a2 a3 a4 a5 a6) := by
  intro a0 a1 a2 a3 a4 a5 a6 k
  unfold relief_Best.f
  refine LeO.bind (relief_grant.mono _ _ _) (fun _ => ?_)
  refine LeO.ite ?_ (LeO.refl _)
  refine LeO.bind (api_Item_29.mono _ _) (fun _ => ?_)
  exact LeO.bind (relief_Items.mono _ _) (fun _ => LeO.refl _)

/-- a slice of one item -/
theorem one_item {w : World} {B : Nat} {x : S25} (h : w.heap[B]? = some (.cells #[.int .i64 x.f0, .int .i64 x.f1, .int .i64 x.f2, .int .i64 x.f3, .int .i64 x.f4] 25 (0, 0))) : Kd.C k25 w (some ⟨B, 0, none⟩) [x].length [x] := by
  refine ⟨rfl, by simp, fun _ => ⟨_, rfl, fun j p hj => ?_⟩⟩
  match j, hj with
  | 0, hj =>
    obtain rfl : x = p := by simpa using hj
    refine ⟨_, rfl, k25_mk w x, fun i u hu => ?_⟩
    match i, hu with
    | 0, hu => exact (by simpa using hu : _ = u) ▸ (blk_cell h 0).trans rfl
    | 1, hu => exact (by simpa using hu : _ = u) ▸ (blk_cell h 1).trans rfl
    | 2, hu => exact (by simpa using hu : _ = u) ▸ (blk_cell h 2).trans rfl
    | 3, hu => exact (by simpa using hu : _ = u) ▸ (blk_cell h 3).trans rfl
    | 4, hu => exact (by simpa using hu : _ = u) ▸ (blk_cell h 4).trans rfl
    | n + 5, hu => simp at hu
  | n + 1, hj => simp at hj
/-- a slice of two slices -/
theorem two_slices {w : World} {B : Nat} {A A' : Option Addr} {c c' : Nat} {l l' : List S25} (h : w.heap[B]? = some (.cells #[.slice A l.length c, .slice A' l'.length c'] 23 (0, 0))) (hc : l.length ≤ c) (hc' : l'.length ≤ c') (hl : Kd.C k25 w A l.length l) (hl' : Kd.C k25 w A' l'.length l') :
    Kd.C (Kd.slice 25 k25) w (some ⟨B, 0, none⟩) [l, l'].length [l, l'] := by
  refine ⟨rfl, by simp, fun _ => ⟨_, rfl, fun j p hj => ?_⟩⟩
  match j, hj with
  | 0, hj =>
    obtain rfl : l = p := by simpa using hj
    refine ⟨[.slice A l.length c], rfl, ⟨A, c, rfl, hc, hl⟩, fun i u hu => ?_⟩
    match i, hu with
    | 0, hu => exact (by simpa using hu : _ = u) ▸ (blk_cell h 0).trans rfl
    | n + 1, hu => simp at hu
  | 1, hj =>
    obtain rfl : l' = p := by simpa using hj
    refine ⟨[.slice A' l'.length c'], rfl, ⟨A', c', rfl, hc', hl'⟩, fun i u hu => ?_⟩
    match i, hu with
    | 0, hu => exact (by simpa using hu : _ = u) ▸ (blk_cell h 1).trans rfl
    | n + 1, hu => simp at hu
  | n + 2, hj => simp at hj

/-- .. as Best lays them -/
theorem best_args {w1 : World} {mb : Option Nat} {A1 : Option Addr} {c1 : Nat} {l1 : List S25} (x0 x1 x2 x3 x4 : Int) (hc : l1.length ≤ c1) (hr : Kd.C k25 w1 A1 l1.length l1) :
    Kd.C (Kd.slice 25 k25) (((w1.alloc (.cells #[.map mb] 47)).alloc (.cells #[.int .i64 x0, .int .i64 x1, .int .i64 x2, .int .i64 x3, .int .i64 x4] 25)).alloc (.cells #[.slice A1 l1.length c1, .slice (some ⟨w1.heap.size + 1, 0, none⟩) 1 1] 23)) (some ⟨w1.heap.size + 1 + 1, 0, none⟩) [l1, [⟨x0, x1, x2, x3, x4⟩]].length [l1, [⟨x0, x1, x2, x3, x4⟩]] := by
  have h1 := blk_new ((w1.alloc (.cells #[.map mb] 47)).alloc (.cells #[.int .i64 x0, .int .i64 x1, .int .i64 x2, .int .i64 x3, .int .i64 x4] 25)) (.cells #[.slice A1 l1.length c1, .slice (some ⟨w1.heap.size + 1, 0, none⟩) 1 1] 23)
  rw [World.size_alloc, World.size_alloc] at h1
  have h2 := blk_alloc (blk_new (w1.alloc (.cells #[.map mb] 47)) (.cells #[.int .i64 x0, .int .i64 x1, .int .i64 x2, .int .i64 x3, .int .i64 x4] 25)) (.cells #[.slice A1 l1.length c1, .slice (some ⟨w1.heap.size + 1, 0, none⟩) 1 1] 23)
  rw [World.size_alloc] at h2
  exact two_slices (l' := [⟨x0, x1, x2, x3, x4⟩]) h1 hc (Nat.le_refl 1) (Kd.C_alloc (Kd.C_alloc (Kd.C_alloc hr _) _) _) (one_item (x := ⟨x0, x1, x2, x3, x4⟩) h2)

theorem own_cells {W W' : World} {row : Option Nat} {b : Nat} {cs : Array Value} {t : TypeId} {fr : Nat × Nat} (h : W.heap[b]? = some (.cells cs t fr)) (hg : W.grownBy W' row) (hr : ∀ r, row = some r → ∃ o : Obj, W.heap[r]? = some o ∧ o.isCells = false) : W'.heap[b]? = some (.cells cs t fr) := by
  refine (hg.block b (Array.getElem?_eq_some_iff.1 h).1 ?_).trans h
  intro e
  obtain ⟨o, ho, hc⟩ := hr b e.symm
  rw [h] at ho
  cases ho
  cases hc
/-- the loop's state -/
structure BI (w : World) (x : S25) (gbM nM bM bI bO bS bY : Nat) (l1 : List S25) (t1 : List Int) (A0 : Option Addr) (n0 c0 : Nat) (s : Int × Int) (W : World) : Prop where
  bx : W.heap[w.heap.size]? = some (.cells #[.int .i64 x.f0, .int .i64 x.f1, .int .i64 x.f2, .int .i64 x.f3, .int .i64 x.f4] 25 (0, 0))
  bm : W.heap[bM]? = some (.cells #[.map (some gbM)] 47 (0, 0))
  bi : W.heap[bI]? = some (.cells #[.int .i64 s.1] 3 (0, 0))
  bo : W.heap[bO]? = some (.cells #[.int .i64 s.2] 3 (0, 0))
  gm : Mpi.GM Try.prog 3 3 W gbM nM l1 t1
  by_ : W.heap[bY]? = some (.cells #[.int .i64 x.f0, .int .i64 x.f1, .int .i64 x.f2, .int .i64 x.f3, .int .i64 x.f4] 25 (0, 0))
  be : Below w.heap.size w W
theorem BI.grown {w : World} {x : S25} {gbM nM bM bI bO bS bY : Nat} {l1 : List S25} {t1 : List Int} {A0 : Option Addr} {n0 c0 : Nat} {s : Int × Int} {W W' : World} {row : Option Nat} {B : Nat} (h : BI w x gbM nM bM bI bO bS bY l1 t1 A0 n0 c0 s W) (hg : W.grownBy W' row)
    (hr : ∀ r, row = some r → B ≤ r ∧ ∃ o : Obj, W.heap[r]? = some o ∧ o.isCells = false) (hB : gbM < B) (hw : w.heap.size ≤ B) : BI w x gbM nM bM bI bO bS bY l1 t1 A0 n0 c0 s W' :=
  ⟨own_cells h.bx hg (fun r e => (hr r e).2), own_cells h.bm hg (fun r e => (hr r e).2), own_cells h.bi hg (fun r e => (hr r e).2), own_cells h.bo hg (fun r e => (hr r e).2),
   h.gm.kept hg (fun e => by have := (hr gbM e.symm).1; omega), own_cells h.by_ hg (fun r e => (hr r e).2), h.be.grown hg h.be.size (fun r e => by have := (hr r e).1; omega)⟩
theorem BI.alloc {w : World} {x : S25} {gbM nM bM bI bO bS bY : Nat} {l1 : List S25} {t1 : List Int} {A0 : Option Addr} {n0 c0 : Nat} {s : Int × Int} {W : World} (h : BI w x gbM nM bM bI bO bS bY l1 t1 A0 n0 c0 s W) (o : Obj) : BI w x gbM nM bM bI bO bS bY l1 t1 A0 n0 c0 s (W.alloc o) :=
  ⟨blk_alloc h.bx o, blk_alloc h.bm o, blk_alloc h.bi o, blk_alloc h.bo o, h.gm.alloc o, blk_alloc h.by_ o, below_alloc h.be o⟩
theorem BI.below {w : World} {x : S25} {gbM nM bM bI bO bS bY : Nat} {l1 : List S25} {t1 : List Int} {A0 : Option Addr} {n0 c0 : Nat} {s : Int × Int} {W W' : World} (h : BI w x gbM nM bM bI bO bS bY l1 t1 A0 n0 c0 s W) (hb : Below W.heap.size W W') : BI w x gbM nM bM bI bO bS bY l1 t1 A0 n0 c0 s W' :=
  ⟨blk_below h.bx hb, blk_below h.bm hb, blk_below h.bi hb, blk_below h.bo hb, h.gm.below hb, blk_below h.by_ hb, below_step h.be hb⟩
theorem BI.put {w : World} {x : S25} {gbM nM bM bI bO bS bY : Nat} {l1 : List S25} {t1 : List Int} {A0 : Option Addr} {n0 c0 : Nat} {s : Int × Int} {W : World} (h : BI w x gbM nM bM bI bO bS bY l1 t1 A0 n0 c0 s W) (h1 : bM < bI) (h2 : bI < bO) (h3 : bO < bY) (h4 : gbM < bI) (h5 : w.heap.size < bI) (a n : Int) :
    BI w x gbM nM bM bI bO bS bY l1 t1 A0 n0 c0 (a, n) ((W.setCell ⟨bI, 0, none⟩ (.int .i64 a)).setCell ⟨bO, 0, none⟩ (.int .i64 n)) :=
  ⟨blk_far (blk_far h.bx (by show w.heap.size ≠ bI; omega) _) (by show w.heap.size ≠ bO; omega) _, blk_far (blk_far h.bm (by show bM ≠ bI; omega) _) (by show bM ≠ bO; omega) _,
   blk_far (blk_put h.bi 0 _ rfl) (by show bI ≠ bO; omega) _, blk_put (blk_far h.bo (by show bO ≠ bI; omega) _) 0 _ rfl,
   (h.gm.setCell (by show gbM ≠ bI; omega) _).setCell (by show gbM ≠ bO; omega) _, blk_far (blk_far h.by_ (by show bY ≠ bI; omega) _) (by show bY ≠ bO; omega) _,
   (h.be.setCell (p := ⟨bI, 0, none⟩) (by show w.heap.size ≤ bI; omega) _).setCell (p := ⟨bO, 0, none⟩) (by show w.heap.size ≤ bO; omega) _⟩
/-- what has come in an order is the best of it -/
def bestSt (l1 : List S25) (t : List Int) (x : S25) (pre : List S33) : Int × Int := pre.foldl (bestStep l1 t x) (0, 0)
theorem bestSt_snoc (l1 : List S25) (t : List Int) (x : S25) (pre : List S33) (r : S33) : bestSt l1 t x (pre ++ [r]) = bestStep l1 t x (bestSt l1 t x pre) r := by simp [bestSt, List.foldl_append]

set_option maxRecDepth 100000 in
set_option maxHeartbeats 1000000 in
theorem relief_Best.calls (k : Nat) (A0 : Option Addr) (c0 : Nat) (l0 : List S33) (A1 : Option Addr) (c1 : Nat) (l1 : List S25) (x0 x1 x2 x3 x4 : Int) (r1 r2 r3 : Int) (w : World) (hr0 : Kd.C k33 w A0 l0.length l0) (hc0 : l0.length ≤ c0) (hr1 : Kd.C k25 w A1 l1.length l1) (hc1 : l1.length ≤ c1) (h : relief_Best.f k l0 l1 x0 x1 x2 x3 x4 = some (r1, r2, r3)) :
    Calls Try.prog 12 #[.slice A0 l0.length c0, .slice A1 l1.length c1, .agg #[.int .i64 x0, .int .i64 x1, .int .i64 x2, .int .i64 x3, .int .i64 x4]] w fun e w' => e = .returned (.tuple #[.int .i64 r1, .int .i64 r2, .int .i64 r3]) ∧ Below w.heap.size w w' := by
  have HR0 := Lib.hid hr0
  have HC0 := Lib.hid hc0
  have HR1 := Lib.hid hr1
  have HC1 := Lib.hid hc1
  clear hr0 hc0 hr1 hc1
  unfold relief_Best.f at h
  obtain ⟨⟨t1, t2, t3, t4⟩, hg, h⟩ := Option.bind_eq_some_iff.mp h
  have HG := Lib.hid hg
  clear hg
  dsimp only at h
  have hu25 := Try.underlying25
  have hu33 := Try.underlying33
  refine (callsIn_wide (n := 5)).1 ?_
  refine callsIn_of_wp_marks Try.func12 rfl trivial ?_
  simp only [Try.ntmps12, List.size_toArray, List.length_cons, List.length_nil, Nat.reduceAdd, Nat.reduceSub, Array.replicate_succ, Array.replicate_zero, List.push_toArray, List.append_toArray, List.nil_append, List.cons_append]
  by_cases h4 : t4 = 0
  · rw [if_pos h4] at h
    subst h4
    obtain ⟨c, hc, h⟩ := Option.bind_eq_some_iff.mp h
    obtain ⟨⟨d1, d2⟩, hd, h⟩ := Option.bind_eq_some_iff.mp h
    dsimp only at h
    have HC := Lib.hid hc
    have HD := Lib.hid hd
    clear hc hd
    by_cases h5 : d2 = 0
    · rw [if_pos h5] at h
      subst h5
      by_cases hok : l0.length < 1000000000000 ∧ l0.all okid = true
      · rw [if_pos hok] at h
        have HOK := Lib.hid hok
        clear hok
        simp only [Option.some.injEq, Prod.mk.injEq] at h
        have HH := Lib.hid h
        clear h
        gi_wp2_with (first
          | (refine ⟨trivial, ?_⟩; gi_at_call 28; refine (callsIn_wide.2 (relief_grant.calls k _ _ l0 _ _ l1 t1 t2 t3 0 _ (Kd.C_alloc HR0.out _) HC0.out (Kd.C_alloc HR1.out _) HC1.out HG.out)).mono ?_; rintro e w1 ⟨v0, mb, rfl, ho, hmv, hb⟩; have HO := Lib.hid ho; obtain ⟨gbM, nM, rfl, hGB, hmG⟩ := hmv rfl; have HGB := Lib.hid hGB; have HMG := Lib.hid hmG; clear ho hmv hGB hmG; have hX := blk_below (blk_new w (.cells #[.int .i64 x0, .int .i64 x1, .int .i64 x2, .int .i64 x3, .int .i64 x4] 25)) hb; have HBB := Lib.hid (below_step (below_alloc (Below.refl w.heap.size w) (.cells #[.int .i64 x0, .int .i64 x1, .int .i64 x2, .int .i64 x3, .int .i64 x4] 25)) hb); have hX2 := blk_alloc hX (.cells #[.map (some gbM)] 47); have hX0 := (blk_cell hX2 0).trans rfl; have hX1 := (blk_cell hX2 1).trans rfl; have hX2_ := (blk_cell hX2 2).trans rfl; have hX3 := (blk_cell hX2 3).trans rfl; have hX4 := (blk_cell hX2 4).trans rfl)
          | (refine ⟨trivial, ?_⟩; gi_at_call 29; refine (callsIn_wide.2 (api_Item_29.calls k _ _ [l1, [⟨x0, x1, x2, x3, x4⟩]] c _ ?cc0 ?cl0 HC.out)).mono ?_; (case cc0 => exact best_args x0 x1 x2 x3 x4 HC1.out (Kd.C_below HR1.out HBB.out)); (case cl0 => exact Nat.le_refl _); rintro e w5 ⟨v1, rfl, ho1, hb1⟩; obtain ⟨A2, c2, rfl, hl2, hr2⟩ := Kd.R_reads ho1; have HR2 := Lib.hid hr2; have HL2 := Lib.hid hl2; have HBB5 := Lib.hid (below_step (below_alloc (below_alloc (below_alloc HBB.out (.cells #[.map (some gbM)] 47)) (.cells #[.int .i64 x0, .int .i64 x1, .int .i64 x2, .int .i64 x3, .int .i64 x4] 25)) (.cells #[.slice A1 l1.length c1, .slice (some ⟨w1.heap.size + 1, 0, none⟩) 1 1] 23)) hb1); clear ho1 hl2 hr2)
          | (refine ⟨trivial, ?_⟩; gi_at_call 18; refine (callsIn_wide.2 (relief_Items.calls k _ _ c d1 0 _ HR2.out HL2.out HD.out)).mono ?_; rintro e w6 ⟨rfl, hb6⟩; have hX6 := blk_below (blk_below (blk_alloc (blk_alloc (blk_alloc hX (.cells #[.map (some gbM)] 47)) (.cells #[.int .i64 x0, .int .i64 x1, .int .i64 x2, .int .i64 x3, .int .i64 x4] 25)) (.cells #[.slice A1 l1.length c1, .slice (some ⟨w1.heap.size + 1, 0, none⟩) 1 1] 23)) hb1) hb6; have hX7 := blk_alloc (blk_alloc hX6 (.cells #[.int .i64 0] 3)) (.cells #[.int .i64 0] 3); have hY0 := (blk_cell hX7 0).trans rfl; have hY1 := (blk_cell hX7 1).trans rfl; have hY2 := (blk_cell hX7 2).trans rfl; have hY3 := (blk_cell hX7 3).trans rfl; have hY4 := (blk_cell hX7 4).trans rfl)
          | (refine ⟨trivial, ?_⟩; gi_at_call 30; refine (applying_in _ _ _ _ ⟨x0, x1, x2, x3, x4⟩ _).mono ?_; rintro e w' ⟨rfl, rfl⟩))
        have hsz1 := (below_step (below_alloc (Below.refl w.heap.size w) (.cells #[.int .i64 x0, .int .i64 x1, .int .i64 x2, .int .i64 x3, .int .i64 x4] 25)) hb).size
        have hsz0 := hb.size
        rw [World.size_alloc] at hsz0
        have hsz5 := hb1.size
        rw [World.size_alloc, World.size_alloc, World.size_alloc] at hsz5
        have hsz6 := hb6.size
        have hgl := HMG.out.lt
        have hgg := HGB.out
        rw [World.size_alloc] at hgg
        have hB6 := below_step HBB5.out hb6
        have hM6 := ((HMG.out.alloc (.cells #[.map (some gbM)] 47)).alloc (.cells #[.int .i64 x0, .int .i64 x1, .int .i64 x2, .int .i64 x3, .int .i64 x4] 25)).alloc (.cells #[.slice A1 l1.length c1, .slice (some ⟨w1.heap.size + 1, 0, none⟩) 1 1] 23)
        have hM7 := (hM6.below hb1).below hb6
        have hm6 := blk_below (blk_below (blk_alloc (blk_alloc (blk_new w1 (.cells #[.map (some gbM)] 47)) (.cells #[.int .i64 x0, .int .i64 x1, .int .i64 x2, .int .i64 x3, .int .i64 x4] 25)) (.cells #[.slice A1 l1.length c1, .slice (some ⟨w1.heap.size + 1, 0, none⟩) 1 1] 23)) hb1) hb6
        obtain ⟨V0, hV0⟩ : ∃ V0, (((w6.alloc (.cells #[.int .i64 0] 3)).alloc (.cells #[.int .i64 0] 3)).alloc (.cells #[.slice A0 l0.length c0] 22)).alloc (.cells #[.int .i64 x0, .int .i64 x1, .int .i64 x2, .int .i64 x3, .int .i64 x4] 25) = V0 := ⟨_, rfl⟩
        have hZ : V0.heap.size = w6.heap.size + 4 := by rw [← hV0]; simp
        have hBI : BI w ⟨x0, x1, x2, x3, x4⟩ gbM nM w1.heap.size w6.heap.size (w6.heap.size + 1) (w6.heap.size + 2) (w6.heap.size + 3) l1 t1 A0 l0.length c0 (0, 0) V0 := by
          rw [← hV0]
          have q1 := blk_new w6 (.cells #[.int .i64 0] 3)
          have q2 := blk_new (w6.alloc (.cells #[.int .i64 0] 3)) (.cells #[.int .i64 0] 3)
          rw [World.size_alloc] at q2
          have q4 := blk_new (((w6.alloc (.cells #[.int .i64 0] 3)).alloc (.cells #[.int .i64 0] 3)).alloc (.cells #[.slice A0 l0.length c0] 22)) (.cells #[.int .i64 x0, .int .i64 x1, .int .i64 x2, .int .i64 x3, .int .i64 x4] 25)
          rw [World.size_alloc, World.size_alloc, World.size_alloc] at q4
          exact ⟨blk_alloc (blk_alloc (blk_alloc (blk_alloc hX6 _) _) _) _, blk_alloc (blk_alloc (blk_alloc (blk_alloc hm6 _) _) _) _, blk_alloc (blk_alloc (blk_alloc q1 _) _) _, blk_alloc (blk_alloc q2 _) _, (((hM7.alloc _).alloc _).alloc _).alloc _, q4, below_alloc (below_alloc (below_alloc (below_alloc hB6 _) _) _) _⟩
        have hS : V0.heap[w6.heap.size + 2]? = some (.cells #[.slice A0 l0.length c0] 22 (0, 0)) := by
          rw [← hV0]
          have q3 := blk_new ((w6.alloc (.cells #[.int .i64 0] 3)).alloc (.cells #[.int .i64 0] 3)) (.cells #[.slice A0 l0.length c0] 22)
          rw [World.size_alloc, World.size_alloc] at q3
          exact blk_alloc q3 _
        rw [hV0]
        clear hV0 hX hX0 hX1 hX2 hX2_ hX3 hX4 hX6 hX7 hY0 hY1 hY2 hY3 hY4 hM6 hM7 hm6 hB6 hb hb1 hb6
        refine wpIn_rangeFunc_ownH rfl (by omega) (gf := 41) (lb := #[.pointer (some ⟨w6.heap.size + 2, 0, none⟩), .pointer (some ⟨w6.heap.size + 3, 0, none⟩)]) rfl trivial (enters_of Try.func41 (by kernel_rfl) rfl)
          (appl_stops (fun r => okid r = true) 4 (by omega) (w6.heap.size + 2) (w6.heap.size + 3) w.heap.size c0 A0 l0 ⟨x0, x1, x2, x3, x4⟩ ?hG HOK.out.1 V0 (by omega) (by omega) (by omega) ((blk_cell hS 0).trans rfl) hBI.by_ ?hA (Kd.C_below HR0.out hBI.be)) kb_t ?hKb (Below.refl _ _) (fun _ => rfl)
          (fun (pre : List { z : S33 // okid z = true }) W => BI w ⟨x0, x1, x2, x3, x4⟩ gbM nM w1.heap.size w6.heap.size (w6.heap.size + 1) (w6.heap.size + 2) (w6.heap.size + 3) l1 t1 A0 l0.length c0 (bestSt l1 t1 ⟨x0, x1, x2, x3, x4⟩ (pre.map Subtype.val)) W)
          (fun c (pre : List { z : S33 // okid z = true }) W => False)
          (fun s A B row hs hg hr => hs.grown hg hr (by omega) (by omega))
          (fun c s A B row hs hg hr => hs)
          hBI
          (fun (z : { z : S33 // okid z = true }) a' W => ∃ Bp : Nat, W.heap[Bp]? = some (.cells #[.int .i64 z.1.f0, .string z.1.f1, .int .i64 z.1.f2, .int .i64 z.1.f3, .int .i64 z.1.f4, .int .i64 z.1.f5, .int .i64 z.1.f6] 33 (0, 0)) ∧
            a' = { tmps := #[.slice A0 l0.length c0, .slice A1 l1.length c1, .agg #[.int .i64 x0, .int .i64 x1, .int .i64 x2, .int .i64 x3, .int .i64 x4], undef, undef, .pointer (some ⟨w.heap.size, 0, none⟩), .int .i64 0, .int .i64 0, .int .i64 0, v0, .pointer (some ⟨w1.heap.size, 0, none⟩), .int .i64 t3, .int .i64 0, .int .i64 d1, .int .i64 0, .pointer (some ⟨w6.heap.size, 0, none⟩), .pointer (some ⟨w6.heap.size + 1, 0, none⟩), .pointer (some ⟨Bp, 0, none⟩), undef, .tuple #[v0, .map (some gbM), .int .i64 t3, .int .i64 0], .slice A0 l0.length c0, .slice A1 l1.length c1, .tuple #[v0, .map (some gbM), .int .i64 t3, .int .i64 0], v0, .map (some gbM), .int .i64 t3, .int .i64 0, .int .i64 0, .bool false, undef, .tuple #[.int .i64 d1, .int .i64 0], .slice A1 l1.length c1, .agg #[.int .i64 x0, .int .i64 x1, .int .i64 x2, .int .i64 x3, .int .i64 x4], .slice (some ⟨w1.heap.size + 1, 0, none⟩) 1 1, .slice (some ⟨w1.heap.size + 1 + 1, 0, none⟩) 2 2, .slice A2 c.length c2, .tuple #[.int .i64 d1, .int .i64 0], .int .i64 d1, .int .i64 0, .int .i64 0, .bool false, .slice A0 l0.length c0, .agg #[.int .i64 x0, .int .i64 x1, .int .i64 x2, .int .i64 x3, .int .i64 x4], .func (.func 41) #[] #[.pointer (some ⟨w6.heap.size + 2, 0, none⟩), .pointer (some ⟨w6.heap.size + 3, 0, none⟩)], rv z.1, undef, undef, undef, undef, undef, undef, undef, undef, undef, undef, undef, undef, undef, undef, undef, undef], defers := [] })
          (fun z a' s A B row hs hg hr => by obtain ⟨Bp, h3, h4⟩ := hs; exact ⟨Bp, own_cells h3 hg (fun r e => (hr r e).2), h4⟩) ?assign ?body ?done ?stop
        case hG =>
          intro k hk
          refine List.all_eq_true.1 HOK.out.2 _ ?_
          unfold rd_T33
          rw [show ((k : Int).toNat) = k by simp, List.getD_eq_getElem?_getD, List.getElem?_eq_getElem hk]
          exact List.getElem_mem hk
        case hA =>
          rintro ad rfl hne
          obtain ⟨ad', e, hc0, _⟩ := at_T33 HR0.out (0 : Int) (by omega) (by have := List.length_pos_iff.2 hne; omega)
          cases e
          have := World.block_lt_of_cell? w _ hc0
          rwa [It.add_block] at this
        case hKb => exact fun W l o o' hl ho hc hw => ⟨belowK_b (w := V0) (by omega) W l o o' hl ho hc hw, World.putObj_heap_other (by omega)⟩
        case assign =>
          rintro l pre z W K hI hK
          have HK := Lib.hid hK
          have HI := Lib.hid hI
          clear hK hI
          gi_wp2
          exact HK.out _ _ ((KeepsOthers.alloc _ _).from _) ((KB.refl _ _ _).alloc HI.out.be.size (blk_lt HI.out.by_) _) (HI.out.alloc _) ⟨W.heap.size, blk_new W _, rfl⟩
        case body =>
          rintro l pre z a' W hl ⟨r, hr⟩ hI ⟨Bp, hP, rfl⟩ _
          have HI := Lib.hid hI
          clear hI
          have hp0 := (blk_cell hP 0).trans rfl
          have hp1 := (blk_cell hP 1).trans rfl
          have hp2 := (blk_cell hP 2).trans rfl
          have hp3 := (blk_cell hP 3).trans rfl
          have hp4 := (blk_cell hP 4).trans rfl
          have hp5 := (blk_cell hP 5).trans rfl
          have hp6 := (blk_cell hP 6).trans rfl
          have hbx3 := (blk_cell HI.out.bx 3).trans rfl
          have hbm0 := (blk_cell HI.out.bm 0).trans rfl
          have hzid : 0 ≤ z.1.f0 ∧ z.1.f0 ≤ 1073741824 := by
            have := z.2
            unfold okid at this
            simpa using this
          have hrun := HI.out.gm.run (Go.Maps.int_keyed Try.underlying3) Try.underlying47 Try.underlying3 (zero3 _) z.1.f0 (Go.Maps.keyOf_int_mk Try.underlying3 (WalkArith.wf_i64 (by omega)))
          obtain ⟨g, hgv⟩ : ∃ g, Mpi.gv l1 t1 z.1.f0 = g := ⟨_, rfl⟩
          rw [hgv] at hrun
          have HGV := Lib.hid hgv
          clear hgv hzid
          obtain ⟨N, hN⟩ : ∃ N, getsN z.1 x3 g = N := ⟨_, rfl⟩
          have HN := Lib.hid hN
          clear hN
          have hst := bestSt_snoc l1 t1 ⟨x0, x1, x2, x3, x4⟩ (pre.map Subtype.val) z.1
          unfold bestStep at hst
          dsimp only at hst
          rw [HGV.out, HN.out] at hst
          have HST := Lib.hid hst
          clear hst
          obtain ⟨m, hm⟩ : ∃ m, (bestSt l1 t1 ⟨x0, x1, x2, x3, x4⟩ (pre.map Subtype.val)).2 = m := ⟨_, rfl⟩
          have HM := Lib.hid hm
          clear hm
          by_cases hlt : m < N
          · have hltd : decide (m < N) = true := decide_eq_true hlt
            gi_wp2_with (refine ⟨trivial, ?_⟩; gi_at_call 31; refine (CallsIn.inRound l (callsIn_wide.2 (gets_calls z.1 x3 g _))).mono ?_; rw [HN.out]; rintro e w' ⟨rfl, hb⟩; have HI2 := Lib.hid (HI.out.below hb); have hP2 := blk_below hP hb; have hq0 := (blk_cell hP2 0).trans rfl; have hbo := (blk_cell HI2.out.bo 0).trans rfl; rw [HM.out] at hbo; have hfo := blk_frozen HI2.out.bo 0; have hfi := blk_frozen HI2.out.bi 0; have hbi := (blk_cell HI2.out.bi 0).trans rfl)
            have hzW := HI.out.be.size
            have hlW := blk_lt HI.out.by_
            refine ⟨((KeepsFrom.of_grownBy (grown_of_below hb) (fun j h => by cases h)).trans ((KeepsOthers.setCell _ _ _).from _)).trans ((KeepsOthers.setCell _ _ _).from _), (((KB.refl _ _ _).below hb hzW hlW).setCell (p := ⟨w6.heap.size, 0, none⟩) (by show w.heap.size ≤ w6.heap.size; omega) (by show w6.heap.size + 3 ≠ w6.heap.size; omega) _).setCell (p := ⟨w6.heap.size + 1, 0, none⟩) (by show w.heap.size ≤ w6.heap.size + 1; omega) (by show w6.heap.size + 3 ≠ w6.heap.size + 1; omega) _, ?_⟩
            have hfin := HI2.out.put (by omega) (by omega) (by omega) (by omega) (by omega) z.1.f0 N
            dsimp only
            rw [List.map_append]
            show BI _ _ _ _ _ _ _ _ _ _ _ _ _ _ (bestSt l1 t1 ⟨x0, x1, x2, x3, x4⟩ (pre.map Subtype.val ++ [z.1])) _
            rw [HST.out, HM.out, if_pos hlt]
            exact hfin
          · have hltd : decide (m < N) = false := decide_eq_false hlt
            gi_wp2_with (refine ⟨trivial, ?_⟩; gi_at_call 31; refine (CallsIn.inRound l (callsIn_wide.2 (gets_calls z.1 x3 g _))).mono ?_; rw [HN.out]; rintro e w' ⟨rfl, hb⟩; have HI2 := Lib.hid (HI.out.below hb); have hP2 := blk_below hP hb; have hq0 := (blk_cell hP2 0).trans rfl; have hbo := (blk_cell HI2.out.bo 0).trans rfl; rw [HM.out] at hbo; have hfo := blk_frozen HI2.out.bo 0; have hfi := blk_frozen HI2.out.bi 0; have hbi := (blk_cell HI2.out.bi 0).trans rfl)
            have hzW := HI.out.be.size
            have hlW := blk_lt HI.out.by_
            refine ⟨KeepsFrom.of_grownBy (grown_of_below hb) (fun j h => by cases h), (KB.refl _ _ _).below hb hzW hlW, ?_⟩
            dsimp only
            rw [List.map_append]
            show BI _ _ _ _ _ _ _ _ _ _ _ _ _ _ (bestSt l1 t1 ⟨x0, x1, x2, x3, x4⟩ (pre.map Subtype.val ++ [z.1])) _
            rw [HST.out, HM.out, if_neg (show ¬ m < N by omega)]
            exact HI2.out
        case done =>
          rintro D ys W hD hys hI hK
          have HI := Lib.hid hI
          clear hI
          have hb1 : bestSt l1 t1 ⟨x0, x1, x2, x3, x4⟩ (ys.map Subtype.val) = bestOf l0 l1 t1 ⟨x0, x1, x2, x3, x4⟩ := by
            unfold bestSt bestOf
            rw [← hys]
          have hih := HI.out.bi
          have hoh := HI.out.bo
          rw [hb1] at hih hoh
          obtain ⟨hr1, hr2, rfl⟩ := HH.out
          rw [hr1] at hih
          rw [hr2] at hoh
          have hbi := (blk_cell hih 0).trans rfl
          have hbo := (blk_cell hoh 0).trans rfl
          clear hih hoh hr1 hr2 hb1 hys
          gi_wp2
          refine Tail.region_tail (Tail.open_wide _ _) 3 (by kernel_rfl) (by kernel_rfl) (by kernel_rfl) ?_
          simp only [List.take_succ_cons, List.take_zero, List.drop_succ_cons, List.drop_zero]
          repeat still_step
          try refine wpStill_nil ?_
          change wpListIn _ _ _ _ _ _ _ (World.drew W)
          gi_wp2
          have hKd : (World.drew W).heap[D]? = some (.deferred (some [])) := hK
          refine ⟨by simp, .inl ⟨_, _, rfl, run_takeDeferred hKd, ?_⟩⟩
          exact ⟨_, by simp [results, Try.f12, go_sem], rfl, (HI.out.be.drew).trans (belowK_b (w := w) (Nat.le_refl _) _ D _ _ (by omega) hKd rfl rfl)⟩
        case stop => rintro D c' pre W hD _ hf _; exact hf.elim
      · rw [if_neg hok] at h; cases h
    · rw [if_neg h5] at h
      have e4 : (d2 == 0) = false := beq_eq_false_iff_ne.mpr h5
      have e5 : (d2 != 0) = true := bne_iff_ne.mpr h5
      simp only [Option.some.injEq, Prod.mk.injEq] at h
      obtain ⟨rfl, rfl, rfl⟩ := h
      gi_wp2_with (first
        | (refine ⟨trivial, ?_⟩; gi_at_call 28; refine (callsIn_wide.2 (relief_grant.calls k _ _ l0 _ _ l1 t1 t2 t3 0 _ (Kd.C_alloc HR0.out _) HC0.out (Kd.C_alloc HR1.out _) HC1.out HG.out)).mono ?_; rintro e w1 ⟨v0, mb, rfl, ho, hmv, hb⟩; have HO := Lib.hid ho; have HMV := Lib.hid hmv; clear ho hmv; have hX := blk_below (blk_new w (.cells #[.int .i64 x0, .int .i64 x1, .int .i64 x2, .int .i64 x3, .int .i64 x4] 25)) hb; have HBB := Lib.hid (below_step (below_alloc (Below.refl w.heap.size w) (.cells #[.int .i64 x0, .int .i64 x1, .int .i64 x2, .int .i64 x3, .int .i64 x4] 25)) hb); have hX2 := blk_alloc hX (.cells #[.map mb] 47); have hX0 := (blk_cell hX2 0).trans rfl; have hX1 := (blk_cell hX2 1).trans rfl; have hX2_ := (blk_cell hX2 2).trans rfl; have hX3 := (blk_cell hX2 3).trans rfl; have hX4 := (blk_cell hX2 4).trans rfl)
        | (refine ⟨trivial, ?_⟩; gi_at_call 29; refine (callsIn_wide.2 (api_Item_29.calls k _ _ [l1, [⟨x0, x1, x2, x3, x4⟩]] c _ ?cc0 ?cl0 HC.out)).mono ?_; (case cc0 => exact best_args x0 x1 x2 x3 x4 HC1.out (Kd.C_below HR1.out HBB.out)); (case cl0 => exact Nat.le_refl _); rintro e w5 ⟨v1, rfl, ho1, hb1⟩; obtain ⟨A2, c2, rfl, hl2, hr2⟩ := Kd.R_reads ho1; have HR2 := Lib.hid hr2; have HL2 := Lib.hid hl2; have HBB5 := Lib.hid (below_step (below_alloc (below_alloc (below_alloc HBB.out (.cells #[.map mb] 47)) (.cells #[.int .i64 x0, .int .i64 x1, .int .i64 x2, .int .i64 x3, .int .i64 x4] 25)) (.cells #[.slice A1 l1.length c1, .slice (some ⟨w1.heap.size + 1, 0, none⟩) 1 1] 23)) hb1); clear ho1 hl2 hr2)
        | (refine ⟨trivial, ?_⟩; gi_at_call 18; refine (callsIn_wide.2 (relief_Items.calls k _ _ c d1 d2 _ HR2.out HL2.out HD.out)).mono ?_; rintro e w6 ⟨rfl, hb6⟩))
      exact ⟨_, by simp [results, Try.f12, go_sem], rfl, below_step HBB5.out hb6⟩
  · rw [if_neg h4] at h
    have d4 : (t4 == 0) = false := beq_eq_false_iff_ne.mpr h4
    have d5 : (t4 != 0) = true := bne_iff_ne.mpr h4
    simp only [Option.some.injEq, Prod.mk.injEq] at h
    obtain ⟨rfl, rfl, rfl⟩ := h
    gi_wp2_with (refine ⟨trivial, ?_⟩; gi_at_call 28; refine (callsIn_wide.2 (relief_grant.calls k _ _ l0 _ _ l1 t1 t2 t3 t4 _ (Kd.C_alloc HR0.out _) HC0.out (Kd.C_alloc HR1.out _) HC1.out HG.out)).mono ?_; rintro e w1 ⟨v0, mb, rfl, ho, hmv, hb⟩)
    have hbb := below_step (below_alloc (Below.refl w.heap.size w) (.cells #[.int .i64 x0, .int .i64 x1, .int .i64 x2, .int .i64 x3, .int .i64 x4] 25)) hb
    exact ⟨_, by simp [results, Try.f12, go_sem], rfl, below_alloc hbb _⟩
end Go.Proofs.Ytccocolcgdiglaa.X
