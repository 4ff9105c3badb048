import Derived.Test.YtcbmmhedefigeaaChk8
/-! profile.at: what it comes to where no two neighbours lie at one place, and the walk. -/
namespace Go.Proofs.Ytcbmmhedefigeaa.X
set_option linter.unusedVariables false
set_option linter.unusedSimpArgs false
open Go.RowKit Go.Shelf Go.Proofs.YtcbmmhedefigeaaW.PrintWords Go.Proofs.YtcbmmhedefigeaaW.PrintLast
open Go.Proofs.Ytcbmmhedefigeaa.It
attribute [local go_sem] Oper.semAt_some

def apart (p : S30 × S30) : Bool := wrap64 (p.2.f0 - p.1.f0) != 0
/-- the numerator -/
def numer (x : Int) (p : S30 × S30) : Int := wrap64 (wrap64 (p.1.f1 * wrap64 (p.2.f0 - x)) + wrap64 (p.2.f1 * wrap64 (x - p.1.f0)))
def bnds (x : Int) (p : S30 × S30) : Int × Int := (wrap64 (Int.tdiv (numer x p) (wrap64 (p.2.f0 - p.1.f0))), wrap64 (Int.tdiv (wrap64 (wrap64 (numer x p + wrap64 (p.2.f0 - p.1.f0)) - 1)) (wrap64 (p.2.f0 - p.1.f0))))
def sAt (l : List S30) (x : Int) : Int × Int :=
  match (upto (nb l) (l.length - 1)).find? (fun p => decide (x ≤ p.2.f0)) with
  | some p => bnds x p
  | none => (0, 0)
def profile_at.f (l0 : List S30) (a1 : Int) : Option (Int × Int) := if l0.length < 1000000000000 then (if (upto (nb l0) (l0.length - 1)).all apart = true then some (sAt l0 a1) else none) else none

structure Past (x : Int) (pre : List { p : S30 × S30 // apart p = true }) : Prop where
  out : ∀ p ∈ pre, ¬ x ≤ p.1.2.f0
structure Found (x : Int) (pre : List { p : S30 × S30 // apart p = true }) (v : Int × Int) : Prop where
  out : ∃ (init : List { p : S30 × S30 // apart p = true }) (y : { p : S30 × S30 // apart p = true }), pre = init ++ [y] ∧ Past x init ∧ x ≤ y.1.2.f0 ∧ v = bnds x y.1
theorem Past.snoc {x : Int} {pre : List { p : S30 × S30 // apart p = true }} {y : { p : S30 × S30 // apart p = true }} (h : Past x pre) (hy : ¬ x ≤ y.1.2.f0) : Past x (pre ++ [y]) := ⟨fun p hp => by
  rcases List.mem_append.1 hp with hp | hp
  · exact h.out p hp
  · simp only [List.mem_cons, List.not_mem_nil, or_false] at hp; rw [hp]; exact hy⟩
theorem Past.none {x : Int} {pre : List { p : S30 × S30 // apart p = true }} (h : Past x pre) : (pre.map (·.1)).find? (fun p => decide (x ≤ p.2.f0)) = none := by
  rw [List.find?_eq_none]
  intro p hp
  obtain ⟨q, hq, rfl⟩ := List.mem_map.1 hp
  simpa using h.out q hq
theorem Found.find {x : Int} {pre : List { p : S30 × S30 // apart p = true }} {v : Int × Int} (h : Found x pre v) (tl : List (S30 × S30)) : ∃ y, ((pre.map (·.1)) ++ tl).find? (fun p => decide (x ≤ p.2.f0)) = some y ∧ v = bnds x y := by
  obtain ⟨init, y, rfl, h1, h2, h3⟩ := h.out
  refine ⟨y.1, ?_, h3⟩
  rw [List.map_append, List.append_assoc, List.find?_append, h1.none]
  simp [h2]

set_option maxRecDepth 100000 in
set_option maxHeartbeats 400000 in
theorem profile_at.calls (A0 : Option Addr) (c0 : Nat) (l0 : List S30) (a1 : Int) (r1 r2 : Int) (w : World) (hr0 : Kd.C k30 w A0 l0.length l0) (hc0 : l0.length ≤ c0) (h : profile_at.f l0 a1 = some (r1, r2)) :
    Calls Try.prog 51 #[.slice A0 l0.length c0, .int .i64 a1] w fun e w' => e = .returned (.agg #[.int .i64 r1, .int .i64 r2]) ∧ Below w.heap.size w w' := by
  have hI := holds_of_reads hr0
  clear hr0
  have hu32 := Try.underlying32
  unfold profile_at.f at h
  by_cases hlen : l0.length < 1000000000000
  · rw [if_pos hlen] at h
    by_cases hap : (upto (nb l0) (l0.length - 1)).all apart = true
    · rw [if_pos hap] at h
      have h := Option.some.inj h
      have HRES := Lib.hid h
      clear h
      have hG : ∀ k, k < l0.length - 1 → apart (nb l0 k) = true := fun k hk => List.all_eq_true.1 hap _ (List.mem_map.2 ⟨k, List.mem_range.2 hk, rfl⟩)
      clear hap
      refine (callsIn_wide (n := 5)).1 ?_
      refine callsIn_of_wp_marks Try.func51 rfl trivial ?_
      simp only [Try.ntmps51, List.size_toArray, List.length_cons, List.length_nil, Nat.reduceAdd, Nat.reduceSub, Array.replicate_succ, Array.replicate_zero, List.push_toArray, List.append_toArray, List.nil_append, List.cons_append]
      gi_wp2_with (refine ⟨trivial, ?_⟩; gi_at_call 49; refine (strips_in _ _ _ _ _).mono ?_; rintro e w' ⟨rfl, rfl⟩)
      obtain ⟨W0, hW0⟩ : ∃ W0, ((w.alloc (.cells #[.int .i64 a1] 3)).alloc (.cells #[.int .i64 0, .int .i64 0] 32)).alloc (.cells #[.slice A0 l0.length c0] 22) = W0 := ⟨_, rfl⟩
      have hB0 : Below w.heap.size w W0 := by rw [← hW0]; exact below_alloc (below_alloc (below_alloc (Below.refl _ _) _) _) _
      have hZ0 : W0.heap.size = w.heap.size + 1 + 1 + 1 := by rw [← hW0]; simp
      have hX0 : W0.heap[w.heap.size]? = some (.cells #[.int .i64 a1] 3 (0, 0)) := by rw [← hW0]; exact blk_alloc (blk_alloc (blk_new w _) _) _
      have hR0 : W0.heap[w.heap.size + 1]? = some (.cells #[.int .i64 0, .int .i64 0] 32 (0, 0)) := by
        rw [← hW0]; exact blk_alloc (by have := blk_new (w.alloc (.cells #[.int .i64 a1] 3)) (.cells #[.int .i64 0, .int .i64 0] 32); rwa [World.size_alloc] at this) _
      have hN0 : W0.heap[w.heap.size + 1 + 1]? = some (.cells #[.slice A0 l0.length c0] 22 (0, 0)) := by
        rw [← hW0]; have := blk_new ((w.alloc (.cells #[.int .i64 a1] 3)).alloc (.cells #[.int .i64 0, .int .i64 0] 32)) (.cells #[.slice A0 l0.length c0] 22); rwa [World.size_alloc, World.size_alloc] at this
      rw [hW0]
      clear hW0
      refine wpIn_rangeFunc_ownH rfl (by omega) (gf := 56) (lb := #[.pointer (some ⟨w.heap.size + 1 + 1, 0, none⟩)]) rfl trivial (enters_of Try.func56 (by kernel_rfl) rfl)
        (strips_stopsG (fun p => apart p = true) 4 (by omega) (w.heap.size + 1 + 1) w.heap.size c0 A0 l0 hG hlen _ (by omega) (by omega) ((blk_cell hN0 0).trans rfl) (hI.below hB0)) kb_t (kb_b (by omega) (by omega)) (Below.refl _ _) (fun _ => rfl)
        (fun pre W => (Past a1 pre ∧ W.heap[w.heap.size]? = some (.cells #[.int .i64 a1] 3 (0, 0)) ∧ W.heap[w.heap.size + 1]? = some (.cells #[.int .i64 0, .int .i64 0] 32 (0, 0)) ∧ W.heap[w.heap.size + 1 + 1]? = some (.cells #[.slice A0 l0.length c0] 22 (0, 0))) ∧ Below w.heap.size w W)
        (fun c pre W => (c = .ret ∧ ∃ v : Int × Int, Found a1 pre v ∧ W.heap[w.heap.size + 1]? = some (.cells #[.int .i64 v.1, .int .i64 v.2] 32 (0, 0))) ∧ Below w.heap.size w W)
        (OwnFrom.and (Own.from (fun s A B row hs hg hr => ⟨hs.1, own_blk hs.2.1 hg hr, own_blk hs.2.2.1 hg hr, own_blk hs.2.2.2 hg hr⟩) _) (ownFrom_below (Nat.le_refl _) (by omega)))
        (fun c => OwnFrom.and (Own.from (fun s A B row hs hg hr => by obtain ⟨h1, v, h2, h5⟩ := hs; exact ⟨h1, v, h2, own_blk h5 hg hr⟩) _) (ownFrom_below (Nat.le_refl _) (by omega)))
        ⟨⟨⟨fun p hp => by simp at hp⟩, hX0, hR0, hN0⟩, hB0⟩
        (fun x a' W => ∃ Bp Bq : Nat, W.heap[Bp]? = some (.cells #[.int .i64 x.1.1.f0, .int .i64 x.1.1.f1] 30 (0, 0)) ∧ W.heap[Bq]? = some (.cells #[.int .i64 x.1.2.f0, .int .i64 x.1.2.f1] 30 (0, 0)) ∧
          a' = { tmps := #[.slice A0 l0.length c0, .int .i64 a1, undef, .pointer (some ⟨w.heap.size, 0, none⟩), .pointer (some ⟨w.heap.size + 1, 0, none⟩), .pointer (some ⟨Bp, 0, none⟩), .pointer (some ⟨Bq, 0, none⟩), undef, undef, .slice A0 l0.length c0, .func (.func 56) #[] #[.pointer (some ⟨w.heap.size + 1 + 1, 0, none⟩)], pv x.1.1, pv x.1.2,
            undef, undef, undef, undef, undef, undef, undef, undef, undef, undef, undef, undef, undef, undef, undef, undef, undef, undef, undef, undef, undef, undef, undef, undef, undef, undef, undef, undef, undef, undef, undef, undef, undef, undef, undef], defers := [] })
        (fun x a' => Own.from (fun s A B row hs hg hr => by obtain ⟨Bp, Bq, h3, h4, h5⟩ := hs; exact ⟨Bp, Bq, own_blk h3 hg hr, own_blk h4 hg hr, h5⟩) _) ?assign ?body ?done ?stop
      case assign =>
        rintro l pre x W K ⟨⟨hp, hX, hR, hN⟩, hB⟩ hK
        have HK := Lib.hid hK
        clear hK
        have hltN := blk_lt hN
        gi_wp2
        exact HK.out _ _ (((KeepsOthers.alloc _ _).trans (KeepsOthers.alloc _ _)).from _) (((KB.refl _ _ _).alloc hB.size hltN _).alloc (by rw [World.size_alloc]; have := hB.size; omega) (by rw [World.size_alloc]; omega) _)
          ⟨⟨hp, blk_alloc (blk_alloc hX _) _, blk_alloc (blk_alloc hR _) _, blk_alloc (blk_alloc hN _) _⟩, below_alloc (below_alloc hB _) _⟩
          ⟨W.heap.size, W.heap.size + 1, blk_alloc (blk_new W _) _, by have := blk_new (W.alloc (.cells #[.int .i64 x.1.1.f0, .int .i64 x.1.1.f1] 30)) (.cells #[.int .i64 x.1.2.f0, .int .i64 x.1.2.f1] 30); rwa [World.size_alloc] at this, rfl⟩
      case body =>
        rintro l pre ⟨x, hx⟩ a' W hl ⟨r, hr⟩ ⟨⟨hp, hX, hR, hN⟩, hB⟩ ⟨Bp, Bq, hP, hQ, rfl⟩ _
        have HPp := Lib.hid hp
        clear hp
        simp only [] at hP hQ
        have hcP := (blk_cell hP 0).trans rfl
        have hcQ := (blk_cell hQ 0).trans rfl
        have hcP1 := (blk_cell hP 1).trans rfl
        have hcQ1 := (blk_cell hQ 1).trans rfl
        have hcX := (blk_cell hX 0).trans rfl
        have hcR := (blk_cell hR 0).trans rfl
        have hcR1 := (blk_cell hR 1).trans rfl
        have hfR := blk_frozen hR 0
        have hfR1 := blk_frozen hR 1
        by_cases hq : a1 ≤ x.2.f0
        · have hxd : decide (x.2.f0 < a1) = false := decide_eq_false (by omega)
          obtain ⟨hh, hhe⟩ : ∃ hh, wrap64 (x.2.f0 - x.1.f0) = hh := ⟨_, rfl⟩
          have hnz : (hh == 0) = false := by rw [← hhe]; unfold apart at hx; simpa using hx
          have hnz2 : ¬ hh = 0 := by simpa using hnz
          have hnz3 : (hh != 0) = true := by simpa using hnz
          gi_wp2
          refine Tail.region_tail (Tail.open_round l _ _) 10 (by kernel_rfl) (by kernel_rfl) (by kernel_rfl) ?_
          simp only [List.take_succ_cons, List.take_zero, List.drop_succ_cons, List.drop_zero]
          repeat still_step
          try refine wpStill_nil ?_
          change wpListIn _ _ _ _ _ _ _ (World.drew W)
          gi_wp2
          refine ⟨((KeepsOthers.drew _).trans ((KeepsOthers.setCell _ _ _).trans (KeepsOthers.setCell _ _ _))).from _, ⟨rfl, bnds a1 x, ⟨pre, ⟨x, hx⟩, rfl, HPp.out, by show a1 ≤ x.2.f0; omega, rfl⟩, ?_⟩, ((hB.drew).setCell (p := ⟨w.heap.size + 1, 0, none⟩) (by show w.heap.size ≤ w.heap.size + 1; omega) _).setCell (p := ⟨w.heap.size + 1, 1, none⟩) (by show w.heap.size ≤ w.heap.size + 1; omega) _⟩
          have hput := blk_drew (blk_put (blk_put hR 0 (.int .i64 (bnds a1 x).1) rfl) 1 (.int .i64 (bnds a1 x).2) rfl)
          simpa [bnds, numer, hhe, i64_w] using hput
        · have hxd : decide (x.2.f0 < a1) = true := decide_eq_true (by omega)
          gi_wp2
          exact ⟨KeepsFrom.refl _ _, KB.refl _ _ _, ⟨HPp.out.snoc (by show ¬ a1 ≤ x.2.f0; omega), hX, hR, hN⟩, hB⟩
      case done =>
        rintro D ys W hD hys ⟨⟨hne, hX, hR, hN⟩, hB⟩ hK
        have h := HRES.out
        unfold sAt at h
        rw [← hys, hne.none] at h
        simp only [Prod.mk.injEq] at h
        obtain ⟨rfl, rfl⟩ := h
        have hcR := (blk_cell hR 0).trans rfl
        have hcR1 := (blk_cell hR 1).trans rfl
        have hfR := blk_frozen hR 0
        have hfR1 := blk_frozen hR 1
        clear HRES hne hys hX hN
        gi_wp2
        have hput := blk_put (blk_put hR 0 (.int .i64 0) rfl) 1 (.int .i64 0) rfl
        have hK' := ((KeepsOthers.setCell W ⟨w.heap.size + 1, 0, none⟩ (.int .i64 0)).trans (KeepsOthers.setCell _ ⟨w.heap.size + 1, 1, none⟩ (.int .i64 0))).same D _ hK rfl
        refine ⟨by simp, .inl ⟨_, _, rfl, run_takeDeferred hK', ?_⟩⟩
        have hc0 := cell_kept ((blk_cell hput 0).trans rfl) (grownBy_putObj' _ D (.deferred none)) (fun r e => by cases e; exact ⟨_, hK', rfl⟩)
        have hc1 := cell_kept ((blk_cell hput 1).trans rfl) (grownBy_putObj' _ D (.deferred none)) (fun r e => by cases e; exact ⟨_, hK', rfl⟩)
        refine ⟨.agg #[.int .i64 0, .int .i64 0], ?_, rfl, ((hB.setCell (p := ⟨w.heap.size + 1, 0, none⟩) (by show w.heap.size ≤ w.heap.size + 1; omega) _).setCell (p := ⟨w.heap.size + 1, 1, none⟩) (by show w.heap.size ≤ w.heap.size + 1; omega) _).trans (belowK_b (w := w) (Nat.le_refl _) _ D _ _ (by omega) hK' rfl rfl)⟩
        simp [results, Try.f51, go_sem, hc0, hc1, hu32]
      case stop =>
        rintro D c pre W hD ⟨k, hk, hpk⟩ ⟨⟨rfl, v, hfo, hR⟩, hB⟩ hK
        have h := HRES.out
        unfold sAt at h
        obtain ⟨tl, htl⟩ := upto_prefix (nb l0) k (l0.length - 1) hk
        obtain ⟨y, hf, hv⟩ := hfo.find tl
        rw [htl, ← hpk, hf] at h
        have h : bnds a1 y = (r1, r2) := h
        rw [← hv] at h
        obtain ⟨v1, v2⟩ := v
        simp only [Prod.mk.injEq] at h
        obtain ⟨rfl, rfl⟩ := h
        clear HRES hfo hf hv htl hpk
        gi_wp2
        refine ⟨by simp, .inl ⟨_, _, rfl, run_takeDeferred hK, ?_⟩⟩
        have hc0 := cell_kept ((blk_cell hR 0).trans rfl) (grownBy_putObj' _ D (.deferred none)) (fun r e => by cases e; exact ⟨_, hK, rfl⟩)
        have hc1 := cell_kept ((blk_cell hR 1).trans rfl) (grownBy_putObj' _ D (.deferred none)) (fun r e => by cases e; exact ⟨_, hK, rfl⟩)
        refine ⟨.agg #[.int .i64 v1, .int .i64 v2], ?_, rfl, hB.trans (belowK_b (w := w) (Nat.le_refl _) _ D _ _ (by omega) hK rfl rfl)⟩
        simp [results, Try.f51, go_sem, hc0, hc1, hu32]
    · rw [if_neg hap] at h; cases h
  · rw [if_neg hlen] at h; cases h
end Go.Proofs.Ytcbmmhedefigeaa.X
