import Derived.Test.YtcbmmhedefigeaaXx0
import Derived.Test.YtcbmmhedefigeaaTsp
import Derived.RangeFuncCalls
import Derived.OwnWalkIn
import Derived.TacticsInMore
import Derived.Shelf.Abstract
import Derived.Shelf.RegionOpen
import Derived.IntWalk
import Derived.StillTailTactics
import Derived.Lib.Hide
/-! A cask of its own, as the law's closure makes it: what comes back. -/
namespace Go.Proofs.Ytcbmmhedefigeaa.X
set_option linter.unusedVariables false
set_option linter.unusedSimpArgs false
open Go.RowKit Go.Shelf Go.Proofs.YtcbmmhedefigeaaW.PrintWords Go.Proofs.YtcbmmhedefigeaaW.PrintLast Go.Proofs.YtcbmmhedefigeaaW.PrintMore
attribute [local go_sem] Oper.semAt_some

@[reducible] def cv (n : ByteArray) (p : Int) (A : Option Addr) (m c : Nat) (d : Int) : Value := .agg #[.string n, .int .i64 p, .slice A m c, .int .i64 d]
/-- a slice of one cask -/
theorem one_cask {w : World} {B : Nat} {n : ByteArray} {p d : Int} {A : Option Addr} {c : Nat} {l : List S30} (h : w.heap[B]? = some (.cells #[.string n, .int .i64 p, .slice A l.length c, .int .i64 d] 40 (0, 0))) (hc : l.length ≤ c) (hl : Kd.C k30 w A l.length l) :
    Kd.C k40 w (some ⟨B, 0, none⟩) [(⟨n, p, l, d⟩ : S40)].length [⟨n, p, l, d⟩] := by
  refine ⟨rfl, by simp, fun _ => ⟨_, rfl, fun j q hj => ?_⟩⟩
  match j, hj with
  | 0, hj =>
    obtain rfl : (⟨n, p, l, d⟩ : S40) = q := by simpa using hj
    refine ⟨_, rfl, k40_mk w ⟨n, p, l, d⟩ hc hl, fun i u hu => ?_⟩
    match i, hu with
    | 0, hu => exact (by simpa using hu : _ = u) ▸ (blk_cell h 0).trans rfl
    | 1, hu => exact (by simpa using hu : _ = u) ▸ (blk_cell h 1).trans rfl
    | 2, hu => exact (by simpa using hu : _ = u) ▸ (blk_cell h 2).trans rfl
    | 3, hu => exact (by simpa using hu : _ = u) ▸ (blk_cell h 3).trans rfl
    | n + 4, hu => simp at hu
  | n + 1, hj => simp at hj

set_option maxRecDepth 100000 in
set_option maxHeartbeats 400000 in
theorem own_calls18 (k : Nat) (B : Nat) (n : ByteArray) (p d : Int) (A : Option Addr) (c : Nat) (l : List S30) (w : World) (hB : w.heap[B]? = some (.cells #[.string n, .int .i64 p, .slice A l.length c, .int .i64 d] 40 (0, 0))) (hc : l.length ≤ c) (hl : Kd.C k30 w A l.length l)
    (h : spileref09_Copy.f k [⟨n, p, l, d⟩] = some [⟨n, p, l, d⟩]) :
    Calls Try.prog 18 #[.pointer (some ⟨B, 0, none⟩)] w fun e w' => ∃ A' c', e = .returned (cv n p A' l.length c' d) ∧ l.length ≤ c' ∧ Kd.C k30 w' A' l.length l ∧ Below w.heap.size w w' := by
  have HC := Lib.hid hc
  have HL := Lib.hid hl
  have HH := Lib.hid h
  clear hc hl h
  have hlt := blk_lt hB
  have hu40 := Try.underlying40
  refine (callsIn_wide (n := 5)).1 ?_
  refine callsIn_of_wp_marks Try.func18 rfl trivial ?_
  simp only [Try.ntmps18, List.size_toArray, List.length_cons, List.length_nil, Nat.reduceAdd, Nat.reduceSub, Array.replicate_succ, Array.replicate_zero, List.push_toArray, List.append_toArray, List.nil_append, List.cons_append]
  have hB1 := blk_alloc hB (.cells #[.string (⟨#[]⟩ : ByteArray), .int .i64 0, .slice none 0 0, .int .i64 0] 40)
  have q0 := (blk_cell hB1 0).trans rfl
  have q1 := (blk_cell hB1 1).trans rfl
  have q2 := (blk_cell hB1 2).trans rfl
  have q3 := (blk_cell hB1 3).trans rfl
  gi_wp2_with (refine ⟨trivial, ?_⟩; gi_at_call 19; refine (callsIn_wide.2 (spileref09_Copy.calls k _ _ [⟨n, p, l, d⟩] [⟨n, p, l, d⟩] _ ?cc0 ?cl0 HH.out)).mono ?_; (case cc0 => exact one_cask (by have h_ := blk_new (w.alloc (.cells #[.string (⟨#[]⟩ : ByteArray), .int .i64 0, .slice none 0 0, .int .i64 0] 40)) (.cells #[.string n, .int .i64 p, .slice A l.length c, .int .i64 d] 40); rwa [World.size_alloc] at h_) HC.out (Kd.C_alloc (Kd.C_alloc HL.out _) _)); (case cl0 => exact Nat.le_refl 1); rintro e w5 ⟨v0, rfl, hS, hb⟩; obtain ⟨g5, c5, rfl, hg5, hg5l, _⟩ := Kd.R_form (Kd.S_R hS) (by simp); obtain ⟨ce, hcl, hM, hcc, _⟩ := Kd.R_elem (Kd.S_R hS) z40 (0 : Int) (by omega) (by simp); obtain ⟨v2, rfl, hR2⟩ := k40_openM hM; obtain ⟨A2, c2, rfl, hl2, _⟩ := Kd.R_reads hR2; have x0 : w5.cell? ⟨g5, 0, none⟩ = some (.string n) := hcc 0 _ rfl; have x1 : w5.cell? ⟨g5, 1, none⟩ = some (.int .i64 p) := hcc 1 _ rfl; have x2 : w5.cell? ⟨g5, 2, none⟩ = some (.slice A2 l.length c2) := hcc 2 _ rfl; have x3 : w5.cell? ⟨g5, 3, none⟩ = some (.int .i64 d) := hcc 3 _ rfl; clear hcc hcl hS; have HR2 := Lib.hid hR2; have HL2 := Lib.hid hl2; clear hM hR2 hl2; have hZ := blk_below (blk_alloc (blk_new w (.cells #[.string (⟨#[]⟩ : ByteArray), .int .i64 0, .slice none 0 0, .int .i64 0] 40)) (.cells #[.string n, .int .i64 p, .slice A l.length c, .int .i64 d] 40)) hb; have f0 := blk_frozen hZ 0; have f1 := blk_frozen hZ 1; have f2 := blk_frozen hZ 2; have f3 := blk_frozen hZ 3; have z0 := (blk_cell hZ 0).trans rfl; have z1 := (blk_cell hZ 1).trans rfl; have z2 := (blk_cell hZ 2).trans rfl; have z3 := (blk_cell hZ 3).trans rfl)
  have hb' := below_step (below_alloc (below_alloc (Below.refl w.heap.size w) (.cells #[.string (⟨#[]⟩ : ByteArray), .int .i64 0, .slice none 0 0, .int .i64 0] 40)) (.cells #[.string n, .int .i64 p, .slice A l.length c, .int .i64 d] 40)) hb
  have hr1 := Kd.R_mono (ok' := fun k => k ≠ w.heap.size) (Kd.R_bound HR2.out) (fun k hk => by have h2 := hk.2.1; rw [World.size_alloc, World.size_alloc] at h2; show k ≠ w.heap.size; omega)
  have r4 := Kd.R_far (p := ⟨w.heap.size, 3, none⟩) (Kd.R_far (p := ⟨w.heap.size, 2, none⟩) (Kd.R_far (p := ⟨w.heap.size, 1, none⟩) (Kd.R_far (p := ⟨w.heap.size, 0, none⟩) hr1 (fun _ h => h) (.string n)) (fun _ h => h) (.int .i64 p)) (fun _ h => h) (.slice A2 l.length c2)) (fun _ h => h) (.int .i64 d)
  have hfin := blk_put (blk_put (blk_put (blk_put hZ 0 (.string n) rfl) 1 (.int .i64 p) rfl) 2 (.slice A2 l.length c2) rfl) 3 (.int .i64 d) rfl
  have y0 := (blk_cell hfin 0).trans rfl
  have y1 := (blk_cell hfin 1).trans rfl
  have y2 := (blk_cell hfin 2).trans rfl
  have y3 := (blk_cell hfin 3).trans rfl
  refine ⟨cv n p A2 l.length c2 d, ?_, A2, c2, rfl, HL2.out, (Kd.R_reads' r4).2.2, (((hb'.setCell (p := ⟨w.heap.size, 0, none⟩) (Nat.le_refl _) _).setCell (p := ⟨w.heap.size, 1, none⟩) (Nat.le_refl _) _).setCell (p := ⟨w.heap.size, 2, none⟩) (Nat.le_refl _) _).setCell (p := ⟨w.heap.size, 3, none⟩) (Nat.le_refl _) _⟩
  simp [results, Try.f18, go_sem, y0, y1, y2, y3, hu40]
theorem below_of_drawn {w w' : World} (h : Drawn0 w w') : Below w.heap.size w w' := by
  obtain ⟨n, rfl⟩ := h
  exact pw_below_drewN (Below.refl _ _) n
end Go.Proofs.Ytcbmmhedefigeaa.X
