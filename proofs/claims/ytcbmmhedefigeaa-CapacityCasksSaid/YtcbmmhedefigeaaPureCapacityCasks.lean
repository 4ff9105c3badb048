/- CapacityCasks: for every cask and all numbers (casks with a profile of more than 33 points or a name of more than 70 bytes are let by) Volume, Agrees and Room answer as the reference does; no condition. -/
import Derived.Test.YtcbmmhedefigeaaCkp
import Derived.Test.YtcbmmhedefigeaaCak
import Derived.Test.YtcbmmhedefigeaaXx3
import Derived.Test.YtcbmmhedefigeaaXx4
import Derived.Test.YtcbmmhedefigeaaAgr
import Derived.Test.YtcbmmhedefigeaaRag
namespace Go.Proofs.Ytcbmmhedefigeaa.Pure
set_option linter.unusedVariables false
set_option linter.unusedSimpArgs false
open Go.RowKit Go.Proofs.Ytcbmmhedefigeaa.X Go.Proofs.Ytcbmmhedefigeaa.Prf Go.Proofs.YtcbmmhedefigeaaW.PrintWords Go.Proofs.YtcbmmhedefigeaaW.PrintLast Go.Proofs.YtcbmmhedefigeaaW.PrintMore

theorem Vol_bad {c : S40} (hc : Small c) (h : cC c ≠ 0) {k : Nat} (hk : 150 ≤ k) : capacity_Volume.f k c.f0 c.f1 c.f2 c.f3 = some (0, 0, cC c) := by
  unfold capacity_Volume.f
  rw [Check_f hc hk, Option.bind_some, if_neg h]
theorem refVol_bad {c : S40} (hc : Small c) (h : cC c ≠ 0) {k : Nat} (hk : 150 ≤ k) : spileref10_Volume.f k c.f0 c.f1 c.f2 c.f3 = some (0, 0, cC c) := by
  unfold spileref10_Volume.f
  rw [refCk_f hc hk, Option.bind_some, if_neg h]
theorem cC_decl {c : S40} (h : cC c = 0) : 0 ≤ c.f3 ∧ c.f3 ≤ 1073741824 := by
  unfold cC at h
  by_cases h1 : nmd c.f0 = true
  · rw [if_pos h1] at h
    by_cases h2 : c.f1 = 1 ∨ c.f1 = 2
    · rw [if_pos h2] at h
      by_cases h3 : c.f3 < 0 ∨ 1073741824 < c.f3
      · rw [if_pos h3] at h; cases h
      · omega
    · rw [if_neg h2] at h; cases h
  · rw [if_neg h1] at h; cases h
theorem vol_range {c : S40} (h : cC c = 0) : 0 ≤ volL c.f2 ∧ volL c.f2 ≤ volH c.f2 ∧ volH c.f2 ≤ 5000000000 := by
  have ho := (cC_zero h).2
  have hs := ho.sum_top
  unfold volL volH lowS highS
  omega
/-- the answer in plain numbers -/
def agr (lo hi d tol : Int) : Int := if sSide lo d tol = sSide hi d tol then (if sSide lo d tol = 0 then 1 else 2) else 3
theorem sSide_eq {n d tol : Int} (h0 : 0 ≤ n) (h1 : n ≤ 5000000000) (d0 : 0 ≤ d) (d1 : d ≤ 1073741824) (t0 : 0 ≤ tol) (t1 : tol ≤ 1000) : sSide n d tol = (if 1000 * n - 1000 * d > tol * d then 1 else if 1000 * d - 1000 * n > tol * d then -1 else 0) := by
  have q0 : 0 ≤ tol * d := Int.mul_nonneg t0 d0
  have q1 : tol * d ≤ 1000 * 1073741824 := Int.mul_le_mul t1 d1 d0 (by omega)
  unfold sSide
  rw [Ln.wid (x := n - d) (by omega) (by omega), Ln.wid (x := 1000 * (n - d)) (by omega) (by omega), Ln.wid (x := tol * d) (by omega) (by omega), Ln.wid (x := -(1000 * (n - d))) (by omega) (by omega)]
  rw [show 1000 * (n - d) = 1000 * n - 1000 * d by omega, show -(1000 * n - 1000 * d) = 1000 * d - 1000 * n by omega]
def agS (c : S40) (tol : Int) : Int × Int := if cC c = 0 then (if tol < 0 ∨ 1000 < tol then (0, 2) else (agr (volL c.f2) (volH c.f2) c.f3 tol, 0)) else (0, cC c)
theorem Agrees_f {c : S40} (hc : Small c) (tol : Int) {k : Nat} (hk : 200 ≤ k) : capacity_Agrees.f k c.f0 c.f1 c.f2 c.f3 tol = some (agS c tol) := by
  obtain ⟨k, rfl⟩ : ∃ m, k = m + 1 := ⟨k - 1, by omega⟩
  unfold capacity_Agrees.f agS
  by_cases h : cC c = 0
  · rw [Vol_ok hc h (by omega), Option.bind_some, if_pos h]
    dsimp only
    rw [if_pos rfl]
    by_cases h1 : tol < 0
    · rw [if_pos h1, if_pos (.inl h1)]
      simp only [capacity_Agrees.j0]
      rw [if_pos trivial]
    · rw [if_neg h1]
      by_cases h2 : tol > 1000
      · rw [if_pos (.inr h2), decide_eq_true h2]
        simp only [capacity_Agrees.j0]
        rw [if_pos trivial]
      · rw [if_neg (by omega), decide_eq_false h2]
        simp only [capacity_Agrees.j0]
        unfold capacity_Agrees_1.f agr
        rw [if_neg (by simp), Option.bind_some, Option.bind_some]
        by_cases h3 : sSide (volL c.f2) c.f3 tol = sSide (volH c.f2) c.f3 tol
        · rw [if_pos h3, if_pos h3]
          by_cases h4 : sSide (volL c.f2) c.f3 tol = 0
          · rw [if_pos h4, if_pos h4]
          · rw [if_neg h4, if_neg h4]
        · rw [if_neg h3, if_neg h3]
  · rw [Vol_bad hc h (by omega), Option.bind_some, if_neg h]
    dsimp only
    rw [if_neg h]
theorem refAgr {lo hi d tol : Int} (h0 : 0 ≤ lo) (h1 : lo ≤ hi) (h2 : hi ≤ 5000000000) (d0 : 0 ≤ d) (d1 : d ≤ 1073741824) (t0 : 0 ≤ tol) (t1 : tol ≤ 1000) (n : ByteArray) (p : Int) (l : List S30) (k : Nat) : spileref10_Agrees.j0 (k + 2) tol false n p l d lo hi = some (agr lo hi d tol, 0) := by
  have q0 : 0 ≤ tol * d := Int.mul_nonneg t0 d0
  have q1 : tol * d ≤ 1000 * 1073741824 := Int.mul_le_mul t1 d1 d0 (by omega)
  have m1 : wrap64 ((wrap64 (1000 - tol)) * d) = 1000 * d - tol * d := by
    rw [Ln.wid (x := 1000 - tol) (by omega) (by omega), Int.sub_mul, Ln.wid (by omega) (by omega)]
  have m2 : wrap64 ((wrap64 (1000 + tol)) * d) = 1000 * d + tol * d := by
    rw [Ln.wid (x := 1000 + tol) (by omega) (by omega), Int.add_mul, Ln.wid (by omega) (by omega)]
  have m3 : wrap64 (1000 * lo) = 1000 * lo := Ln.wid (by omega) (by omega)
  have m4 : wrap64 (1000 * hi) = 1000 * hi := Ln.wid (by omega) (by omega)
  simp only [spileref10_Agrees.j0]
  unfold agr
  rw [sSide_eq h0 (by omega) d0 d1 t0 t1, sSide_eq (by omega) h2 d0 d1 t0 t1, m1, m2, m3, m4, if_neg (by simp)]
  simp only [spileref10_Agrees.j1]
  generalize tol * d = q at *
  by_cases a1 : 1000 * lo ≥ 1000 * d - q
  · rw [if_pos a1]
    by_cases a2 : 1000 * lo ≤ 1000 * d + q
    · rw [if_pos a2, if_neg (show ¬ 1000 * lo - 1000 * d > q by omega), if_neg (show ¬ 1000 * d - 1000 * lo > q by omega)]
      rw [if_pos (show 1000 * hi ≥ 1000 * d - q by omega)]
      by_cases a3 : 1000 * hi ≤ 1000 * d + q
      · rw [decide_eq_true a3, if_pos rfl, if_neg (show ¬ 1000 * hi - 1000 * d > q by omega), if_neg (show ¬ 1000 * d - 1000 * hi > q by omega), if_pos rfl, if_pos rfl]
      · rw [decide_eq_false a3, if_neg (by simp), if_neg (by omega), if_neg (by omega), if_pos (show 1000 * hi - 1000 * d > q by omega), if_neg (by omega)]
    · rw [if_neg a2, if_neg (by simp), if_pos (by omega), if_pos (show 1000 * lo - 1000 * d > q by omega), if_pos (show 1000 * hi - 1000 * d > q by omega), if_pos rfl, if_neg (by omega)]
  · rw [if_neg a1, if_neg (by simp), if_neg (by omega), if_neg (show ¬ 1000 * lo - 1000 * d > q by omega), if_pos (show 1000 * d - 1000 * lo > q by omega)]
    by_cases a4 : 1000 * hi < 1000 * d - q
    · rw [if_pos a4, if_neg (show ¬ 1000 * hi - 1000 * d > q by omega), if_pos (show 1000 * d - 1000 * hi > q by omega), if_pos rfl, if_neg (by omega)]
    · rw [if_neg a4]
      by_cases a5 : 1000 * hi - 1000 * d > q
      · rw [if_pos a5, if_neg (by omega)]
      · rw [if_neg a5, if_neg (show ¬ 1000 * d - 1000 * hi > q by omega), if_neg (by omega)]
theorem refAgrees_f {c : S40} (hc : Small c) (tol : Int) {k : Nat} (hk : 200 ≤ k) : spileref10_Agrees.f k c.f0 c.f1 c.f2 c.f3 tol = some (agS c tol) := by
  obtain ⟨k, rfl⟩ : ∃ m, k = m + 2 := ⟨k - 2, by omega⟩
  unfold spileref10_Agrees.f agS
  by_cases h : cC c = 0
  · rw [refVol_ok hc h (by omega), Option.bind_some, if_pos h]
    dsimp only
    rw [if_pos rfl]
    obtain ⟨v0, v1, v2⟩ := vol_range h
    obtain ⟨d0, d1⟩ := cC_decl h
    by_cases h1 : tol < 0
    · rw [if_pos h1, if_pos (.inl h1)]
      simp only [spileref10_Agrees.j0]
      rw [if_pos trivial]
    · rw [if_neg h1]
      by_cases h2 : tol > 1000
      · rw [if_pos (.inr h2), decide_eq_true h2]
        simp only [spileref10_Agrees.j0]
        rw [if_pos trivial]
      · rw [if_neg (by omega), decide_eq_false h2]
        exact refAgr v0 v1 v2 d0 d1 (by omega) (by omega) _ _ _ k
  · rw [refVol_bad hc h (by omega), Option.bind_some, if_neg h]
    dsimp only
    rw [if_neg h]
theorem Room_both {c : S40} {k : Nat} {t : Int × Int × Int} (v : Int) (h1 : capacity_Volume.f k c.f0 c.f1 c.f2 c.f3 = some t) (h2 : spileref10_Volume.f k c.f0 c.f1 c.f2 c.f3 = some t) : ∃ q1 q2 i, capacity_Room.f k c.f0 c.f1 c.f2 c.f3 v = some (q1, q2, i) ∧ spileref10_Room.f k c.f0 c.f1 c.f2 c.f3 v = some (q1, q2, i) := by
  unfold capacity_Room.f spileref10_Room.f
  rw [h1, h2, Option.bind_some]
  repeat' split
  all_goals exact ⟨_, _, _, rfl, rfl⟩
/-- what the walk wants -/
theorem capacityCasks (c : S40) (tol v : Int) (hl : c.f2.length ≤ 9223372036854775807) : ∃ k few, spilelaw10_awake.f k = some true ∧ spileref09_Few.f k [c] = some few ∧ (few = true → ∃ b1 b2 e1 x g q1 q2 i, spileref09_Copy.f k [c] = some [c] ∧ capacity_Volume.f k c.f0 c.f1 c.f2 c.f3 = some (b1, b2, e1) ∧ spileref10_Volume.f k c.f0 c.f1 c.f2 c.f3 = some (b1, b2, e1) ∧
    capacity_Agrees.f k c.f0 c.f1 c.f2 c.f3 tol = some (x, g) ∧ spileref10_Agrees.f k c.f0 c.f1 c.f2 c.f3 tol = some (x, g) ∧ capacity_Room.f k c.f0 c.f1 c.f2 c.f3 v = some (q1, q2, i) ∧ spileref10_Room.f k c.f0 c.f1 c.f2 c.f3 v = some (q1, q2, i)) := by
  obtain ⟨b, eb, hb⟩ := few_loop (l := [c]) (by simp) 1 0 2000 (by simp) (by omega) (fun j hj => by omega)
  refine ⟨2000, b, awakeT, eb, fun e => ?_⟩
  obtain ⟨_, hsm⟩ := hb e
  have hc : Small c := by have := hsm 0 (by simp); simpa using this
  have ec : spileref09_Copy.f 2000 [c] = some [c] := copy_loop (by simp) (fun z hz => by rw [List.mem_singleton.1 hz]; exact hc) 1 0 _ (by simp) (by omega)
  by_cases h : cC c = 0
  · obtain ⟨q1, q2, i, r1, r2⟩ := Room_both v (Vol_ok hc h (k := 2000) (by omega)) (refVol_ok hc h (k := 2000) (by omega))
    exact ⟨_, _, _, _, _, q1, q2, i, ec, Vol_ok hc h (by omega), refVol_ok hc h (by omega), Agrees_f hc tol (by omega), refAgrees_f hc tol (by omega), r1, r2⟩
  · obtain ⟨q1, q2, i, r1, r2⟩ := Room_both v (Vol_bad hc h (k := 2000) (by omega)) (refVol_bad hc h (k := 2000) (by omega))
    exact ⟨_, _, _, _, _, q1, q2, i, ec, Vol_bad hc h (by omega), refVol_bad hc h (by omega), Agrees_f hc tol (by omega), refAgrees_f hc tol (by omega), r1, r2⟩
end Go.Proofs.Ytcbmmhedefigeaa.Pure
namespace Go.Proofs.Ytcbmmhedefigeaa.Pure
open Go.RowKit Go.Proofs.Ytcbmmhedefigeaa.X Go.Proofs.YtcbmmhedefigeaaW.PrintWords Go.Proofs.YtcbmmhedefigeaaW.PrintLast Go.Proofs.YtcbmmhedefigeaaW.PrintMore
/-- the law's call -/
theorem casks (n : ByteArray) (p d : Int) (A : Option Addr) (c : Nat) (l : List S30) (tol v : Int) (w : World) (hr : Kd.C k30 w A l.length l) (hc : l.length ≤ c) : Calls Try.prog 4 #[.agg #[.string n, .int .i64 p, .slice A l.length c, .int .i64 d], .int .i64 tol, .int .i64 v] w fun e w' => e = .returned (.bool true) ∧ Below w.heap.size w w' := by
  obtain ⟨k, few, h1, h2, h3⟩ := capacityCasks ⟨n, p, l, d⟩ tol v hr.2.1
  exact casks_walk k n p d A c l tol v w hr hc few h1 h2 h3
end Go.Proofs.Ytcbmmhedefigeaa.Pure
