/- CapacityTolerates: for every cask and all numbers (greater casks, tolerances above 1000 and steps out of 0..1000 are let by) a greater tolerance never turns 'agrees' into another answer, nor another answer into 'does not', and a cask never fails to agree at its own high bound; no condition. -/
import Derived.Test.YtcbmmhedefigeaaCkp
import Derived.Test.YtcbmmhedefigeaaCot
import Derived.Test.YtcbmmhedefigeaaXx3
import Derived.Test.YtcbmmhedefigeaaAgr
namespace Go.Proofs.Ytcbmmhedefigeaa.Pure
set_option linter.unusedVariables false
set_option linter.unusedSimpArgs false
open Go.RowKit Go.Proofs.Ytcbmmhedefigeaa.X Go.Proofs.Ytcbmmhedefigeaa.Prf Go.Proofs.YtcbmmhedefigeaaW.PrintWords Go.Proofs.YtcbmmhedefigeaaW.PrintLast Go.Proofs.YtcbmmhedefigeaaW.PrintMore

theorem Vol_bad {c : S40} (hc : Small c) (h : cC c ≠ 0) {k : Nat} (hk : 150 ≤ k) : capacity_Volume.f k c.f0 c.f1 c.f2 c.f3 = some (0, 0, cC c) := by
  unfold capacity_Volume.f
  rw [Check_f hc hk, Option.bind_some, if_neg h]
theorem cC_decl {c : S40} (h : cC c = 0) : 0 ≤ c.f3 ∧ c.f3 ≤ 1073741824 := by
  unfold cC at h
  by_cases h1 : nmd c.f0 = true
  · rw [if_pos h1] at h
    by_cases h2 : c.f1 = 1 ∨ c.f1 = 2
    · rw [if_pos h2] at h
      by_cases h3 : c.f3 < 0 ∨ 1073741824 < c.f3
      · rw [if_pos h3] at h; cases h
      · omega
    · rw [if_neg h2] at h; cases h
  · rw [if_neg h1] at h; cases h
theorem vol_range {c : S40} (h : cC c = 0) : 0 ≤ volL c.f2 ∧ volL c.f2 ≤ volH c.f2 ∧ volH c.f2 ≤ 5000000000 := by
  have ho := (cC_zero h).2
  have hs := ho.sum_top
  unfold volL volH lowS highS
  omega
/-- the answer in plain numbers -/
def agr (lo hi d tol : Int) : Int := if sSide lo d tol = sSide hi d tol then (if sSide lo d tol = 0 then 1 else 2) else 3
theorem sSide_eq {n d tol : Int} (h0 : 0 ≤ n) (h1 : n ≤ 5000000000) (d0 : 0 ≤ d) (d1 : d ≤ 1073741824) (t0 : 0 ≤ tol) (t1 : tol ≤ 1000) : sSide n d tol = (if 1000 * n - 1000 * d > tol * d then 1 else if 1000 * d - 1000 * n > tol * d then -1 else 0) := by
  have q0 : 0 ≤ tol * d := Int.mul_nonneg t0 d0
  have q1 : tol * d ≤ 1000 * 1073741824 := Int.mul_le_mul t1 d1 d0 (by omega)
  unfold sSide
  rw [Ln.wid (x := n - d) (by omega) (by omega), Ln.wid (x := 1000 * (n - d)) (by omega) (by omega), Ln.wid (x := tol * d) (by omega) (by omega), Ln.wid (x := -(1000 * (n - d))) (by omega) (by omega)]
  rw [show 1000 * (n - d) = 1000 * n - 1000 * d by omega, show -(1000 * n - 1000 * d) = 1000 * d - 1000 * n by omega]
def agS (c : S40) (tol : Int) : Int × Int := if cC c = 0 then (if tol < 0 ∨ 1000 < tol then (0, 2) else (agr (volL c.f2) (volH c.f2) c.f3 tol, 0)) else (0, cC c)
theorem Agrees_f {c : S40} (hc : Small c) (tol : Int) {k : Nat} (hk : 200 ≤ k) : capacity_Agrees.f k c.f0 c.f1 c.f2 c.f3 tol = some (agS c tol) := by
  obtain ⟨k, rfl⟩ : ∃ m, k = m + 1 := ⟨k - 1, by omega⟩
  unfold capacity_Agrees.f agS
  by_cases h : cC c = 0
  · rw [Vol_ok hc h (by omega), Option.bind_some, if_pos h]
    dsimp only
    rw [if_pos rfl]
    by_cases h1 : tol < 0
    · rw [if_pos h1, if_pos (.inl h1)]
      simp only [capacity_Agrees.j0]
      rw [if_pos trivial]
    · rw [if_neg h1]
      by_cases h2 : tol > 1000
      · rw [if_pos (.inr h2), decide_eq_true h2]
        simp only [capacity_Agrees.j0]
        rw [if_pos trivial]
      · rw [if_neg (by omega), decide_eq_false h2]
        simp only [capacity_Agrees.j0]
        unfold capacity_Agrees_1.f agr
        rw [if_neg (by simp), Option.bind_some, Option.bind_some]
        by_cases h3 : sSide (volL c.f2) c.f3 tol = sSide (volH c.f2) c.f3 tol
        · rw [if_pos h3, if_pos h3]
          by_cases h4 : sSide (volL c.f2) c.f3 tol = 0
          · rw [if_pos h4, if_pos h4]
          · rw [if_neg h4, if_neg h4]
        · rw [if_neg h3, if_neg h3]
  · rw [Vol_bad hc h (by omega), Option.bind_some, if_neg h]
    dsimp only
    rw [if_neg h]

theorem agr_grow {lo hi d t u : Int} (h0 : 0 ≤ lo) (h1 : lo ≤ hi) (h2 : hi ≤ 5000000000) (d0 : 0 ≤ d) (d1 : d ≤ 1073741824) (t0 : 0 ≤ t) (tu : t ≤ u) (u1 : u ≤ 1000) : (agr lo hi d t = 1 → agr lo hi d u = 1) ∧ (agr lo hi d t ≠ 1 → agr lo hi d t ≠ 2 → agr lo hi d u ≠ 2) := by
  have q1 : t * d ≤ u * d := Int.mul_le_mul_of_nonneg_right tu d0
  have q0 : 0 ≤ t * d := Int.mul_nonneg t0 d0
  unfold agr
  rw [sSide_eq h0 (by omega) d0 d1 t0 (by omega), sSide_eq (by omega) h2 d0 d1 t0 (by omega), sSide_eq h0 (by omega) d0 d1 (by omega) u1, sSide_eq (by omega) h2 d0 d1 (by omega) u1]
  generalize t * d = q at *
  generalize u * d = r at *
  by_cases a1 : 1000 * lo - 1000 * d > q <;> by_cases a2 : 1000 * d - 1000 * lo > q <;> by_cases a3 : 1000 * hi - 1000 * d > q <;> by_cases a4 : 1000 * d - 1000 * hi > q <;>
    by_cases b1 : 1000 * lo - 1000 * d > r <;> by_cases b2 : 1000 * d - 1000 * lo > r <;> by_cases b3 : 1000 * hi - 1000 * d > r <;> by_cases b4 : 1000 * d - 1000 * hi > r <;> first
    | (exfalso; omega)
    | (simp only [a1, a2, a3, a4, b1, b2, b3, b4, ↓reduceIte] <;> decide)
theorem agr_self {lo hi t : Int} (h0 : 0 ≤ hi) (h1 : hi ≤ 1073741824) (t0 : 0 ≤ t) (t1 : t ≤ 1000) : agr lo hi hi t ≠ 2 := by
  have q0 : 0 ≤ t * hi := Int.mul_nonneg t0 h0
  unfold agr
  rw [sSide_eq h0 (by omega) h0 h1 t0 t1, if_neg (show ¬ 1000 * hi - 1000 * hi > t * hi by omega), if_neg (show ¬ 1000 * hi - 1000 * hi > t * hi by omega)]
  by_cases h : sSide lo hi t = 0
  · rw [if_pos h, if_pos h]
    decide
  · rw [if_neg h]
    decide
/-- what the walks want -/
theorem few_small (c : S40) : ∃ few, spileref09_Few.f 2000 [c] = some few ∧ (few = true → Small c ∧ spileref09_Copy.f 2000 [c] = some [c]) := by
  obtain ⟨b, eb, hb⟩ := few_loop (l := [c]) (by simp) 1 0 2000 (by simp) (by omega) (fun j hj => by omega)
  refine ⟨b, eb, fun e => ?_⟩
  obtain ⟨_, hsm⟩ := hb e
  have hc : Small c := by have := hsm 0 (by simp); simpa using this
  exact ⟨hc, copy_loop (by simp) (fun z hz => by rw [List.mem_singleton.1 hz]; exact hc) 1 0 _ (by simp) (by omega)⟩
theorem agS_err (c : S40) (tol : Int) (h : (agS c tol).2 ≠ 0) : (agS c tol).1 = 0 := by
  revert h
  unfold agS
  split
  · split
    · intro _; rfl
    · intro h; exact absurd rfl h
  · intro _; rfl
theorem agS_ok {c : S40} {tol : Int} (h : (agS c tol).2 = 0) : cC c = 0 ∧ 0 ≤ tol ∧ tol ≤ 1000 ∧ (agS c tol).1 = agr (volL c.f2) (volH c.f2) c.f3 tol := by
  revert h
  unfold agS
  split
  · rename_i h1
    split
    · intro h; cases h
    · rename_i h2
      intro _
      exact ⟨h1, by omega, by omega, rfl⟩
  · rename_i h1
    intro h
    exact absurd h h1
/-- the law's call -/
theorem tolerates (n : ByteArray) (p d : Int) (A : Option Addr) (c : Nat) (l : List S30) (tol more : Int) (w : World) (hr : Kd.C k30 w A l.length l) (hc : l.length ≤ c) : Calls Try.prog 6 #[.agg #[.string n, .int .i64 p, .slice A l.length c, .int .i64 d], .int .i64 tol, .int .i64 more] w fun e w' => e = .returned (.bool true) ∧ Below w.heap.size w w' := by
  obtain ⟨few, ef, hf⟩ := few_small ⟨n, p, l, d⟩
  cases few with
  | false => exact tol_few 2000 n p d A c l tol more w hr hc false awakeT ef
  | true =>
    obtain ⟨hs, ec⟩ := hf rfl
    by_cases ho : more < 0 ∨ more > 1000 ∨ tol > 1000
    · exact tol_out 2000 n p d A c l tol more w hr hc true awakeT ef ho
    · have q1 : 0 ≤ more := by omega
      have q2 : more ≤ 1000 := by omega
      have q3 : tol ≤ 1000 := by omega
      have ea := Agrees_f hs tol (k := 2000) (by omega)
      by_cases he : (agS ⟨n, p, l, d⟩ tol).2 = 0
      · obtain ⟨h0, t0, t1, hag⟩ := agS_ok he
        obtain ⟨v0, v1, v2⟩ := vol_range h0
        obtain ⟨d0, d1⟩ := cC_decl h0
        have hw : wrap64 (tol + more) = tol + more := Ln.wid (by omega) (by omega)
        have ea2 := Agrees_f hs (tol + more) (k := 2000) (by omega)
        rw [← hw] at ea2
        have ev := Vol_ok hs h0 (k := 2000) (by omega)
        have hs' : Small ⟨n, p, l, volH l⟩ := ⟨hs.1, hs.2⟩
        have ea4 := Agrees_f hs' tol (k := 2000) (by omega)
        have hx : (agS ⟨n, p, l, volH l⟩ tol).1 ≠ 2 := by
          by_cases h4 : (agS ⟨n, p, l, volH l⟩ tol).2 = 0
          · obtain ⟨k0, _, _, kag⟩ := agS_ok h4
            obtain ⟨e0, e1⟩ := cC_decl k0
            rw [kag]
            exact agr_self e0 e1 t0 t1
          · rw [agS_err _ _ h4]
            decide
        have ea' : capacity_Agrees.f 2000 n p l d tol = some ((agS ⟨n, p, l, d⟩ tol).1, 0) := by rw [ea, ← he]
        by_cases hf2 : (agS ⟨n, p, l, d⟩ (wrap64 (tol + more))).2 = 0
        · obtain ⟨_, u0, u1, uag⟩ := agS_ok hf2
          obtain ⟨g1, g2⟩ := agr_grow (u := wrap64 (tol + more)) v0 v1 v2 d0 d1 t0 (by omega) u1
          rw [← hag, ← uag] at g1 g2
          have ea2' : capacity_Agrees.f 2000 n p l d (wrap64 (tol + more)) = some ((agS ⟨n, p, l, d⟩ (wrap64 (tol + more))).1, 0) := by rw [ea2, ← hf2]
          by_cases a1 : (agS ⟨n, p, l, d⟩ tol).1 = 1
          · have b1 := g1 a1
            rw [a1] at ea'
            rw [b1] at ea2'
            exact tol_a1 2000 n p d A c l tol more w hr hc true awakeT ef q1 q2 q3 ec 0 0 0 _ _ _ _ ea' ea2' ev ea4 hx
          · by_cases a2 : (agS ⟨n, p, l, d⟩ tol).1 = 2
            · rw [a2] at ea'
              exact tol_a2 2000 n p d A c l tol more w hr hc true awakeT ef q1 q2 q3 ec 0 _ 0 _ _ _ _ ea' ea2' ev ea4 hx
            · exact tol_a3 2000 n p d A c l tol more w hr hc true awakeT ef q1 q2 q3 ec _ _ 0 _ _ _ _ ea' ea2' ev ea4 hx a1 a2 (g2 a1 a2)
        · exact tol_f 2000 n p d A c l tol more w hr hc true awakeT ef q1 q2 q3 ec _ _ _ _ _ _ _ ea' (by rw [ea2]) ev ea4 hx hf2
      · exact tol_err 2000 n p d A c l tol more w hr hc true awakeT ef q1 q2 q3 ec 0 _ (by rw [ea, ← agS_err _ _ he]) he
end Go.Proofs.Ytcbmmhedefigeaa.Pure
