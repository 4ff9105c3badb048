/- ProfileInner: for every profile, two thicknesses and place (profiles with more than 33 points are let by) the inner radius is nowhere greater than the outer one less the staves, and the length is less by both heads; no condition. -/
import Derived.Test.YtdomdddponkmhaaReq
import Derived.Test.YtdomdddponkmhaaXx16
namespace Go.Proofs.Ytdomdddponkmhaa.Pure
set_option linter.unusedVariables false
open Go.RowKit Go.Proofs.Ytdomdddponkmhaa.X Go.Proofs.Ytdomdddponkmhaa.Prf

def ProfileInner : Prop := ∀ (l : List S30) (t h x : Int), (Lit.int .i64 t).wf = true → (Lit.int .i64 h).wf = true → (Lit.int .i64 x).wf = true → ∃ k, spilelaw08_ProfileInner.f k l t h x = some true
theorem awake5 : spilelaw08_awake.f 200 = some true := by decide +kernel
theorem profileInner : ProfileInner := by
  intro l t h x _ _ _
  refine ⟨200, ?_⟩
  unfold spilelaw08_ProfileInner.f
  rw [awake5, Option.bind_some, if_pos rfl, few_f, Option.bind_some]
  by_cases hl : (l.length : Int) ≤ 33
  · rw [if_pos (decide_eq_true hl), clone_f l (by omega), Option.bind_some]
    obtain ⟨r, er, h1, h2⟩ := Inside_f l t h (k := 200) (by decide)
    rw [er, Option.bind_some]
    by_cases c : r.2 = 0
    · obtain ⟨ho, t0, t1, g0, g1, e1, hq⟩ := h2 c
      have l2 := ho.len2; have l32 := ho.len32
      have hb1 : last l ≤ 100000 := ho.x1 _ (by omega)
      have q2 := hq.len2; have q32 := hq.len32
      have hlast : last r.1 = last l - 2 * h := by rw [e1, last_in]; omega
      rw [if_pos c, Option.bind_some, Length_ok ho, Option.bind_some, clone_f r.1 (by omega), Option.bind_some, Length_ok hq, Option.bind_some, if_pos rfl, if_pos rfl]
      simp only [spilelaw08_ProfileInner.j0]
      rw [Ln.wid (x := 2 * h) (by omega) (by omega), Ln.wid (x := last l - 2 * h) (by omega) (by omega), hlast, if_neg (by simp), clone_f r.1 (by omega), Option.bind_some]
      by_cases hx : x < 0 ∨ last r.1 < x
      · rw [At_out hq hx, Option.bind_some, if_neg (by decide), if_pos rfl]
        by_cases c1 : x < 0
        · rw [if_pos c1]
        · rw [if_neg c1, decide_eq_true (by omega)]
      · rw [At_ok hq (by omega) (by omega), Option.bind_some, if_pos rfl, clone_f l (by omega), Option.bind_some, Ln.wid (x := x + h) (by omega) (by omega), At_ok ho (by omega) (by omega), Option.bind_some, if_pos rfl]
        rw [e1] at hq
        have key := ho.inner (t := t) g0 g1 (by omega) hq (x := x) (by omega) (by omega)
        obtain ⟨j, hj, _⟩ := ho.stave (x := x + h) (by omega) (by show x + h ≤ last l; omega)
        have a1 := ho.ge_on hj (m := 0) (by have := ho.r0 j (by have := hj.1; omega); omega) (by have := ho.r0 (j + 1) hj.1; omega)
        have a2 := ho.le_on hj (ho.r1 j (by have := hj.1; omega)) (ho.r1 (j + 1) hj.1)
        have a3 := ho.lo_hi (x := x + h) (by omega) (by show x + h ≤ last l; omega)
        simp only []
        rw [Ln.wid (x := (sAt l (x + h)).1 - t) (by omega) (by omega), Ln.wid (x := (sAt l (x + h)).2 - t) (by omega) (by omega), e1, if_pos key.1, decide_eq_true key.2]
    · rw [if_neg c, h1 c]
      rfl
  · rw [if_neg (by simpa using hl)]
end Go.Proofs.Ytdomdddponkmhaa.Pure
