/- ProfileBulges: for every profile and two places (profiles with more than 33 points are let by) the radius gets no smaller up to the bung and no greater behind it, and lies between the bung's and the lesser head's; no condition. -/
import Derived.Test.YtdomdddponkmhaaReq
import Derived.Test.YtdomdddponkmhaaXx15
namespace Go.Proofs.Ytdomdddponkmhaa.Pure
set_option linter.unusedVariables false
open Go.RowKit Go.Proofs.Ytdomdddponkmhaa.X Go.Proofs.Ytdomdddponkmhaa.Prf Go.Proofs.YtdomdddponkmhaaW.PrintWords Go.Proofs.YtdomdddponkmhaaW.PrintLast Go.Proofs.YtdomdddponkmhaaW.PrintMore

def ProfileBulges : Prop := ∀ (l : List S30) (x y : Int), (Lit.int .i64 x).wf = true → (Lit.int .i64 y).wf = true → ∃ k, spilelaw08_ProfileBulges.f k l x y = some true
theorem awake3 : spilelaw08_awake.f 200 = some true := by decide +kernel
/-- At, with what it says of errors -/
theorem At_cases {l : List S30} (h : Ok l) (x : Int) : (∃ a : Int × Int, 0 ≤ x ∧ x ≤ last l ∧ sAt l x = a ∧ profile_At.f l x = some (a.1, a.2, 0)) ∨ profile_At.f l x = some (0, 0, 2) := by
  by_cases hx : x < 0 ∨ last l < x
  · exact .inr (At_out h hx)
  · exact .inl ⟨_, by omega, by omega, rfl, At_ok h (by omega) (by omega)⟩
theorem mnx (x y : Int) : mn x y = min x y := by unfold mn; split <;> omega
theorem mxx (x y : Int) : mx x y = max x y := by unfold mx; split <;> omega
theorem profileBulges : ProfileBulges := by
  intro l x y _ _
  refine ⟨200, ?_⟩
  unfold spilelaw08_ProfileBulges.f
  rw [awake3, Option.bind_some, if_pos rfl, few_f, Option.bind_some]
  by_cases h : (l.length : Int) ≤ 33
  · rw [if_pos (decide_eq_true h), clone_f l (by omega), Option.bind_some]
    by_cases c : sCheck l = 0
    · have ho := sCheck_ok c
      have l2 := ho.len2; have l32 := ho.len32
      obtain ⟨b, hb, eb⟩ := Bung_ok ho (k := 200) (by decide)
      have hbl := hb.lt
      rw [eb, Option.bind_some, if_pos rfl, Option.bind_some]
      rcases At_cases ho (mn x y) with ⟨a, a0, a1, ae, ea⟩ | ea
      · rw [ea, Option.bind_some, Option.bind_some]
        rcases At_cases ho (mx x y) with ⟨d, d0, d1, de, ed⟩ | ed
        · rw [ed, Option.bind_some, if_pos rfl]
          simp only [spilelaw08_ProfileBulges.j0]
          have lh := ho.lo_hi a0 a1
          rw [ae] at lh
          obtain ⟨i, hi, _⟩ := ho.stave a0 a1
          have up := ho.le_on hi (hb.most i (by have := hi.1; omega)) (hb.most (i + 1) hi.1)
          have dn := ho.ge_on hi (ho.heads hb (by have := hi.1; omega)) (ho.heads hb hi.1)
          rw [ae] at up dn
          have up0 := ho.r1 b hbl
          have dn0 := ho.r0 0 (by omega)
          have dn1 := ho.r0 (l.length - 1) (by omega)
          rw [if_neg (by decide), if_neg (by omega), if_neg (by omega), if_neg (by omega), Ln.wid (by omega) (by omega), if_neg (by omega), if_pos (by omega), if_pos (by omega), rdR, if_neg (by omega), if_pos (by omega), wpred (by omega) (by omega), if_pos (by omega), if_pos (by omega)]
          have e0 : (rd_T30 l 0).f1 = R l 0 := rfl
          rw [e0, rdR, mnx (R l 0), decide_eq_false (by omega)]
          simp only [spilelaw08_ProfileBulges.j1]
          rw [if_neg (by decide), if_pos (by omega), if_pos (by omega), rdX]
          by_cases g : mx x y ≤ X l b
          · have m := ho.mono_up hb a0 (show mn x y ≤ mx x y by rw [mnx, mxx]; omega) g
            rw [ae, de] at m
            rw [if_pos g, if_pos m.1, decide_eq_true m.2]
          · rw [if_neg g]
            by_cases g2 : mn x y < X l b
            · rw [if_pos g2]
            · have m := ho.mono_down hb (show X l b ≤ mn x y by omega) (show mn x y ≤ mx x y by rw [mnx, mxx]; omega) d1
              rw [ae, de] at m
              rw [if_neg g2, if_pos m.1, decide_eq_true m.2]
        · rw [ed, Option.bind_some, if_pos rfl]
          simp only [spilelaw08_ProfileBulges.j0]
          rw [if_pos (by decide), if_pos trivial, if_neg (by decide)]
          rfl
      · rw [ea, Option.bind_some, Option.bind_some]
        rcases At_cases ho (mx x y) with ⟨d, d0, d1, de, ed⟩ | ed
        · rw [ed, Option.bind_some, if_neg (by decide)]
          simp only [spilelaw08_ProfileBulges.j0]
          rw [if_pos trivial, if_neg (by decide), if_pos (by decide), if_pos trivial]
        · rw [ed, Option.bind_some, if_neg (by decide)]
          simp only [spilelaw08_ProfileBulges.j0]
          rw [if_pos trivial, if_neg (by decide), if_pos (by decide), if_neg (by decide)]
          rfl
    · rw [Bung_bad c, Option.bind_some, if_neg c]
      rfl
  · rw [if_neg (by simpa using h)]
end Go.Proofs.Ytdomdddponkmhaa.Pure
