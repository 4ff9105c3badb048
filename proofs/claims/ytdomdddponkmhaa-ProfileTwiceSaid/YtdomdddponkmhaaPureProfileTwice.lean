/- ProfileTwice: for every profile and place (profiles with more than 33 points are let by) turning twice changes nothing, and the radius at x is the turned profile's at the length less x; no condition. -/
import Derived.Test.YtdomdddponkmhaaReq
import Derived.Test.YtdomdddponkmhaaXx16
namespace Go.Proofs.Ytdomdddponkmhaa.Pure
set_option linter.unusedVariables false
open Go.RowKit Go.Proofs.Ytdomdddponkmhaa.X Go.Proofs.Ytdomdddponkmhaa.Prf

def ProfileTwice : Prop := ∀ (l : List S30) (x : Int), (Lit.int .i64 x).wf = true → ∃ k, spilelaw08_ProfileTwice.f k l x = some true
theorem awake4 : spilelaw08_awake.f 200 = some true := by decide +kernel
theorem profileTwice : ProfileTwice := by
  intro l x _
  refine ⟨200, ?_⟩
  unfold spilelaw08_ProfileTwice.f
  rw [awake4, Option.bind_some, if_pos rfl, few_f, Option.bind_some]
  by_cases h : (l.length : Int) ≤ 33
  · rw [if_pos (decide_eq_true h), clone_f l (by omega), Option.bind_some]
    by_cases c : sCheck l = 0
    · have ho := sCheck_ok c
      have l2 := ho.len2; have l32 := ho.len32
      have hb0 : 0 ≤ last l := ho.x0 _ (by omega)
      have hb1 : last l ≤ 100000 := ho.x1 _ (by omega)
      have ht := ho.turn
      rw [Turn_ok ho (by decide), Option.bind_some, if_pos rfl, clone_f (sTurn l) (by rw [sTurn_len]; omega), Option.bind_some, Turn_ok ht (by decide), turn_turn ho, Option.bind_some, Option.bind_some, Length_ok ht, last_turn l ho, Option.bind_some,
        if_pos rfl, if_pos rfl, same_f l (by omega) (by decide), Option.bind_some, if_pos rfl]
      by_cases c1 : x < 0
      · rw [if_pos c1]
        simp only [spilelaw08_ProfileTwice.j0]
        rw [if_pos trivial, if_pos trivial, if_pos trivial, same_f l (by omega) (by decide), Option.bind_some]
      · rw [if_neg c1]
        simp only [spilelaw08_ProfileTwice.j0]
        by_cases c2 : x > last l
        · rw [if_pos (decide_eq_true c2), if_pos trivial, if_pos trivial, same_f l (by omega) (by decide), Option.bind_some]
        · rw [if_neg (by simpa using c2), clone_f l (by omega), Option.bind_some, At_ok ho (by omega) (by omega), Option.bind_some, clone_f (sTurn l) (by rw [sTurn_len]; omega), Option.bind_some, Ln.wid (x := last l - x) (by omega) (by omega),
            At_ok ht (by omega) (by rw [last_turn l ho]; omega), Option.bind_some, if_pos rfl, if_pos rfl, ho.turn_at (by omega) (by omega)]
          simp
    · rw [Turn_bad c, Option.bind_some, if_neg c]
      rfl
  · rw [if_neg (by simpa using h)]
end Go.Proofs.Ytdomdddponkmhaa.Pure
