/- ProfileChecks: for every profile (of any number of points; those with more than 33 are let by) Check, Length and Bung answer as the reference does; no condition. -/
import Derived.Test.YtdomdddponkmhaaRfp
import Derived.Test.YtdomdddponkmhaaXx11
namespace Go.Proofs.Ytdomdddponkmhaa.Pure
set_option linter.unusedVariables false
open Go.RowKit Go.Proofs.Ytdomdddponkmhaa.X Go.Proofs.Ytdomdddponkmhaa.Prf

def ProfileChecks : Prop := ∀ (l : List S30), ∃ k, spilelaw08_ProfileChecks.f k l = some true
theorem awake1 : spilelaw08_awake.f 200 = some true := by decide +kernel
theorem profileChecks : ProfileChecks := by
  intro l
  refine ⟨200, ?_⟩
  unfold spilelaw08_ProfileChecks.f
  rw [awake1, Option.bind_some, if_pos rfl, few_f, Option.bind_some]
  by_cases h : (l.length : Int) ≤ 33
  · rw [if_pos (decide_eq_true h), clone_f l (by omega), Option.bind_some]
    by_cases c : sCheck l = 0
    · have ho := sCheck_ok c
      obtain ⟨b, hb, eb⟩ := Bung_ok ho (k := 200) (by decide)
      obtain ⟨b', hb', eb'⟩ := refBung_ok ho (k := 200) (by decide)
      obtain rfl := bung_one hb hb'
      rw [Length_ok ho, Option.bind_some, refLength_ok ho (by decide), Option.bind_some, Option.bind_some, eb, Option.bind_some, eb', Option.bind_some]
      rw [if_pos rfl, if_pos rfl, if_pos rfl, if_pos rfl, Option.bind_some, check_f, Option.bind_some, refCheck_f l (by decide), Option.bind_some, beq_self_eq_true]
    · rw [Length_bad c, Option.bind_some, refLength_bad c (by decide), Option.bind_some, Option.bind_some, Bung_bad c, Option.bind_some, refBung_bad c (by decide), Option.bind_some]
      rw [if_pos rfl, if_pos rfl, if_pos rfl, if_pos rfl, Option.bind_some, check_f, Option.bind_some, refCheck_f l (by decide), Option.bind_some, beq_self_eq_true]
  · rw [if_neg (by simpa using h)]
end Go.Proofs.Ytdomdddponkmhaa.Pure
