/- ProfilePlaces: for every profile and place (profiles with more than 33 points are let by) At and Insert answer as the reference does; no condition. -/
import Derived.Test.YtdomdddponkmhaaRfp
import Derived.Test.YtdomdddponkmhaaXx14
namespace Go.Proofs.Ytdomdddponkmhaa.Pure
set_option linter.unusedVariables false
open Go.RowKit Go.Proofs.Ytdomdddponkmhaa.X Go.Proofs.Ytdomdddponkmhaa.Prf

def ProfilePlaces : Prop := ∀ (l : List S30) (x : Int), (Lit.int .i64 x).wf = true → ∃ k, spilelaw08_ProfilePlaces.f k l x = some true
theorem awake2 : spilelaw08_awake.f 300 = some true := by decide +kernel
theorem insRes_len (l : List S30) (x : Int) (i : Nat) (hi : i < l.length) (h : l.length ≤ 33) : (insRes l x i).1.length ≤ 40 := by
  unfold insRes
  split
  · simp
  · split
    · split
      · simp
      · rw [sIns_len l _ (by omega)]; omega
    · simp
theorem profilePlaces : ProfilePlaces := by
  intro l x _
  refine ⟨300, ?_⟩
  unfold spilelaw08_ProfilePlaces.f
  rw [awake2, Option.bind_some, if_pos rfl, few_f, Option.bind_some]
  by_cases h : (l.length : Int) ≤ 33
  · rw [if_pos (decide_eq_true h), clone_f l (by omega), Option.bind_some]
    by_cases c : sCheck l = 0
    · have ho := sCheck_ok c
      by_cases hx : x < 0 ∨ last l < x
      · rw [At_out ho hx, Option.bind_some, refAt_out ho hx (by decide), Option.bind_some, Option.bind_some, Insert_out ho hx, Option.bind_some, refInsert_out ho hx (by decide), Option.bind_some, if_pos (by decide), if_pos rfl, same_f [] (by decide) (by decide), Option.bind_some, if_pos rfl]
        rfl
      · obtain ⟨i, hi⟩ := ho.first (x := x) (by omega)
        rw [At_ok ho (by omega) (by omega), Option.bind_some, refAt_ok ho (by omega) (by omega) (by decide), Option.bind_some, Option.bind_some, Insert_ok ho (by omega) (by omega) hi (by decide), Option.bind_some,
          refInsert_ok ho (by omega) (by omega) hi (by decide), Option.bind_some, if_pos (by simp), if_pos rfl, same_f _ (insRes_len l x i hi.1 (by omega)) (by decide), Option.bind_some, if_pos rfl, beq_self_eq_true]
    · rw [At_bad c, Option.bind_some, refAt_bad c x (by decide), Option.bind_some, Option.bind_some, Insert_bad c, Option.bind_some, refInsert_bad c x (by decide), Option.bind_some, if_pos (by decide), if_pos rfl, same_f [] (by decide) (by decide), Option.bind_some, if_pos rfl]
      rfl
  · rw [if_neg (by simpa using h)]
end Go.Proofs.Ytdomdddponkmhaa.Pure
