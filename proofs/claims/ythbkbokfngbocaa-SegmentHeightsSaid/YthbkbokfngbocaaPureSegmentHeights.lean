/- SegmentHeights: for all numbers and heights, Heights, Refine and Check come to what the reference's come to, errors among it; lists of more than 70 heights are let by, as the statement says; no other condition. -/
import Derived.Test.YthbkbokfngbocaaXx7
import Derived.Test.YthbkbokfngbocaaSeg
namespace Go.Proofs.Ythbkbokfngbocaa.Pure
set_option linter.unusedVariables false
open Go.RowKit Go.Proofs.Ythbkbokfngbocaa.X Go.Proofs.Ythbkbokfngbocaa.Sq

theorem awake07 : spilelaw07_awake.f 200 = some true := by decide +kernel
theorem clone_small (l : List Int) (h : l.length ≤ 70) : slices_Clone_int_int.f l = some l := by unfold slices_Clone_int_int.f; rw [if_pos (by omega)]

theorem sRefine_len (l : List Int) : (sRefine l).1.length ≤ 140 := by
  unfold sRefine
  by_cases he : sCheck l = 0
  · rw [if_pos he]
    split
    · simp
    · show (_ :: _ : List Int).length ≤ 140
      rw [flat_len, It.upto_length]; omega
  · rw [if_neg he]; simp

theorem SegmentHeights : spilelaw07_SegmentHeights.Pure := by
  intro top n l _ _ _ _ _
  refine ⟨200, ?_⟩
  unfold spilelaw07_SegmentHeights.f
  rw [awake07, Option.bind_some, if_pos rfl]
  by_cases hl : (l.length : Int) > 70
  · rw [if_pos hl]
  · rw [if_neg hl, heights_spec top n (by decide), Option.bind_some, refHeights_spec top n (by decide), Option.bind_some, clone_small l (by omega), Option.bind_some]
    have er : segment_Refine.f l = some (sRefine l) := rfl
    rw [er, Option.bind_some, refRefine_spec l (by decide), Option.bind_some]
    have e1 : (sHeights top n).1.length < 200 := by
      unfold sHeights
      split
      · simp
      · show (It.upto _ _).length < 200
        rw [It.upto_length]; omega
    have e2 := sRefine_len l
    rw [equal_self _ (by omega) e1, Option.bind_some, if_pos rfl, if_pos rfl, equal_self _ (by omega) (by omega), Option.bind_some, if_pos rfl, if_pos rfl, Option.bind_some, check_spec, Option.bind_some, refCheck_spec l (by decide), Option.bind_some]
    simp
end Go.Proofs.Ythbkbokfngbocaa.Pure
