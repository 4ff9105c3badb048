import Derived.Test.YthbkbokfngbocaaRootA
import Derived.Test.YthbkbokfngbocaaStp
import Derived.Test.YthbkbokfngbocaaXx3
/-! What a circle's chord and a strip come to: for all numbers. -/
namespace Go.Proofs.Ythbkbokfngbocaa.Sq
set_option linter.unusedVariables false
set_option linter.unusedSimpArgs false
open Go.RowKit Go.Proofs.Ythbkbokfngbocaa.X Go.Proofs.YthbkbokfngbocaaW.PrintWords Go.Proofs.YthbkbokfngbocaaW.PrintLast Go.Proofs.YthbkbokfngbocaaW.PrintMore

def sCh (r c a : Int) : Int × Int := if wrap64 (a - c) > r then (0, 0) else if wrap64 (-(wrap64 (a - c))) > r then (0, 0) else ((sChord r (wrap64 (a - c))).1, (sChord r (wrap64 (a - c))).2.1)
theorem chord_spec (r c a : Int) {k : Nat} (hk : 41 ≤ k) : segment_circle_chord.f k r c a = some (sCh r c a) := by
  unfold segment_circle_chord.f sCh
  by_cases h1 : wrap64 (a - c) > r
  · rw [if_pos h1, if_pos h1]
  · rw [if_neg h1, if_neg h1]
    by_cases h2 : wrap64 (-(wrap64 (a - c))) > r
    · rw [if_pos h2, if_pos h2]
    · rw [if_neg h2, if_neg h2, Chord_spec _ _ hk, Option.bind_some]
def sStrip (r c a b : Int) : Int × Int :=
  if a ≤ c then (if c ≤ b then (wrap64 (wrap64 (b - a) * mn (sCh r c a).1 (sCh r c b).1), wrap64 (wrap64 (b - a) * wrap64 (2 * r))) else (wrap64 (wrap64 (b - a) * mn (sCh r c a).1 (sCh r c b).1), wrap64 (wrap64 (b - a) * mx (sCh r c a).2 (sCh r c b).2)))
  else (wrap64 (wrap64 (b - a) * mn (sCh r c a).1 (sCh r c b).1), wrap64 (wrap64 (b - a) * mx (sCh r c a).2 (sCh r c b).2))
theorem strip_spec (r c a b : Int) {k : Nat} (hk : 41 ≤ k) : segment_circle_strip.f k r c a b = some (sStrip r c a b) := by
  unfold segment_circle_strip.f sStrip
  rw [chord_spec _ _ _ hk, Option.bind_some, chord_spec _ _ _ hk, Option.bind_some]
  by_cases h1 : a ≤ c
  · rw [if_pos h1, if_pos h1]
    by_cases h2 : c ≤ b
    · rw [if_pos h2, if_pos h2]
    · rw [if_neg h2, if_neg h2]
  · rw [if_neg h1, if_neg h1]
/-- whether a number is a radius, or the height of a centre -/
def isM (n : Int) : Bool := decide (0 ≤ n ∧ n ≤ 100000)
theorem measure_spec (n : Int) : segment_measure.f n = some (isM n) := by
  unfold segment_measure.f isM
  by_cases h : n ≥ 0
  · rw [if_pos h]; simp [show 0 ≤ n from h]
  · rw [if_neg h]; simp; omega
end Go.Proofs.Ythbkbokfngbocaa.Sq
