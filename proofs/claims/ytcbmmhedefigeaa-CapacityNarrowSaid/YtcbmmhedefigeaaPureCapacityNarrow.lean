/- CapacityNarrow: for every profile and place (profiles with more than 33 points are let by) the bounds of the space lie close together, and neither turning nor a point that is inserted changes the sum; no condition. -/
import Derived.Test.YtcbmmhedefigeaaCsm
import Derived.Test.YtcbmmhedefigeaaNar
namespace Go.Proofs.Ytcbmmhedefigeaa.Pure
set_option linter.unusedVariables false
open Go.RowKit Go.Proofs.Ytcbmmhedefigeaa.X Go.Proofs.Ytcbmmhedefigeaa.Prf

def CapacityNarrow : Prop := ∀ (l : List S30) (x : Int), (Lit.int .i64 x).wf = true → ∃ k, spilelaw10_CapacityNarrow.f k l x = some true
theorem awakeN : spilelaw10_awake.f 200 = some true := by decide +kernel
theorem insRes_bad (l : List S30) (x : Int) (i : Nat) (h : (insRes l x i).2 ≠ 0) : (insRes l x i).1 = [] := by
  unfold insRes at h ⊢
  split
  · rfl
  · rename_i h1
    rw [if_neg h1] at h
    split
    · rename_i h2
      rw [if_pos h2] at h
      split
      · rfl
      · rename_i h3
        rw [if_neg h3] at h
        exact absurd rfl h
    · rfl
theorem insRes_good {l : List S30} (ho : Ok l) {x : Int} {i : Nat} (h : (insRes l x i).2 = 0) : X l i ≠ x ∧ (sAt l x).1 = (sAt l x).2 ∧ l.length < 32 ∧ (insRes l x i).1 = sIns l i ⟨x, (sAt l x).1⟩ := by
  unfold insRes at h ⊢
  have := ho.len32
  by_cases h1 : X l i = x
  · rw [if_pos h1] at h; cases h
  · rw [if_neg h1] at h ⊢
    by_cases h2 : (sAt l x).1 = (sAt l x).2
    · rw [if_pos h2] at h ⊢
      by_cases h3 : l.length = 32
      · rw [if_pos h3] at h; cases h
      · rw [if_neg h3]
        exact ⟨h1, h2, by omega, rfl⟩
    · rw [if_neg h2] at h; cases h
theorem narrow1 {l : List S30} (ho : Ok l) (x : Int) {k : Nat} (hk : 60 ≤ k) : spilelaw10_CapacityNarrow.j1 k l x (sum l) false = some true := by
  obtain ⟨k, rfl⟩ : ∃ m, k = m + 1 := ⟨k - 1, by omega⟩
  have l2 := ho.len2; have l32 := ho.len32
  simp only [spilelaw10_CapacityNarrow.j1]
  rw [if_neg (by decide), clone_f l (by omega), Option.bind_some]
  by_cases hx : x < 0 ∨ last l < x
  · rw [Insert_out ho hx, Option.bind_some, if_neg (by decide)]
  · obtain ⟨i, hi⟩ := ho.first (x := x) (by omega)
    rw [Insert_ok ho (by omega) (by omega) hi (by omega), Option.bind_some]
    by_cases c2 : (insRes l x i).2 = 0
    · obtain ⟨g1, g2, g3, g4⟩ := insRes_good ho c2
      have hL := hi.lies ho (by omega) g1 g2
      have hm := ho.ins hL g3
      rw [if_pos c2, g4, Fru_ok hm (by omega), Option.bind_some, if_pos rfl, sum_ins ho hL, beq_self_eq_true]
    · rw [if_neg c2]
theorem capacityNarrow : CapacityNarrow := by
  intro l x _
  refine ⟨200, ?_⟩
  unfold spilelaw10_CapacityNarrow.f
  rw [awakeN, Option.bind_some, if_pos rfl, few_f, Option.bind_some]
  by_cases h : (l.length : Int) ≤ 33
  · rw [if_pos (decide_eq_true h), clone_f l (by omega), Option.bind_some]
    by_cases c : sCheck l = 0
    · have ho := sCheck_ok c
      have l2 := ho.len2; have l32 := ho.len32
      have hs := ho.sum_top
      rw [Fru_ok ho (by decide), Option.bind_some, Option.bind_some, Space_ok ho (by decide), Option.bind_some, if_pos rfl]
      simp only [spilelaw10_CapacityNarrow.j0]
      have hlh := low_high hs.1
      have hgap : (highS (sum l) - lowS (sum l) - 2) * 30000 < highS (sum l) ∨ highS (sum l) - lowS (sum l) ≤ 2 := by unfold highS lowS; omega
      have hb : 0 ≤ lowS (sum l) ∧ highS (sum l) ≤ 4000000000000000 := by unfold highS lowS; omega
      rw [if_neg (by decide), clone_f l (by omega), Option.bind_some, Turn_ok ho (by decide), Option.bind_some, Fru_ok ho.turn (by decide), Option.bind_some, if_pos rfl, if_pos rfl, sum_turn ho, if_pos rfl, if_neg (by omega),
        Ln.wid (x := highS (sum l) - lowS (sum l)) (by omega) (by omega), Ln.wid (x := highS (sum l) - lowS (sum l) - 2) (by omega) (by omega)]
      have hw : -120000000000000000000 < (highS (sum l) - lowS (sum l) - 2) * 30000 := by omega
      by_cases q : highS (sum l) - lowS (sum l) ≤ 2
      · have e : decide (highS (sum l) - lowS (sum l) > 2) = false := decide_eq_false (by omega)
        rw [e]
        split
        · exact narrow1 ho x (by decide)
        · exact narrow1 ho x (by decide)
      · have q2 : (highS (sum l) - lowS (sum l) - 2) * 30000 < highS (sum l) := hgap.resolve_right q
        rw [Ln.wid (by omega) (by omega), if_neg (by omega)]
        exact narrow1 ho x (by decide)
    · rw [Fru_bad c, Option.bind_some, Option.bind_some, Space_bad c, Option.bind_some, if_neg c]
      simp only [spilelaw10_CapacityNarrow.j0]
      rw [if_pos trivial, if_pos trivial, if_pos trivial]
      rfl
  · rw [if_neg (by simpa using h)]
end Go.Proofs.Ytcbmmhedefigeaa.Pure
