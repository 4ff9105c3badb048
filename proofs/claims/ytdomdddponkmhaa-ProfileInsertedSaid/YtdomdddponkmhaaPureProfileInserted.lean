/- ProfileInserted: for every profile and two places (profiles with more than 33 points are let by) a point that is inserted lies on the profile and changes no radius, neither the length nor the bung's radius; no condition. -/
import Derived.Test.YtdomdddponkmhaaReq
import Derived.Test.YtdomdddponkmhaaHas8
import Derived.Test.YtdomdddponkmhaaInx
namespace Go.Proofs.Ytdomdddponkmhaa.Pure
set_option linter.unusedVariables false
open Go.RowKit Go.Proofs.Ytdomdddponkmhaa.X Go.Proofs.Ytdomdddponkmhaa.Prf

def ProfileInserted : Prop := ∀ (l : List S30) (x y : Int), (Lit.int .i64 x).wf = true → (Lit.int .i64 y).wf = true → ∃ k, spilelaw08_ProfileInserted.f k l x y = some true
theorem awake6 : spilelaw08_awake.f 200 = some true := by decide +kernel
theorem insRes_bad (l : List S30) (x : Int) (i : Nat) (h : (insRes l x i).2 ≠ 0) : (insRes l x i).1 = [] := by
  unfold insRes at h ⊢
  split
  · rfl
  · rename_i h1
    rw [if_neg h1] at h
    split
    · rename_i h2
      rw [if_pos h2] at h
      split
      · rfl
      · rename_i h3
        rw [if_neg h3] at h
        exact absurd rfl h
    · rfl
theorem insRes_good {l : List S30} (ho : Ok l) {x : Int} {i : Nat} (h : (insRes l x i).2 = 0) : X l i ≠ x ∧ (sAt l x).1 = (sAt l x).2 ∧ l.length < 32 ∧ (insRes l x i).1 = sIns l i ⟨x, (sAt l x).1⟩ := by
  unfold insRes at h ⊢
  have := ho.len32
  by_cases h1 : X l i = x
  · rw [if_pos h1] at h; cases h
  · rw [if_neg h1] at h ⊢
    by_cases h2 : (sAt l x).1 = (sAt l x).2
    · rw [if_pos h2] at h ⊢
      by_cases h3 : l.length = 32
      · rw [if_pos h3] at h; cases h
      · rw [if_neg h3]
        exact ⟨h1, h2, by omega, rfl⟩
    · rw [if_neg h2] at h; cases h
theorem At_both {l m : List S30} (hl : Ok l) (hm : Ok m) (e : last m = last l) (y : Int) (h : 0 ≤ y → y ≤ last l → sAt m y = sAt l y) : ∃ a : Int × Int × Int, profile_At.f l y = some a ∧ profile_At.f m y = some a := by
  by_cases hx : y < 0 ∨ last l < y
  · exact ⟨_, At_out hl hx, At_out hm (by rw [e]; exact hx)⟩
  · refine ⟨_, At_ok hl (by omega) (by omega), ?_⟩
    rw [At_ok hm (by omega) (by omega), h (by omega) (by omega)]
theorem profileInserted : ProfileInserted := by
  intro l x y _ _
  refine ⟨200, ?_⟩
  unfold spilelaw08_ProfileInserted.f
  rw [awake6, Option.bind_some, if_pos rfl, few_f, Option.bind_some]
  by_cases h : (l.length : Int) ≤ 33
  · rw [if_pos (decide_eq_true h), clone_f l (by omega), Option.bind_some]
    by_cases c : sCheck l = 0
    · have ho := sCheck_ok c
      have l2 := ho.len2; have l32 := ho.len32
      by_cases hx : x < 0 ∨ last l < x
      · rw [Insert_out ho hx, Option.bind_some, if_neg (by decide)]; rfl
      · obtain ⟨i, hi⟩ := ho.first (x := x) (by omega)
        rw [Insert_ok ho (by omega) (by omega) hi (by decide), Option.bind_some]
        by_cases c2 : (insRes l x i).2 = 0
        · obtain ⟨g1, g2, g3, g4⟩ := insRes_good ho c2
          have hL := hi.lies ho (by omega) g1 g2
          have hm := ho.ins hL g3
          have hlen := sIns_len l (i := i) ⟨x, (sAt l x).1⟩ (by have := hi.1; omega)
          rw [if_pos c2, g4]
          generalize hz : sIns l i ⟨x, (sAt l x).1⟩ = m at hm hlen
          have e := last_ins ho hL
          rw [hz] at e
          obtain ⟨a, ea, eb⟩ := At_both ho hm e y (fun q0 q1 => by rw [← hz]; exact ho.ins_at hL g3 q0 q1)
          obtain ⟨p, hp, ep⟩ := Bung_ok ho (k := 200) (by decide)
          obtain ⟨q, hq, eq⟩ := Bung_ok hm (k := 200) (by decide)
          have hr : R l p = R m q := by
            have hq' := hq
            rw [← hz] at hq' ⊢
            exact ins_bung ho hL hp hq'
          have hpl := hp.lt
          have hql := hq.lt
          have hany : m.any (fun z => z.f0 == x) = true := by
            rw [List.any_eq_true]
            refine ⟨⟨x, (sAt l x).1⟩, ?_, by simp⟩
            rw [← hz]; unfold sIns; simp
          rw [Option.bind_some, ea, Option.bind_some, clone_f m (by omega), Option.bind_some, eb, Option.bind_some, Option.bind_some, Length_ok ho, Option.bind_some, Option.bind_some, Length_ok hm, Option.bind_some, Option.bind_some, ep, Option.bind_some, Option.bind_some, eq, Option.bind_some]
          rw [if_pos (by simp), if_pos rfl, if_pos rfl, if_pos rfl, if_pos rfl, if_pos rfl, if_pos e.symm, Ln.wid (by omega) (by omega), if_pos (by omega), if_pos (by simp only []; omega), if_pos (by simp only []; omega), if_pos (by simp only []; omega), if_pos (by simp only []; omega), if_pos (by simp only []; omega), if_pos (by simp only []; omega)]
          simp only []
          rw [rdR, rdR, if_pos hr]
          unfold api_Point_23.f
          rw [if_pos (by omega), Option.bind_some, hany]
        · rw [if_neg c2, insRes_bad l x i c2]
          rfl
    · rw [Insert_bad c, Option.bind_some, if_neg (by decide)]; rfl
  · rw [if_neg (by simpa using h)]
end Go.Proofs.Ytdomdddponkmhaa.Pure
