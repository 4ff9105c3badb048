import Derived.Test.YtccocolcgdiglaaRgb
/-! What Best comes to, in plain numbers; the reference's is the same. -/
namespace Go.Proofs.Ytccocolcgdiglaa.Rel
set_option linter.unusedVariables false
set_option linter.unusedSimpArgs false
open Go.RowKit Go.Proofs.Ytccocolcgdiglaa.X Go.Proofs.Ytccocolcgdiglaa.It Go.Proofs.YtccocolcgdiglaaW.PrintWords Go.Proofs.YtccocolcgdiglaaW.PrintLast Go.Proofs.YtccocolcgdiglaaW.PrintMore

theorem wrap01 : wrap64 (0 + 1) = 1 := by unfold wrap64; omega
theorem wrap12 : wrap64 (1 + 1) = 2 := by unfold wrap64; omega
theorem concat_l1 {a b : List S25} (ha : a.length ≤ 1000) (hb : b.length ≤ 1000) {k : Nat} (hk : 3 ≤ k) : api_Item_29.l1 k ([] : List S25) [a, b] 2 0 = some (a ++ b) := by
  obtain ⟨k, rfl⟩ : ∃ m, k = m + 3 := ⟨k - 3, by omega⟩
  simp only [api_Item_29.l1]
  have e0 : rd_L2 [a, b] 0 = a := rfl
  have e1 : rd_L2 [a, b] 1 = b := rfl
  have hl : (([a, b] : List (List S25)).length : Int) = 2 := rfl
  rw [hl, e0, if_pos (by omega), if_pos (by omega), if_pos (by omega), if_pos (by simp; omega), wrap01, if_pos (by omega), if_pos (by omega), if_pos (by omega), e1, if_pos (by simp; omega), wrap12, if_neg (by omega)]
  simp
theorem concat_f {a b : List S25} (ha : a.length ≤ 1000) (hb : b.length ≤ 1000) {k : Nat} (hk : 10 ≤ k) : api_Item_29.f k [a, b] = some (a ++ b) := by
  obtain ⟨k, rfl⟩ : ∃ m, k = m + 3 := ⟨k - 3, by omega⟩
  unfold api_Item_29.f
  simp only [api_Item_29.l0]
  have e0 : rd_L2 [a, b] 0 = a := rfl
  have e1 : rd_L2 [a, b] 1 = b := rfl
  have hl : (([a, b] : List (List S25)).length : Int) = 2 := rfl
  have w0 : wrap64 (0 + (a.length : Int)) = (a.length : Int) := by rw [wid (by omega) (by omega)]; omega
  have w1 : wrap64 ((a.length : Int) + (b.length : Int)) = (a.length : Int) + (b.length : Int) := wid (by omega) (by omega)
  rw [hl, e0, w0, if_pos (by omega), if_pos (by omega), if_pos (by omega), if_neg (by omega), wrap01, e1, w1, if_pos (by omega), if_pos (by omega), if_pos (by omega), if_neg (by omega), wrap12, if_neg (by omega)]
  unfold api_Item_40.f
  rw [if_pos (by refine ⟨rfl, ?_, ?_⟩ <;> omega), Option.bind_some]
  exact concat_l1 ha hb (by omega)

def bestS (l : List S33) (xs : List S25) (x : S25) : Int × Int × Int :=
  if (grantS l xs).2.2 = 0 then (if (itmS (xs ++ [x])).2 = 0 then ((bestOf l xs (grantS l xs).1 x).1, (bestOf l xs (grantS l xs).1 x).2, 0) else (0, 0, 1)) else (0, 0, (grantS l xs).2.2)
theorem Best_f {l : List S33} (hs : small l) (xs : List S25) (hx : xs.length ≤ 65) (x : S25) {k : Nat} (hk : 1000 ≤ k) : relief_Best.f k l xs x.f0 x.f1 x.f2 x.f3 x.f4 = some (bestS l xs x) := by
  unfold relief_Best.f bestS
  rw [grant_f hs xs hk, Option.bind_some]
  dsimp only
  by_cases h : (grantS l xs).2.2 = 0
  · rw [if_pos h, if_pos h]
    obtain ⟨h1, h2, h3, h4⟩ := grantS_ok h
    obtain ⟨g1, g2, _⟩ := chkS_zero h1
    rw [concat_f (by omega) (by simp) (by omega), Option.bind_some, items_f _ (by omega), Option.bind_some]
    by_cases h5 : (itmS (xs ++ [x])).2 = 0
    · rw [if_pos h5, if_pos h5, if_pos]
      refine ⟨by omega, List.all_eq_true.2 fun r hr => ?_⟩
      obtain ⟨i, hi, rfl⟩ := List.mem_iff_getElem.1 hr
      have hok := okR_spec (g2 i hi)
      have e : R l i = l[i] := by unfold R; rw [List.getD_eq_getElem?_getD, List.getElem?_eq_getElem hi]; rfl
      rw [e] at hok
      unfold okid
      rw [decide_eq_true (show 0 ≤ l[i].f0 by omega), decide_eq_true hok.1.2]; rfl
    · rw [if_neg h5, if_neg h5]
  · rw [if_neg h, if_neg h]
end Go.Proofs.Ytccocolcgdiglaa.Rel
