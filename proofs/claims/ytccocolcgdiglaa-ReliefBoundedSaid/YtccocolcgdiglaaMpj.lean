import Derived.Test.YtccocolcgdiglaaMpi
import Derived.Maps.OwnIn
/-! A store into the map, for the walk in a fence; the law's loop over the items. -/
namespace Go.Proofs.Ytccocolcgdiglaa.Mpi
set_option linter.unusedVariables false
set_option linter.unusedSimpArgs false
open Go.RowKit Go.Maps Go.Proofs.Ytccocolcgdiglaa.X Go.Proofs.YtccocolcgdiglaaW.PrintWords Go.Proofs.YtccocolcgdiglaaW.PrintLast
variable {P : Program} {k e t : TypeId} {w : World} {b n : Nat} {xs : List S25} {ns : List Int}
theorem GM.storeIn {F : Fence} {nF : Nat} {ops : Array Oper} {rest : List Oper} {o : Oper} {a : Act} {Q : Exit → Act → World → Prop}
    (hg : o.guard = none) (m x v : Operand) (hop : o.op = Op.mapUpdate t m x v) (K : Keyed P k) (ht : P.underlying t = some (.map k e)) (he : P.underlying e = some (.int .i64))
    (hm : a.eval m = .map (some b)) (hown : GM P k e w b n xs ns) (hn : n < maxLen) (id g : Int) (hx : a.eval x = .int .i64 id) (hkey : keyOf P k (.int .i64 id) = some (.int .i64 id)) (hv : a.eval v = .int .i64 (wrap64 (gv xs ns id + g))) (hid : (xs.getD ns.length z25).f4 = id)
    (hK : ∀ w', GM P k e w' b (n + 1) xs (ns ++ [g]) → w.grownBy w' (some b) → wpListIn F nF P ops Q rest (a.put o.dst undef) w') : wpListIn F nF P ops Q (o :: rest) a w := by
  obtain ⟨D, h1, h2, h3⟩ := hown
  refine wpListIn_mapUpdate_own w hg m x v t hop k e K ht (plainElem P e) b n D hm h1 hn _ _ (.int .i64 id) hx hv hkey (.lit (.int .i64 (wrap64 (gv xs ns id + g)))) [] (plainElem_int he (wrap64_wf _)) fun w' r1 r2 => hK w' ⟨_, r1, h2.put _ _, fun id' => ?_⟩ r2
  rw [gv_snoc, hid]
  by_cases c : id = id'
  · subst c
    rw [if_pos rfl, atKey_put_same h2 (show WideAt.IsKeyLit (.int .i64 id) from trivial)]
  · rw [if_neg c, atKey_put_other (by intro e; injection e with _ e2; exact c e2.symm)]
    exact h3 id'
theorem bnd57 {l : List S25} {x : Int} (h0 : 0 ≤ x) (h1 : x < (l.length : Int)) (h2 : l.length ≤ 9223372036854775807) : 0 ≤ wrap64 (x + 1) ∧ wrap64 (x + 1) ≤ (l.length : Int) := by
  have : wrap64 (x + 1) = x + 1 := by unfold wrap64; omega
  omega
theorem step57 {l : List S25} {ns : List Int} {x : Int} (h0 : 0 ≤ x) (h1 : x < (l.length : Int)) (h2 : l.length ≤ 9223372036854775807) (h3 : x < (ns.length : Int)) (h : GM P k e w b (x.toNat + 1) l (ns.take x.toNat ++ [rd ns x])) : GM P k e w b (wrap64 (x + 1)).toNat l (ns.take (wrap64 (x + 1)).toNat) := by
  have e1 : wrap64 (x + 1) = x + 1 := by unfold wrap64; omega
  rw [e1, show (x + 1).toNat = x.toNat + 1 by omega]
  have e2 : ns.take (x.toNat + 1) = ns.take x.toNat ++ [rd ns x] := by
    have hlt : x.toNat < ns.length := by omega
    unfold rd
    rw [List.take_add_one, List.getElem?_eq_getElem hlt, List.getD_eq_getElem?_getD, List.getElem?_eq_getElem hlt]; rfl
  rw [e2]; exact h
end Go.Proofs.Ytccocolcgdiglaa.Mpi
