import Derived.Test.YthbkbokfngbocaaArs
import Derived.ChangeSame
/-! SegmentAreas' walk for a row, and a struct of two whole numbers as an argument. -/
namespace Go.Proofs.Ythbkbokfngbocaa.X
set_option linter.unusedVariables false
set_option linter.unusedSimpArgs false
open Go.RowKit Go.Proofs.YthbkbokfngbocaaW.PrintWords Go.Proofs.YthbkbokfngbocaaW.PrintLast Go.Proofs.YthbkbokfngbocaaW.PrintMore Go.ChangeShapes Go.WideShapes

def spilelaw07_SegmentAreas.Pure : Prop := ∀ (a0 : Int) (a1 : Int) (s0 s1 : Int) (l3 : List Int), (Lit.int .i64 a0).wf = true → (Lit.int .i64 a1).wf = true → (Lit.int .i64 s0).wf = true → (Lit.int .i64 s1).wf = true → l3.length ≤ maxLen → l3.length * 8 ≤ 140737488351232 → (∀ x ∈ l3, (Lit.int .i64 x).wf = true) → ∃ k, spilelaw07_SegmentAreas.f k a0 a1 s0 s1 l3 = some true
theorem spilelaw07_SegmentAreas.walk (P : spilelaw07_SegmentAreas.Pure) (a0 : Int) (a1 : Int) (s0 s1 : Int) (a3 : Option Addr) (len3 cap3 : Nat) (z3 : List Int) (w : World) (w0 : (Lit.int .i64 a0).wf = true) (w1 : (Lit.int .i64 a1).wf = true) (ws0 : (Lit.int .i64 s0).wf = true) (ws1 : (Lit.int .i64 s1).wf = true) (w3 : (a3 = none ∧ len3 = 0 ∧ cap3 = 0 ∧ z3 = []) ∨ ∃ x, a3 = some x ∧ len3 ≤ cap3 ∧ cap3 ≤ maxLen ∧ z3.length = cap3 ∧ (∀ i, i < z3.length → w.cell? (x.add i) = some (.int .i64 (z3.getD i 0))) ∧ ∀ n ∈ z3, (Lit.int .i64 n).wf = true) (y3 : len3 * 8 ≤ 140737488351232) :
    Calls Try.prog 5 #[.int .i64 a0, .int .i64 a1, .agg #[.int .i64 s0, .int .i64 s1], .slice a3 len3 cap3] w fun e w' => e = .returned (.bool true) ∧ Below w.heap.size w w' := by
  obtain ⟨l3, rfl, hr3, hm3, hw3, hc3⟩ := ReadsInt.ofRowC w3
  obtain ⟨k, h⟩ := P a0 a1 s0 s1 l3 w0 w1 ws0 ws1 hm3 y3 hw3
  refine (spilelaw07_SegmentAreas.calls k a0 a1 s0 s1 _ _ l3 true w (Kd.C_of_reads (d := (0 : Int)) (h1 := fun _ => rfl) hr3) hc3 h rfl).mono ?_
  rintro e w' ⟨rfl, hd⟩
  exact ⟨rfl, hd⟩

section
variable {H : Type} {enc : TypeId × Value → H} {P : Program} {w : World} {base : Nat} {spare : Nat → Bool} {held : Bool}
/-- a struct of two whole numbers, by value -/
theorem open_two {r : Reach} {b0 : Nat} {t : TypeId} {f0 f1 : Field} {v : Value} {d : DataW H} {p : List MemPlace} (hs : P.underlying t = some (.struct #[f0, f1])) (h0 : P.underlying f0.type = some (.int .i64)) (h1 : P.underlying f1.type = some (.int .i64))
    (hC : P.cellsOf t = 2) (c0 : P.cellsOf f0.type = 1) (c1 : P.cellsOf f1.type = 1) (o0 : f0.offset = 0) (o1 : f1.offset = 1) (hv : Value.okWide P w r b0 t v) (h : DataW.Trod enc P w base spare held t v d p) :
    ∃ a b : Int, v = .agg #[.int .i64 a, .int .i64 b] ∧ d = .agg [.lit (.int .i64 a), .lit (.int .i64 b)] ∧ p = [] ∧ (Lit.int .i64 a).wf = true ∧ (Lit.int .i64 b).wf = true := by
  obtain ⟨cs, rfl, hsz⟩ := okWide_struct hs hv
  obtain ⟨l⟩ := cs
  match l, hsz.trans hC with
  | [v0, v1], _ =>
    obtain ⟨fuel, hf⟩ := h
    obtain ⟨y0, y1, n, hx, _, k0, k1⟩ := trod_struct2 hs hf
    obtain ⟨a, ea, rfl, wa⟩ := DataW.trod_int h0 k0
    obtain ⟨b, eb, rfl, wb⟩ := DataW.trod_int h1 k1
    simp [Value.cells, o0, o1, c0, c1] at ea eb
    subst ea eb
    simp only [Prod.mk.injEq] at hx
    obtain ⟨rfl, rfl⟩ := hx
    exact ⟨a, b, rfl, rfl, rfl, wa, wb⟩
theorem shut_two {t : TypeId} {f0 f1 : Field} {a b : Int} (hs : P.underlying t = some (.struct #[f0, f1])) (h0 : P.underlying f0.type = some (.int .i64)) (h1 : P.underlying f1.type = some (.int .i64))
    (hC : P.cellsOf t = 2) (c0 : P.cellsOf f0.type = 1) (c1 : P.cellsOf f1.type = 1) (o0 : f0.offset = 0) (o1 : f1.offset = 1) (wa : (Lit.int .i64 a).wf = true) (wb : (Lit.int .i64 b).wf = true) :
    DataW.Trod enc P w base spare held t (.agg #[.int .i64 a, .int .i64 b]) (.agg [.lit (.int .i64 a), .lit (.int .i64 b)]) [] := ⟨2, by
  have k0 : DataW.trod enc P w base spare held 1 f0.type [.int .i64 a] = some (.lit (.int .i64 a), []) := by simp [DataW.trod, h0, wa]
  have k1 : DataW.trod enc P w base spare held 1 f1.type [.int .i64 b] = some (.lit (.int .i64 b), []) := by simp [DataW.trod, h1, wb]
  have := trod_struct2_mk (enc := enc) (w := w) (base := base) (spare := spare) (held := held) (n := 1) (cs := [.int .i64 a, .int .i64 b]) hs (by simp [hC]) (by simpa [o0, c0] using k0) (by simpa [o1, c1] using k1)
  simpa [Value.cells] using this⟩
end
end Go.Proofs.Ythbkbokfngbocaa.X
