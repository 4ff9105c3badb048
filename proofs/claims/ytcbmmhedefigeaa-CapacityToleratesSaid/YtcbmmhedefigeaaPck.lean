import Derived.Test.YtcbmmhedefigeaaCkp
/-! An argument that is a cask by value: what is read from it. -/
namespace Go.Proofs.Ytcbmmhedefigeaa.X
set_option linter.unusedVariables false
set_option linter.unusedSimpArgs false
open Go.RowKit Go.Proofs.YtcbmmhedefigeaaW.PrintWords Go.Proofs.YtcbmmhedefigeaaW.PrintLast Go.Proofs.YtcbmmhedefigeaaW.PrintMore Go.ChangeShapes Go.WideShapes Go.Deep
section
variable {H : Type} {enc : TypeId × Value → H} {P : Program} {w : World} {base : Nat} {held : Bool}
theorem open_cask {r : Reach} {b0 : Nat} {t te : TypeId} {f0 f1 f2 f3 p0 p1 : Field} {v : Value} {d : DataW H} {p : List MemPlace} (hs : P.underlying t = some (.struct #[f0, f1, f2, f3])) (hone : oneCellFields P #[f0, f1, f2, f3] = true) (hC : P.cellsOf t = 4)
    (h0 : P.underlying f0.type = some .string) (h1 : P.underlying f1.type = some (.int .i64)) (h2 : P.underlying f2.type = some (.slice te)) (h3 : P.underlying f3.type = some (.int .i64))
    (he2 : P.underlying te = some (.struct #[p0, p1])) (hone2 : oneCellFields P #[p0, p1] = true) (hC2 : P.cellsOf te = 2) (g0 : P.underlying p0.type = some (.int .i64)) (g1 : P.underlying p1.type = some (.int .i64))
    (hv : Value.okWide P w r b0 t v) (h : DataW.Trod enc P w base (fun _ => true) held t v d p) :
    ∃ (n : ByteArray) (q : Int) (A : Option Addr) (l : List S30) (c : Nat) (e : Int), v = .agg #[.string n, .int .i64 q, .slice A l.length c, .int .i64 e] ∧ l.length ≤ c ∧ Kd.C k30 w A l.length l := by
  obtain ⟨cs, rfl, hsz⟩ := okWide_struct hs hv
  obtain ⟨l⟩ := cs
  obtain ⟨fuel, hf⟩ := h
  obtain ⟨ys, n', hn', hy, hlen, hyl, hff⟩ := DataW.trod_struct hs hf
  match l, hsz.trans hC with
  | [u0, u1, u2, u3], _ =>
    obtain ⟨o0, q0⟩ := hone_of hone 0 f0 rfl
    have s0 := hff 0 f0 rfl
    rw [o0, q0] at s0
    simp only [Value.cells, List.getElem?_cons_zero, List.getElem?_cons_succ, List.drop_succ_cons, List.drop_zero, List.take_succ_cons, List.take_zero] at s0
    obtain ⟨y0, gy0⟩ : ∃ y, ys[0]? = some y := ⟨_, List.getElem?_eq_getElem (by rw [hyl]; simp)⟩
    obtain ⟨z0, e0, _⟩ := DataW.trod_string h0 (s0.trans gy0)
    obtain ⟨o1, q1⟩ := hone_of hone 1 f1 rfl
    have s1 := hff 1 f1 rfl
    rw [o1, q1] at s1
    simp only [Value.cells, List.getElem?_cons_zero, List.getElem?_cons_succ, List.drop_succ_cons, List.drop_zero, List.take_succ_cons, List.take_zero] at s1
    obtain ⟨y1, gy1⟩ : ∃ y, ys[1]? = some y := ⟨_, List.getElem?_eq_getElem (by rw [hyl]; simp)⟩
    obtain ⟨z1, e1, _, _⟩ := DataW.trod_int h1 (s1.trans gy1)
    obtain ⟨o2, q2⟩ := hone_of hone 2 f2 rfl
    have s2 := hff 2 f2 rfl
    rw [o2, q2] at s2
    simp only [Value.cells, List.getElem?_cons_zero, List.getElem?_cons_succ, List.drop_succ_cons, List.drop_zero, List.take_succ_cons, List.take_zero] at s2
    obtain ⟨y2, gy2⟩ : ∃ y, ys[2]? = some y := ⟨_, List.getElem?_eq_getElem (by rw [hyl]; simp)⟩
    obtain ⟨A, lp, cp, rfl, hlp, hkp⟩ := slice_points h2 he2 hone2 hC2 g0 g1 (s2.trans gy2)
    obtain ⟨o3, q3⟩ := hone_of hone 3 f3 rfl
    have s3 := hff 3 f3 rfl
    rw [o3, q3] at s3
    simp only [Value.cells, List.getElem?_cons_zero, List.getElem?_cons_succ, List.drop_succ_cons, List.drop_zero, List.take_succ_cons, List.take_zero] at s3
    obtain ⟨y3, gy3⟩ : ∃ y, ys[3]? = some y := ⟨_, List.getElem?_eq_getElem (by rw [hyl]; simp)⟩
    obtain ⟨z3, e3, _, _⟩ := DataW.trod_int h3 (s3.trans gy3)
    simp at e0 e1 e3
    subst e0 e1 e3
    exact ⟨z0, z1, A, lp, cp, z3, rfl, hlp, hkp⟩
end
end Go.Proofs.Ytcbmmhedefigeaa.X
