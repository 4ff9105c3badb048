import Derived.Test.YtcbmmhedefigeaaXx0
import Derived.Deep.Slices
import Derived.Deep.Fields
import Derived.ChangeSame
/-! An argument that is a slice of points: what is read from it. -/
namespace Go.Proofs.Ytcbmmhedefigeaa.X
set_option linter.unusedVariables false
set_option linter.unusedSimpArgs false
open Go.RowKit Go.Proofs.YtcbmmhedefigeaaW.PrintWords Go.Proofs.YtcbmmhedefigeaaW.PrintLast Go.Proofs.YtcbmmhedefigeaaW.PrintMore Go.ChangeShapes Go.WideShapes Go.Deep

section
variable {H : Type} {enc : TypeId × Value → H} {P : Program} {w : World} {base : Nat} {spare : Nat → Bool} {held : Bool}
theorem open_slice_fields {t e : TypeId} {fs : Array Field} {fuel : Nat} {cs : List Value} {x : DataW H × List MemPlace} (ht : P.underlying t = some (.slice e)) (he : P.underlying e = some (.struct fs))
    (hone : oneCellFields P fs = true) (hC : P.cellsOf e = fs.size) (h : DataW.trod enc P w base spare held fuel t cs = some x) :
    (cs = [.slice none 0 0] ∧ x = (.nil, [])) ∨
    ∃ (a : Addr) (len cap m : Nat) (D : Nat → DataW H) (Pl : Nat → List MemPlace), cs = [.slice (some a) len cap] ∧ base ≤ a.block ∧ len ≤ cap ∧ cap ≤ maxLen ∧ m = (if spare a.block then cap else len) ∧
      x = (.slice ((List.range len).map D) ((List.range (m - len)).map fun j => D (len + j)), MemPlace.row a (m * fs.size) ++ (List.range m).flatMap Pl) ∧
      ∀ i, i < m → ∃ (ys : List (DataW H × List MemPlace)) (n : Nat), D i = .agg (ys.map (·.1)) ∧ Pl i = ys.flatMap (·.2) ∧ ys.length = fs.size ∧
        ∀ (j : Nat) (f : Field), fs[j]? = some f → ∃ (v : Value) (y : DataW H × List MemPlace), w.cell? (a.add (i * fs.size + j)) = some v ∧ ys[j]? = some y ∧ DataW.trod enc P w base spare held n f.type [v] = some y := by
  rcases open_slice ht h with h0 | ⟨a, len, cap, m, n, D, Pl, hcs, hb, hl, hm, hmm, hx, hi⟩
  · exact .inl h0
  · refine .inr ⟨a, len, cap, m, D, Pl, hcs, hb, hl, hm, hmm, by rw [hC] at hx; exact hx, fun i him => ?_⟩
    obtain ⟨cs', hc, ht'⟩ := hi i him
    rw [hC] at hc
    obtain ⟨ys, n', hn', hy, hlen, hyl, hf⟩ := DataW.trod_struct he ht'
    obtain ⟨_, hcl, hat⟩ := World.cells?_some hc
    simp only [Prod.mk.injEq] at hy
    refine ⟨ys, n', hy.1, hy.2, hyl, fun j f hj => ?_⟩
    obtain ⟨ho, hk⟩ := hone_of hone j f hj
    have hjl : j < fs.size := (Array.getElem?_eq_some_iff.1 hj).1
    have hcell := hat j hjl
    have hv : cs'[j]? = some (cs'[j]'(by omega)) := List.getElem?_eq_getElem (by omega)
    have h1 := hf j f hj
    rw [ho, hk] at h1
    have hone' : (cs'.drop j).take 1 = [cs'[j]'(by omega)] := by
      rw [List.drop_eq_getElem_cons (by omega)]
      rfl
    rw [hone'] at h1
    have hys : ys[j]? = some (ys[j]'(by omega)) := List.getElem?_eq_getElem (by omega)
    refine ⟨_, _, ?_, hys, h1.trans hys⟩
    rw [← Go.Deep.add_add, hcell, hv]
/-- a whole number's cell, read -/
def numAt (w : World) (a : Addr) : Int := match w.cell? a with | some (.int .i64 x) => x | _ => 0
theorem numAt_eq {w : World} {a : Addr} {x : Int} (h : w.cell? a = some (.int .i64 x)) : w.cell? a = some (.int .i64 (numAt w a)) := by
  unfold numAt; rw [h]
/-- a slice of structs of two whole numbers -/
theorem open_points {t e : TypeId} {f0 f1 : Field} {a : Option Addr} {len cap : Nat} {d : DataW H} {p : List MemPlace} (ht : P.underlying t = some (.slice e)) (he : P.underlying e = some (.struct #[f0, f1]))
    (hone : oneCellFields P #[f0, f1] = true) (hC : P.cellsOf e = 2) (h0 : P.underlying f0.type = some (.int .i64)) (h1 : P.underlying f1.type = some (.int .i64))
    (h : DataW.Trod enc P w base (fun _ => true) held t (.slice a len cap) d p) : ∃ l : List S30, len = l.length ∧ Kd.C k30 w a l.length l ∧ l.length ≤ cap := by
  obtain ⟨fuel, hf⟩ := h
  rcases open_slice_fields ht he hone hC hf with ⟨hcs, _⟩ | ⟨x, l, c, m, D, Pl, hcs, _, hl, hm, hmm, _, hi⟩
  · simp [Value.cells] at hcs
    obtain ⟨rfl, rfl, rfl⟩ := hcs
    exact ⟨[], rfl, Kd.C_nil _ _, Nat.le_refl _⟩
  · simp [Value.cells] at hcs
    obtain ⟨rfl, rfl, rfl⟩ := hcs
    rw [if_pos rfl] at hmm
    subst hmm
    have key : ∀ i, i < len → w.cell? (x.add (i * 2)) = some (.int .i64 (numAt w (x.add (i * 2)))) ∧ w.cell? (x.add (i * 2 + 1)) = some (.int .i64 (numAt w (x.add (i * 2 + 1)))) := by
      intro i hil
      obtain ⟨ys, n, _, _, _, hfs⟩ := hi i (by omega)
      obtain ⟨v0, y0, c0, _, k0⟩ := hfs 0 f0 rfl
      obtain ⟨v1, y1, c1, _, k1⟩ := hfs 1 f1 rfl
      obtain ⟨z0, e0, _, _⟩ := DataW.trod_int h0 k0
      obtain ⟨z1, e1, _, _⟩ := DataW.trod_int h1 k1
      simp at e0 e1
      subst e0 e1
      exact ⟨numAt_eq c0, numAt_eq c1⟩
    refine ⟨(List.range len).map fun i => ⟨numAt w (x.add (i * 2)), numAt w (x.add (i * 2 + 1))⟩, by simp, ?_, by simp; exact hl⟩
    refine ⟨rfl, ?_, fun _ => ⟨x, rfl, fun j q hj => ?_⟩⟩
    · simp only [List.length_map, List.length_range]
      have : maxLen ≤ 9223372036854775807 := by decide
      omega
    · rw [List.getElem?_map] at hj
      obtain ⟨i, hi', rfl⟩ := Option.map_eq_some_iff.1 hj
      obtain ⟨hjl, rfl⟩ := List.getElem?_eq_some_iff.1 hi'
      simp only [List.length_range] at hjl
      simp only [List.getElem_range] at *
      obtain ⟨q0, q1⟩ := key j hjl
      refine ⟨[.int .i64 (numAt w (x.add (j * 2))), .int .i64 (numAt w (x.add (j * 2 + 1)))], rfl, k30_mk w ⟨_, _⟩, fun i u hu => ?_⟩
      match i with
      | 0 => simp at hu; subst hu; exact q0
      | 1 => simp at hu; subst hu; exact q1
      | i + 2 => simp at hu
end
end Go.Proofs.Ytcbmmhedefigeaa.X
