import Derived.Test.YtccocolcgdiglaaXx0
import Derived.Deep.Slices
import Derived.Deep.Fields
import Derived.ChangeSame
/-! Arguments that are slices of structs of whole numbers and strings, and such structs by value: what is read from them. -/
namespace Go.Proofs.Ytccocolcgdiglaa.X
set_option linter.unusedVariables false
set_option linter.unusedSimpArgs false
open Go.RowKit Go.Proofs.YtccocolcgdiglaaW.PrintWords Go.Proofs.YtccocolcgdiglaaW.PrintLast Go.Proofs.YtccocolcgdiglaaW.PrintMore Go.ChangeShapes Go.WideShapes Go.Deep

section
variable {H : Type} {enc : TypeId × Value → H} {P : Program} {w : World} {base : Nat} {spare : Nat → Bool} {held : Bool}
theorem open_slice_fields {t e : TypeId} {fs : Array Field} {fuel : Nat} {cs : List Value} {x : DataW H × List MemPlace} (ht : P.underlying t = some (.slice e)) (he : P.underlying e = some (.struct fs))
    (hone : oneCellFields P fs = true) (hC : P.cellsOf e = fs.size) (h : DataW.trod enc P w base spare held fuel t cs = some x) :
    (cs = [.slice none 0 0] ∧ x = (.nil, [])) ∨
    ∃ (a : Addr) (len cap m : Nat) (D : Nat → DataW H) (Pl : Nat → List MemPlace), cs = [.slice (some a) len cap] ∧ base ≤ a.block ∧ len ≤ cap ∧ cap ≤ maxLen ∧ m = (if spare a.block then cap else len) ∧
      x = (.slice ((List.range len).map D) ((List.range (m - len)).map fun j => D (len + j)), MemPlace.row a (m * fs.size) ++ (List.range m).flatMap Pl) ∧
      ∀ i, i < m → ∃ (ys : List (DataW H × List MemPlace)) (n : Nat), D i = .agg (ys.map (·.1)) ∧ Pl i = ys.flatMap (·.2) ∧ ys.length = fs.size ∧
        ∀ (j : Nat) (f : Field), fs[j]? = some f → ∃ (v : Value) (y : DataW H × List MemPlace), w.cell? (a.add (i * fs.size + j)) = some v ∧ ys[j]? = some y ∧ DataW.trod enc P w base spare held n f.type [v] = some y := by
  rcases open_slice ht h with h0 | ⟨a, len, cap, m, n, D, Pl, hcs, hb, hl, hm, hmm, hx, hi⟩
  · exact .inl h0
  · refine .inr ⟨a, len, cap, m, D, Pl, hcs, hb, hl, hm, hmm, by rw [hC] at hx; exact hx, fun i him => ?_⟩
    obtain ⟨cs', hc, ht'⟩ := hi i him
    rw [hC] at hc
    obtain ⟨ys, n', hn', hy, hlen, hyl, hf⟩ := DataW.trod_struct he ht'
    obtain ⟨_, hcl, hat⟩ := World.cells?_some hc
    simp only [Prod.mk.injEq] at hy
    refine ⟨ys, n', hy.1, hy.2, hyl, fun j f hj => ?_⟩
    obtain ⟨ho, hk⟩ := hone_of hone j f hj
    have hjl : j < fs.size := (Array.getElem?_eq_some_iff.1 hj).1
    have hcell := hat j hjl
    have hv : cs'[j]? = some (cs'[j]'(by omega)) := List.getElem?_eq_getElem (by omega)
    have h1 := hf j f hj
    rw [ho, hk] at h1
    have hone' : (cs'.drop j).take 1 = [cs'[j]'(by omega)] := by
      rw [List.drop_eq_getElem_cons (by omega)]
      rfl
    rw [hone'] at h1
    have hys : ys[j]? = some (ys[j]'(by omega)) := List.getElem?_eq_getElem (by omega)
    refine ⟨_, _, ?_, hys, h1.trans hys⟩
    rw [← Go.Deep.add_add, hcell, hv]
theorem exists_list {α : Type} {p : Nat → α → Prop} : ∀ n, (∀ i, i < n → ∃ x, p i x) → ∃ l : List α, l.length = n ∧ ∀ i x, l[i]? = some x → p i x
  | 0, _ => ⟨[], rfl, fun i x h => by simp at h⟩
  | n + 1, h => by
    obtain ⟨l, hl, hp⟩ := exists_list n (fun i hi => h i (by omega))
    obtain ⟨x, hx⟩ := h n (by omega)
    refine ⟨l ++ [x], by simp [hl], fun i y hy => ?_⟩
    by_cases c : i < n
    · rw [List.getElem?_append_left (by omega)] at hy
      exact hp i y hy
    · rw [List.getElem?_append_right (by omega)] at hy
      obtain ⟨hlt, rfl⟩ := List.getElem?_eq_some_iff.1 hy
      have : i = n := by simp at hlt; omega
      subst this
      simpa using hx
/-- a slice of such structs -/
theorem open_items {t e : TypeId} {f0 f1 f2 f3 f4 : Field} {a : Option Addr} {len cap : Nat} {d : DataW H} {p : List MemPlace} (ht : P.underlying t = some (.slice e)) (he : P.underlying e = some (.struct #[f0, f1, f2, f3, f4]))
    (hone : oneCellFields P #[f0, f1, f2, f3, f4] = true) (hC : P.cellsOf e = 5) (h0 : P.underlying f0.type = some (.int .i64)) (h1 : P.underlying f1.type = some (.int .i64)) (h2 : P.underlying f2.type = some (.int .i64)) (h3 : P.underlying f3.type = some (.int .i64)) (h4 : P.underlying f4.type = some (.int .i64))
    (h : DataW.Trod enc P w base (fun _ => true) held t (.slice a len cap) d p) : ∃ l : List S25, len = l.length ∧ Kd.C k25 w a l.length l ∧ l.length ≤ cap := by
  obtain ⟨fuel, hf⟩ := h
  rcases open_slice_fields ht he hone hC hf with ⟨hcs, _⟩ | ⟨x, n, c, m, D, Pl, hcs, _, hl, hm, hmm, _, hi⟩
  · simp [Value.cells] at hcs
    obtain ⟨rfl, rfl, rfl⟩ := hcs
    exact ⟨[], rfl, Kd.C_nil _ _, Nat.le_refl _⟩
  · simp [Value.cells] at hcs
    obtain ⟨rfl, rfl, rfl⟩ := hcs
    rw [if_pos rfl] at hmm
    subst hmm
    have key : ∀ i, i < len → ∃ z : S25, w.cell? (x.add (i * 5 + 0)) = some (.int .i64 z.f0) ∧ w.cell? (x.add (i * 5 + 1)) = some (.int .i64 z.f1) ∧ w.cell? (x.add (i * 5 + 2)) = some (.int .i64 z.f2) ∧ w.cell? (x.add (i * 5 + 3)) = some (.int .i64 z.f3) ∧ w.cell? (x.add (i * 5 + 4)) = some (.int .i64 z.f4) := by
      intro i hil
      obtain ⟨ys, nn, _, _, _, hfs⟩ := hi i (by omega)
      obtain ⟨v0, y0, c0, _, k0⟩ := hfs 0 f0 rfl
      obtain ⟨v1, y1, c1, _, k1⟩ := hfs 1 f1 rfl
      obtain ⟨v2, y2, c2, _, k2⟩ := hfs 2 f2 rfl
      obtain ⟨v3, y3, c3, _, k3⟩ := hfs 3 f3 rfl
      obtain ⟨v4, y4, c4, _, k4⟩ := hfs 4 f4 rfl
      obtain ⟨z0, e0, _, _⟩ := DataW.trod_int h0 k0
      obtain ⟨z1, e1, _, _⟩ := DataW.trod_int h1 k1
      obtain ⟨z2, e2, _, _⟩ := DataW.trod_int h2 k2
      obtain ⟨z3, e3, _, _⟩ := DataW.trod_int h3 k3
      obtain ⟨z4, e4, _, _⟩ := DataW.trod_int h4 k4
      simp at e0 e1 e2 e3 e4
      subst e0 e1 e2 e3 e4
      exact ⟨⟨z0, z1, z2, z3, z4⟩, c0, c1, c2, c3, c4⟩
    obtain ⟨l, hll, hp⟩ := exists_list len key
    refine ⟨l, hll.symm, ⟨rfl, ?_, fun _ => ⟨x, rfl, fun j q hj => ?_⟩⟩, by omega⟩
    · have : maxLen ≤ 9223372036854775807 := by decide
      omega
    · obtain ⟨c0, c1, c2, c3, c4⟩ := hp j q hj
      refine ⟨[.int .i64 q.f0, .int .i64 q.f1, .int .i64 q.f2, .int .i64 q.f3, .int .i64 q.f4], rfl, k25_mk w q, fun i u hu => ?_⟩
      match i with
      | 0 => simp at hu; subst hu; exact c0
      | 1 => simp at hu; subst hu; exact c1
      | 2 => simp at hu; subst hu; exact c2
      | 3 => simp at hu; subst hu; exact c3
      | 4 => simp at hu; subst hu; exact c4
      | i + 5 => simp at hu
/-- .. by value -/
theorem open_item {r : Reach} {b0 : Nat} {t : TypeId} {f0 f1 f2 f3 f4 : Field} {v : Value} {d : DataW H} {p : List MemPlace} (hs : P.underlying t = some (.struct #[f0, f1, f2, f3, f4])) (hone : oneCellFields P #[f0, f1, f2, f3, f4] = true) (hC : P.cellsOf t = 5) (h0 : P.underlying f0.type = some (.int .i64)) (h1 : P.underlying f1.type = some (.int .i64)) (h2 : P.underlying f2.type = some (.int .i64)) (h3 : P.underlying f3.type = some (.int .i64)) (h4 : P.underlying f4.type = some (.int .i64))
    (hv : Value.okWide P w r b0 t v) (h : DataW.Trod enc P w base spare held t v d p) : ∃ z : S25, v = .agg #[.int .i64 z.f0, .int .i64 z.f1, .int .i64 z.f2, .int .i64 z.f3, .int .i64 z.f4] := by
  obtain ⟨cs, rfl, hsz⟩ := okWide_struct hs hv
  obtain ⟨l⟩ := cs
  obtain ⟨fuel, hf⟩ := h
  obtain ⟨ys, n', hn', hy, hlen, hyl, hff⟩ := DataW.trod_struct hs hf
  match l, hsz.trans hC with
  | [u0, u1, u2, u3, u4], _ =>
    obtain ⟨o0, q0⟩ := hone_of hone 0 f0 rfl
    have g0 := hff 0 f0 rfl
    rw [o0, q0] at g0
    simp only [Value.cells, List.getElem?_cons_zero, List.getElem?_cons_succ, List.drop_succ_cons, List.drop_zero, List.take_succ_cons, List.take_zero] at g0
    obtain ⟨y0, gy0⟩ : ∃ y, ys[0]? = some y := ⟨_, List.getElem?_eq_getElem (by rw [hyl]; simp)⟩
    obtain ⟨z0, e0, _, _⟩ := DataW.trod_int h0 (g0.trans gy0)
    obtain ⟨o1, q1⟩ := hone_of hone 1 f1 rfl
    have g1 := hff 1 f1 rfl
    rw [o1, q1] at g1
    simp only [Value.cells, List.getElem?_cons_zero, List.getElem?_cons_succ, List.drop_succ_cons, List.drop_zero, List.take_succ_cons, List.take_zero] at g1
    obtain ⟨y1, gy1⟩ : ∃ y, ys[1]? = some y := ⟨_, List.getElem?_eq_getElem (by rw [hyl]; simp)⟩
    obtain ⟨z1, e1, _, _⟩ := DataW.trod_int h1 (g1.trans gy1)
    obtain ⟨o2, q2⟩ := hone_of hone 2 f2 rfl
    have g2 := hff 2 f2 rfl
    rw [o2, q2] at g2
    simp only [Value.cells, List.getElem?_cons_zero, List.getElem?_cons_succ, List.drop_succ_cons, List.drop_zero, List.take_succ_cons, List.take_zero] at g2
    obtain ⟨y2, gy2⟩ : ∃ y, ys[2]? = some y := ⟨_, List.getElem?_eq_getElem (by rw [hyl]; simp)⟩
    obtain ⟨z2, e2, _, _⟩ := DataW.trod_int h2 (g2.trans gy2)
    obtain ⟨o3, q3⟩ := hone_of hone 3 f3 rfl
    have g3 := hff 3 f3 rfl
    rw [o3, q3] at g3
    simp only [Value.cells, List.getElem?_cons_zero, List.getElem?_cons_succ, List.drop_succ_cons, List.drop_zero, List.take_succ_cons, List.take_zero] at g3
    obtain ⟨y3, gy3⟩ : ∃ y, ys[3]? = some y := ⟨_, List.getElem?_eq_getElem (by rw [hyl]; simp)⟩
    obtain ⟨z3, e3, _, _⟩ := DataW.trod_int h3 (g3.trans gy3)
    obtain ⟨o4, q4⟩ := hone_of hone 4 f4 rfl
    have g4 := hff 4 f4 rfl
    rw [o4, q4] at g4
    simp only [Value.cells, List.getElem?_cons_zero, List.getElem?_cons_succ, List.drop_succ_cons, List.drop_zero, List.take_succ_cons, List.take_zero] at g4
    obtain ⟨y4, gy4⟩ : ∃ y, ys[4]? = some y := ⟨_, List.getElem?_eq_getElem (by rw [hyl]; simp)⟩
    obtain ⟨z4, e4, _, _⟩ := DataW.trod_int h4 (g4.trans gy4)
    simp at e0 e1 e2 e3 e4
    subst e0 e1 e2 e3 e4
    exact ⟨⟨z0, z1, z2, z3, z4⟩, rfl⟩
/-- a slice of such structs -/
theorem open_reliefs {t e : TypeId} {f0 f1 f2 f3 f4 f5 f6 : Field} {a : Option Addr} {len cap : Nat} {d : DataW H} {p : List MemPlace} (ht : P.underlying t = some (.slice e)) (he : P.underlying e = some (.struct #[f0, f1, f2, f3, f4, f5, f6]))
    (hone : oneCellFields P #[f0, f1, f2, f3, f4, f5, f6] = true) (hC : P.cellsOf e = 7) (h0 : P.underlying f0.type = some (.int .i64)) (h1 : P.underlying f1.type = some .string) (h2 : P.underlying f2.type = some (.int .i64)) (h3 : P.underlying f3.type = some (.int .i64)) (h4 : P.underlying f4.type = some (.int .i64)) (h5 : P.underlying f5.type = some (.int .i64)) (h6 : P.underlying f6.type = some (.int .i64))
    (h : DataW.Trod enc P w base (fun _ => true) held t (.slice a len cap) d p) : ∃ l : List S33, len = l.length ∧ Kd.C k33 w a l.length l ∧ l.length ≤ cap := by
  obtain ⟨fuel, hf⟩ := h
  rcases open_slice_fields ht he hone hC hf with ⟨hcs, _⟩ | ⟨x, n, c, m, D, Pl, hcs, _, hl, hm, hmm, _, hi⟩
  · simp [Value.cells] at hcs
    obtain ⟨rfl, rfl, rfl⟩ := hcs
    exact ⟨[], rfl, Kd.C_nil _ _, Nat.le_refl _⟩
  · simp [Value.cells] at hcs
    obtain ⟨rfl, rfl, rfl⟩ := hcs
    rw [if_pos rfl] at hmm
    subst hmm
    have key : ∀ i, i < len → ∃ z : S33, w.cell? (x.add (i * 7 + 0)) = some (.int .i64 z.f0) ∧ w.cell? (x.add (i * 7 + 1)) = some (.string z.f1) ∧ w.cell? (x.add (i * 7 + 2)) = some (.int .i64 z.f2) ∧ w.cell? (x.add (i * 7 + 3)) = some (.int .i64 z.f3) ∧ w.cell? (x.add (i * 7 + 4)) = some (.int .i64 z.f4) ∧ w.cell? (x.add (i * 7 + 5)) = some (.int .i64 z.f5) ∧ w.cell? (x.add (i * 7 + 6)) = some (.int .i64 z.f6) := by
      intro i hil
      obtain ⟨ys, nn, _, _, _, hfs⟩ := hi i (by omega)
      obtain ⟨v0, y0, c0, _, k0⟩ := hfs 0 f0 rfl
      obtain ⟨v1, y1, c1, _, k1⟩ := hfs 1 f1 rfl
      obtain ⟨v2, y2, c2, _, k2⟩ := hfs 2 f2 rfl
      obtain ⟨v3, y3, c3, _, k3⟩ := hfs 3 f3 rfl
      obtain ⟨v4, y4, c4, _, k4⟩ := hfs 4 f4 rfl
      obtain ⟨v5, y5, c5, _, k5⟩ := hfs 5 f5 rfl
      obtain ⟨v6, y6, c6, _, k6⟩ := hfs 6 f6 rfl
      obtain ⟨z0, e0, _, _⟩ := DataW.trod_int h0 k0
      obtain ⟨z1, e1, _, _⟩ := DataW.trod_string h1 k1
      obtain ⟨z2, e2, _, _⟩ := DataW.trod_int h2 k2
      obtain ⟨z3, e3, _, _⟩ := DataW.trod_int h3 k3
      obtain ⟨z4, e4, _, _⟩ := DataW.trod_int h4 k4
      obtain ⟨z5, e5, _, _⟩ := DataW.trod_int h5 k5
      obtain ⟨z6, e6, _, _⟩ := DataW.trod_int h6 k6
      simp at e0 e1 e2 e3 e4 e5 e6
      subst e0 e1 e2 e3 e4 e5 e6
      exact ⟨⟨z0, z1, z2, z3, z4, z5, z6⟩, c0, c1, c2, c3, c4, c5, c6⟩
    obtain ⟨l, hll, hp⟩ := exists_list len key
    refine ⟨l, hll.symm, ⟨rfl, ?_, fun _ => ⟨x, rfl, fun j q hj => ?_⟩⟩, by omega⟩
    · have : maxLen ≤ 9223372036854775807 := by decide
      omega
    · obtain ⟨c0, c1, c2, c3, c4, c5, c6⟩ := hp j q hj
      refine ⟨[.int .i64 q.f0, .string q.f1, .int .i64 q.f2, .int .i64 q.f3, .int .i64 q.f4, .int .i64 q.f5, .int .i64 q.f6], rfl, k33_mk w q, fun i u hu => ?_⟩
      match i with
      | 0 => simp at hu; subst hu; exact c0
      | 1 => simp at hu; subst hu; exact c1
      | 2 => simp at hu; subst hu; exact c2
      | 3 => simp at hu; subst hu; exact c3
      | 4 => simp at hu; subst hu; exact c4
      | 5 => simp at hu; subst hu; exact c5
      | 6 => simp at hu; subst hu; exact c6
      | i + 7 => simp at hu
/-- .. by value -/
theorem open_relief {r : Reach} {b0 : Nat} {t : TypeId} {f0 f1 f2 f3 f4 f5 f6 : Field} {v : Value} {d : DataW H} {p : List MemPlace} (hs : P.underlying t = some (.struct #[f0, f1, f2, f3, f4, f5, f6])) (hone : oneCellFields P #[f0, f1, f2, f3, f4, f5, f6] = true) (hC : P.cellsOf t = 7) (h0 : P.underlying f0.type = some (.int .i64)) (h1 : P.underlying f1.type = some .string) (h2 : P.underlying f2.type = some (.int .i64)) (h3 : P.underlying f3.type = some (.int .i64)) (h4 : P.underlying f4.type = some (.int .i64)) (h5 : P.underlying f5.type = some (.int .i64)) (h6 : P.underlying f6.type = some (.int .i64))
    (hv : Value.okWide P w r b0 t v) (h : DataW.Trod enc P w base spare held t v d p) : ∃ z : S33, v = .agg #[.int .i64 z.f0, .string z.f1, .int .i64 z.f2, .int .i64 z.f3, .int .i64 z.f4, .int .i64 z.f5, .int .i64 z.f6] := by
  obtain ⟨cs, rfl, hsz⟩ := okWide_struct hs hv
  obtain ⟨l⟩ := cs
  obtain ⟨fuel, hf⟩ := h
  obtain ⟨ys, n', hn', hy, hlen, hyl, hff⟩ := DataW.trod_struct hs hf
  match l, hsz.trans hC with
  | [u0, u1, u2, u3, u4, u5, u6], _ =>
    obtain ⟨o0, q0⟩ := hone_of hone 0 f0 rfl
    have g0 := hff 0 f0 rfl
    rw [o0, q0] at g0
    simp only [Value.cells, List.getElem?_cons_zero, List.getElem?_cons_succ, List.drop_succ_cons, List.drop_zero, List.take_succ_cons, List.take_zero] at g0
    obtain ⟨y0, gy0⟩ : ∃ y, ys[0]? = some y := ⟨_, List.getElem?_eq_getElem (by rw [hyl]; simp)⟩
    obtain ⟨z0, e0, _, _⟩ := DataW.trod_int h0 (g0.trans gy0)
    obtain ⟨o1, q1⟩ := hone_of hone 1 f1 rfl
    have g1 := hff 1 f1 rfl
    rw [o1, q1] at g1
    simp only [Value.cells, List.getElem?_cons_zero, List.getElem?_cons_succ, List.drop_succ_cons, List.drop_zero, List.take_succ_cons, List.take_zero] at g1
    obtain ⟨y1, gy1⟩ : ∃ y, ys[1]? = some y := ⟨_, List.getElem?_eq_getElem (by rw [hyl]; simp)⟩
    obtain ⟨z1, e1, _, _⟩ := DataW.trod_string h1 (g1.trans gy1)
    obtain ⟨o2, q2⟩ := hone_of hone 2 f2 rfl
    have g2 := hff 2 f2 rfl
    rw [o2, q2] at g2
    simp only [Value.cells, List.getElem?_cons_zero, List.getElem?_cons_succ, List.drop_succ_cons, List.drop_zero, List.take_succ_cons, List.take_zero] at g2
    obtain ⟨y2, gy2⟩ : ∃ y, ys[2]? = some y := ⟨_, List.getElem?_eq_getElem (by rw [hyl]; simp)⟩
    obtain ⟨z2, e2, _, _⟩ := DataW.trod_int h2 (g2.trans gy2)
    obtain ⟨o3, q3⟩ := hone_of hone 3 f3 rfl
    have g3 := hff 3 f3 rfl
    rw [o3, q3] at g3
    simp only [Value.cells, List.getElem?_cons_zero, List.getElem?_cons_succ, List.drop_succ_cons, List.drop_zero, List.take_succ_cons, List.take_zero] at g3
    obtain ⟨y3, gy3⟩ : ∃ y, ys[3]? = some y := ⟨_, List.getElem?_eq_getElem (by rw [hyl]; simp)⟩
    obtain ⟨z3, e3, _, _⟩ := DataW.trod_int h3 (g3.trans gy3)
    obtain ⟨o4, q4⟩ := hone_of hone 4 f4 rfl
    have g4 := hff 4 f4 rfl
    rw [o4, q4] at g4
    simp only [Value.cells, List.getElem?_cons_zero, List.getElem?_cons_succ, List.drop_succ_cons, List.drop_zero, List.take_succ_cons, List.take_zero] at g4
    obtain ⟨y4, gy4⟩ : ∃ y, ys[4]? = some y := ⟨_, List.getElem?_eq_getElem (by rw [hyl]; simp)⟩
    obtain ⟨z4, e4, _, _⟩ := DataW.trod_int h4 (g4.trans gy4)
    obtain ⟨o5, q5⟩ := hone_of hone 5 f5 rfl
    have g5 := hff 5 f5 rfl
    rw [o5, q5] at g5
    simp only [Value.cells, List.getElem?_cons_zero, List.getElem?_cons_succ, List.drop_succ_cons, List.drop_zero, List.take_succ_cons, List.take_zero] at g5
    obtain ⟨y5, gy5⟩ : ∃ y, ys[5]? = some y := ⟨_, List.getElem?_eq_getElem (by rw [hyl]; simp)⟩
    obtain ⟨z5, e5, _, _⟩ := DataW.trod_int h5 (g5.trans gy5)
    obtain ⟨o6, q6⟩ := hone_of hone 6 f6 rfl
    have g6 := hff 6 f6 rfl
    rw [o6, q6] at g6
    simp only [Value.cells, List.getElem?_cons_zero, List.getElem?_cons_succ, List.drop_succ_cons, List.drop_zero, List.take_succ_cons, List.take_zero] at g6
    obtain ⟨y6, gy6⟩ : ∃ y, ys[6]? = some y := ⟨_, List.getElem?_eq_getElem (by rw [hyl]; simp)⟩
    obtain ⟨z6, e6, _, _⟩ := DataW.trod_int h6 (g6.trans gy6)
    simp at e0 e1 e2 e3 e4 e5 e6
    subst e0 e1 e2 e3 e4 e5 e6
    exact ⟨⟨z0, z1, z2, z3, z4, z5, z6⟩, rfl⟩
end
end Go.Proofs.Ytccocolcgdiglaa.X
