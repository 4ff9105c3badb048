import Derived.Test.YtcbmmhedefigeaaXx0
import Derived.Deep.Slices
import Derived.Deep.Fields
import Derived.ChangeSame
import Derived.Test.YtcbmmhedefigeaaAt8
import Derived.Test.YtcbmmhedefigeaaXx5
import Derived.Test.YtcbmmhedefigeaaPc8
import Derived.Test.YtcbmmhedefigeaaCl8
import Derived.Test.YtcbmmhedefigeaaFru
import Derived.Test.YtcbmmhedefigeaaXx2
import Derived.Test.YtcbmmhedefigeaaTsp
import Derived.Test.YtcbmmhedefigeaaAwk8
import Derived.Test.YtcbmmhedefigeaaXx3
/-! An argument that is a slice of points: what is read from it. -/
namespace Go.Proofs.Ytcbmmhedefigeaa.X
set_option linter.unusedVariables false
set_option linter.unusedSimpArgs false
open Go.RowKit Go.Proofs.YtcbmmhedefigeaaW.PrintWords Go.Proofs.YtcbmmhedefigeaaW.PrintLast Go.Proofs.YtcbmmhedefigeaaW.PrintMore Go.ChangeShapes Go.WideShapes Go.Deep
section
variable {H : Type} {enc : TypeId × Value → H} {P : Program} {w : World} {base : Nat} {spare : Nat → Bool} {held : Bool}
theorem open_slice_fields {t e : TypeId} {fs : Array Field} {fuel : Nat} {cs : List Value} {x : DataW H × List MemPlace} (ht : P.underlying t = some (.slice e)) (he : P.underlying e = some (.struct fs))
  (hone : oneCellFields P fs = true) (hC : P.cellsOf e = fs.size) (h : DataW.trod enc P w base spare held fuel t cs = some x) :
  (cs = [.slice none 0 0] ∧ x = (.nil, [])) ∨
  ∃ (a : Addr) (len cap m : Nat) (D : Nat → DataW H) (Pl : Nat → List MemPlace), cs = [.slice (some a) len cap] ∧ base ≤ a.block ∧ len ≤ cap ∧ cap ≤ maxLen ∧ m = (if spare a.block then cap else len) ∧
   x = (.slice ((List.range len).map D) ((List.range (m - len)).map fun j => D (len + j)), MemPlace.row a (m * fs.size) ++ (List.range m).flatMap Pl) ∧
   ∀ i, i < m → ∃ (ys : List (DataW H × List MemPlace)) (n : Nat), D i = .agg (ys.map (·.1)) ∧ Pl i = ys.flatMap (·.2) ∧ ys.length = fs.size ∧
    ∀ (j : Nat) (f : Field), fs[j]? = some f → ∃ (v : Value) (y : DataW H × List MemPlace), w.cell? (a.add (i * fs.size + j)) = some v ∧ ys[j]? = some y ∧ DataW.trod enc P w base spare held n f.type [v] = some y := by
 rcases open_slice ht h with h0 | ⟨a, len, cap, m, n, D, Pl, hcs, hb, hl, hm, hmm, hx, hi⟩
 ·exact .inl h0
 ·refine .inr ⟨a, len, cap, m, D, Pl, hcs, hb, hl, hm, hmm, by rw [hC] at hx; exact hx, fun i him => ?_⟩
  obtain ⟨cs', hc, ht'⟩ := hi i him
  rw [hC] at hc
  obtain ⟨ys, n', hn', hy, hlen, hyl, hf⟩ := DataW.trod_struct he ht'
  obtain ⟨_, hcl, hat⟩ := World.cells?_some hc
  simp only [Prod.mk.injEq] at hy
  refine ⟨ys, n', hy.1, hy.2, hyl, fun j f hj => ?_⟩
  obtain ⟨ho, hk⟩ := hone_of hone j f hj
  have hjl : j < fs.size := (Array.getElem?_eq_some_iff.1 hj).1
  have hcell := hat j hjl
  have hv : cs'[j]? = some (cs'[j]'(by omega)) := List.getElem?_eq_getElem (by omega)
  have h1 := hf j f hj
  rw [ho, hk] at h1
  have hone' : (cs'.drop j).take 1 = [cs'[j]'(by omega)] := by
   rw [List.drop_eq_getElem_cons (by omega)]
   rfl
  rw [hone'] at h1
  have hys : ys[j]? = some (ys[j]'(by omega)) := List.getElem?_eq_getElem (by omega)
  refine ⟨_, _, ?_, hys, h1.trans hys⟩
  rw [← Go.Deep.add_add, hcell, hv]
/-- a whole number's cell, read -/
def numAt (w : World) (a : Addr) : Int := match w.cell? a with | some (.int .i64 x) => x | _ => 0
theorem numAt_eq {w : World} {a : Addr} {x : Int} (h : w.cell? a = some (.int .i64 x)) : w.cell? a = some (.int .i64 (numAt w a)) := by
 unfold numAt; rw [h]
/-- a slice of structs of two whole numbers -/
theorem open_points {t e : TypeId} {f0 f1 : Field} {a : Option Addr} {len cap : Nat} {d : DataW H} {p : List MemPlace} (ht : P.underlying t = some (.slice e)) (he : P.underlying e = some (.struct #[f0, f1]))
  (hone : oneCellFields P #[f0, f1] = true) (hC : P.cellsOf e = 2) (h0 : P.underlying f0.type = some (.int .i64)) (h1 : P.underlying f1.type = some (.int .i64))
  (h : DataW.Trod enc P w base (fun _ => true) held t (.slice a len cap) d p) : ∃ l : List S30, len = l.length ∧ Kd.C k30 w a l.length l ∧ l.length ≤ cap := by
 obtain ⟨fuel, hf⟩ := h
 rcases open_slice_fields ht he hone hC hf with ⟨hcs, _⟩ | ⟨x, l, c, m, D, Pl, hcs, _, hl, hm, hmm, _, hi⟩
 ·simp [Value.cells] at hcs
  obtain ⟨rfl, rfl, rfl⟩ := hcs
  exact ⟨[], rfl, Kd.C_nil _ _, Nat.le_refl _⟩
 ·simp [Value.cells] at hcs
  obtain ⟨rfl, rfl, rfl⟩ := hcs
  rw [if_pos rfl] at hmm
  subst hmm
  have key : ∀ i, i < len → w.cell? (x.add (i * 2)) = some (.int .i64 (numAt w (x.add (i * 2)))) ∧ w.cell? (x.add (i * 2 + 1)) = some (.int .i64 (numAt w (x.add (i * 2 + 1)))) := by
   intro i hil
   obtain ⟨ys, n, _, _, _, hfs⟩ := hi i (by omega)
   obtain ⟨v0, y0, c0, _, k0⟩ := hfs 0 f0 rfl
   obtain ⟨v1, y1, c1, _, k1⟩ := hfs 1 f1 rfl
   obtain ⟨z0, e0, _, _⟩ := DataW.trod_int h0 k0
   obtain ⟨z1, e1, _, _⟩ := DataW.trod_int h1 k1
   simp at e0 e1
   subst e0 e1
   exact ⟨numAt_eq c0, numAt_eq c1⟩
  refine ⟨(List.range len).map fun i => ⟨numAt w (x.add (i * 2)), numAt w (x.add (i * 2 + 1))⟩, by simp, ?_, by simp; exact hl⟩
  refine ⟨rfl, ?_, fun _ => ⟨x, rfl, fun j q hj => ?_⟩⟩
  ·simp only [List.length_map, List.length_range]
   have : maxLen ≤ 9223372036854775807 := by decide
   omega
  ·rw [List.getElem?_map] at hj
   obtain ⟨i, hi', rfl⟩ := Option.map_eq_some_iff.1 hj
   obtain ⟨hjl, rfl⟩ := List.getElem?_eq_some_iff.1 hi'
   simp only [List.length_range] at hjl
   simp only [List.getElem_range] at *
   obtain ⟨q0, q1⟩ := key j hjl
   refine ⟨[.int .i64 (numAt w (x.add (j * 2))), .int .i64 (numAt w (x.add (j * 2 + 1)))], rfl, k30_mk w ⟨_, _⟩, fun i u hu => ?_⟩
   match i with
   | 0 => simp at hu; subst hu; exact q0
   | 1 => simp at hu; subst hu; exact q1
   | i + 2 => simp at hu
end
end Go.Proofs.Ytcbmmhedefigeaa.X
/-! An argument that is a slice of casks: what is read from it. -/
namespace Go.Proofs.Ytcbmmhedefigeaa.X
set_option linter.unusedVariables false
set_option linter.unusedSimpArgs false
open Go.RowKit Go.Proofs.YtcbmmhedefigeaaW.PrintWords Go.Proofs.YtcbmmhedefigeaaW.PrintLast Go.Proofs.YtcbmmhedefigeaaW.PrintMore Go.ChangeShapes Go.WideShapes Go.Deep
section
variable {H : Type} {enc : TypeId × Value → H} {P : Program} {w : World} {base : Nat} {spare : Nat → Bool} {held : Bool}
theorem exists_list {α : Type} {p : Nat → α → Prop} : ∀ n, (∀ i, i < n → ∃ x, p i x) → ∃ l : List α, l.length = n ∧ ∀ i x, l[i]? = some x → p i x
 | 0, _ => ⟨[], rfl, fun i x h => by simp at h⟩
 | n + 1, h => by
  obtain ⟨l, hl, hp⟩ := exists_list n (fun i hi => h i (by omega))
  obtain ⟨x, hx⟩ := h n (by omega)
  refine ⟨l ++ [x], by simp [hl], fun i y hy => ?_⟩
  by_cases c : i < n
  ·rw [List.getElem?_append_left (by omega)] at hy
   exact hp i y hy
  ·rw [List.getElem?_append_right (by omega)] at hy
   obtain ⟨hlt, rfl⟩ := List.getElem?_eq_some_iff.1 hy
   have : i = n := by simp at hlt; omega
   subst this
   simpa using hx
/-- a slice of points among the cells of another value -/
theorem slice_points {t e : TypeId} {f0 f1 : Field} {v : Value} {fuel : Nat} {y : DataW H × List MemPlace} (ht : P.underlying t = some (.slice e)) (he : P.underlying e = some (.struct #[f0, f1]))
  (hone : oneCellFields P #[f0, f1] = true) (hC : P.cellsOf e = 2) (h0 : P.underlying f0.type = some (.int .i64)) (h1 : P.underlying f1.type = some (.int .i64))
  (h : DataW.trod enc P w base (fun _ => true) held fuel t [v] = some y) : ∃ (A : Option Addr) (l : List S30) (c : Nat), v = .slice A l.length c ∧ l.length ≤ c ∧ Kd.C k30 w A l.length l := by
 have hv : ∃ (A : Option Addr) (n c : Nat), v = .slice A n c := by
  rcases open_slice_fields ht he hone hC h with ⟨hcs, _⟩ | ⟨x, l, c, m, D, Pl, hcs, _⟩
  ·simp at hcs; exact ⟨_, _, _, hcs⟩
  ·simp at hcs; exact ⟨_, _, _, hcs⟩
 obtain ⟨A, n, c, rfl⟩ := hv
 have hT : DataW.Trod enc P w base (fun _ => true) held t (.slice A n c) y.1 y.2 := ⟨fuel, by simpa [Value.cells] using h⟩
 obtain ⟨l, e1, e2, e3⟩ := open_points ht he hone hC h0 h1 hT
 subst e1
 exact ⟨A, l, c, rfl, e3, e2⟩
/-- a slice of structs: a string, a whole number, a slice of points, a whole number -/
theorem open_casks {t e te : TypeId} {f0 f1 f2 f3 p0 p1 : Field} {a : Option Addr} {len cap : Nat} {d : DataW H} {p : List MemPlace} (ht : P.underlying t = some (.slice e)) (he : P.underlying e = some (.struct #[f0, f1, f2, f3]))
  (hone : oneCellFields P #[f0, f1, f2, f3] = true) (hC : P.cellsOf e = 4) (h0 : P.underlying f0.type = some .string) (h1 : P.underlying f1.type = some (.int .i64)) (h2 : P.underlying f2.type = some (.slice te)) (h3 : P.underlying f3.type = some (.int .i64))
  (he2 : P.underlying te = some (.struct #[p0, p1])) (hone2 : oneCellFields P #[p0, p1] = true) (hC2 : P.cellsOf te = 2) (g0 : P.underlying p0.type = some (.int .i64)) (g1 : P.underlying p1.type = some (.int .i64))
  (h : DataW.Trod enc P w base (fun _ => true) held t (.slice a len cap) d p) : ∃ l : List S40, len = l.length ∧ Kd.C k40 w a l.length l ∧ l.length ≤ cap := by
 obtain ⟨fuel, hf⟩ := h
 rcases open_slice_fields ht he hone hC hf with ⟨hcs, _⟩ | ⟨x, n, c, m, D, Pl, hcs, _, hl, hm, hmm, _, hi⟩
 ·simp [Value.cells] at hcs
  obtain ⟨rfl, rfl, rfl⟩ := hcs
  exact ⟨[], rfl, Kd.C_nil _ _, Nat.le_refl _⟩
 ·simp [Value.cells] at hcs
  obtain ⟨rfl, rfl, rfl⟩ := hcs
  rw [if_pos rfl] at hmm
  subst hmm
  have key : ∀ i, i < len → ∃ z : S40, ∃ (A : Option Addr) (cc : Nat), w.cell? (x.add (i * 4 + 0)) = some (.string z.f0) ∧ w.cell? (x.add (i * 4 + 1)) = some (.int .i64 z.f1) ∧ w.cell? (x.add (i * 4 + 2)) = some (.slice A z.f2.length cc) ∧ w.cell? (x.add (i * 4 + 3)) = some (.int .i64 z.f3) ∧ z.f2.length ≤ cc ∧ Kd.C k30 w A z.f2.length z.f2 := by
   intro i hil
   obtain ⟨ys, nn, _, _, _, hfs⟩ := hi i (by omega)
   obtain ⟨v0, y0, c0, _, k0⟩ := hfs 0 f0 rfl
   obtain ⟨v1, y1, c1, _, k1⟩ := hfs 1 f1 rfl
   obtain ⟨v2, y2, c2, _, k2⟩ := hfs 2 f2 rfl
   obtain ⟨v3, y3, c3, _, k3⟩ := hfs 3 f3 rfl
   obtain ⟨z0, e0, _⟩ := DataW.trod_string h0 k0
   obtain ⟨z1, e1, _, _⟩ := DataW.trod_int h1 k1
   obtain ⟨z3, e3, _, _⟩ := DataW.trod_int h3 k3
   obtain ⟨A, lp, cp, rfl, hlp, hkp⟩ := slice_points h2 he2 hone2 hC2 g0 g1 k2
   simp at e0 e1 e3
   subst e0 e1 e3
   exact ⟨⟨z0, z1, lp, z3⟩, A, cp, c0, c1, c2, c3, hlp, hkp⟩
  obtain ⟨l, hll, hp⟩ := exists_list len key
  refine ⟨l, hll.symm, ⟨rfl, ?_, fun _ => ⟨x, rfl, fun j q hj => ?_⟩⟩, by omega⟩
  ·have : maxLen ≤ 9223372036854775807 := by decide
   omega
  ·obtain ⟨A, cc, c0, c1, c2, c3, hlp, hkp⟩ := hp j q hj
   refine ⟨[.string q.f0, .int .i64 q.f1, .slice A q.f2.length cc, .int .i64 q.f3], rfl, k40_mk w q hlp hkp, fun i u hu => ?_⟩
   match i with
   | 0 => simp at hu; subst hu; exact c0
   | 1 => simp at hu; subst hu; exact c1
   | 2 => simp at hu; subst hu; exact c2
   | 3 => simp at hu; subst hu; exact c3
   | i + 4 => simp at hu
end
end Go.Proofs.Ytcbmmhedefigeaa.X
/-! Fractions rounded down and up, and heights on a straight line, in plain numbers. -/
namespace Go.Proofs.Ytcbmmhedefigeaa.Ln
set_option linter.unusedVariables false
set_option linter.unusedSimpArgs false
open Go.RowKit
theorem wid {x : Int} (h : -9223372036854775808 ≤ x) (h2 : x < 9223372036854775808) : wrap64 x = x := by unfold wrap64; omega
/-- rounded down, and up -/
def fl (n h : Int) : Int := n / h
def ce (n h : Int) : Int := (n + h - 1) / h
theorem le_fl {n h m : Int} (hh : 0 < h) : m ≤ fl n h ↔ m * h ≤ n := Int.le_ediv_iff_mul_le hh
theorem ce_le {n h m : Int} (hh : 0 < h) : ce n h ≤ m ↔ n ≤ m * h := by
 unfold ce
 have := @Int.le_ediv_iff_mul_le (m + 1) (n + h - 1) h hh
 rw [show (m + 1) * h = m * h + h by grind] at this
 omega
theorem fl_lt {n h m : Int} (hh : 0 < h) : fl n h < m ↔ n < m * h := by
 have := @le_fl n h m hh
 omega
theorem lt_ce {n h m : Int} (hh : 0 < h) : m < ce n h ↔ m * h < n := by
 have := @ce_le n h m hh
 omega
theorem fl_spec {n h : Int} (hh : 0 < h) : fl n h * h ≤ n := (le_fl hh).1 (Int.le_refl _)
theorem ce_spec {n h : Int} (hh : 0 < h) : n ≤ ce n h * h := (ce_le hh).1 (Int.le_refl _)
theorem fl_le_ce {n h : Int} (hh : 0 < h) : fl n h ≤ ce n h := by
 have a := fl_spec (n := n) hh
 have b := ce_spec (n := n) hh
 exact Int.le_of_mul_le_mul_right (Int.le_trans a b) hh
theorem ce_le_fl {n h : Int} (hh : 0 < h) : ce n h ≤ fl n h + 1 := by
 rw [ce_le hh]
 exact Int.le_of_lt ((fl_lt hh).1 (by omega))
theorem fl_mono {n1 h1 n2 h2 : Int} (p1 : 0 < h1) (p2 : 0 < h2) (h : n1 * h2 ≤ n2 * h1) : fl n1 h1 ≤ fl n2 h2 := by
 rw [le_fl p2]
 have a := Int.mul_le_mul_of_nonneg_right (fl_spec (n := n1) p1) (Int.le_of_lt p2)
 refine Int.le_of_mul_le_mul_right (a := h1) ?_ p1
 have : fl n1 h1 * h2 * h1 = fl n1 h1 * h1 * h2 := by grind
 omega
theorem ce_mono {n1 h1 n2 h2 : Int} (p1 : 0 < h1) (p2 : 0 < h2) (h : n1 * h2 ≤ n2 * h1) : ce n1 h1 ≤ ce n2 h2 := by
 rw [ce_le p1]
 have a := Int.mul_le_mul_of_nonneg_right (ce_spec (n := n2) p2) (Int.le_of_lt p1)
 refine Int.le_of_mul_le_mul_right (a := h2) ?_ p2
 have : ce n2 h2 * h2 * h1 = ce n2 h2 * h1 * h2 := by grind
 omega
theorem fl_same {n1 h1 n2 h2 : Int} (p1 : 0 < h1) (p2 : 0 < h2) (h : n1 * h2 = n2 * h1) : fl n1 h1 = fl n2 h2 :=
 Int.le_antisymm (fl_mono p1 p2 (by omega)) (fl_mono p2 p1 (by omega))
theorem ce_same {n1 h1 n2 h2 : Int} (p1 : 0 < h1) (p2 : 0 < h2) (h : n1 * h2 = n2 * h1) : ce n1 h1 = ce n2 h2 :=
 Int.le_antisymm (ce_mono p1 p2 (by omega)) (ce_mono p2 p1 (by omega))
theorem fl_sub {n h s : Int} (hh : 0 < h) : fl (n - s * h) h = fl n h - s := by
 have a : ∀ m, m ≤ fl (n - s * h) h ↔ m + s ≤ fl n h := fun m => by
  rw [le_fl hh, le_fl hh, show (m + s) * h = m * h + s * h by grind]; omega
 have b := a (fl (n - s * h) h)
 have c := a (fl n h - s)
 omega
theorem ce_sub {n h s : Int} (hh : 0 < h) : ce (n - s * h) h = ce n h - s := by
 have a : ∀ m, ce (n - s * h) h ≤ m ↔ ce n h ≤ m + s := fun m => by
  rw [ce_le hh, ce_le hh, show (m + s) * h = m * h + s * h by grind]; omega
 have b := a (ce (n - s * h) h)
 have c := a (ce n h - s)
 omega
theorem fl_whole {m h : Int} (hh : 0 < h) : fl (m * h) h = m := Int.mul_ediv_cancel _ (by omega)
theorem ce_whole {m h : Int} (hh : 0 < h) : ce (m * h) h = m := by
 have a := @ce_le (m * h) h m hh
 have b := @lt_ce (m * h) h (m - 1) hh
 rw [show (m - 1) * h = m * h - h by grind] at b
 omega
/-- a fraction that is whole -/
theorem fl_eq_ce {n h : Int} (hh : 0 < h) (e : fl n h = ce n h) : n = fl n h * h := by
 have a := fl_spec (n := n) hh
 have b := ce_spec (n := n) hh
 rw [← e] at b
 omega
end Go.Proofs.Ytcbmmhedefigeaa.Ln
/-! Profiles, in plain numbers: what a right one is, and the radius anywhere. -/
namespace Go.Proofs.Ytcbmmhedefigeaa.Prf
set_option linter.unusedVariables false
set_option linter.unusedSimpArgs false
open Go.RowKit Go.Proofs.Ytcbmmhedefigeaa.X Go.Proofs.Ytcbmmhedefigeaa.It Go.Proofs.Ytcbmmhedefigeaa.Ln
def X (l : List S30) (i : Nat) : Int := (l[i]?.getD z30).f0
def R (l : List S30) (i : Nat) : Int := (l[i]?.getD z30).f1
structure Ok (l : List S30) : Prop where
 len2 : 2 ≤ l.length
 len32 : l.length ≤ 32
 x0 : ∀ i, i < l.length → 0 ≤ X l i
 x1 : ∀ i, i < l.length → X l i ≤ 100000
 r0 : ∀ i, i < l.length → 1 ≤ R l i
 r1 : ∀ i, i < l.length → R l i ≤ 100000
 zero : X l 0 = 0
 inc : ∀ i, i + 1 < l.length → X l i < X l (i + 1)
 uni : ∀ i j, i < j → j + 1 < l.length → R l (i + 1) < R l i → R l (j + 1) ≤ R l j
theorem getD_mem {l : List S30} {i : Nat} (h : i < l.length) : l[i]?.getD z30 ∈ l := by
 rw [List.getElem?_eq_getElem h]; exact List.getElem_mem h
theorem mem_getD {l : List S30} {z : S30} (h : z ∈ l) : ∃ i, i < l.length ∧ l[i]?.getD z30 = z := by
 obtain ⟨i, hi, rfl⟩ := List.mem_iff_getElem.1 h
 exact ⟨i, hi, by rw [List.getElem?_eq_getElem hi]; rfl⟩
theorem any_idx (p : S30 → Bool) (l : List S30) : l.any p = true ↔ ∃ i, i < l.length ∧ p (l[i]?.getD z30) = true := by
 rw [List.any_eq_true]
 constructor
 ·rintro ⟨z, hz, hp⟩
  obtain ⟨i, hi, rfl⟩ := mem_getD hz
  exact ⟨i, hi, hp⟩
 ·rintro ⟨i, hi, hp⟩
  exact ⟨_, getD_mem hi, hp⟩
theorem all_idx (p : S30 × S30 → Bool) (l : List S30) (m : Nat) : (upto (nb l) m).all p = true ↔ ∀ i, i < m → p (nb l i) = true := by
 rw [List.all_eq_true]
 constructor
 ·intro h i hi
  exact h _ (List.mem_map.2 ⟨i, List.mem_range.2 hi, rfl⟩)
 ·intro h z hz
  obtain ⟨i, hi, rfl⟩ := List.mem_map.1 hz
  exact h i (List.mem_range.1 hi)
theorem st_idx (l : List S30) : ∀ m, ((st (upto (nb l) m)).2 = true ↔ ∃ i, i < m ∧ R l (i + 1) < R l i) ∧ ((st (upto (nb l) m)).1 = true ↔ ∃ i j, i < j ∧ j < m ∧ R l (i + 1) < R l i ∧ R l j < R l (j + 1))
 | 0 => by
  constructor
  ·constructor
   ·intro h; simp [upto, st] at h
   ·rintro ⟨i, hi, _⟩; omega
  ·constructor
   ·intro h; simp [upto, st] at h
   ·rintro ⟨i, j, _, hi, _⟩; omega
 | m + 1 => by
  obtain ⟨h2, h1⟩ := st_idx l m
  rw [upto_succ, st_snoc]
  have e2 : (Go.Proofs.Ytcbmmhedefigeaa.X.step (st (upto (nb l) m)) (nb l m)).2 = true ↔ (st (upto (nb l) m)).2 = true ∨ R l (m + 1) < R l m := by
   simp only [Go.Proofs.Ytcbmmhedefigeaa.X.step, Bool.or_eq_true, decide_eq_true_eq]; rfl
  have e1 : (Go.Proofs.Ytcbmmhedefigeaa.X.step (st (upto (nb l) m)) (nb l m)).1 = true ↔ (st (upto (nb l) m)).1 = true ∨ ((st (upto (nb l) m)).2 = true ∧ R l m < R l (m + 1)) := by
   simp only [Go.Proofs.Ytcbmmhedefigeaa.X.step, Bool.or_eq_true, Bool.and_eq_true, decide_eq_true_eq]; rfl
  constructor
  ·rw [e2, h2]
   constructor
   ·rintro (⟨i, hi, h⟩ | h)
    ·exact ⟨i, by omega, h⟩
    ·exact ⟨m, by omega, h⟩
   ·rintro ⟨i, hi, h⟩
    by_cases e : i = m
    ·subst e; exact .inr h
    ·exact .inl ⟨i, by omega, h⟩
  ·rw [e1, h1, h2]
   constructor
   ·rintro (⟨i, j, hij, hj, h, h'⟩ | ⟨⟨i, hi, h⟩, h'⟩)
    ·exact ⟨i, j, hij, by omega, h, h'⟩
    ·exact ⟨i, m, hi, by omega, h, h'⟩
   ·rintro ⟨i, j, hij, hj, h, h'⟩
    by_cases e : j = m
    ·subst e; exact .inr ⟨⟨i, hij, h⟩, h'⟩
    ·exact .inl ⟨i, j, hij, by omega, h, h'⟩
theorem far_idx (l : List S30) (i : Nat) : far (l[i]?.getD z30) = true ↔ ¬ (0 ≤ X l i ∧ X l i ≤ 100000 ∧ 0 ≤ R l i ∧ R l i ≤ 100000) := by
 unfold far meas X R
 simp only [Bool.not_eq_true', Bool.and_eq_false_iff, decide_eq_false_iff_not]
 omega
theorem sCheck_ok {l : List S30} (h : sCheck l = 0) : Ok l := by
 unfold sCheck at h
 by_cases h1 : l.length < 2
 ·rw [if_pos h1] at h; cases h
 rw [if_neg h1] at h
 by_cases h2 : 32 < l.length
 ·rw [if_pos h2] at h; cases h
 rw [if_neg h2] at h
 by_cases h3 : l.any far = true
 ·rw [if_pos h3] at h; cases h
 rw [if_neg h3] at h
 by_cases h4 : (l[0]?.getD z30).f0 ≠ 0
 ·rw [if_pos h4] at h; cases h
 rw [if_neg h4] at h
 by_cases h5 : (upto (nb l) (l.length - 1)).all along = false
 ·rw [if_pos h5] at h; cases h
 rw [if_neg h5] at h
 by_cases h6 : l.any flat = true
 ·rw [if_pos h6] at h; cases h
 rw [if_neg h6] at h
 by_cases h7 : (st (upto (nb l) (l.length - 1))).1 = true
 ·rw [if_pos h7] at h; cases h
 have g3 : ∀ i, i < l.length → 0 ≤ X l i ∧ X l i ≤ 100000 ∧ 0 ≤ R l i ∧ R l i ≤ 100000 := by
  intro i hi
  by_cases c : far (l[i]?.getD z30) = true
  ·exact absurd ((any_idx far l).2 ⟨i, hi, c⟩) h3
  ·rw [far_idx] at c; exact Decidable.of_not_not c
 have g6 : ∀ i, i < l.length → R l i ≠ 0 := by
  intro i hi c
  exact h6 ((any_idx flat l).2 ⟨i, hi, by simpa [flat, R] using c⟩)
 have g5 := (all_idx along l (l.length - 1)).1 (by simpa using h5)
 refine ⟨by omega, by omega, fun i hi => (g3 i hi).1, fun i hi => (g3 i hi).2.1, fun i hi => ?_, fun i hi => (g3 i hi).2.2.2, by unfold X; simpa using h4, fun i hi => ?_, fun i j hij hj hf => ?_⟩
 ·have := g3 i hi; have := g6 i hi; omega
 ·exact of_decide_eq_true (g5 i (by omega))
 ·have := mt ((st_idx l (l.length - 1)).2.2) h7
  have : ¬ (R l j < R l (j + 1)) := fun c => this ⟨i, j, hij, by omega, hf, c⟩
  omega
theorem ok_sCheck {l : List S30} (h : Ok l) : sCheck l = 0 := by
 obtain ⟨a1, a2, a3, a4, a5, a6, a7, a8, a9⟩ := h
 unfold sCheck
 rw [if_neg (by omega), if_neg (by omega), if_neg, if_neg, if_neg, if_neg, if_neg]
 ·rw [(st_idx l (l.length - 1)).2]
  rintro ⟨i, j, hij, hj, h1, h2⟩
  have := a9 i j hij (by omega) h1
  omega
 ·rw [any_idx]
  rintro ⟨i, hi, c⟩
  have := a5 i hi
  have : R l i = 0 := by simpa [flat, R] using c
  omega
 ·rw [Bool.not_eq_false, all_idx]
  intro i hi
  exact decide_eq_true (a8 i (by omega))
 ·simpa [X] using a7
 ·rw [any_idx]
  rintro ⟨i, hi, c⟩
  rw [far_idx] at c
  have := a3 i hi; have := a4 i hi; have := a5 i hi; have := a6 i hi
  omega
theorem Ok.lt {l : List S30} (h : Ok l) {i j : Nat} (hij : i < j) (hj : j < l.length) : X l i < X l j := by
 obtain ⟨d, rfl⟩ := Nat.le.dest hij
 induction d with
 | zero => exact h.inc i (by omega)
 | succ d ih => exact Int.lt_trans (ih (by omega) (by omega)) (h.inc (i + 1 + d) (by omega))
theorem Ok.le {l : List S30} (h : Ok l) {i j : Nat} (hij : i ≤ j) (hj : j < l.length) : X l i ≤ X l j := by
 rcases Nat.lt_or_eq_of_le hij with g | rfl
 ·exact Int.le_of_lt (h.lt g hj)
 ·exact Int.le_refl _
theorem Ok.idx_lt {l : List S30} (h : Ok l) {i j : Nat} (hi : i < l.length) (hx : X l i < X l j) : i < j := by
 rcases Nat.lt_or_ge i j with g | g
 ·exact g
 ·have := h.le g hi; omega
theorem Ok.apart {l : List S30} (h : Ok l) : (upto (nb l) (l.length - 1)).all apart = true := by
 rw [all_idx]
 intro i hi
 have := h.inc i (by omega)
 have := h.x0 i (by omega)
 have := h.x1 (i + 1) (by omega)
 show (wrap64 (X l (i + 1) - X l i) != 0) = true
 rw [wid (by omega) (by omega)]
 simp; omega
theorem Ok.at_f {l : List S30} (h : Ok l) (x : Int) : profile_at.f l x = some (sAt l x) := by
 unfold profile_at.f
 rw [if_pos (by have := h.len32; omega), if_pos h.apart]
theorem mul_bound {a b A B : Int} (h0 : 0 ≤ a) (h1 : a ≤ A) (g0 : 0 ≤ b) (g1 : b ≤ B) : 0 ≤ a * b ∧ a * b ≤ A * B :=
 ⟨Int.mul_nonneg h0 g0, Int.mul_le_mul h1 g1 g0 (by omega)⟩
theorem tdivE {a b : Int} (h : 0 ≤ a) : Int.tdiv a b = a / b := Int.tdiv_eq_ediv_of_nonneg h
def last (l : List S30) : Int := X l (l.length - 1)
end Go.Proofs.Ytcbmmhedefigeaa.Prf
/-! What the functions of a profile come to, in plain numbers. -/
namespace Go.Proofs.Ytcbmmhedefigeaa.Prf
set_option linter.unusedVariables false
set_option linter.unusedSimpArgs false
open Go.RowKit Go.Proofs.Ytcbmmhedefigeaa.X Go.Proofs.Ytcbmmhedefigeaa.It Go.Proofs.Ytcbmmhedefigeaa.Ln
theorem rdX (l : List S30) (i : Nat) : (rd_T30 l (i : Int)).f0 = X l i := rfl
theorem rdR (l : List S30) (i : Nat) : (rd_T30 l (i : Int)).f1 = R l i := rfl
theorem rdP (l : List S30) (i : Nat) : rd_T30 l (i : Int) = l[i]?.getD z30 := rfl
theorem wsucc {i : Nat} (h : i ≤ 100) : wrap64 ((i : Int) + 1) = ((i + 1 : Nat) : Int) := by rw [wid (by omega) (by omega)]; omega
theorem wpred {i : Nat} (h0 : 1 ≤ i) (h : i ≤ 100) : wrap64 ((i : Int) - 1) = ((i - 1 : Nat) : Int) := by rw [wid (by omega) (by omega)]; omega
theorem ext_getD {a b : List S30} (h : a.length = b.length) (g : ∀ j, j < a.length → a[j]?.getD z30 = b[j]?.getD z30) : a = b := by
 refine List.ext_getElem h fun j h1 h2 => ?_
 have := g j h1
 rw [List.getElem?_eq_getElem h1, List.getElem?_eq_getElem h2] at this
 exact this
theorem set_getD (l : List S30) (i : Nat) (z : S30) (hi : i < l.length) (j : Nat) : (l.set i z)[j]?.getD z30 = if j = i then z else l[j]?.getD z30 := by
 rw [List.getElem?_set]
 by_cases c : i = j
 ·subst c; simp [hi]
 ·rw [if_neg c, if_neg (fun e => c e.symm)]
theorem clone_f (l : List S30) (h : l.length ≤ 40) : api_Point_13.f l = some l := by unfold api_Point_13.f; rw [if_pos (by omega)]
theorem check_f (l : List S30) : profile_Check.f l = some (sCheck l) := rfl
theorem length_f {l : List S30} (h1 : 1 ≤ l.length) (h : l.length ≤ 100) : profile_length.f l = some (last l) := by
 unfold profile_length.f
 rw [wpred h1 h, if_pos (by omega), if_pos (by omega)]
 rfl
theorem few_f (l : List S30) : spileref08_Few.f l = some (decide ((l.length : Int) ≤ 33)) := rfl
end Go.Proofs.Ytcbmmhedefigeaa.Prf
/-! Sums of frustums, in plain numbers. -/
namespace Go.Proofs.Ytcbmmhedefigeaa.Prf
set_option linter.unusedVariables false
set_option linter.unusedSimpArgs false
open Go.RowKit Go.Proofs.Ytcbmmhedefigeaa.X Go.Proofs.Ytcbmmhedefigeaa.It Go.Proofs.Ytcbmmhedefigeaa.Ln
/-- a frustum -/
def fq (h a b : Int) : Int := h * (a * a + a * b + b * b)
def fr (l : List S30) (i : Nat) : Int := fq (X l (i + 1) - X l i) (R l i) (R l (i + 1))
/-- the sum of the first m -/
def sm (l : List S30) : Nat → Int
 | 0 => 0
 | m + 1 => sm l m + fr l m
def sum (l : List S30) : Int := sm l (l.length - 1)
theorem sq_bound {a b M : Int} (a0 : 0 ≤ a) (a1 : a ≤ M) (b0 : 0 ≤ b) (b1 : b ≤ M) : 0 ≤ a * a + a * b + b * b ∧ a * a + a * b + b * b ≤ 3 * (M * M) := by
 have m1 := mul_bound a0 a1 a0 a1
 have m2 := mul_bound a0 a1 b0 b1
 have m3 := mul_bound b0 b1 b0 b1
 omega
theorem fq_bound {h a b M : Int} (h0 : 0 ≤ h) (a0 : 0 ≤ a) (a1 : a ≤ M) (b0 : 0 ≤ b) (b1 : b ≤ M) : 0 ≤ fq h a b ∧ fq h a b ≤ h * (3 * (M * M)) := by
 have q := sq_bound a0 a1 b0 b1
 exact ⟨Int.mul_nonneg h0 q.1, Int.mul_le_mul_of_nonneg_left q.2 h0⟩
theorem sq_least {a b M : Int} (M0 : 0 ≤ M) (a0 : M ≤ a) (b0 : M ≤ b) : 3 * (M * M) ≤ a * a + a * b + b * b := by
 have m1 := Int.mul_le_mul a0 a0 M0 (by omega)
 have m2 := Int.mul_le_mul a0 b0 M0 (by omega)
 have m3 := Int.mul_le_mul b0 b0 M0 (by omega)
 omega
theorem fq_least {h a b M : Int} (h0 : 0 ≤ h) (M0 : 0 ≤ M) (a0 : M ≤ a) (b0 : M ≤ b) : h * (3 * (M * M)) ≤ fq h a b :=
 Int.mul_le_mul_of_nonneg_left (sq_least M0 a0 b0) h0
theorem sm_bound {l : List S30} (h : Ok l) {M : Int} (hM : ∀ i, i < l.length → R l i ≤ M) : ∀ m, m < l.length → 0 ≤ sm l m ∧ sm l m ≤ X l m * (3 * (M * M))
 | 0, _ => by
  show (0 : Int) ≤ 0 ∧ (0 : Int) ≤ _
  rw [h.zero]; simp
 | m + 1, hm => by
  have ih := sm_bound h hM m (by omega)
  have hx := h.inc m hm
  have q := fq_bound (h := X l (m + 1) - X l m) (a := R l m) (b := R l (m + 1)) (M := M) (by omega) (by have := h.r0 m (by omega); omega) (hM m (by omega)) (by have := h.r0 (m + 1) hm; omega) (hM (m + 1) hm)
  have e : X l (m + 1) * (3 * (M * M)) = X l m * (3 * (M * M)) + (X l (m + 1) - X l m) * (3 * (M * M)) := by grind
  have e2 : sm l (m + 1) = sm l m + fq (X l (m + 1) - X l m) (R l m) (R l (m + 1)) := rfl
  omega
theorem sm_least {l : List S30} (h : Ok l) {M : Int} (M0 : 0 ≤ M) (hM : ∀ i, i < l.length → M ≤ R l i) : ∀ m, m < l.length → X l m * (3 * (M * M)) ≤ sm l m
 | 0, _ => by
  show _ ≤ (0 : Int)
  rw [h.zero]; simp
 | m + 1, hm => by
  have ih := sm_least h M0 hM m (by omega)
  have hx := h.inc m hm
  have q := fq_least (h := X l (m + 1) - X l m) (a := R l m) (b := R l (m + 1)) (M := M) (by omega) M0 (hM m (by omega)) (hM (m + 1) hm)
  have e : X l (m + 1) * (3 * (M * M)) = X l m * (3 * (M * M)) + (X l (m + 1) - X l m) * (3 * (M * M)) := by grind
  have e2 : sm l (m + 1) = sm l m + fq (X l (m + 1) - X l m) (R l m) (R l (m + 1)) := rfl
  omega
theorem Ok.sm_top {l : List S30} (h : Ok l) {m : Nat} (hm : m < l.length) : 0 ≤ sm l m ∧ sm l m ≤ 3000000000000000 := by
 have := sm_bound h (M := 100000) h.r1 m hm
 have := h.x1 m hm
 have := h.x0 m hm
 have e : X l m * (3 * (100000 * 100000)) ≤ 100000 * (3 * (100000 * 100000)) := Int.mul_le_mul_of_nonneg_right (by omega) (by decide)
 omega
theorem Ok.sum_top {l : List S30} (h : Ok l) : 0 ≤ sum l ∧ sum l ≤ 3000000000000000 := h.sm_top (by have := h.len2; omega)
theorem fru_eq {l : List S30} (h : Ok l) {i : Nat} (hi : i + 1 < l.length) : fru (sm l i) (wrap64 (X l (i + 1) - X l i)) (R l i) (R l (i + 1)) = sm l (i + 1) := by
 have t0 := h.sm_top (m := i) (by omega)
 have t1 := h.sm_top hi
 have hx := h.inc i hi
 have p0 := h.x0 i (by omega)
 have p1 := h.x1 (i + 1) hi
 have a0 := h.r0 i (by omega); have a1 := h.r1 i (by omega); have b0 := h.r0 (i + 1) hi; have b1 := h.r1 (i + 1) hi
 have m1 := mul_bound (a := R l i) (b := R l i) (A := 100000) (B := 100000) (by omega) a1 (by omega) a1
 have m2 := mul_bound (a := R l i) (b := R l (i + 1)) (A := 100000) (B := 100000) (by omega) a1 (by omega) b1
 have m3 := mul_bound (a := R l (i + 1)) (b := R l (i + 1)) (A := 100000) (B := 100000) (by omega) b1 (by omega) b1
 have q := fq_bound (h := X l (i + 1) - X l i) (a := R l i) (b := R l (i + 1)) (M := 100000) (by omega) (by omega) a1 (by omega) b1
 have e : sm l (i + 1) = sm l i + (X l (i + 1) - X l i) * (R l i * R l i + R l i * R l (i + 1) + R l (i + 1) * R l (i + 1)) := rfl
 have q1 : fq (X l (i + 1) - X l i) (R l i) (R l (i + 1)) = (X l (i + 1) - X l i) * (R l i * R l i + R l i * R l (i + 1) + R l (i + 1) * R l (i + 1)) := rfl
 rw [q1] at q
 unfold fru
 rw [wid (x := X l (i + 1) - X l i) (by omega) (by omega), wid (x := R l i * R l i) (by omega) (by omega), wid (x := R l i * R l (i + 1)) (by omega) (by omega), wid (x := R l (i + 1) * R l (i + 1)) (by omega) (by omega),
  wid (x := R l i * R l i + R l i * R l (i + 1)) (by omega) (by omega), wid (x := R l i * R l i + R l i * R l (i + 1) + R l (i + 1) * R l (i + 1)) (by omega) (by omega)]
 rw [wid (x := (X l (i + 1) - X l i) * (R l i * R l i + R l i * R l (i + 1) + R l (i + 1) * R l (i + 1))) (by omega) (by omega), wid (by omega) (by omega), e]
theorem fru_loop {l : List S30} (h : Ok l) : ∀ d i k, i + d = l.length → d < k → 1 ≤ i → capacity_Frustums.l0 k l (i : Int) (sm l (i - 1)) = some (sum l, 0)
 | 0, i, k, hd, hk, h1 => by
  obtain ⟨k, rfl⟩ : ∃ m, k = m + 1 := ⟨k - 1, by omega⟩
  simp only [capacity_Frustums.l0]
  rw [if_neg (by omega), show i - 1 = l.length - 1 by omega]; rfl
 | d + 1, i, k, hd, hk, h1 => by
  obtain ⟨k, rfl⟩ : ∃ m, k = m + 1 := ⟨k - 1, by omega⟩
  have l32 := h.len32
  simp only [capacity_Frustums.l0]
  rw [if_pos (by omega), if_pos (by omega), wpred h1 (by omega), if_pos (by omega), if_pos (by omega), rdX, rdX, rdR, rdR, wsucc (by omega)]
  have e := fru_eq h (i := i - 1) (by omega)
  rw [show i - 1 + 1 = i by omega] at e
  rw [e]
  exact fru_loop h d (i + 1) k (by omega) (by omega) (by omega)
theorem Fru_ok {l : List S30} (h : Ok l) {k : Nat} (hk : 50 ≤ k) : capacity_Frustums.f k l = some (sum l, 0) := by
 have := h.len2; have := h.len32
 unfold capacity_Frustums.f
 rw [check_f, Option.bind_some, if_pos (ok_sCheck h)]
 exact fru_loop h (l.length - 1) 1 k (by omega) (by omega) (by omega)
theorem Fru_bad {l : List S30} (h : sCheck l ≠ 0) (k : Nat) : capacity_Frustums.f k l = some (0, sCheck l) := by
 unfold capacity_Frustums.f
 rw [check_f, Option.bind_some, if_neg h]
/-- the bounds of a space -/
def lowS (s : Int) : Int := s * 333 / 318
def highS (s : Int) : Int := (s * 355 + 338) / 339
theorem Space_ok {l : List S30} (h : Ok l) {k : Nat} (hk : 50 ≤ k) : capacity_Space.f k l = some (lowS (sum l), highS (sum l), 0) := by
 have := h.sum_top
 unfold capacity_Space.f
 rw [Fru_ok h hk, Option.bind_some, if_pos rfl]
 simp only []
 rw [wid (x := sum l * 333) (by omega) (by omega), wid (x := sum l * 355) (by omega) (by omega), wid (x := sum l * 355 + 338) (by omega) (by omega), tdivE (by omega), tdivE (by omega), wid (x := sum l * 333 / 318) (by omega) (by omega), wid (x := (sum l * 355 + 338) / 339) (by omega) (by omega)]
 rfl
theorem Space_bad {l : List S30} (h : sCheck l ≠ 0) (k : Nat) : capacity_Space.f k l = some (0, 0, sCheck l) := by
 unfold capacity_Space.f
 rw [Fru_bad h, Option.bind_some, if_neg h]
theorem low_high {s : Int} (h : 0 ≤ s) : lowS s ≤ highS s := by unfold lowS highS; omega
theorem low_mono {s t : Int} (h : s ≤ t) : lowS s ≤ lowS t := by unfold lowS; omega
theorem high_mono {s t : Int} (h : s ≤ t) : highS s ≤ highS t := by unfold highS; omega
end Go.Proofs.Ytcbmmhedefigeaa.Prf
/-! What the reference's check, length and bung come to: the same. -/
namespace Go.Proofs.Ytcbmmhedefigeaa.Prf
set_option linter.unusedVariables false
set_option linter.unusedSimpArgs false
open Go.RowKit Go.Proofs.Ytcbmmhedefigeaa.X Go.Proofs.Ytcbmmhedefigeaa.It Go.Proofs.Ytcbmmhedefigeaa.Ln
theorem isLength_f (n : Int) : spileref08_isLength.f n = some (meas n) := by
 unfold spileref08_isLength.f meas
 by_cases h : n ≥ 0
 ·rw [if_pos h]; simp [show 0 ≤ n from h]
 ·rw [if_neg h]; simp; omega
theorem ref3 {l : List S30} (hl : l.length ≤ 32) : ∀ d i k (x6 : Bool), i + d = l.length → d < k → 1 ≤ i → st (upto (nb l) (i - 1)) = (false, x6) →
  spileref08_Check.l3 k l x6 (i : Int) = some (if (st (upto (nb l) (l.length - 1))).1 = true then 10 else 0)
 | 0, i, k, x6, hd, hk, h1, hs => by
  obtain ⟨k, rfl⟩ : ∃ m, k = m + 1 := ⟨k - 1, by omega⟩
  simp only [spileref08_Check.l3]
  rw [if_neg (by omega), show l.length - 1 = i - 1 by omega, hs, if_neg (by simp)]
 | d + 1, i, k, x6, hd, hk, h1, hs => by
  obtain ⟨k, rfl⟩ : ∃ m, k = m + 1 := ⟨k - 1, by omega⟩
  have e : st (upto (nb l) i) = Go.Proofs.Ytcbmmhedefigeaa.X.step (false, x6) (nb l (i - 1)) := by
   have := st_snoc (upto (nb l) (i - 1)) (nb l (i - 1))
   rw [← upto_succ, show i - 1 + 1 = i by omega, hs] at this
   exact this
  have e1 : (nb l (i - 1)).1.f1 = R l (i - 1) := rfl
  have e2 : (nb l (i - 1)).2.f1 = R l i := by show R l (i - 1 + 1) = _; rw [show i - 1 + 1 = i by omega]
  unfold Go.Proofs.Ytcbmmhedefigeaa.X.step at e
  rw [e1, e2] at e
  simp only [spileref08_Check.l3]
  rw [if_pos (by omega), wpred (by omega) (by omega), rdR, rdR, wsucc (by omega)]
  cases x6 with
  | true =>
   rw [if_pos rfl, if_pos (by omega), if_pos (by omega), if_pos (by omega)]
   by_cases c : R l i > R l (i - 1)
   ·rw [if_pos c]
    have hb : (st (upto (nb l) i)).1 = true := by rw [e]; simpa using c
    obtain ⟨r, hr⟩ := upto_prefix (nb l) i (l.length - 1) (by omega)
    rw [hr, if_pos (st_bad _ _ hb)]
   ·rw [if_neg c]
    refine ref3 hl d (i + 1) k true (by omega) (by omega) (by omega) ?_
    rw [Nat.add_sub_cancel, e]
    simp; omega
  | false =>
   rw [if_neg (by simp), if_pos (by omega), if_pos (by omega), if_pos (by omega)]
   refine ref3 hl d (i + 1) k _ (by omega) (by omega) (by omega) ?_
   rw [Nat.add_sub_cancel, e]
   simp
theorem ref2 {l : List S30} (h2 : 2 ≤ l.length) (hl : l.length ≤ 32) : ∀ d i k, i + d = l.length → d + l.length < k → (∀ j, j < i → R l j ≠ 0) →
  spileref08_Check.l2 k l (i : Int) = some (if l.any flat = true then 16 else if (st (upto (nb l) (l.length - 1))).1 = true then 10 else 0)
 | 0, i, k, hd, hk, hz => by
  obtain ⟨k, rfl⟩ : ∃ m, k = m + 1 := ⟨k - 1, by omega⟩
  simp only [spileref08_Check.l2]
  rw [if_neg (by omega), if_neg]
  ·exact ref3 hl (l.length - 1) 1 k false (by omega) (by omega) (by omega) rfl
  ·rw [any_idx]
   rintro ⟨j, hj, c⟩
   exact hz j (by omega) (by simpa [flat, R] using c)
 | d + 1, i, k, hd, hk, hz => by
  obtain ⟨k, rfl⟩ : ∃ m, k = m + 1 := ⟨k - 1, by omega⟩
  simp only [spileref08_Check.l2]
  rw [if_pos (by omega), if_pos (by omega), rdR, wsucc (by omega)]
  by_cases c : R l i = 0
  ·rw [if_pos c, if_pos]
   rw [any_idx]
   exact ⟨i, by omega, by simpa [flat, R] using c⟩
  ·rw [if_neg c]
   refine ref2 h2 hl d (i + 1) k (by omega) (by omega) fun j hj => ?_
   by_cases e : j = i
   ·subst e; exact c
   ·exact hz j (by omega)
def rest1 (l : List S30) : Int := if X l 0 ≠ 0 then 5 else if (upto (nb l) (l.length - 1)).all along = false then 5 else if l.any flat = true then 16 else if (st (upto (nb l) (l.length - 1))).1 = true then 10 else 0
theorem ref1 {l : List S30} (h2 : 2 ≤ l.length) (hl : l.length ≤ 32) : ∀ d i k, i + d = l.length → d + 2 * l.length + 1 < k → (0 < i → X l 0 = 0) → (∀ j, j + 1 < i → X l j < X l (j + 1)) →
  spileref08_Check.l1 k l (i : Int) = some (rest1 l)
 | 0, i, k, hd, hk, hz, ha => by
  obtain ⟨k, rfl⟩ : ∃ m, k = m + 1 := ⟨k - 1, by omega⟩
  simp only [spileref08_Check.l1]
  unfold rest1
  rw [if_neg (by omega), if_neg (by rw [hz (by omega)]; simp), if_neg]
  ·exact ref2 h2 hl l.length 0 k (by omega) (by omega) (fun j hj => by omega)
  ·rw [Bool.not_eq_false, all_idx]
   intro j hj
   exact decide_eq_true (ha j (by omega))
 | d + 1, i, k, hd, hk, hz, ha => by
  obtain ⟨k, rfl⟩ : ∃ m, k = m + 1 := ⟨k - 1, by omega⟩
  simp only [spileref08_Check.l1]
  rw [if_pos (by omega)]
  by_cases c0 : i = 0
  ·subst c0
   rw [if_pos (show ((0 : Nat) : Int) = 0 from rfl), if_pos (by omega)]
   by_cases c : X l 0 = 0
   ·rw [if_pos (show (rd_T30 l ((0 : Nat) : Int)).f0 = 0 from c), if_neg (by omega), wsucc (by omega)]
    exact ref1 h2 hl d 1 k (by omega) (by omega) (fun _ => c) (fun j hj => by omega)
   ·rw [if_neg (show ¬ (rd_T30 l ((0 : Nat) : Int)).f0 = 0 from c)]
    unfold rest1
    rw [if_pos c]
  ·have hz0 := hz (by omega)
   rw [if_neg (by omega), if_pos (by omega), wpred (by omega) (by omega), rdX, rdX, if_pos (by omega), if_pos (by omega), if_pos (by omega), wsucc (by omega)]
   by_cases c : X l (i - 1) ≥ X l i
   ·rw [if_pos c]
    unfold rest1
    rw [if_neg (by rw [hz0]; simp), if_pos]
    cases q : (upto (nb l) (l.length - 1)).all along with
    | false => rfl
    | true =>
     have := of_decide_eq_true ((all_idx along l (l.length - 1)).1 q (i - 1) (by omega))
     have : X l (i - 1) < X l (i - 1 + 1) := this
     rw [show i - 1 + 1 = i by omega] at this
     omega
   ·rw [if_neg c]
    refine ref1 h2 hl d (i + 1) k (by omega) (by omega) (fun _ => hz0) fun j hj => ?_
    by_cases e : j + 1 = i
    ·rw [e, show j = i - 1 by omega]; omega
    ·exact ha j (by omega)
theorem ref0 {l : List S30} (h2 : 2 ≤ l.length) (hl : l.length ≤ 32) : ∀ d i k, i + d = l.length → d + 3 * l.length + 2 < k → (∀ j, j < i → far (l[j]?.getD z30) = false) →
  spileref08_Check.l0 k l (i : Int) = some (if l.any far = true then 2 else rest1 l)
 | 0, i, k, hd, hk, hz => by
  obtain ⟨k, rfl⟩ : ∃ m, k = m + 1 := ⟨k - 1, by omega⟩
  simp only [spileref08_Check.l0]
  rw [if_neg (by omega), if_neg]
  ·exact ref1 h2 hl l.length 0 k (by omega) (by omega) (fun h => by omega) (fun j hj => by omega)
  ·rw [any_idx]
   rintro ⟨j, hj, c⟩
   rw [hz j (by omega)] at c
   cases c
 | d + 1, i, k, hd, hk, hz => by
  obtain ⟨k, rfl⟩ : ∃ m, k = m + 1 := ⟨k - 1, by omega⟩
  simp only [spileref08_Check.l0]
  rw [if_pos (by omega), if_pos (by omega), isLength_f, Option.bind_some, isLength_f, Option.bind_some, wsucc (by omega), rdX, rdR]
  have hfar : far (l[i]?.getD z30) = !(meas (X l i) && meas (R l i)) := rfl
  have bad : far (l[i]?.getD z30) = true → l.any far = true := fun c => (any_idx far l).2 ⟨i, by omega, c⟩
  cases c1 : meas (X l i) with
  | false => rw [if_neg (by simp), if_pos (bad (by rw [hfar, c1]; rfl))]
  | true =>
   rw [if_pos rfl]
   cases c2 : meas (R l i) with
   | false => rw [if_neg (by simp), if_pos (bad (by rw [hfar, c1, c2]; rfl))]
   | true =>
    rw [if_pos rfl]
    refine ref0 h2 hl d (i + 1) k (by omega) (by omega) fun j hj => ?_
    by_cases e : j = i
    ·subst e; rw [hfar, c1, c2]; rfl
    ·exact hz j (by omega)
theorem refCheck_f (l : List S30) {k : Nat} (hk : 140 ≤ k) : spileref08_Check.f k l = some (sCheck l) := by
 unfold spileref08_Check.f sCheck
 by_cases h1 : l.length < 2
 ·rw [if_pos (by omega), if_pos h1]
 ·rw [if_neg (by omega), if_neg h1]
  by_cases h2 : 32 < l.length
  ·rw [if_pos (by omega), if_pos h2]
  ·rw [if_neg (by omega), if_neg h2]
   exact ref0 (by omega) (by omega) l.length 0 k (by omega) (by omega) (fun j hj => by omega)
end Go.Proofs.Ytcbmmhedefigeaa.Prf
/-! The reference's sum and bounds: the same. -/
namespace Go.Proofs.Ytcbmmhedefigeaa.Prf
set_option linter.unusedVariables false
open Go.RowKit Go.Proofs.Ytcbmmhedefigeaa.X Go.Proofs.Ytcbmmhedefigeaa.Ln
theorem sum_loop {l : List S30} (h : Ok l) : ∀ d i k, i + d = l.length → d < k → 1 ≤ i → spileref10_Sum.l0 k l (sm l (i - 1)) (i : Int) = some (sum l)
 | 0, i, k, hd, hk, h1 => by
  obtain ⟨k, rfl⟩ : ∃ m, k = m + 1 := ⟨k - 1, by omega⟩
  simp only [spileref10_Sum.l0]
  rw [if_neg (by omega), show i - 1 = l.length - 1 by omega]; rfl
 | d + 1, i, k, hd, hk, h1 => by
  obtain ⟨k, rfl⟩ : ∃ m, k = m + 1 := ⟨k - 1, by omega⟩
  have l32 := h.len32
  simp only [spileref10_Sum.l0]
  rw [if_pos (by omega), wpred h1 (by omega), if_pos (by omega), if_pos (by omega), if_pos (by omega), rdX, rdX, rdR, rdR, wsucc (by omega)]
  have e := fru_eq h (i := i - 1) (by omega)
  rw [show i - 1 + 1 = i by omega] at e
  unfold fru at e
  rw [e]
  exact sum_loop h d (i + 1) k (by omega) (by omega) (by omega)
theorem refSum_f {l : List S30} (h : Ok l) {k : Nat} (hk : 50 ≤ k) : spileref10_Sum.f k l = some (sum l) := by
 have := h.len2; have := h.len32
 unfold spileref10_Sum.f
 exact sum_loop h (l.length - 1) 1 k (by omega) (by omega) (by omega)
theorem refBounds_f {s : Int} (h0 : 0 ≤ s) (h1 : s ≤ 3000000000000000) : spileref10_Bounds.f s = some (lowS s, highS s) := by
 unfold spileref10_Bounds.f
 rw [wid (x := s * 333) (by omega) (by omega), wid (x := s * 355) (by omega) (by omega), wid (x := s * 355 + 338) (by omega) (by omega), tdivE (by omega), tdivE (by omega), wid (x := s * 333 / 318) (by omega) (by omega), wid (x := (s * 355 + 338) / 339) (by omega) (by omega)]
 rfl
end Go.Proofs.Ytcbmmhedefigeaa.Prf
namespace Go.Proofs.Ytcbmmhedefigeaa.Pure
set_option linter.unusedVariables false
set_option linter.unusedSimpArgs false
open Go.RowKit Go.Proofs.Ytcbmmhedefigeaa.X Go.Proofs.Ytcbmmhedefigeaa.Prf Go.Proofs.YtcbmmhedefigeaaW.PrintWords Go.Proofs.YtcbmmhedefigeaaW.PrintLast Go.Proofs.YtcbmmhedefigeaaW.PrintMore
theorem awakeT0 : spilelaw10_awake.f 200 = some true := by decide +kernel
theorem leo_up {α : Type} {f : Nat → Option α} (h : ∀ k, LeO (f k) (f (k + 1))) {r : α} {k : Nat} (e : f k = some r) : ∀ d, f (k + d) = some r
 | 0 => e
 | d + 1 => h (k + d) r (leo_up h e d)
theorem awakeT : spilelaw10_awake.f 2000 = some true := leo_up spilelaw10_awake.mono awakeT0 1800
/-! ### names -/
theorem name_bad {x : ByteArray} (hx : x.size ≤ 70) (hb : x.size < 1 ∨ 64 < x.size) : ∀ d i k, i + d = x.size → d < k → spileref09_IsName.l0 k x (i : Int) = some false
 | 0, i, k, hd, hk => by
  obtain ⟨k, rfl⟩ : ∃ m, k = m + 1 := ⟨k - 1, by omega⟩
  simp only [spileref09_IsName.l0]
  rw [if_neg (by omega)]
  by_cases c : (x.size : Int) ≥ 1
  ·first | (rw [if_pos c, if_neg (by omega)]) | (rw [if_pos c, decide_eq_false (by omega)]) | (rw [if_pos c]; simp; omega)
  ·rw [if_neg c]
 | d + 1, i, k, hd, hk => by
  obtain ⟨k, rfl⟩ : ∃ m, k = m + 1 := ⟨k - 1, by omega⟩
  have ih := name_bad hx hb d (i + 1) k (by omega) (by omega)
  simp only [spileref09_IsName.l0]
  rw [if_pos (by omega), if_pos (by omega), wsucc (by omega), ih]
  repeat' split
  all_goals rfl
theorem name_both {x : ByteArray} (hx : x.size ≤ 70) (hb : ¬ (x.size < 1 ∨ 64 < x.size)) : ∀ d i k, i + d = x.size → d < k → ∃ b, spileref09_IsName.l0 k x (i : Int) = some b ∧ cask_named.l0 k x (x.size : Int) (i : Int) = some b
 | 0, i, k, hd, hk => by
  obtain ⟨k, rfl⟩ : ∃ m, k = m + 1 := ⟨k - 1, by omega⟩
  simp only [spileref09_IsName.l0, cask_named.l0]
  refine ⟨true, ?_, by rw [if_neg (by omega)]⟩
  rw [if_neg (by omega), if_pos (by omega)]
  first | rw [if_pos (by omega)] | rw [decide_eq_true (by omega)]
 | d + 1, i, k, hd, hk => by
  obtain ⟨k, rfl⟩ : ∃ m, k = m + 1 := ⟨k - 1, by omega⟩
  obtain ⟨b, e1, e2⟩ := name_both hx hb d (i + 1) k (by omega) (by omega)
  simp only [spileref09_IsName.l0, cask_named.l0]
  rw [if_pos (show (i : Int) < (x.size : Int) by omega), if_pos (show (0 : Int) ≤ (i : Int) by omega), if_pos (show (i : Int) < (x.size : Int) by omega), if_pos (show (0 : Int) ≤ (i : Int) by omega), if_pos (show (i : Int) < (x.size : Int) by omega), wsucc (by omega), e1, e2]
  repeat' split
  all_goals exact ⟨_, rfl, rfl⟩
/-- is it a name? -/
def nmd (x : ByteArray) : Bool := (spileref09_IsName.f 100 x).getD false
theorem isName_f {x : ByteArray} (hx : x.size ≤ 70) {k : Nat} (hk : 100 ≤ k) : spileref09_IsName.f k x = some (nmd x) := by
 have e : ∃ b, spileref09_IsName.f 100 x = some b := by
  unfold spileref09_IsName.f
  by_cases hb : x.size < 1 ∨ 64 < x.size
  ·exact ⟨_, name_bad hx hb x.size 0 100 (by omega) (by omega)⟩
  ·obtain ⟨b, e, _⟩ := name_both hx hb x.size 0 100 (by omega) (by omega)
   exact ⟨b, e⟩
 obtain ⟨b, e⟩ := e
 obtain ⟨d, rfl⟩ := Nat.le.dest hk
 have e2 := leo_up (fun k => spileref09_IsName.mono x k) e d
 rw [e2]
 unfold nmd
 rw [e]; rfl
theorem nmd_size {x : ByteArray} (hx : x.size ≤ 70) (h : nmd x = true) : x.size ≤ 64 := by
 by_cases hb : x.size < 1 ∨ 64 < x.size
 ·have e := isName_f hx (k := 100) (by decide)
  unfold spileref09_IsName.f at e
  have := name_bad hx hb x.size 0 100 (by omega) (by omega)
  rw [show ((0 : Nat) : Int) = 0 from rfl] at this
  rw [this] at e
  have := Option.some.inj e
  rw [h] at this; cases this
 ·omega
theorem named_f {x : ByteArray} (hx : x.size ≤ 70) {k : Nat} (hk : 110 ≤ k) : cask_named.f k x = some (nmd x) := by
 have e := isName_f hx (k := k - 1) (by omega)
 obtain ⟨k, rfl⟩ : ∃ m, k = m + 1 := ⟨k - 1, by omega⟩
 unfold cask_named.f
 unfold spileref09_IsName.f at e
 rw [Nat.add_sub_cancel] at e
 by_cases hb : x.size < 1 ∨ 64 < x.size
 ·have := name_bad hx hb x.size 0 k (by omega) (by omega)
  rw [show ((0 : Nat) : Int) = 0 from rfl, e] at this
  have e1 := Option.some.inj this
  rw [e1]
  by_cases c : (x.size : Int) < 1
  ·rw [if_pos c]; simp only [cask_named.j0]; rw [if_pos trivial]
  ·rw [if_neg c, decide_eq_true (by omega)]; simp only [cask_named.j0]; rw [if_pos trivial]
 ·obtain ⟨b, e1, e2⟩ := name_both hx hb x.size 0 k (by omega) (by omega)
  rw [show ((0 : Nat) : Int) = 0 from rfl] at e1 e2
  rw [e] at e1
  rw [if_neg (by omega), decide_eq_false (by omega)]
  simp only [cask_named.j0]
  rw [if_neg (by decide), e2, e1]
/-! ### casks -/
structure Small (c : S40) : Prop where
 name : c.f0.size ≤ 70
 prof : c.f2.length ≤ 33
def cC (c : S40) : Int := if nmd c.f0 = true then (if c.f1 = 1 ∨ c.f1 = 2 then (if c.f3 < 0 ∨ 1073741824 < c.f3 then 2 else sCheck c.f2) else 2) else 4
theorem Check_f {c : S40} (hc : Small c) {k : Nat} (hk : 150 ≤ k) : cask_Check.f k c.f0 c.f1 c.f2 c.f3 = some (cC c) := by
 obtain ⟨k, rfl⟩ : ∃ m, k = m + 1 := ⟨k - 1, by omega⟩
 unfold cask_Check.f cC
 rw [named_f hc.name (by omega), Option.bind_some]
 simp only [cask_Check.j0, check_f, Option.bind_some]
 by_cases h1 : nmd c.f0 = true
 ·by_cases h3 : c.f3 < 0
  ·by_cases h2 : c.f1 = 1
   ·simp [h1, h2, h3]
   ·by_cases h5 : c.f1 = 2
    ·simp [h1, h3, h5]
    ·simp [h1, h2, h3, h5]
  ·by_cases h4 : 1073741824 < c.f3
   ·by_cases h2 : c.f1 = 1
    ·simp [h1, h2, h3, h4]
    ·by_cases h5 : c.f1 = 2
     ·simp [h1, h3, h4, h5]
     ·simp [h1, h2, h3, h4, h5]
   ·by_cases h2 : c.f1 = 1
    ·simp [h1, h2, h3, h4]
    ·by_cases h5 : c.f1 = 2
     ·simp [h1, h3, h4, h5]
     ·simp [h1, h2, h3, h4, h5]
 ·simp [h1]
theorem refCk_f {c : S40} (hc : Small c) {k : Nat} (hk : 150 ≤ k) : spileref09_Check.f k c.f0 c.f1 c.f2 c.f3 = some (cC c) := by
 unfold spileref09_Check.f cC
 rw [isName_f hc.name (by omega), Option.bind_some]
 simp only [refCheck_f c.f2 (show 140 ≤ k by omega), Option.bind_some]
 by_cases h1 : nmd c.f0 = true
 ·by_cases h3 : c.f3 < 0
  ·by_cases h2 : c.f1 = 1
   ·simp [h1, h2, h3]
   ·by_cases h5 : c.f1 = 2
    ·simp [h1, h3, h5]
    ·simp [h1, h2, h3, h5]
  ·by_cases h4 : 1073741824 < c.f3
   ·by_cases h2 : c.f1 = 1
    ·simp [h1, h2, h3, h4]
    ·by_cases h5 : c.f1 = 2
     ·simp [h1, h3, h4, h5]
     ·simp [h1, h2, h3, h4, h5]
   ·by_cases h2 : c.f1 = 1
    ·simp [h1, h2, h3, h4]
    ·by_cases h5 : c.f1 = 2
     ·simp [h1, h3, h4, h5]
     ·simp [h1, h2, h3, h4, h5]
 ·simp [h1]
theorem cC_zero {c : S40} (h : cC c = 0) : nmd c.f0 = true ∧ Ok c.f2 := by
 unfold cC at h
 by_cases h1 : nmd c.f0 = true
 ·rw [if_pos h1] at h
  by_cases h2 : c.f1 = 1 ∨ c.f1 = 2
  ·rw [if_pos h2] at h
   by_cases h3 : c.f3 < 0 ∨ 1073741824 < c.f3
   ·rw [if_pos h3] at h; cases h
   ·rw [if_neg h3] at h; exact ⟨h1, sCheck_ok h⟩
  ·rw [if_neg h2] at h; cases h
 ·rw [if_neg h1] at h; cases h
def volL (l : List S30) : Int := lowS (sum l) / 1000000
def volH (l : List S30) : Int := (highS (sum l) + 1000000 - 1) / 1000000
theorem Vol_ok {c : S40} (hc : Small c) (h : cC c = 0) {k : Nat} (hk : 150 ≤ k) : capacity_Volume.f k c.f0 c.f1 c.f2 c.f3 = some (volL c.f2, volH c.f2, 0) := by
 have ho := (cC_zero h).2
 have hs := ho.sum_top
 have b : 0 ≤ lowS (sum c.f2) ∧ lowS (sum c.f2) ≤ 4000000000000000 ∧ 0 ≤ highS (sum c.f2) ∧ highS (sum c.f2) ≤ 4000000000000000 := by unfold lowS highS; omega
 unfold capacity_Volume.f
 rw [Check_f hc hk, Option.bind_some, if_pos h, Space_ok ho (by omega), Option.bind_some]
 simp only []
 rw [Ln.wid (x := highS (sum c.f2) + 1000000) (by omega) (by omega), Ln.wid (x := highS (sum c.f2) + 1000000 - 1) (by omega) (by omega), tdivE (by omega), tdivE (by omega), Ln.wid (by omega) (by omega), Ln.wid (by omega) (by omega)]
 rfl
theorem refVol_ok {c : S40} (hc : Small c) (h : cC c = 0) {k : Nat} (hk : 150 ≤ k) : spileref10_Volume.f k c.f0 c.f1 c.f2 c.f3 = some (volL c.f2, volH c.f2, 0) := by
 have ho := (cC_zero h).2
 have hs := ho.sum_top
 have b : 0 ≤ lowS (sum c.f2) ∧ lowS (sum c.f2) ≤ 4000000000000000 ∧ 0 ≤ highS (sum c.f2) ∧ highS (sum c.f2) ≤ 4000000000000000 := by unfold lowS highS; omega
 unfold spileref10_Volume.f
 rw [refCk_f hc hk, Option.bind_some, if_pos h, refSum_f ho (by omega), Option.bind_some, refBounds_f hs.1 hs.2, Option.bind_some]
 unfold spileref10_Litres.f
 rw [Option.bind_some]
 simp only []
 rw [Ln.wid (x := highS (sum c.f2) + 1000000) (by omega) (by omega), Ln.wid (x := highS (sum c.f2) + 1000000 - 1) (by omega) (by omega), tdivE (by omega), tdivE (by omega), Ln.wid (by omega) (by omega), Ln.wid (by omega) (by omega)]
 rfl
/-! ### lists of casks -/
theorem rd40 (l : List S40) (i : Nat) : rd_T40 l (i : Int) = l[i]?.getD z40 := rfl
theorem getD_mem40 {l : List S40} {i : Nat} (h : i < l.length) : l[i]?.getD z40 ∈ l := by
 rw [List.getElem?_eq_getElem h]; exact List.getElem_mem h
theorem copy_loop {l : List S40} (hl : l.length ≤ 33) (hs : ∀ c ∈ l, Small c) : ∀ d i k, i + d = l.length → d < k → spileref09_Copy.l0 k l (l.take i) (i : Int) = some l
 | 0, i, k, hd, hk => by
  obtain ⟨k, rfl⟩ : ∃ m, k = m + 1 := ⟨k - 1, by omega⟩
  simp only [spileref09_Copy.l0]
  rw [if_neg (by omega), List.take_of_length_le (by omega)]
 | d + 1, i, k, hd, hk => by
  obtain ⟨k, rfl⟩ : ∃ m, k = m + 1 := ⟨k - 1, by omega⟩
  have hi : i < l.length := by omega
  have hc := hs _ (getD_mem40 hi)
  have hp := hc.prof
  simp only [spileref09_Copy.l0]
  rw [if_pos (by omega), if_pos (by omega), Option.bind_some, rd40, List.nil_append, if_pos (by simp only [List.length_nil]; omega), if_pos (by rw [List.length_take]; omega), wsucc (by omega)]
  have e : l.take i ++ [(⟨(l[i]?.getD z40).f0, (l[i]?.getD z40).f1, (l[i]?.getD z40).f2, (l[i]?.getD z40).f3⟩ : S40)] = l.take (i + 1) := by
   rw [List.take_add_one, List.getElem?_eq_getElem hi]; rfl
  rw [e]
  exact copy_loop hl hs d (i + 1) k (by omega) (by omega)
theorem few_loop {l : List S40} (hl : l.length ≤ 9223372036854775807) : ∀ d i k, i + d = l.length → d < k → (∀ j, j < i → Small (l[j]?.getD z40)) → ∃ b, spileref09_Few.l0 k l (i : Int) = some b ∧ (b = true → l.length ≤ 33 ∧ ∀ j, j < l.length → Small (l[j]?.getD z40))
 | 0, i, k, hd, hk, hz => by
  obtain ⟨k, rfl⟩ : ∃ m, k = m + 1 := ⟨k - 1, by omega⟩
  simp only [spileref09_Few.l0]
  rw [if_neg (by omega)]
  exact ⟨_, rfl, fun e => ⟨by have := of_decide_eq_true e; omega, fun j hj => hz j (by omega)⟩⟩
 | d + 1, i, k, hd, hk, hz => by
  obtain ⟨k, rfl⟩ : ∃ m, k = m + 1 := ⟨k - 1, by omega⟩
  simp only [spileref09_Few.l0]
  rw [if_pos (by omega), if_pos (by omega), rd40, few_f, Option.bind_some]
  by_cases h1 : ((l[i]?.getD z40).f2.length : Int) ≤ 33
  ·rw [if_pos (decide_eq_true h1)]
   by_cases h2 : ((l[i]?.getD z40).f0.size : Int) > 70
   ·rw [if_pos h2]; exact ⟨false, rfl, fun e => by cases e⟩
   ·rw [if_neg h2, Ln.wid (x := (i : Int) + 1) (by omega) (by omega)]
    exact few_loop hl d (i + 1) k (by omega) (by omega) (fun j hj => by
     by_cases e : j = i
     ·subst e; exact ⟨by omega, by omega⟩
     ·exact hz j (by omega))
  ·rw [if_neg (by simpa using h1)]; exact ⟨false, rfl, fun e => by cases e⟩
end Go.Proofs.Ytcbmmhedefigeaa.Pure
