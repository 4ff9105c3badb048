/- CapacityGrows: for every profile and every length (profiles with more than 33 points, and lengths that are none, are let by) greater radii give a greater sum and no lesser bounds, and cylinders in and around a profile bound it; no condition. -/
import Derived.Test.YtcbmmhedefigeaaXx0
import Derived.Deep.Slices
import Derived.Deep.Fields
import Derived.ChangeSame
import Derived.Test.YtcbmmhedefigeaaAt8
import Derived.Test.YtcbmmhedefigeaaXx5
import Derived.Test.YtcbmmhedefigeaaPc8
import Derived.Test.YtcbmmhedefigeaaCl8
import Derived.Test.YtcbmmhedefigeaaFru
import Derived.Test.YtcbmmhedefigeaaXx2
import Derived.Test.YtcbmmhedefigeaaGro
/-! An argument that is a slice of points: what is read from it. -/
namespace Go.Proofs.Ytcbmmhedefigeaa.X
set_option linter.unusedVariables false
set_option linter.unusedSimpArgs false
open Go.RowKit Go.Proofs.YtcbmmhedefigeaaW.PrintWords Go.Proofs.YtcbmmhedefigeaaW.PrintLast Go.Proofs.YtcbmmhedefigeaaW.PrintMore Go.ChangeShapes Go.WideShapes Go.Deep

section
variable {H : Type} {enc : TypeId × Value → H} {P : Program} {w : World} {base : Nat} {spare : Nat → Bool} {held : Bool}
theorem open_slice_fields {t e : TypeId} {fs : Array Field} {fuel : Nat} {cs : List Value} {x : DataW H × List MemPlace} (ht : P.underlying t = some (.slice e)) (he : P.underlying e = some (.struct fs))
    (hone : oneCellFields P fs = true) (hC : P.cellsOf e = fs.size) (h : DataW.trod enc P w base spare held fuel t cs = some x) :
    (cs = [.slice none 0 0] ∧ x = (.nil, [])) ∨
    ∃ (a : Addr) (len cap m : Nat) (D : Nat → DataW H) (Pl : Nat → List MemPlace), cs = [.slice (some a) len cap] ∧ base ≤ a.block ∧ len ≤ cap ∧ cap ≤ maxLen ∧ m = (if spare a.block then cap else len) ∧
      x = (.slice ((List.range len).map D) ((List.range (m - len)).map fun j => D (len + j)), MemPlace.row a (m * fs.size) ++ (List.range m).flatMap Pl) ∧
      ∀ i, i < m → ∃ (ys : List (DataW H × List MemPlace)) (n : Nat), D i = .agg (ys.map (·.1)) ∧ Pl i = ys.flatMap (·.2) ∧ ys.length = fs.size ∧
        ∀ (j : Nat) (f : Field), fs[j]? = some f → ∃ (v : Value) (y : DataW H × List MemPlace), w.cell? (a.add (i * fs.size + j)) = some v ∧ ys[j]? = some y ∧ DataW.trod enc P w base spare held n f.type [v] = some y := by
  rcases open_slice ht h with h0 | ⟨a, len, cap, m, n, D, Pl, hcs, hb, hl, hm, hmm, hx, hi⟩
  · exact .inl h0
  · refine .inr ⟨a, len, cap, m, D, Pl, hcs, hb, hl, hm, hmm, by rw [hC] at hx; exact hx, fun i him => ?_⟩
    obtain ⟨cs', hc, ht'⟩ := hi i him
    rw [hC] at hc
    obtain ⟨ys, n', hn', hy, hlen, hyl, hf⟩ := DataW.trod_struct he ht'
    obtain ⟨_, hcl, hat⟩ := World.cells?_some hc
    simp only [Prod.mk.injEq] at hy
    refine ⟨ys, n', hy.1, hy.2, hyl, fun j f hj => ?_⟩
    obtain ⟨ho, hk⟩ := hone_of hone j f hj
    have hjl : j < fs.size := (Array.getElem?_eq_some_iff.1 hj).1
    have hcell := hat j hjl
    have hv : cs'[j]? = some (cs'[j]'(by omega)) := List.getElem?_eq_getElem (by omega)
    have h1 := hf j f hj
    rw [ho, hk] at h1
    have hone' : (cs'.drop j).take 1 = [cs'[j]'(by omega)] := by
      rw [List.drop_eq_getElem_cons (by omega)]
      rfl
    rw [hone'] at h1
    have hys : ys[j]? = some (ys[j]'(by omega)) := List.getElem?_eq_getElem (by omega)
    refine ⟨_, _, ?_, hys, h1.trans hys⟩
    rw [← Go.Deep.add_add, hcell, hv]
/-- a whole number's cell, read -/
def numAt (w : World) (a : Addr) : Int := match w.cell? a with | some (.int .i64 x) => x | _ => 0
theorem numAt_eq {w : World} {a : Addr} {x : Int} (h : w.cell? a = some (.int .i64 x)) : w.cell? a = some (.int .i64 (numAt w a)) := by
  unfold numAt; rw [h]
/-- a slice of structs of two whole numbers -/
theorem open_points {t e : TypeId} {f0 f1 : Field} {a : Option Addr} {len cap : Nat} {d : DataW H} {p : List MemPlace} (ht : P.underlying t = some (.slice e)) (he : P.underlying e = some (.struct #[f0, f1]))
    (hone : oneCellFields P #[f0, f1] = true) (hC : P.cellsOf e = 2) (h0 : P.underlying f0.type = some (.int .i64)) (h1 : P.underlying f1.type = some (.int .i64))
    (h : DataW.Trod enc P w base (fun _ => true) held t (.slice a len cap) d p) : ∃ l : List S30, len = l.length ∧ Kd.C k30 w a l.length l ∧ l.length ≤ cap := by
  obtain ⟨fuel, hf⟩ := h
  rcases open_slice_fields ht he hone hC hf with ⟨hcs, _⟩ | ⟨x, l, c, m, D, Pl, hcs, _, hl, hm, hmm, _, hi⟩
  · simp [Value.cells] at hcs
    obtain ⟨rfl, rfl, rfl⟩ := hcs
    exact ⟨[], rfl, Kd.C_nil _ _, Nat.le_refl _⟩
  · simp [Value.cells] at hcs
    obtain ⟨rfl, rfl, rfl⟩ := hcs
    rw [if_pos rfl] at hmm
    subst hmm
    have key : ∀ i, i < len → w.cell? (x.add (i * 2)) = some (.int .i64 (numAt w (x.add (i * 2)))) ∧ w.cell? (x.add (i * 2 + 1)) = some (.int .i64 (numAt w (x.add (i * 2 + 1)))) := by
      intro i hil
      obtain ⟨ys, n, _, _, _, hfs⟩ := hi i (by omega)
      obtain ⟨v0, y0, c0, _, k0⟩ := hfs 0 f0 rfl
      obtain ⟨v1, y1, c1, _, k1⟩ := hfs 1 f1 rfl
      obtain ⟨z0, e0, _, _⟩ := DataW.trod_int h0 k0
      obtain ⟨z1, e1, _, _⟩ := DataW.trod_int h1 k1
      simp at e0 e1
      subst e0 e1
      exact ⟨numAt_eq c0, numAt_eq c1⟩
    refine ⟨(List.range len).map fun i => ⟨numAt w (x.add (i * 2)), numAt w (x.add (i * 2 + 1))⟩, by simp, ?_, by simp; exact hl⟩
    refine ⟨rfl, ?_, fun _ => ⟨x, rfl, fun j q hj => ?_⟩⟩
    · simp only [List.length_map, List.length_range]
      have : maxLen ≤ 9223372036854775807 := by decide
      omega
    · rw [List.getElem?_map] at hj
      obtain ⟨i, hi', rfl⟩ := Option.map_eq_some_iff.1 hj
      obtain ⟨hjl, rfl⟩ := List.getElem?_eq_some_iff.1 hi'
      simp only [List.length_range] at hjl
      simp only [List.getElem_range] at *
      obtain ⟨q0, q1⟩ := key j hjl
      refine ⟨[.int .i64 (numAt w (x.add (j * 2))), .int .i64 (numAt w (x.add (j * 2 + 1)))], rfl, k30_mk w ⟨_, _⟩, fun i u hu => ?_⟩
      match i with
      | 0 => simp at hu; subst hu; exact q0
      | 1 => simp at hu; subst hu; exact q1
      | i + 2 => simp at hu
end
end Go.Proofs.Ytcbmmhedefigeaa.X
/-! Fractions rounded down and up, and heights on a straight line, in plain numbers. -/
namespace Go.Proofs.Ytcbmmhedefigeaa.Ln
set_option linter.unusedVariables false
set_option linter.unusedSimpArgs false
open Go.RowKit

theorem wid {x : Int} (h : -9223372036854775808 ≤ x) (h2 : x < 9223372036854775808) : wrap64 x = x := by unfold wrap64; omega

/-- rounded down, and up -/
def fl (n h : Int) : Int := n / h
def ce (n h : Int) : Int := (n + h - 1) / h
theorem le_fl {n h m : Int} (hh : 0 < h) : m ≤ fl n h ↔ m * h ≤ n := Int.le_ediv_iff_mul_le hh
theorem ce_le {n h m : Int} (hh : 0 < h) : ce n h ≤ m ↔ n ≤ m * h := by
  unfold ce
  have := @Int.le_ediv_iff_mul_le (m + 1) (n + h - 1) h hh
  rw [show (m + 1) * h = m * h + h by grind] at this
  omega
theorem fl_lt {n h m : Int} (hh : 0 < h) : fl n h < m ↔ n < m * h := by
  have := @le_fl n h m hh
  omega
theorem lt_ce {n h m : Int} (hh : 0 < h) : m < ce n h ↔ m * h < n := by
  have := @ce_le n h m hh
  omega
theorem fl_spec {n h : Int} (hh : 0 < h) : fl n h * h ≤ n := (le_fl hh).1 (Int.le_refl _)
theorem ce_spec {n h : Int} (hh : 0 < h) : n ≤ ce n h * h := (ce_le hh).1 (Int.le_refl _)
theorem fl_le_ce {n h : Int} (hh : 0 < h) : fl n h ≤ ce n h := by
  have a := fl_spec (n := n) hh
  have b := ce_spec (n := n) hh
  exact Int.le_of_mul_le_mul_right (Int.le_trans a b) hh
theorem ce_le_fl {n h : Int} (hh : 0 < h) : ce n h ≤ fl n h + 1 := by
  rw [ce_le hh]
  exact Int.le_of_lt ((fl_lt hh).1 (by omega))
theorem fl_mono {n1 h1 n2 h2 : Int} (p1 : 0 < h1) (p2 : 0 < h2) (h : n1 * h2 ≤ n2 * h1) : fl n1 h1 ≤ fl n2 h2 := by
  rw [le_fl p2]
  have a := Int.mul_le_mul_of_nonneg_right (fl_spec (n := n1) p1) (Int.le_of_lt p2)
  refine Int.le_of_mul_le_mul_right (a := h1) ?_ p1
  have : fl n1 h1 * h2 * h1 = fl n1 h1 * h1 * h2 := by grind
  omega
theorem ce_mono {n1 h1 n2 h2 : Int} (p1 : 0 < h1) (p2 : 0 < h2) (h : n1 * h2 ≤ n2 * h1) : ce n1 h1 ≤ ce n2 h2 := by
  rw [ce_le p1]
  have a := Int.mul_le_mul_of_nonneg_right (ce_spec (n := n2) p2) (Int.le_of_lt p1)
  refine Int.le_of_mul_le_mul_right (a := h2) ?_ p2
  have : ce n2 h2 * h2 * h1 = ce n2 h2 * h1 * h2 := by grind
  omega
theorem fl_same {n1 h1 n2 h2 : Int} (p1 : 0 < h1) (p2 : 0 < h2) (h : n1 * h2 = n2 * h1) : fl n1 h1 = fl n2 h2 :=
  Int.le_antisymm (fl_mono p1 p2 (by omega)) (fl_mono p2 p1 (by omega))
theorem ce_same {n1 h1 n2 h2 : Int} (p1 : 0 < h1) (p2 : 0 < h2) (h : n1 * h2 = n2 * h1) : ce n1 h1 = ce n2 h2 :=
  Int.le_antisymm (ce_mono p1 p2 (by omega)) (ce_mono p2 p1 (by omega))
theorem fl_sub {n h s : Int} (hh : 0 < h) : fl (n - s * h) h = fl n h - s := by
  have a : ∀ m, m ≤ fl (n - s * h) h ↔ m + s ≤ fl n h := fun m => by
    rw [le_fl hh, le_fl hh, show (m + s) * h = m * h + s * h by grind]; omega
  have b := a (fl (n - s * h) h)
  have c := a (fl n h - s)
  omega
theorem ce_sub {n h s : Int} (hh : 0 < h) : ce (n - s * h) h = ce n h - s := by
  have a : ∀ m, ce (n - s * h) h ≤ m ↔ ce n h ≤ m + s := fun m => by
    rw [ce_le hh, ce_le hh, show (m + s) * h = m * h + s * h by grind]; omega
  have b := a (ce (n - s * h) h)
  have c := a (ce n h - s)
  omega
theorem fl_whole {m h : Int} (hh : 0 < h) : fl (m * h) h = m := Int.mul_ediv_cancel _ (by omega)
theorem ce_whole {m h : Int} (hh : 0 < h) : ce (m * h) h = m := by
  have a := @ce_le (m * h) h m hh
  have b := @lt_ce (m * h) h (m - 1) hh
  rw [show (m - 1) * h = m * h - h by grind] at b
  omega
/-- a fraction that is whole -/
theorem fl_eq_ce {n h : Int} (hh : 0 < h) (e : fl n h = ce n h) : n = fl n h * h := by
  have a := fl_spec (n := n) hh
  have b := ce_spec (n := n) hh
  rw [← e] at b
  omega

/-- the numerator on the line from (a, r) to (b, s) at x; its denominator is b - a -/
def nu (a r b s x : Int) : Int := r * (b - x) + s * (x - a)
theorem nu_rev (a r b s x L : Int) : nu (L - b) s (L - a) r (L - x) = nu a r b s x := by unfold nu; grind
theorem nu_ref (a r b s x : Int) : r * (b - a) + (s - r) * (x - a) = nu a r b s x := by unfold nu; grind
theorem nu_left (a r b s : Int) : nu a r b s a = r * (b - a) := by unfold nu; grind
theorem nu_right (a r b s : Int) : nu a r b s b = s * (b - a) := by unfold nu; grind
theorem nu_ge {a r b s x m : Int} (h1 : a ≤ x) (h2 : x ≤ b) (hr : m ≤ r) (hs : m ≤ s) : m * (b - a) ≤ nu a r b s x := by
  have e1 := Int.mul_le_mul_of_nonneg_right hr (show 0 ≤ b - x by omega)
  have e2 := Int.mul_le_mul_of_nonneg_right hs (show 0 ≤ x - a by omega)
  have : m * (b - a) = m * (b - x) + m * (x - a) := by grind
  unfold nu; omega
theorem nu_le {a r b s x m : Int} (h1 : a ≤ x) (h2 : x ≤ b) (hr : r ≤ m) (hs : s ≤ m) : nu a r b s x ≤ m * (b - a) := by
  have e1 := Int.mul_le_mul_of_nonneg_right hr (show 0 ≤ b - x by omega)
  have e2 := Int.mul_le_mul_of_nonneg_right hs (show 0 ≤ x - a by omega)
  have : m * (b - a) = m * (b - x) + m * (x - a) := by grind
  unfold nu; omega
theorem nu_up {a r b s x y : Int} (h : r ≤ s) (hx : x ≤ y) : nu a r b s x ≤ nu a r b s y := by
  have e := Int.mul_nonneg (show 0 ≤ s - r by omega) (show 0 ≤ y - x by omega)
  have : nu a r b s y = nu a r b s x + (s - r) * (y - x) := by unfold nu; grind
  omega
theorem nu_down {a r b s x y : Int} (h : s ≤ r) (hx : x ≤ y) : nu a r b s y ≤ nu a r b s x := by
  have e := Int.mul_nonneg (show 0 ≤ r - s by omega) (show 0 ≤ y - x by omega)
  have : nu a r b s x = nu a r b s y + (r - s) * (y - x) := by unfold nu; grind
  omega
/-- a line within another one that is nowhere lower by less than s0 -/
theorem nu_inner {a r b s x u v p q d : Int} (hab : a < b) (h1 : u ≤ x) (h2 : x ≤ v) (hp : p * (b - a) ≤ nu a r b s u - d * (b - a)) (hq : q * (b - a) ≤ nu a r b s v - d * (b - a)) :
    nu u p v q x * (b - a) ≤ (nu a r b s x - d * (b - a)) * (v - u) := by
  have e1 := Int.mul_le_mul_of_nonneg_right hp (show 0 ≤ v - x by omega)
  have e2 := Int.mul_le_mul_of_nonneg_right hq (show 0 ≤ x - u by omega)
  have l1 : nu u p v q x * (b - a) = p * (b - a) * (v - x) + q * (b - a) * (x - u) := by unfold nu; grind
  have l2 : (nu a r b s x - d * (b - a)) * (v - u) = (nu a r b s u - d * (b - a)) * (v - x) + (nu a r b s v - d * (b - a)) * (x - u) := by unfold nu; grind
  omega
/-- a part of the line -/
theorem nu_part {a r b s x u v p q : Int} (hp : p * (b - a) = nu a r b s u) (hq : q * (b - a) = nu a r b s v) : nu u p v q x * (b - a) = nu a r b s x * (v - u) := by
  have l1 : nu u p v q x * (b - a) = p * (b - a) * (v - x) + q * (b - a) * (x - u) := by unfold nu; grind
  have l2 : nu a r b s x * (v - u) = nu a r b s u * (v - x) + nu a r b s v * (x - u) := by unfold nu; grind
  rw [l1, l2, hp, hq]
end Go.Proofs.Ytcbmmhedefigeaa.Ln

/-! Profiles, in plain numbers: what a right one is, and the radius anywhere. -/
namespace Go.Proofs.Ytcbmmhedefigeaa.Prf
set_option linter.unusedVariables false
set_option linter.unusedSimpArgs false
open Go.RowKit Go.Proofs.Ytcbmmhedefigeaa.X Go.Proofs.Ytcbmmhedefigeaa.It Go.Proofs.Ytcbmmhedefigeaa.Ln

def X (l : List S30) (i : Nat) : Int := (l[i]?.getD z30).f0
def R (l : List S30) (i : Nat) : Int := (l[i]?.getD z30).f1
structure Ok (l : List S30) : Prop where
  len2 : 2 ≤ l.length
  len32 : l.length ≤ 32
  x0 : ∀ i, i < l.length → 0 ≤ X l i
  x1 : ∀ i, i < l.length → X l i ≤ 100000
  r0 : ∀ i, i < l.length → 1 ≤ R l i
  r1 : ∀ i, i < l.length → R l i ≤ 100000
  zero : X l 0 = 0
  inc : ∀ i, i + 1 < l.length → X l i < X l (i + 1)
  uni : ∀ i j, i < j → j + 1 < l.length → R l (i + 1) < R l i → R l (j + 1) ≤ R l j

theorem getD_mem {l : List S30} {i : Nat} (h : i < l.length) : l[i]?.getD z30 ∈ l := by
  rw [List.getElem?_eq_getElem h]; exact List.getElem_mem h
theorem mem_getD {l : List S30} {z : S30} (h : z ∈ l) : ∃ i, i < l.length ∧ l[i]?.getD z30 = z := by
  obtain ⟨i, hi, rfl⟩ := List.mem_iff_getElem.1 h
  exact ⟨i, hi, by rw [List.getElem?_eq_getElem hi]; rfl⟩
theorem any_idx (p : S30 → Bool) (l : List S30) : l.any p = true ↔ ∃ i, i < l.length ∧ p (l[i]?.getD z30) = true := by
  rw [List.any_eq_true]
  constructor
  · rintro ⟨z, hz, hp⟩
    obtain ⟨i, hi, rfl⟩ := mem_getD hz
    exact ⟨i, hi, hp⟩
  · rintro ⟨i, hi, hp⟩
    exact ⟨_, getD_mem hi, hp⟩
theorem all_idx (p : S30 × S30 → Bool) (l : List S30) (m : Nat) : (upto (nb l) m).all p = true ↔ ∀ i, i < m → p (nb l i) = true := by
  rw [List.all_eq_true]
  constructor
  · intro h i hi
    exact h _ (List.mem_map.2 ⟨i, List.mem_range.2 hi, rfl⟩)
  · intro h z hz
    obtain ⟨i, hi, rfl⟩ := List.mem_map.1 hz
    exact h i (List.mem_range.1 hi)
theorem st_idx (l : List S30) : ∀ m, ((st (upto (nb l) m)).2 = true ↔ ∃ i, i < m ∧ R l (i + 1) < R l i) ∧ ((st (upto (nb l) m)).1 = true ↔ ∃ i j, i < j ∧ j < m ∧ R l (i + 1) < R l i ∧ R l j < R l (j + 1))
  | 0 => by
    constructor
    · constructor
      · intro h; simp [upto, st] at h
      · rintro ⟨i, hi, _⟩; omega
    · constructor
      · intro h; simp [upto, st] at h
      · rintro ⟨i, j, _, hi, _⟩; omega
  | m + 1 => by
    obtain ⟨h2, h1⟩ := st_idx l m
    rw [upto_succ, st_snoc]
    have e2 : (Go.Proofs.Ytcbmmhedefigeaa.X.step (st (upto (nb l) m)) (nb l m)).2 = true ↔ (st (upto (nb l) m)).2 = true ∨ R l (m + 1) < R l m := by
      simp only [Go.Proofs.Ytcbmmhedefigeaa.X.step, Bool.or_eq_true, decide_eq_true_eq]; rfl
    have e1 : (Go.Proofs.Ytcbmmhedefigeaa.X.step (st (upto (nb l) m)) (nb l m)).1 = true ↔ (st (upto (nb l) m)).1 = true ∨ ((st (upto (nb l) m)).2 = true ∧ R l m < R l (m + 1)) := by
      simp only [Go.Proofs.Ytcbmmhedefigeaa.X.step, Bool.or_eq_true, Bool.and_eq_true, decide_eq_true_eq]; rfl
    constructor
    · rw [e2, h2]
      constructor
      · rintro (⟨i, hi, h⟩ | h)
        · exact ⟨i, by omega, h⟩
        · exact ⟨m, by omega, h⟩
      · rintro ⟨i, hi, h⟩
        by_cases e : i = m
        · subst e; exact .inr h
        · exact .inl ⟨i, by omega, h⟩
    · rw [e1, h1, h2]
      constructor
      · rintro (⟨i, j, hij, hj, h, h'⟩ | ⟨⟨i, hi, h⟩, h'⟩)
        · exact ⟨i, j, hij, by omega, h, h'⟩
        · exact ⟨i, m, hi, by omega, h, h'⟩
      · rintro ⟨i, j, hij, hj, h, h'⟩
        by_cases e : j = m
        · subst e; exact .inr ⟨⟨i, hij, h⟩, h'⟩
        · exact .inl ⟨i, j, hij, by omega, h, h'⟩
theorem far_idx (l : List S30) (i : Nat) : far (l[i]?.getD z30) = true ↔ ¬ (0 ≤ X l i ∧ X l i ≤ 100000 ∧ 0 ≤ R l i ∧ R l i ≤ 100000) := by
  unfold far meas X R
  simp only [Bool.not_eq_true', Bool.and_eq_false_iff, decide_eq_false_iff_not]
  omega

theorem sCheck_ok {l : List S30} (h : sCheck l = 0) : Ok l := by
  unfold sCheck at h
  by_cases h1 : l.length < 2
  · rw [if_pos h1] at h; cases h
  rw [if_neg h1] at h
  by_cases h2 : 32 < l.length
  · rw [if_pos h2] at h; cases h
  rw [if_neg h2] at h
  by_cases h3 : l.any far = true
  · rw [if_pos h3] at h; cases h
  rw [if_neg h3] at h
  by_cases h4 : (l[0]?.getD z30).f0 ≠ 0
  · rw [if_pos h4] at h; cases h
  rw [if_neg h4] at h
  by_cases h5 : (upto (nb l) (l.length - 1)).all along = false
  · rw [if_pos h5] at h; cases h
  rw [if_neg h5] at h
  by_cases h6 : l.any flat = true
  · rw [if_pos h6] at h; cases h
  rw [if_neg h6] at h
  by_cases h7 : (st (upto (nb l) (l.length - 1))).1 = true
  · rw [if_pos h7] at h; cases h
  have g3 : ∀ i, i < l.length → 0 ≤ X l i ∧ X l i ≤ 100000 ∧ 0 ≤ R l i ∧ R l i ≤ 100000 := by
    intro i hi
    by_cases c : far (l[i]?.getD z30) = true
    · exact absurd ((any_idx far l).2 ⟨i, hi, c⟩) h3
    · rw [far_idx] at c; exact Decidable.of_not_not c
  have g6 : ∀ i, i < l.length → R l i ≠ 0 := by
    intro i hi c
    exact h6 ((any_idx flat l).2 ⟨i, hi, by simpa [flat, R] using c⟩)
  have g5 := (all_idx along l (l.length - 1)).1 (by simpa using h5)
  refine ⟨by omega, by omega, fun i hi => (g3 i hi).1, fun i hi => (g3 i hi).2.1, fun i hi => ?_, fun i hi => (g3 i hi).2.2.2, by unfold X; simpa using h4, fun i hi => ?_, fun i j hij hj hf => ?_⟩
  · have := g3 i hi; have := g6 i hi; omega
  · exact of_decide_eq_true (g5 i (by omega))
  · have := mt ((st_idx l (l.length - 1)).2.2) h7
    have : ¬ (R l j < R l (j + 1)) := fun c => this ⟨i, j, hij, by omega, hf, c⟩
    omega
theorem ok_sCheck {l : List S30} (h : Ok l) : sCheck l = 0 := by
  obtain ⟨a1, a2, a3, a4, a5, a6, a7, a8, a9⟩ := h
  unfold sCheck
  rw [if_neg (by omega), if_neg (by omega), if_neg, if_neg, if_neg, if_neg, if_neg]
  · rw [(st_idx l (l.length - 1)).2]
    rintro ⟨i, j, hij, hj, h1, h2⟩
    have := a9 i j hij (by omega) h1
    omega
  · rw [any_idx]
    rintro ⟨i, hi, c⟩
    have := a5 i hi
    have : R l i = 0 := by simpa [flat, R] using c
    omega
  · rw [Bool.not_eq_false, all_idx]
    intro i hi
    exact decide_eq_true (a8 i (by omega))
  · simpa [X] using a7
  · rw [any_idx]
    rintro ⟨i, hi, c⟩
    rw [far_idx] at c
    have := a3 i hi; have := a4 i hi; have := a5 i hi; have := a6 i hi
    omega

theorem Ok.lt {l : List S30} (h : Ok l) {i j : Nat} (hij : i < j) (hj : j < l.length) : X l i < X l j := by
  obtain ⟨d, rfl⟩ := Nat.le.dest hij
  induction d with
  | zero => exact h.inc i (by omega)
  | succ d ih => exact Int.lt_trans (ih (by omega) (by omega)) (h.inc (i + 1 + d) (by omega))
theorem Ok.le {l : List S30} (h : Ok l) {i j : Nat} (hij : i ≤ j) (hj : j < l.length) : X l i ≤ X l j := by
  rcases Nat.lt_or_eq_of_le hij with g | rfl
  · exact Int.le_of_lt (h.lt g hj)
  · exact Int.le_refl _
theorem Ok.idx_lt {l : List S30} (h : Ok l) {i j : Nat} (hi : i < l.length) (hx : X l i < X l j) : i < j := by
  rcases Nat.lt_or_ge i j with g | g
  · exact g
  · have := h.le g hi; omega
theorem Ok.apart {l : List S30} (h : Ok l) : (upto (nb l) (l.length - 1)).all apart = true := by
  rw [all_idx]
  intro i hi
  have := h.inc i (by omega)
  have := h.x0 i (by omega)
  have := h.x1 (i + 1) (by omega)
  show (wrap64 (X l (i + 1) - X l i) != 0) = true
  rw [wid (by omega) (by omega)]
  simp; omega
theorem Ok.at_f {l : List S30} (h : Ok l) (x : Int) : profile_at.f l x = some (sAt l x) := by
  unfold profile_at.f
  rw [if_pos (by have := h.len32; omega), if_pos h.apart]

/-- the numerator on stave i, and what divides it -/
def nm (l : List S30) (i : Nat) (x : Int) : Int := nu (X l i) (R l i) (X l (i + 1)) (R l (i + 1)) x
def dn (l : List S30) (i : Nat) : Int := X l (i + 1) - X l i
def on (l : List S30) (i : Nat) (x : Int) : Prop := i + 1 < l.length ∧ X l i ≤ x ∧ x ≤ X l (i + 1)
theorem Ok.dn_pos {l : List S30} (h : Ok l) {i : Nat} (hi : i + 1 < l.length) : 0 < dn l i := by have := h.inc i hi; unfold dn; omega
theorem mul_bound {a b A B : Int} (h0 : 0 ≤ a) (h1 : a ≤ A) (g0 : 0 ≤ b) (g1 : b ≤ B) : 0 ≤ a * b ∧ a * b ≤ A * B :=
  ⟨Int.mul_nonneg h0 g0, Int.mul_le_mul h1 g1 g0 (by omega)⟩
theorem tdivE {a b : Int} (h : 0 ≤ a) : Int.tdiv a b = a / b := Int.tdiv_eq_ediv_of_nonneg h
theorem fl_nonneg {n h : Int} (hh : 0 < h) (hn : 0 ≤ n) : 0 ≤ fl n h := (le_fl hh).2 (by omega)
theorem bnds_eq {l : List S30} (h : Ok l) {i : Nat} {x : Int} (ho : on l i x) : bnds x (nb l i) = (fl (nm l i x) (dn l i), ce (nm l i x) (dn l i)) := by
  obtain ⟨hi, h1, h2⟩ := ho
  have := h.inc i (by omega)
  have p0 := h.x0 i (by omega)
  have p1 := h.x1 (i + 1) (by omega)
  have q0 := h.r0 i (by omega)
  have q1 := h.r1 i (by omega)
  have q2 := h.r0 (i + 1) (by omega)
  have q3 := h.r1 (i + 1) (by omega)
  have m1 := mul_bound (a := R l i) (b := X l (i + 1) - x) (A := 100000) (B := 100000) (by omega) (by omega) (by omega) (by omega)
  have m2 := mul_bound (a := R l (i + 1)) (b := x - X l i) (A := 100000) (B := 100000) (by omega) (by omega) (by omega) (by omega)
  have hd : 0 < dn l i := h.dn_pos hi
  have en : numer x (nb l i) = nm l i x := by
    show wrap64 (wrap64 (R l i * wrap64 (X l (i + 1) - x)) + wrap64 (R l (i + 1) * wrap64 (x - X l i))) = _
    rw [wid (x := X l (i + 1) - x) (by omega) (by omega), wid (x := x - X l i) (by omega) (by omega), wid (x := R l i * (X l (i + 1) - x)) (by omega) (by omega), wid (x := R l (i + 1) * (x - X l i)) (by omega) (by omega), wid (by omega) (by omega)]
    rfl
  have ed : wrap64 ((nb l i).2.f0 - (nb l i).1.f0) = dn l i := wid (by show _ ≤ X l (i + 1) - X l i; omega) (by show X l (i + 1) - X l i < _; omega)
  have n0 : 0 ≤ nm l i x := by show 0 ≤ R l i * (X l (i + 1) - x) + R l (i + 1) * (x - X l i); omega
  have n1 : nm l i x ≤ 20000000000 := by show R l i * (X l (i + 1) - x) + R l (i + 1) * (x - X l i) ≤ _; omega
  have nle := nu_le (r := R l i) (s := R l (i + 1)) (m := 100000) h1 h2 q1 q3
  have c1 : fl (nm l i x) (dn l i) < 100001 := (fl_lt hd).2 (by show nu _ _ _ _ _ < 100001 * (X l (i + 1) - X l i); omega)
  have c0 := fl_nonneg hd n0
  have c2 := ce_le_fl (n := nm l i x) hd
  have c3 := fl_le_ce (n := nm l i x) hd
  have hdn : dn l i ≤ 100000 := by unfold dn; omega
  unfold bnds
  rw [en, ed, tdivE n0, wid (x := nm l i x + dn l i) (by omega) (by omega), wid (x := nm l i x + dn l i - 1) (by omega) (by omega), tdivE (by omega)]
  change (wrap64 (fl (nm l i x) (dn l i)), wrap64 (ce (nm l i x) (dn l i))) = _
  rw [wid (by omega) (by omega), wid (by omega) (by omega)]

theorem find_upto {l : List S30} {x : Int} : ∀ {m i : Nat}, i < m → x ≤ X l (i + 1) → (∀ j, j < i → X l (j + 1) < x) → (upto (nb l) m).find? (fun p => decide (x ≤ p.2.f0)) = some (nb l i)
  | 0, i, h, _, _ => by omega
  | m + 1, i, h, h1, h2 => by
    rw [upto_succ, List.find?_append]
    by_cases e : i = m
    · subst e
      have : (upto (nb l) i).find? (fun p => decide (x ≤ p.2.f0)) = none := by
        rw [List.find?_eq_none]
        intro p hp
        obtain ⟨j, hj, rfl⟩ := List.mem_map.1 hp
        have := h2 j (List.mem_range.1 hj)
        simp only [decide_eq_true_eq]
        show ¬ x ≤ X l (j + 1)
        omega
      rw [this, Option.none_or]
      have : decide (x ≤ (nb l i).2.f0) = true := decide_eq_true h1
      simp [this]
    · rw [find_upto (by omega) h1 h2, Option.some_or]
/-- which stave holds x -/
theorem Ok.stave {l : List S30} (h : Ok l) {x : Int} (h0 : 0 ≤ x) (h1 : x ≤ X l (l.length - 1)) : ∃ i, on l i x ∧ ∀ j, j < i → X l (j + 1) < x := by
  have key : ∀ m, m + 1 < l.length + 1 → (∀ j, j < m → X l (j + 1) < x) ∨ ∃ i, i < m ∧ x ≤ X l (i + 1) ∧ ∀ j, j < i → X l (j + 1) < x := by
    intro m
    induction m with
    | zero => intro _; exact .inl (fun j hj => by omega)
    | succ m ih =>
      intro hm
      rcases ih (by omega) with g | ⟨i, hi, g1, g2⟩
      · by_cases c : x ≤ X l (m + 1)
        · exact .inr ⟨m, by omega, c, g⟩
        · refine .inl (fun j hj => ?_)
          by_cases e : j = m
          · subst e; omega
          · exact g j (by omega)
      · exact .inr ⟨i, by omega, g1, g2⟩
  have l2 := h.len2
  rcases key (l.length - 1) (by omega) with g | ⟨i, hi, g1, g2⟩
  · have := g (l.length - 2) (by omega)
    rw [show l.length - 2 + 1 = l.length - 1 by omega] at this
    omega
  · refine ⟨i, ⟨by omega, ?_, g1⟩, g2⟩
    cases i with
    | zero => rw [h.zero]; exact h0
    | succ i => exact Int.le_of_lt (g2 i (by omega))
theorem Ok.sAt_first {l : List S30} (h : Ok l) {i : Nat} {x : Int} (ho : on l i x) (hf : ∀ j, j < i → X l (j + 1) < x) : sAt l x = (fl (nm l i x) (dn l i), ce (nm l i x) (dn l i)) := by
  unfold sAt
  have := ho.1
  rw [find_upto (i := i) (by omega) ho.2.2 hf]
  exact bnds_eq h ho
/-- the radius on any stave that holds x -/
theorem Ok.sAt_on {l : List S30} (h : Ok l) {i : Nat} {x : Int} (ho : on l i x) : sAt l x = (fl (nm l i x) (dn l i), ce (nm l i x) (dn l i)) := by
  by_cases c : X l i < x ∨ i = 0
  · refine h.sAt_first ho fun j hj => ?_
    have := h.le (i := j + 1) (j := i) (by omega) (by have := ho.1; omega)
    rcases c with c | c <;> omega
  · have h0 : 0 < i := by omega
    have hx : x = X l i := by have := ho.2.1; omega
    have hi := ho.1
    have ei : i - 1 + 1 = i := by omega
    have h3 : on l (i - 1) x := ⟨by omega, by have := h.inc (i - 1) (by omega); rw [ei] at this; omega, by rw [ei]; omega⟩
    rw [h.sAt_first h3 (fun j hj => by have := h.lt (i := j + 1) (j := i) (by omega) (by omega); omega)]
    have e1 : nm l (i - 1) x = R l i * dn l (i - 1) := by unfold nm dn; rw [ei, hx]; exact nu_right _ _ _ _
    have e2 : nm l i x = R l i * dn l i := by unfold nm dn; rw [hx]; exact nu_left _ _ _ _
    have d1 := h.dn_pos h3.1
    have d2 := h.dn_pos hi
    rw [e1, e2, fl_whole d1, ce_whole d1, fl_whole d2, ce_whole d2]
end Go.Proofs.Ytcbmmhedefigeaa.Prf

/-! Profiles, in plain numbers: the bung, turning, inserting, the inner profile. -/
namespace Go.Proofs.Ytcbmmhedefigeaa.Prf
set_option linter.unusedVariables false
set_option linter.unusedSimpArgs false
open Go.RowKit Go.Proofs.Ytcbmmhedefigeaa.X Go.Proofs.Ytcbmmhedefigeaa.It Go.Proofs.Ytcbmmhedefigeaa.Ln

/-! ### the bung -/
structure IsBung (l : List S30) (b : Nat) : Prop where
  lt : b < l.length
  before : ∀ i, i < b → R l i < R l b
  most : ∀ i, i < l.length → R l i ≤ R l b
theorem Ok.up1 {l : List S30} (h : Ok l) {b : Nat} (hb : IsBung l b) {i : Nat} (hi : i < b) : R l i ≤ R l (i + 1) := by
  rcases Int.lt_or_le (R l (i + 1)) (R l i) with g | g
  · exfalso
    have key : ∀ d, i + 1 + d ≤ b → R l (i + 1 + d) < R l i := by
      intro d
      induction d with
      | zero => intro _; exact g
      | succ d ih =>
        intro hd
        have := ih (by omega)
        have := h.uni i (i + 1 + d) (by omega) (by have := hb.lt; omega) g
        have e : i + 1 + (d + 1) = i + 1 + d + 1 := by omega
        rw [e]; omega
    have := key (b - (i + 1)) (by omega)
    rw [show i + 1 + (b - (i + 1)) = b by omega] at this
    have := hb.before i hi
    omega
  · exact g
theorem Ok.down1 {l : List S30} (h : Ok l) {b : Nat} (hb : IsBung l b) {i : Nat} (hi : b ≤ i) (hn : i + 1 < l.length) : R l (i + 1) ≤ R l i := by
  rcases Int.lt_or_le (R l i) (R l (i + 1)) with g | g
  · exfalso
    have key : ∀ d, d ≤ i - b → R l (i - d) ≤ R l i := by
      intro d
      induction d with
      | zero => intro _; simp
      | succ d ih =>
        intro hd
        have h1 := ih (by omega)
        rcases Int.lt_or_le (R l (i - d)) (R l (i - (d + 1))) with c | c
        · have e : i - (d + 1) + 1 = i - d := by omega
          have := h.uni (i - (d + 1)) i (by omega) hn (by rw [e]; exact c)
          omega
        · omega
    have := key (i - b) (by omega)
    rw [show i - (i - b) = b by omega] at this
    have := hb.most (i + 1) hn
    omega
  · exact g
theorem Ok.up {l : List S30} (h : Ok l) {b : Nat} (hb : IsBung l b) {i j : Nat} (hij : i ≤ j) (hj : j ≤ b) : R l i ≤ R l j := by
  obtain ⟨d, rfl⟩ := Nat.le.dest hij
  clear hij
  induction d with
  | zero => exact Int.le_refl _
  | succ d ih => exact Int.le_trans (ih (by omega)) (h.up1 hb (by omega))
theorem Ok.down {l : List S30} (h : Ok l) {b : Nat} (hb : IsBung l b) {i j : Nat} (hbi : b ≤ i) (hij : i ≤ j) (hj : j < l.length) : R l j ≤ R l i := by
  obtain ⟨d, rfl⟩ := Nat.le.dest hij
  clear hij
  induction d with
  | zero => exact Int.le_refl _
  | succ d ih => exact Int.le_trans (h.down1 hb (i := i + d) (by omega) (by omega)) (ih (by omega))
/-- the least radius lies at a head -/
theorem Ok.heads {l : List S30} (h : Ok l) {b : Nat} (hb : IsBung l b) {i : Nat} (hi : i < l.length) : min (R l 0) (R l (l.length - 1)) ≤ R l i := by
  rcases Nat.le_total i b with g | g
  · have := h.up hb (Nat.zero_le i) g; omega
  · have := h.down hb g (show i ≤ l.length - 1 by omega) (by omega); omega

theorem Ok.ge_on {l : List S30} (h : Ok l) {i : Nat} {x m : Int} (ho : on l i x) (h1 : m ≤ R l i) (h2 : m ≤ R l (i + 1)) : m ≤ (sAt l x).1 := by
  rw [h.sAt_on ho, le_fl (h.dn_pos ho.1)]
  exact nu_ge ho.2.1 ho.2.2 h1 h2
theorem Ok.le_on {l : List S30} (h : Ok l) {i : Nat} {x m : Int} (ho : on l i x) (h1 : R l i ≤ m) (h2 : R l (i + 1) ≤ m) : (sAt l x).2 ≤ m := by
  rw [h.sAt_on ho, ce_le (h.dn_pos ho.1)]
  exact nu_le ho.2.1 ho.2.2 h1 h2
theorem Ok.lo_hi {l : List S30} (h : Ok l) {x : Int} (h0 : 0 ≤ x) (h1 : x ≤ X l (l.length - 1)) : (sAt l x).1 ≤ (sAt l x).2 ∧ (sAt l x).2 ≤ (sAt l x).1 + 1 := by
  obtain ⟨i, ho, _⟩ := h.stave h0 h1
  rw [h.sAt_on ho]
  exact ⟨fl_le_ce (h.dn_pos ho.1), ce_le_fl (h.dn_pos ho.1)⟩
theorem Ok.mono_up {l : List S30} (h : Ok l) {b : Nat} (hb : IsBung l b) {x y : Int} (h0 : 0 ≤ x) (hxy : x ≤ y) (h1 : y ≤ X l b) : (sAt l x).1 ≤ (sAt l y).1 ∧ (sAt l x).2 ≤ (sAt l y).2 := by
  have hbl := hb.lt
  have hlast := h.le (i := b) (j := l.length - 1) (by omega) (by omega)
  obtain ⟨j, hj, fj⟩ := h.stave (x := y) (by omega) (by omega)
  have hjb : j + 1 ≤ b ∨ j = 0 := by
    by_cases e : j = 0
    · exact .inr e
    · left
      have := fj (j - 1) (by omega)
      rw [show j - 1 + 1 = j by omega] at this
      have := h.idx_lt (i := j) (j := b) (by have := hj.1; omega) (by omega)
      omega
  by_cases hj0 : b = 0
  · -- the bung is the first point: x = y = 0
    subst hj0
    have e : x = y := by rw [h.zero] at h1; omega
    rw [e]; exact ⟨Int.le_refl _, Int.le_refl _⟩
  have hjb : j + 1 ≤ b := by omega
  obtain ⟨i, hi, fi⟩ := h.stave (x := x) h0 (by omega)
  have hij : i ≤ j := by
    rcases Nat.lt_or_ge j i with g | g
    · have := fi (j) g
      have := hj.2.2
      omega
    · exact g
  rcases Nat.lt_or_eq_of_le hij with g | e
  · have a1 := h.up hb (i := i) (j := j) (by omega) (by omega)
    have a2 := h.up hb (i := i + 1) (j := j) (by omega) (by omega)
    have a3 := h.up hb (i := j) (j := j + 1) (by omega) (by omega)
    have c1 := h.le_on hi a1 a2
    have c2 := h.ge_on hj (Int.le_refl _) a3
    have d1 := h.lo_hi (x := x) h0 (by omega)
    have d2 := h.lo_hi (x := y) (by omega) (by omega)
    omega
  · subst e
    rw [h.sAt_on hi, h.sAt_on hj]
    have hd := h.dn_pos hi.1
    have := nu_up (a := X l i) (b := X l (i + 1)) (h.up hb (i := i) (j := i + 1) (by omega) hjb) hxy
    have := Int.mul_le_mul_of_nonneg_right this (Int.le_of_lt hd)
    exact ⟨fl_mono hd hd this, ce_mono hd hd this⟩
theorem Ok.mono_down {l : List S30} (h : Ok l) {b : Nat} (hb : IsBung l b) {x y : Int} (h0 : X l b ≤ x) (hxy : x ≤ y) (h1 : y ≤ X l (l.length - 1)) : (sAt l y).1 ≤ (sAt l x).1 ∧ (sAt l y).2 ≤ (sAt l x).2 := by
  have hbl := hb.lt
  have l2 := h.len2
  have hb0 := h.x0 b hbl
  obtain ⟨j, hj, fj⟩ := h.stave (x := y) (by omega) h1
  have hjl := hj.1
  -- a stave for x that starts at the bung or behind it
  obtain ⟨i, hi, hbi, hij⟩ : ∃ i, on l i x ∧ (b ≤ i ∨ x = y) ∧ (i ≤ j ∨ x = y) := by
    by_cases hxl : x = y
    · exact ⟨j, hxl ▸ hj, .inr hxl, .inr hxl⟩
    obtain ⟨i, hi, fi⟩ := h.stave (x := x) (by omega) (by omega)
    have hil := hi.1
    have hij : i ≤ j := by
      rcases Nat.lt_or_ge j i with g | g
      · have := fi j g; have := hj.2.2; omega
      · exact g
    by_cases c : b ≤ i
    · exact ⟨i, hi, .inl c, .inl hij⟩
    · -- x is the end of stave i, and the bung is i + 1
      have := h.le (i := i + 1) (j := b) (by omega) hbl
      have hx := hi.2.2
      have e : b = i + 1 := by
        rcases Nat.lt_or_ge (i + 1) b with g | g
        · have := h.lt g hbl; omega
        · omega
      have hjb : b ≤ j := by
        rcases Nat.lt_or_ge j b with g | g
        · have := hj.2.2
          have := h.le (i := j + 1) (j := b) (by omega) hbl
          omega
        · exact g
      subst e
      exact ⟨i + 1, ⟨by omega, by omega, by have := h.inc (i + 1) (by omega); omega⟩, .inl (Nat.le_refl _), .inl hjb⟩
  rcases hbi with hbi | e
  · rcases hij with hij | e
    · rcases Nat.lt_or_eq_of_le hij with g | e
      · have a1 := h.down hb (i := i + 1) (j := j) (by omega) (by omega) (by omega)
        have a2 := h.down hb (i := i) (j := i + 1) (by omega) (by omega) (by omega)
        have a3 := h.down hb (i := j) (j := j + 1) (by omega) (by omega) (by omega)
        have c1 := h.le_on hj (Int.le_refl _) a3
        have c2 := h.ge_on hi (show R l j ≤ R l i by omega) a1
        have d1 := h.lo_hi (x := x) (by omega) (by omega)
        have d2 := h.lo_hi (x := y) (by omega) h1
        omega
      · subst e
        rw [h.sAt_on hi, h.sAt_on hj]
        have hd := h.dn_pos hi.1
        have := nu_down (a := X l i) (b := X l (i + 1)) (h.down hb (i := i) (j := i + 1) hbi (by omega) (by omega)) hxy
        have := Int.mul_le_mul_of_nonneg_right this (Int.le_of_lt hd)
        exact ⟨fl_mono hd hd this, ce_mono hd hd this⟩
    · subst e; exact ⟨Int.le_refl _, Int.le_refl _⟩
  · subst e; exact ⟨Int.le_refl _, Int.le_refl _⟩

/-! ### turning -/
def last (l : List S30) : Int := X l (l.length - 1)
def sTurn (l : List S30) : List S30 := l.reverse.map fun z => ⟨last l - z.f0, z.f1⟩
theorem sTurn_len (l : List S30) : (sTurn l).length = l.length := by simp [sTurn]
theorem sTurn_get (l : List S30) {i : Nat} (hi : i < l.length) : (sTurn l)[i]?.getD z30 = ⟨last l - X l (l.length - 1 - i), R l (l.length - 1 - i)⟩ := by
  unfold sTurn X R
  rw [List.getElem?_map, List.getElem?_reverse hi, List.getElem?_eq_getElem (by omega)]
  simp
theorem X_turn (l : List S30) {i : Nat} (hi : i < l.length) : X (sTurn l) i = last l - X l (l.length - 1 - i) := by
  show ((sTurn l)[i]?.getD z30).f0 = _; rw [sTurn_get l hi]
theorem R_turn (l : List S30) {i : Nat} (hi : i < l.length) : R (sTurn l) i = R l (l.length - 1 - i) := by
  show ((sTurn l)[i]?.getD z30).f1 = _; rw [sTurn_get l hi]
theorem Ok.turn {l : List S30} (h : Ok l) : Ok (sTurn l) := by
  have l2 := h.len2
  refine ⟨by rw [sTurn_len]; exact h.len2, by rw [sTurn_len]; exact h.len32, fun i hi => ?_, fun i hi => ?_, fun i hi => ?_, fun i hi => ?_, ?_, fun i hi => ?_, fun i j hij hj hf => ?_⟩
  · rw [sTurn_len] at hi; rw [X_turn l hi]
    have := h.le (i := l.length - 1 - i) (j := l.length - 1) (by omega) (by omega)
    unfold last; omega
  · rw [sTurn_len] at hi; rw [X_turn l hi]
    have := h.x1 (l.length - 1) (by omega)
    have := h.x0 (l.length - 1 - i) (by omega)
    unfold last; omega
  · rw [sTurn_len] at hi; rw [R_turn l hi]; exact h.r0 _ (by omega)
  · rw [sTurn_len] at hi; rw [R_turn l hi]; exact h.r1 _ (by omega)
  · rw [X_turn l (by omega)]; simp [last]
  · rw [sTurn_len] at hi; rw [X_turn l (by omega), X_turn l hi]
    have := h.lt (i := l.length - 1 - (i + 1)) (j := l.length - 1 - i) (by omega) (by omega)
    omega
  · rw [sTurn_len] at hj
    rw [R_turn l (by omega), R_turn l (by omega)] at hf ⊢
    rcases Int.lt_or_le (R l (l.length - 1 - j)) (R l (l.length - 1 - (j + 1))) with c | c
    · have := h.uni (l.length - 1 - (j + 1)) (l.length - 1 - (i + 1)) (by omega) (by omega) (by rw [show l.length - 1 - (j + 1) + 1 = l.length - 1 - j by omega]; exact c)
      rw [show l.length - 1 - (i + 1) + 1 = l.length - 1 - i by omega] at this
      omega
    · exact c
theorem last_turn (l : List S30) (h : Ok l) : last (sTurn l) = last l := by
  have := h.len2
  unfold last
  rw [sTurn_len, X_turn l (by omega), show l.length - 1 - (l.length - 1) = 0 by omega, h.zero]
  simp [last]
theorem turn_turn {l : List S30} (h : Ok l) : sTurn (sTurn l) = l := by
  have e : sTurn (sTurn l) = (sTurn l).reverse.map fun z => ⟨last l - z.f0, z.f1⟩ := by
    show (sTurn l).reverse.map (fun z => (⟨last (sTurn l) - z.f0, z.f1⟩ : S30)) = _
    rw [last_turn l h]
  rw [e]
  unfold sTurn
  rw [← List.map_reverse, List.reverse_reverse, List.map_map]
  conv => rhs; rw [← List.map_id l]
  refine List.map_congr_left fun z hz => ?_
  cases z
  simp; omega
theorem Ok.turn_at {l : List S30} (h : Ok l) {x : Int} (h0 : 0 ≤ x) (h1 : x ≤ last l) : sAt (sTurn l) (last l - x) = sAt l x := by
  obtain ⟨i, hi, _⟩ := h.stave h0 h1
  have hil := hi.1
  have e1 : l.length - 1 - (l.length - 2 - i) = i + 1 := by omega
  have e2 : l.length - 1 - (l.length - 2 - i + 1) = i := by omega
  have hX1 := X_turn l (i := l.length - 2 - i) (by omega)
  have hX2 := X_turn l (i := l.length - 2 - i + 1) (by omega)
  have hR1 := R_turn l (i := l.length - 2 - i) (by omega)
  have hR2 := R_turn l (i := l.length - 2 - i + 1) (by omega)
  rw [e1] at hX1 hR1
  rw [e2] at hX2 hR2
  have ho : on (sTurn l) (l.length - 2 - i) (last l - x) := ⟨by rw [sTurn_len]; omega, by rw [hX1]; have := hi.2.2; omega, by rw [hX2]; have := hi.2.1; omega⟩
  rw [h.sAt_on hi, h.turn.sAt_on ho]
  have en : nm (sTurn l) (l.length - 2 - i) (last l - x) = nm l i x := by
    unfold nm; rw [hX1, hX2, hR1, hR2]; exact nu_rev _ _ _ _ _ _
  have ed : dn (sTurn l) (l.length - 2 - i) = dn l i := by unfold dn; rw [hX1, hX2]; omega
  rw [en, ed]

/-! ### inserting -/
def sIns (l : List S30) (i : Nat) (z : S30) : List S30 := l.take i ++ z :: l.drop i
theorem sIns_len (l : List S30) {i : Nat} (z : S30) (hi : i ≤ l.length) : (sIns l i z).length = l.length + 1 := by simp [sIns]; omega
theorem sIns_get (l : List S30) {i : Nat} (z : S30) (hi : i ≤ l.length) (j : Nat) : (sIns l i z)[j]?.getD z30 = if j < i then l[j]?.getD z30 else if j = i then z else l[j - 1]?.getD z30 := by
  unfold sIns
  by_cases h1 : j < i
  · rw [if_pos h1, List.getElem?_append_left (by simp; omega), List.getElem?_take_of_lt h1]
  · rw [if_neg h1, List.getElem?_append_right (by simp; omega)]
    simp only [List.length_take]
    rw [show min i l.length = i by omega]
    by_cases h2 : j = i
    · subst h2; simp
    · rw [if_neg h2]
      obtain ⟨d, rfl⟩ : ∃ d, j = i + d + 1 := ⟨j - i - 1, by omega⟩
      rw [show i + d + 1 - i = d + 1 by omega, List.getElem?_cons_succ, List.getElem?_drop, show i + d + 1 - 1 = i + d by omega]
theorem X_ins (l : List S30) {i : Nat} (z : S30) (hi : i ≤ l.length) (j : Nat) : X (sIns l i z) j = if j < i then X l j else if j = i then z.f0 else X l (j - 1) := by
  unfold X; rw [sIns_get l z hi]; (split; · rfl); split <;> rfl
theorem R_ins (l : List S30) {i : Nat} (z : S30) (hi : i ≤ l.length) (j : Nat) : R (sIns l i z) j = if j < i then R l j else if j = i then z.f1 else R l (j - 1) := by
  unfold R; rw [sIns_get l z hi]; (split; · rfl); split <;> rfl
/-- what an inserted point keeps -/
structure Lies (l : List S30) (i : Nat) (z : S30) : Prop where
  pos : 0 < i
  lt : i < l.length
  left : X l (i - 1) < z.f0
  right : z.f0 < X l i
  line : z.f1 * dn l (i - 1) = nm l (i - 1) z.f0
theorem Lies.between {l : List S30} (h : Ok l) {i : Nat} {z : S30} (g : Lies l i z) (m : Int) : (m ≤ R l (i - 1) → m ≤ R l i → m ≤ z.f1) ∧ (R l (i - 1) ≤ m → R l i ≤ m → z.f1 ≤ m) := by
  obtain ⟨g1, g2, g3, g4, g5⟩ := g
  have hd := h.dn_pos (i := i - 1) (by omega)
  have e : i - 1 + 1 = i := by omega
  constructor
  · intro h1 h2
    refine Int.le_of_mul_le_mul_right (a := dn l (i - 1)) ?_ hd
    rw [g5]
    unfold nm dn
    rw [e]
    exact nu_ge (by omega) (by omega) h1 h2
  · intro h1 h2
    refine Int.le_of_mul_le_mul_right (a := dn l (i - 1)) ?_ hd
    rw [g5]
    unfold nm dn
    rw [e]
    exact nu_le (by omega) (by omega) h1 h2
theorem Ok.ins {l : List S30} (h : Ok l) {i : Nat} {z : S30} (g : Lies l i z) (h32 : l.length < 32) : Ok (sIns l i z) := by
  obtain ⟨g1, g2, g3, g4, g5⟩ := id g
  have il : i ≤ l.length := by omega
  have b1 := (g.between h 1).1 (h.r0 _ (by omega)) (h.r0 _ g2)
  have b2 := (g.between h 100000).2 (h.r1 _ (by omega)) (h.r1 _ g2)
  have bl := (g.between h (R l (i - 1)))
  have br := (g.between h (R l i))
  have x0 := h.x0 (i - 1) (by omega)
  have x1 := h.x1 i g2
  refine ⟨by rw [sIns_len l z il]; have := h.len2; omega, by rw [sIns_len l z il]; omega, fun j hj => ?_, fun j hj => ?_, fun j hj => ?_, fun j hj => ?_, ?_, fun j hj => ?_, fun j k hjk hk hf => ?_⟩
  · rw [sIns_len l z il] at hj; rw [X_ins l z il]
    split; · exact h.x0 _ (by omega)
    split; · omega
    exact h.x0 _ (by omega)
  · rw [sIns_len l z il] at hj; rw [X_ins l z il]
    split; · exact h.x1 _ (by omega)
    split; · omega
    exact h.x1 _ (by omega)
  · rw [sIns_len l z il] at hj; rw [R_ins l z il]
    split; · exact h.r0 _ (by omega)
    split; · omega
    exact h.r0 _ (by omega)
  · rw [sIns_len l z il] at hj; rw [R_ins l z il]
    split; · exact h.r1 _ (by omega)
    split; · omega
    exact h.r1 _ (by omega)
  · rw [X_ins l z il, if_pos g1]; exact h.zero
  · rw [sIns_len l z il] at hj; rw [X_ins l z il, X_ins l z il]
    by_cases c : j + 1 < i
    · rw [if_pos (by omega), if_pos c]; exact h.inc j (by omega)
    · by_cases c2 : j + 1 = i
      · rw [if_pos (by omega), if_neg c, if_pos c2, show j = i - 1 by omega]; exact g3
      · rw [if_neg (by omega), if_neg c, if_neg c2]
        by_cases c3 : j = i
        · rw [if_pos c3, c3, show i + 1 - 1 = i by omega]; exact g4
        · rw [if_neg c3, show j + 1 - 1 = (j - 1) + 1 by omega]; exact h.inc (j - 1) (by omega)
  · -- the bulge: each new step goes the way of an old one
    rw [sIns_len l z il] at hk
    -- the old index of a step
    have old : ∀ s, s < l.length → ∃ t, t + 1 < l.length ∧ (t = if s < i then s else s - 1) ∧ (R (sIns l i z) (s + 1) < R (sIns l i z) s → R l (t + 1) < R l t) ∧ (R (sIns l i z) s < R (sIns l i z) (s + 1) → R l t < R l (t + 1)) := by
      intro s hs
      refine ⟨_, ?_, rfl, ?_⟩
      · split <;> omega
      · rw [R_ins l z il, R_ins l z il]
        by_cases c : s + 1 < i
        · rw [if_pos (show s < i by omega), if_pos (show s < i by omega), if_pos c]
          exact ⟨id, id⟩
        · by_cases c2 : s + 1 = i
          · rw [if_pos (show s < i by omega), if_pos (show s < i by omega), if_neg c, if_pos c2, c2, show s = i - 1 by omega]
            omega
          · rw [if_neg (show ¬ s < i by omega), if_neg (show ¬ s < i by omega), if_neg c, if_neg c2]
            by_cases c3 : s = i
            · rw [if_pos c3, c3, show i - 1 + 1 = i by omega, show i + 1 - 1 = i by omega]
              omega
            · rw [if_neg c3, show s + 1 - 1 = s - 1 + 1 by omega]
              exact ⟨id, id⟩
    obtain ⟨t, ht, et, ft, _⟩ := old j (by omega)
    obtain ⟨u, hu, eu, _, ru⟩ := old k (by omega)
    rcases Int.lt_or_le (R (sIns l i z) k) (R (sIns l i z) (k + 1)) with c | c
    · have a1 := ft hf
      have a2 := ru c
      rcases Nat.lt_trichotomy t u with q | q | q
      · have := h.uni t u q hu a1
        omega
      · subst q; omega
      · exfalso
        split at et <;> split at eu <;> omega
    · exact c
theorem last_ins {l : List S30} (h : Ok l) {i : Nat} {z : S30} (g : Lies l i z) : last (sIns l i z) = last l := by
  have g2 := g.lt
  unfold last
  rw [sIns_len l z (by omega), X_ins l z (by omega), if_neg (by omega), if_neg (by omega)]
  rfl
theorem Ok.ins_at {l : List S30} (h : Ok l) {i : Nat} {z : S30} (g : Lies l i z) (h32 : l.length < 32) {y : Int} (h0 : 0 ≤ y) (h1 : y ≤ last l) : sAt (sIns l i z) y = sAt l y := by
  have hm := h.ins g h32
  obtain ⟨g1, g2, g3, g4, g5⟩ := id g
  have il : i ≤ l.length := by omega
  have e : i - 1 + 1 = i := by omega
  obtain ⟨j, hj, _⟩ := h.stave h0 h1
  have hjl := hj.1
  have hml := sIns_len l z il
  have XI := X_ins l z il
  have RI := R_ins l z il
  rcases Nat.lt_trichotomy j (i - 1) with c | c | c
  · have e0 := XI j; have e1 := XI (j + 1); have f0 := RI j; have f1 := RI (j + 1)
    rw [if_pos (by omega)] at e0 e1 f0 f1
    have ho : on (sIns l i z) j y := ⟨by omega, by rw [e0]; exact hj.2.1, by rw [e1]; exact hj.2.2⟩
    rw [h.sAt_on hj, hm.sAt_on ho]
    unfold nm dn
    rw [e0, e1, f0, f1]
  · subst c
    have e0 := XI (i - 1); have f0 := RI (i - 1)
    rw [if_pos (by omega)] at e0 f0
    have e1 := XI i; have f1 := RI i
    rw [if_neg (by omega), if_pos rfl] at e1 f1
    have e2 := XI (i + 1); have f2 := RI (i + 1)
    rw [if_neg (by omega), if_neg (by omega), show i + 1 - 1 = i by omega] at e2 f2
    have hd := h.dn_pos hj.1
    have hdE : dn l (i - 1) = X l i - X l (i - 1) := by unfold dn; rw [e]
    have hnE : ∀ x, nm l (i - 1) x = nu (X l (i - 1)) (R l (i - 1)) (X l i) (R l i) x := by intro x; unfold nm; rw [e]
    rw [h.sAt_on hj]
    have hq := g5
    rw [hdE, hnE] at hq
    rcases Int.le_total y z.f0 with q | q
    · have ho : on (sIns l i z) (i - 1) y := ⟨by omega, by rw [e0]; exact hj.2.1, by rw [e, e1]; exact q⟩
      rw [hm.sAt_on ho]
      have hd' := hm.dn_pos ho.1
      have hx : nm (sIns l i z) (i - 1) y * dn l (i - 1) = nm l (i - 1) y * dn (sIns l i z) (i - 1) := by
        unfold dn nm
        rw [e, e0, e1, f0, f1]
        exact nu_part (nu_left _ _ _ _).symm hq
      rw [fl_same hd' hd hx, ce_same hd' hd hx]
    · have ho : on (sIns l i z) i y := ⟨by omega, by rw [e1]; exact q, by rw [e2]; have := hj.2.2; rw [e] at this; exact this⟩
      rw [hm.sAt_on ho]
      have hd' := hm.dn_pos ho.1
      have hx : nm (sIns l i z) i y * dn l (i - 1) = nm l (i - 1) y * dn (sIns l i z) i := by
        unfold dn nm
        rw [e, e1, e2, f1, f2]
        exact nu_part hq (nu_right _ _ _ _).symm
      rw [fl_same hd' hd hx, ce_same hd' hd hx]
  · have e0 := XI (j + 1); have e1 := XI (j + 1 + 1); have f0 := RI (j + 1); have f1 := RI (j + 1 + 1)
    rw [if_neg (by omega), if_neg (by omega)] at e0 e1 f0 f1
    simp only [Nat.add_sub_cancel] at e0 e1 f0 f1
    have ho : on (sIns l i z) (j + 1) y := ⟨by omega, by rw [e0]; exact hj.2.1, by rw [e1]; exact hj.2.2⟩
    rw [h.sAt_on hj, hm.sAt_on ho]
    unfold nm dn
    rw [e0, e1, f0, f1]
theorem ins_bung {l : List S30} (h : Ok l) {i : Nat} {z : S30} (g : Lies l i z) {b c : Nat} (hb : IsBung l b) (hc : IsBung (sIns l i z) c) : R l b = R (sIns l i z) c := by
  have g2 := g.lt
  have il : i ≤ l.length := by omega
  have hbl := hb.lt
  have hcl := hc.lt
  rw [sIns_len l z il] at hcl
  have RI := R_ins l z il
  apply Int.le_antisymm
  · by_cases q : b < i
    · have := hc.most b (by rw [sIns_len l z il]; omega)
      rw [RI b, if_pos q] at this
      exact this
    · have := hc.most (b + 1) (by rw [sIns_len l z il]; omega)
      rw [RI (b + 1), if_neg (by omega), if_neg (by omega)] at this
      exact this
  · rw [RI c]
    split
    · exact hb.most _ (by omega)
    · split
      · exact (g.between h _).2 (hb.most _ (by omega)) (hb.most _ (by omega))
      · exact hb.most _ (by omega)
end Go.Proofs.Ytcbmmhedefigeaa.Prf

/-! Profiles, in plain numbers: the inner profile lies below the outer one. -/
namespace Go.Proofs.Ytcbmmhedefigeaa.Prf
set_option linter.unusedVariables false
set_option linter.unusedSimpArgs false
open Go.RowKit Go.Proofs.Ytcbmmhedefigeaa.X Go.Proofs.Ytcbmmhedefigeaa.It Go.Proofs.Ytcbmmhedefigeaa.Ln

def mids (l : List S30) (f g t : Int) : List S30 := (l.filter fun z => decide (f < z.f0 ∧ z.f0 < g)).map fun z => ⟨z.f0 - f, z.f1 - t⟩
def sIn (l : List S30) (f g t : Int) : List S30 := ⟨0, (sAt l f).1 - t⟩ :: mids l f g t ++ [⟨g - f, (sAt l g).1 - t⟩]

theorem least (P : Nat → Prop) [DecidablePred P] : ∀ m, P m → ∃ a, a ≤ m ∧ P a ∧ ∀ j, j < a → ¬ P j := by
  intro m
  induction m using Nat.strongRecOn with
  | ind m ih =>
    intro h
    by_cases c : ∃ j, j < m ∧ P j
    · obtain ⟨j, hj, hp⟩ := c
      obtain ⟨a, h1, h2, h3⟩ := ih j hj hp
      exact ⟨a, by omega, h2, h3⟩
    · exact ⟨m, Nat.le_refl _, h, fun j hj hp => c ⟨j, hj, hp⟩⟩
theorem filter_range {p : S30 → Bool} {l : List S30} {a b : Nat} (hab : a ≤ b) (hb : b ≤ l.length) (hp : ∀ m, m < l.length → (p (l[m]?.getD z30) = true ↔ a ≤ m ∧ m < b)) : l.filter p = (l.take b).drop a := by
  have e : l = l.take a ++ ((l.take b).drop a ++ l.drop b) := by
    have h1 : l.take a = (l.take b).take a := by rw [List.take_take, Nat.min_eq_left hab]
    rw [← List.append_assoc, h1, List.take_append_drop, List.take_append_drop]
  have m1 : ∀ z, z ∈ l.take a → p z = false := by
    intro z hz
    obtain ⟨i, hi, rfl⟩ := List.mem_iff_getElem.1 hz
    rw [List.length_take] at hi
    have := hp i (by omega)
    rw [List.getElem?_eq_getElem (by omega)] at this
    rw [List.getElem_take]
    simp only [Option.getD_some] at this
    cases c : p (l[i]'(by omega)) with
    | false => rfl
    | true => have := this.1 c; omega
  have m3 : ∀ z, z ∈ l.drop b → p z = false := by
    intro z hz
    obtain ⟨i, hi, rfl⟩ := List.mem_iff_getElem.1 hz
    rw [List.length_drop] at hi
    have := hp (b + i) (by omega)
    rw [List.getElem?_eq_getElem (by omega)] at this
    rw [List.getElem_drop]
    simp only [Option.getD_some] at this
    cases c : p (l[b + i]'(by omega)) with
    | false => rfl
    | true => have := this.1 c; omega
  have m2 : ∀ z, z ∈ (l.take b).drop a → p z = true := by
    intro z hz
    obtain ⟨i, hi, rfl⟩ := List.mem_iff_getElem.1 hz
    rw [List.length_drop, List.length_take] at hi
    have := hp (a + i) (by omega)
    rw [List.getElem?_eq_getElem (by omega)] at this
    rw [List.getElem_drop, List.getElem_take]
    simp only [Option.getD_some] at this
    exact this.2 (by omega)
  conv => lhs; rw [e]
  have z1 : (l.take a).filter p = [] := List.filter_eq_nil_iff.2 fun z hz => by rw [m1 z hz]; simp
  have z3 : (l.drop b).filter p = [] := List.filter_eq_nil_iff.2 fun z hz => by rw [m3 z hz]; simp
  rw [List.filter_append, List.filter_append, z1, z3, List.filter_eq_self.2 m2]
  simp
/-- a point at u of height v lies at least t below stave j -/
structure Under (l : List S30) (j : Nat) (t u v : Int) : Prop where
  on : on l j u
  below : v * dn l j ≤ nm l j u - t * dn l j
theorem under_lo {l : List S30} (h : Ok l) {j : Nat} {t u : Int} (ho : on l j u) : Under l j t u ((sAt l u).1 - t) := by
  refine ⟨ho, ?_⟩
  rw [h.sAt_on ho]
  have := fl_spec (n := nm l j u) (h.dn_pos ho.1)
  rw [Int.sub_mul]
  exact Int.sub_le_sub_right this _
theorem under_left {l : List S30} (h : Ok l) {j : Nat} {t : Int} (hj : j + 1 < l.length) : Under l j t (X l j) (R l j - t) := by
  refine ⟨⟨hj, Int.le_refl _, Int.le_of_lt (h.inc j hj)⟩, ?_⟩
  have : nm l j (X l j) = R l j * dn l j := nu_left _ _ _ _
  rw [this, Int.sub_mul]
  exact Int.le_refl _
theorem under_right {l : List S30} (h : Ok l) {j : Nat} {t : Int} (hj : j + 1 < l.length) : Under l j t (X l (j + 1)) (R l (j + 1) - t) := by
  refine ⟨⟨hj, Int.le_of_lt (h.inc j hj), Int.le_refl _⟩, ?_⟩
  have : nm l j (X l (j + 1)) = R l (j + 1) * dn l j := nu_right _ _ _ _
  rw [this, Int.sub_mul]
  exact Int.le_refl _
theorem under_stave {l q : List S30} (h : Ok l) (hq : Ok q) {j k : Nat} {f t x : Int} (h1 : Under l j t (X q k + f) (R q k)) (h2 : Under l j t (X q (k + 1) + f) (R q (k + 1))) (ho : on q k x) :
    (sAt q x).1 ≤ (sAt l (x + f)).1 - t ∧ (sAt q x).2 ≤ (sAt l (x + f)).2 - t := by
  have hjl := h1.on.1
  have hd := h.dn_pos hjl
  have hd' := hq.dn_pos ho.1
  have hon : on l j (x + f) := ⟨hjl, by have := h1.on.2.1; have := ho.2.1; omega, by have := h2.on.2.2; have := ho.2.2; omega⟩
  have key := nu_inner (a := X l j) (r := R l j) (b := X l (j + 1)) (s := R l (j + 1)) (x := x + f) (u := X q k + f) (v := X q (k + 1) + f) (p := R q k) (q := R q (k + 1)) (d := t) (by unfold dn at hd; omega)
    (by have := ho.2.1; omega) (by have := ho.2.2; omega) h1.below h2.below
  have e1 : nu (X q k + f) (R q k) (X q (k + 1) + f) (R q (k + 1)) (x + f) = nm q k x := by unfold nm nu; grind
  have e2 : X q (k + 1) + f - (X q k + f) = dn q k := by unfold dn; omega
  rw [e1, e2] at key
  rw [hq.sAt_on ho, h.sAt_on hon]
  exact ⟨by rw [← fl_sub hd]; exact fl_mono hd' hd key, by rw [← ce_sub hd]; exact ce_mono hd' hd key⟩
/-- the inner points, one by one -/
theorem sIn_get {l : List S30} (h : Ok l) {f g t : Int} (h0 : 0 ≤ f) (h1 : f < g) (h2 : g ≤ last l) : ∃ a b : Nat, 0 < a ∧ a ≤ b ∧ b < l.length ∧ X l (a - 1) ≤ f ∧ f < X l a ∧ g ≤ X l b ∧ (∀ i, i < b → X l i < g) ∧
    (sIn l f g t).length = b - a + 2 ∧ (sIn l f g t)[0]?.getD z30 = ⟨0, (sAt l f).1 - t⟩ ∧ (sIn l f g t)[b - a + 1]?.getD z30 = ⟨g - f, (sAt l g).1 - t⟩ ∧
    ∀ k, 1 ≤ k → k ≤ b - a → (sIn l f g t)[k]?.getD z30 = ⟨X l (a + k - 1) - f, R l (a + k - 1) - t⟩ := by
  have l2 := h.len2
  obtain ⟨a, a1, a2, a3⟩ := least (fun i => f < X l i) (l.length - 1) (by show f < last l; omega)
  obtain ⟨b, b1, b2, b3⟩ := least (fun i => g ≤ X l i) (l.length - 1) h2
  have ha : 0 < a := by
    rcases Nat.eq_zero_or_pos a with e | e
    · subst e; rw [h.zero] at a2; omega
    · exact e
  have hab : a ≤ b := by
    rcases Nat.lt_or_ge b a with c | c
    · have := a3 b c; omega
    · exact c
  have hf : (l.filter fun z => decide (f < z.f0 ∧ z.f0 < g)) = (l.take b).drop a := by
    refine filter_range hab (by omega) fun m hm => ?_
    show decide (f < X l m ∧ X l m < g) = true ↔ _
    rw [decide_eq_true_eq]
    constructor
    · rintro ⟨c1, c2⟩
      constructor
      · rcases Nat.lt_or_ge m a with c | c
        · have := h.le (i := m) (j := a - 1) (by omega) (by omega)
          have := a3 (a - 1) (by omega)
          omega
        · exact c
      · rcases Nat.lt_or_ge m b with c | c
        · exact c
        · have := h.le c hm; omega
    · rintro ⟨c1, c2⟩
      have := h.le c1 hm
      have := b3 m c2
      exact ⟨by omega, by omega⟩
  have hml : (mids l f g t).length = b - a := by unfold mids; rw [hf]; simp; omega
  refine ⟨a, b, ha, hab, by omega, by have := a3 (a - 1) (by omega); omega, a2, b2, fun i hi => by have := b3 i hi; omega, ?_, ?_, ?_, fun k k1 k2 => ?_⟩
  · unfold sIn; simp [hml]
  · unfold sIn; simp
  · unfold sIn
    rw [List.getElem?_append_right (by simp [hml])]
    simp [hml]
  · unfold sIn
    rw [List.getElem?_append_left (by simp [hml]; omega)]
    obtain ⟨k, rfl⟩ : ∃ m, k = m + 1 := ⟨k - 1, by omega⟩
    rw [List.getElem?_cons_succ]
    unfold mids
    rw [hf, List.getElem?_map, List.getElem?_drop, List.getElem?_take_of_lt (by omega), List.getElem?_eq_getElem (by omega)]
    unfold X R
    rw [show a + (k + 1) - 1 = a + k by omega, List.getElem?_eq_getElem (by omega)]
    rfl
theorem last_in {l : List S30} (f g t : Int) : last (sIn l f g t) = g - f := by
  unfold last X sIn
  simp
theorem Ok.inner {l : List S30} (h : Ok l) {f g t x : Int} (h0 : 0 ≤ f) (h1 : f < g) (h2 : g ≤ last l) (hq : Ok (sIn l f g t)) (x0 : 0 ≤ x) (x1 : x ≤ g - f) :
    (sAt (sIn l f g t) x).1 ≤ (sAt l (x + f)).1 - t ∧ (sAt (sIn l f g t) x).2 ≤ (sAt l (x + f)).2 - t := by
  obtain ⟨a, b, ha, hab, hb, f1, f2, g1, g2, hlen, e0, eE, eM⟩ := sIn_get h (t := t) h0 h1 h2
  obtain ⟨k, ho, _⟩ := hq.stave x0 (by have := last_in (l := l) f g t; unfold last at this; omega)
  have hk := ho.1
  rw [hlen] at hk
  have ej : a + k - 1 + 1 = a + k := by omega
  have hjl : a + k - 1 + 1 < l.length := by omega
  have fa : f ≤ X l a := by omega
  refine under_stave h hq (j := a + k - 1) ?_ ?_ ho
  · by_cases c : k = 0
    · subst c
      have e0' : X (sIn l f g t) 0 = 0 := by unfold X; rw [e0]
      have e0'' : R (sIn l f g t) 0 = (sAt l f).1 - t := by unfold R; rw [e0]
      rw [e0', e0'', Int.zero_add]
      exact under_lo h ⟨hjl, by simpa using f1, by rw [ej]; simpa using fa⟩
    · have e := eM k (by omega) (by omega)
      have e1 : X (sIn l f g t) k = X l (a + k - 1) - f := by show ((sIn l f g t)[k]?.getD z30).f0 = _; rw [e]
      have e2 : R (sIn l f g t) k = R l (a + k - 1) - t := by show ((sIn l f g t)[k]?.getD z30).f1 = _; rw [e]
      rw [e1, e2, Int.sub_add_cancel]
      exact under_left h hjl
  · by_cases c : k = b - a
    · have e1 : X (sIn l f g t) (k + 1) = g - f := by show ((sIn l f g t)[k + 1]?.getD z30).f0 = _; rw [c, eE]
      have e2 : R (sIn l f g t) (k + 1) = (sAt l g).1 - t := by show ((sIn l f g t)[k + 1]?.getD z30).f1 = _; rw [c, eE]
      rw [e1, e2, Int.sub_add_cancel]
      refine under_lo h ⟨hjl, ?_, by rw [ej, show a + k = b by omega]; exact g1⟩
      rw [show a + k - 1 = b - 1 by omega]
      exact Int.le_of_lt (g2 (b - 1) (by omega))
    · have e := eM (k + 1) (by omega) (by omega)
      have e1 : X (sIn l f g t) (k + 1) = X l (a + k) - f := by show ((sIn l f g t)[k + 1]?.getD z30).f0 = _; rw [e]; rfl
      have e2 : R (sIn l f g t) (k + 1) = R l (a + k) - t := by show ((sIn l f g t)[k + 1]?.getD z30).f1 = _; rw [e]; rfl
      rw [e1, e2, Int.sub_add_cancel]
      have := under_right h (t := t) hjl
      rw [ej] at this
      exact this
end Go.Proofs.Ytcbmmhedefigeaa.Prf
/-! What the functions of a profile come to, in plain numbers. -/
namespace Go.Proofs.Ytcbmmhedefigeaa.Prf
set_option linter.unusedVariables false
set_option linter.unusedSimpArgs false
open Go.RowKit Go.Proofs.Ytcbmmhedefigeaa.X Go.Proofs.Ytcbmmhedefigeaa.It Go.Proofs.Ytcbmmhedefigeaa.Ln

theorem rdX (l : List S30) (i : Nat) : (rd_T30 l (i : Int)).f0 = X l i := rfl
theorem rdR (l : List S30) (i : Nat) : (rd_T30 l (i : Int)).f1 = R l i := rfl
theorem rdP (l : List S30) (i : Nat) : rd_T30 l (i : Int) = l[i]?.getD z30 := rfl
theorem wsucc {i : Nat} (h : i ≤ 100) : wrap64 ((i : Int) + 1) = ((i + 1 : Nat) : Int) := by rw [wid (by omega) (by omega)]; omega
theorem wpred {i : Nat} (h0 : 1 ≤ i) (h : i ≤ 100) : wrap64 ((i : Int) - 1) = ((i - 1 : Nat) : Int) := by rw [wid (by omega) (by omega)]; omega
theorem ext_getD {a b : List S30} (h : a.length = b.length) (g : ∀ j, j < a.length → a[j]?.getD z30 = b[j]?.getD z30) : a = b := by
  refine List.ext_getElem h fun j h1 h2 => ?_
  have := g j h1
  rw [List.getElem?_eq_getElem h1, List.getElem?_eq_getElem h2] at this
  exact this
theorem set_getD (l : List S30) (i : Nat) (z : S30) (hi : i < l.length) (j : Nat) : (l.set i z)[j]?.getD z30 = if j = i then z else l[j]?.getD z30 := by
  rw [List.getElem?_set]
  by_cases c : i = j
  · subst c; simp [hi]
  · rw [if_neg c, if_neg (fun e => c e.symm)]

theorem clone_f (l : List S30) (h : l.length ≤ 40) : api_Point_13.f l = some l := by unfold api_Point_13.f; rw [if_pos (by omega)]
theorem check_f (l : List S30) : profile_Check.f l = some (sCheck l) := rfl
theorem length_f {l : List S30} (h1 : 1 ≤ l.length) (h : l.length ≤ 100) : profile_length.f l = some (last l) := by
  unfold profile_length.f
  rw [wpred h1 h, if_pos (by omega), if_pos (by omega)]
  rfl
theorem few_f (l : List S30) : spileref08_Few.f l = some (decide ((l.length : Int) ≤ 33)) := rfl
end Go.Proofs.Ytcbmmhedefigeaa.Prf
/-! Sums of frustums, in plain numbers. -/
namespace Go.Proofs.Ytcbmmhedefigeaa.Prf
set_option linter.unusedVariables false
set_option linter.unusedSimpArgs false
open Go.RowKit Go.Proofs.Ytcbmmhedefigeaa.X Go.Proofs.Ytcbmmhedefigeaa.It Go.Proofs.Ytcbmmhedefigeaa.Ln

/-- a frustum -/
def fq (h a b : Int) : Int := h * (a * a + a * b + b * b)
def fr (l : List S30) (i : Nat) : Int := fq (X l (i + 1) - X l i) (R l i) (R l (i + 1))
/-- the sum of the first m -/
def sm (l : List S30) : Nat → Int
  | 0 => 0
  | m + 1 => sm l m + fr l m
def sum (l : List S30) : Int := sm l (l.length - 1)
theorem sq_bound {a b M : Int} (a0 : 0 ≤ a) (a1 : a ≤ M) (b0 : 0 ≤ b) (b1 : b ≤ M) : 0 ≤ a * a + a * b + b * b ∧ a * a + a * b + b * b ≤ 3 * (M * M) := by
  have m1 := mul_bound a0 a1 a0 a1
  have m2 := mul_bound a0 a1 b0 b1
  have m3 := mul_bound b0 b1 b0 b1
  omega
theorem fq_bound {h a b M : Int} (h0 : 0 ≤ h) (a0 : 0 ≤ a) (a1 : a ≤ M) (b0 : 0 ≤ b) (b1 : b ≤ M) : 0 ≤ fq h a b ∧ fq h a b ≤ h * (3 * (M * M)) := by
  have q := sq_bound a0 a1 b0 b1
  exact ⟨Int.mul_nonneg h0 q.1, Int.mul_le_mul_of_nonneg_left q.2 h0⟩
theorem sq_least {a b M : Int} (M0 : 0 ≤ M) (a0 : M ≤ a) (b0 : M ≤ b) : 3 * (M * M) ≤ a * a + a * b + b * b := by
  have m1 := Int.mul_le_mul a0 a0 M0 (by omega)
  have m2 := Int.mul_le_mul a0 b0 M0 (by omega)
  have m3 := Int.mul_le_mul b0 b0 M0 (by omega)
  omega
theorem fq_least {h a b M : Int} (h0 : 0 ≤ h) (M0 : 0 ≤ M) (a0 : M ≤ a) (b0 : M ≤ b) : h * (3 * (M * M)) ≤ fq h a b :=
  Int.mul_le_mul_of_nonneg_left (sq_least M0 a0 b0) h0
theorem sm_bound {l : List S30} (h : Ok l) {M : Int} (hM : ∀ i, i < l.length → R l i ≤ M) : ∀ m, m < l.length → 0 ≤ sm l m ∧ sm l m ≤ X l m * (3 * (M * M))
  | 0, _ => by
    show (0 : Int) ≤ 0 ∧ (0 : Int) ≤ _
    rw [h.zero]; simp
  | m + 1, hm => by
    have ih := sm_bound h hM m (by omega)
    have hx := h.inc m hm
    have q := fq_bound (h := X l (m + 1) - X l m) (a := R l m) (b := R l (m + 1)) (M := M) (by omega) (by have := h.r0 m (by omega); omega) (hM m (by omega)) (by have := h.r0 (m + 1) hm; omega) (hM (m + 1) hm)
    have e : X l (m + 1) * (3 * (M * M)) = X l m * (3 * (M * M)) + (X l (m + 1) - X l m) * (3 * (M * M)) := by grind
    have e2 : sm l (m + 1) = sm l m + fq (X l (m + 1) - X l m) (R l m) (R l (m + 1)) := rfl
    omega
theorem sm_least {l : List S30} (h : Ok l) {M : Int} (M0 : 0 ≤ M) (hM : ∀ i, i < l.length → M ≤ R l i) : ∀ m, m < l.length → X l m * (3 * (M * M)) ≤ sm l m
  | 0, _ => by
    show _ ≤ (0 : Int)
    rw [h.zero]; simp
  | m + 1, hm => by
    have ih := sm_least h M0 hM m (by omega)
    have hx := h.inc m hm
    have q := fq_least (h := X l (m + 1) - X l m) (a := R l m) (b := R l (m + 1)) (M := M) (by omega) M0 (hM m (by omega)) (hM (m + 1) hm)
    have e : X l (m + 1) * (3 * (M * M)) = X l m * (3 * (M * M)) + (X l (m + 1) - X l m) * (3 * (M * M)) := by grind
    have e2 : sm l (m + 1) = sm l m + fq (X l (m + 1) - X l m) (R l m) (R l (m + 1)) := rfl
    omega
theorem Ok.sm_top {l : List S30} (h : Ok l) {m : Nat} (hm : m < l.length) : 0 ≤ sm l m ∧ sm l m ≤ 3000000000000000 := by
  have := sm_bound h (M := 100000) h.r1 m hm
  have := h.x1 m hm
  have := h.x0 m hm
  have e : X l m * (3 * (100000 * 100000)) ≤ 100000 * (3 * (100000 * 100000)) := Int.mul_le_mul_of_nonneg_right (by omega) (by decide)
  omega
theorem Ok.sum_top {l : List S30} (h : Ok l) : 0 ≤ sum l ∧ sum l ≤ 3000000000000000 := h.sm_top (by have := h.len2; omega)
theorem fru_eq {l : List S30} (h : Ok l) {i : Nat} (hi : i + 1 < l.length) : fru (sm l i) (wrap64 (X l (i + 1) - X l i)) (R l i) (R l (i + 1)) = sm l (i + 1) := by
  have t0 := h.sm_top (m := i) (by omega)
  have t1 := h.sm_top hi
  have hx := h.inc i hi
  have p0 := h.x0 i (by omega)
  have p1 := h.x1 (i + 1) hi
  have a0 := h.r0 i (by omega); have a1 := h.r1 i (by omega); have b0 := h.r0 (i + 1) hi; have b1 := h.r1 (i + 1) hi
  have m1 := mul_bound (a := R l i) (b := R l i) (A := 100000) (B := 100000) (by omega) a1 (by omega) a1
  have m2 := mul_bound (a := R l i) (b := R l (i + 1)) (A := 100000) (B := 100000) (by omega) a1 (by omega) b1
  have m3 := mul_bound (a := R l (i + 1)) (b := R l (i + 1)) (A := 100000) (B := 100000) (by omega) b1 (by omega) b1
  have q := fq_bound (h := X l (i + 1) - X l i) (a := R l i) (b := R l (i + 1)) (M := 100000) (by omega) (by omega) a1 (by omega) b1
  have e : sm l (i + 1) = sm l i + (X l (i + 1) - X l i) * (R l i * R l i + R l i * R l (i + 1) + R l (i + 1) * R l (i + 1)) := rfl
  have q1 : fq (X l (i + 1) - X l i) (R l i) (R l (i + 1)) = (X l (i + 1) - X l i) * (R l i * R l i + R l i * R l (i + 1) + R l (i + 1) * R l (i + 1)) := rfl
  rw [q1] at q
  unfold fru
  rw [wid (x := X l (i + 1) - X l i) (by omega) (by omega), wid (x := R l i * R l i) (by omega) (by omega), wid (x := R l i * R l (i + 1)) (by omega) (by omega), wid (x := R l (i + 1) * R l (i + 1)) (by omega) (by omega),
    wid (x := R l i * R l i + R l i * R l (i + 1)) (by omega) (by omega), wid (x := R l i * R l i + R l i * R l (i + 1) + R l (i + 1) * R l (i + 1)) (by omega) (by omega)]
  rw [wid (x := (X l (i + 1) - X l i) * (R l i * R l i + R l i * R l (i + 1) + R l (i + 1) * R l (i + 1))) (by omega) (by omega), wid (by omega) (by omega), e]
theorem fru_loop {l : List S30} (h : Ok l) : ∀ d i k, i + d = l.length → d < k → 1 ≤ i → capacity_Frustums.l0 k l (i : Int) (sm l (i - 1)) = some (sum l, 0)
  | 0, i, k, hd, hk, h1 => by
    obtain ⟨k, rfl⟩ : ∃ m, k = m + 1 := ⟨k - 1, by omega⟩
    simp only [capacity_Frustums.l0]
    rw [if_neg (by omega), show i - 1 = l.length - 1 by omega]; rfl
  | d + 1, i, k, hd, hk, h1 => by
    obtain ⟨k, rfl⟩ : ∃ m, k = m + 1 := ⟨k - 1, by omega⟩
    have l32 := h.len32
    simp only [capacity_Frustums.l0]
    rw [if_pos (by omega), if_pos (by omega), wpred h1 (by omega), if_pos (by omega), if_pos (by omega), rdX, rdX, rdR, rdR, wsucc (by omega)]
    have e := fru_eq h (i := i - 1) (by omega)
    rw [show i - 1 + 1 = i by omega] at e
    rw [e]
    exact fru_loop h d (i + 1) k (by omega) (by omega) (by omega)
theorem Fru_ok {l : List S30} (h : Ok l) {k : Nat} (hk : 50 ≤ k) : capacity_Frustums.f k l = some (sum l, 0) := by
  have := h.len2; have := h.len32
  unfold capacity_Frustums.f
  rw [check_f, Option.bind_some, if_pos (ok_sCheck h)]
  exact fru_loop h (l.length - 1) 1 k (by omega) (by omega) (by omega)
theorem Fru_bad {l : List S30} (h : sCheck l ≠ 0) (k : Nat) : capacity_Frustums.f k l = some (0, sCheck l) := by
  unfold capacity_Frustums.f
  rw [check_f, Option.bind_some, if_neg h]
/-- the bounds of a space -/
def lowS (s : Int) : Int := s * 333 / 318
def highS (s : Int) : Int := (s * 355 + 338) / 339
theorem Space_ok {l : List S30} (h : Ok l) {k : Nat} (hk : 50 ≤ k) : capacity_Space.f k l = some (lowS (sum l), highS (sum l), 0) := by
  have := h.sum_top
  unfold capacity_Space.f
  rw [Fru_ok h hk, Option.bind_some, if_pos rfl]
  simp only []
  rw [wid (x := sum l * 333) (by omega) (by omega), wid (x := sum l * 355) (by omega) (by omega), wid (x := sum l * 355 + 338) (by omega) (by omega), tdivE (by omega), tdivE (by omega), wid (x := sum l * 333 / 318) (by omega) (by omega), wid (x := (sum l * 355 + 338) / 339) (by omega) (by omega)]
  rfl
theorem Space_bad {l : List S30} (h : sCheck l ≠ 0) (k : Nat) : capacity_Space.f k l = some (0, 0, sCheck l) := by
  unfold capacity_Space.f
  rw [Fru_bad h, Option.bind_some, if_neg h]
theorem low_high {s : Int} (h : 0 ≤ s) : lowS s ≤ highS s := by unfold lowS highS; omega
theorem low_mono {s t : Int} (h : s ≤ t) : lowS s ≤ lowS t := by unfold lowS; omega
theorem high_mono {s t : Int} (h : s ≤ t) : highS s ≤ highS t := by unfold highS; omega

/-! ### turning -/
theorem fq_swap (h a b : Int) : fq h a b = fq h b a := by unfold fq; grind
theorem fr_turn {l : List S30} {i : Nat} (hi : i + 1 < l.length) : fr (sTurn l) i = fr l (l.length - 2 - i) := by
  unfold fr
  rw [X_turn l hi, X_turn l (by omega), R_turn l hi, R_turn l (by omega), fq_swap]
  rw [show l.length - 1 - (i + 1) = l.length - 2 - i by omega, show l.length - 1 - i = l.length - 2 - i + 1 by omega]
  congr 1
  omega
theorem sm_turn {l : List S30} (h : Ok l) : ∀ m, m + 1 ≤ l.length → sm (sTurn l) m + sm l (l.length - 1 - m) = sum l
  | 0, _ => by show 0 + sm l (l.length - 1) = sum l; simp [sum]
  | m + 1, hm => by
    have ih := sm_turn h m (by omega)
    have e : sm (sTurn l) (m + 1) = sm (sTurn l) m + fr (sTurn l) m := rfl
    rw [e, fr_turn (by omega)]
    have e2 : sm l (l.length - 1 - m) = sm l (l.length - 2 - m) + fr l (l.length - 2 - m) := by
      rw [show l.length - 1 - m = l.length - 2 - m + 1 by omega]; rfl
    rw [show l.length - 1 - (m + 1) = l.length - 2 - m by omega]
    omega
theorem sum_turn {l : List S30} (h : Ok l) : sum (sTurn l) = sum l := by
  have := h.len2
  have e := sm_turn h (l.length - 1) (by omega)
  rw [show l.length - 1 - (l.length - 1) = 0 by omega] at e
  have z : sm l 0 = 0 := rfl
  unfold sum at *
  rw [sTurn_len]
  omega

/-! ### inserting -/
theorem fq_part {p r q d1 d2 : Int} (h : r * (d1 + d2) = p * d2 + q * d1) : fq d1 p r + fq d2 r q = fq (d1 + d2) p q := by
  have e : fq d1 p r + fq d2 r q - fq (d1 + d2) p q = (p + q + r) * (r * (d1 + d2) - (p * d2 + q * d1)) := by unfold fq; grind
  rw [h] at e
  simp at e
  omega
theorem fr_left {l : List S30} {i : Nat} {z : S30} (hi : i ≤ l.length) {j : Nat} (hj : j + 1 < i) : fr (sIns l i z) j = fr l j := by
  unfold fr; rw [X_ins l z hi, X_ins l z hi, R_ins l z hi, R_ins l z hi, if_pos hj, if_pos (by omega), if_pos hj, if_pos (by omega)]
theorem fr_right {l : List S30} {i : Nat} {z : S30} (hi : i ≤ l.length) {j : Nat} (hj : i ≤ j) : fr (sIns l i z) (j + 1) = fr l j := by
  unfold fr; rw [X_ins l z hi, X_ins l z hi, R_ins l z hi, R_ins l z hi, if_neg (by omega), if_neg (by omega), if_neg (by omega), if_neg (by omega), if_neg (by omega), if_neg (by omega), if_neg (by omega), if_neg (by omega)]
  simp
theorem fr_mid {l : List S30} (h : Ok l) {i : Nat} {z : S30} (g : Lies l i z) : fr (sIns l i z) (i - 1) + fr (sIns l i z) i = fr l (i - 1) := by
  obtain ⟨g1, g2, g3, g4, g5⟩ := g
  have hi : i ≤ l.length := by omega
  have e : i - 1 + 1 = i := by omega
  have x0 : X (sIns l i z) (i - 1) = X l (i - 1) := by rw [X_ins l z hi, if_pos (by omega)]
  have x1 : X (sIns l i z) i = z.f0 := by rw [X_ins l z hi, if_neg (by omega), if_pos rfl]
  have x2 : X (sIns l i z) (i + 1) = X l i := by rw [X_ins l z hi, if_neg (by omega), if_neg (by omega), Nat.add_sub_cancel]
  have r0 : R (sIns l i z) (i - 1) = R l (i - 1) := by rw [R_ins l z hi, if_pos (by omega)]
  have r1 : R (sIns l i z) i = z.f1 := by rw [R_ins l z hi, if_neg (by omega), if_pos rfl]
  have r2 : R (sIns l i z) (i + 1) = R l i := by rw [R_ins l z hi, if_neg (by omega), if_neg (by omega), Nat.add_sub_cancel]
  unfold fr
  rw [e, x0, x1, x2, r0, r1, r2]
  unfold dn nm nu at g5
  rw [e] at g5
  have := fq_part (p := R l (i - 1)) (r := z.f1) (q := R l i) (d1 := z.f0 - X l (i - 1)) (d2 := X l i - z.f0) (by rw [show z.f0 - X l (i - 1) + (X l i - z.f0) = X l i - X l (i - 1) by omega]; exact g5)
  rw [show z.f0 - X l (i - 1) + (X l i - z.f0) = X l i - X l (i - 1) by omega] at this
  exact this
theorem sm_ins {l : List S30} (h : Ok l) {i : Nat} {z : S30} (g : Lies l i z) : ∀ m, (m + 1 ≤ i → sm (sIns l i z) m = sm l m) ∧ (i ≤ m → sm (sIns l i z) (m + 1) = sm l m)
  | 0 => ⟨fun _ => rfl, fun hm => by have := g.pos; omega⟩
  | m + 1 => by
    obtain ⟨ih1, ih2⟩ := sm_ins h g m
    have g2 := g.lt
    constructor
    · intro hm
      show sm (sIns l i z) m + fr (sIns l i z) m = sm l m + fr l m
      rw [ih1 (by omega), fr_left (by omega) hm]
    · intro hm
      show sm (sIns l i z) (m + 1) + fr (sIns l i z) (m + 1) = sm l m + fr l m
      by_cases c : i = m + 1
      · have e1 : sm (sIns l i z) (m + 1) = sm l m + fr (sIns l i z) m := by
          show sm (sIns l i z) m + fr (sIns l i z) m = _; rw [ih1 (by omega)]
        have e2 := fr_mid h g
        rw [c, Nat.add_sub_cancel] at e2
        rw [c] at e1
        rw [c, e1]; omega
      · rw [ih2 (by omega), fr_right (by omega) (by omega)]
theorem sum_ins {l : List S30} (h : Ok l) {i : Nat} {z : S30} (g : Lies l i z) : sum (sIns l i z) = sum l := by
  have g2 := g.lt
  have := h.len2
  unfold sum
  rw [sIns_len l z (by omega), show l.length + 1 - 1 = l.length - 1 + 1 by omega]
  exact (sm_ins h g (l.length - 1)).2 (by omega)
end Go.Proofs.Ytcbmmhedefigeaa.Prf
namespace Go.Proofs.Ytcbmmhedefigeaa.Pure
set_option linter.unusedVariables false
set_option linter.unusedSimpArgs false
open Go.RowKit Go.Proofs.Ytcbmmhedefigeaa.X Go.Proofs.Ytcbmmhedefigeaa.Prf Go.Proofs.YtcbmmhedefigeaaW.PrintWords Go.Proofs.YtcbmmhedefigeaaW.PrintLast Go.Proofs.YtcbmmhedefigeaaW.PrintMore

def CapacityGrows : Prop := ∀ (l : List S30) (m : Int), (Lit.int .i64 m).wf = true → ∃ k, spilelaw10_CapacityGrows.f k l m = some true
theorem awakeG : spilelaw10_awake.f 200 = some true := by decide +kernel
def wide (l : List S30) (m : Int) : List S30 := l.map fun z => ⟨z.f0, z.f1 + m⟩
theorem wide_len (l : List S30) (m : Int) : (wide l m).length = l.length := by simp [wide]
theorem wide_get {l : List S30} {m : Int} {i : Nat} (h : i < l.length) : (wide l m)[i]?.getD z30 = ⟨X l i, R l i + m⟩ := by
  unfold wide X R
  rw [List.getElem?_map, List.getElem?_eq_getElem h]
  rfl
theorem X_wide {l : List S30} {m : Int} {i : Nat} (h : i < l.length) : X (wide l m) i = X l i := by show ((wide l m)[i]?.getD z30).f0 = _; rw [wide_get h]
theorem R_wide {l : List S30} {m : Int} {i : Nat} (h : i < l.length) : R (wide l m) i = R l i + m := by show ((wide l m)[i]?.getD z30).f1 = _; rw [wide_get h]
theorem fq_more {h a b m : Int} (hh : 0 < h) (ha : 0 ≤ a) (hb : 0 ≤ b) (hm : 1 ≤ m) : fq h a b < fq h (a + m) (b + m) := by
  have e : (a + m) * (a + m) + (a + m) * (b + m) + (b + m) * (b + m) = (a * a + a * b + b * b) + (3 * (m * a) + 3 * (m * b) + 3 * (m * m)) := by grind
  have m1 := Int.mul_nonneg (show 0 ≤ m by omega) ha
  have m2 := Int.mul_nonneg (show 0 ≤ m by omega) hb
  have m3 := Int.mul_le_mul hm hm (by omega) (show 0 ≤ m by omega)
  exact Int.mul_lt_mul_of_pos_left (by omega) hh
theorem sm_wide {l : List S30} (h : Ok l) {m : Int} (hm : 1 ≤ m) : ∀ i, i < l.length → sm l i ≤ sm (wide l m) i ∧ (0 < i → sm l i < sm (wide l m) i)
  | 0, _ => ⟨Int.le_refl _, fun q => by omega⟩
  | i + 1, hi => by
    have ih := (sm_wide h hm i (by omega)).1
    have hx := h.inc i hi
    have e : fr (wide l m) i = fq (X l (i + 1) - X l i) (R l i + m) (R l (i + 1) + m) := by unfold fr; rw [X_wide (by omega), X_wide (by omega), R_wide (by omega), R_wide (by omega)]
    have q := fq_more (h := X l (i + 1) - X l i) (a := R l i) (b := R l (i + 1)) (m := m) (by omega) (by have := h.r0 i (by omega); omega) (by have := h.r0 (i + 1) hi; omega) hm
    have e1 : sm l (i + 1) = sm l i + fq (X l (i + 1) - X l i) (R l i) (R l (i + 1)) := rfl
    have e2 : sm (wide l m) (i + 1) = sm (wide l m) i + fr (wide l m) i := rfl
    omega
/-- a cylinder -/
def cyl (e r : Int) : List S30 := [⟨0, r⟩, ⟨e, r⟩]
theorem ok_cyl {e r : Int} (e0 : 0 < e) (e1 : e ≤ 100000) (r0 : 1 ≤ r) (r1 : r ≤ 100000) : Ok (cyl e r) := by
  have hX : ∀ i, i < 2 → X (cyl e r) i = if i = 0 then 0 else e := by
    intro i hi; match i, hi with
    | 0, _ => rfl
    | 1, _ => rfl
  have hR : ∀ i, i < 2 → R (cyl e r) i = r := by
    intro i hi; match i, hi with
    | 0, _ => rfl
    | 1, _ => rfl
  have hl : (cyl e r).length = 2 := rfl
  refine ⟨by omega, by omega, fun i hi => ?_, fun i hi => ?_, fun i hi => ?_, fun i hi => ?_, ?_, fun i hi => ?_, fun i j hij hj hf => ?_⟩
  · rw [hX i (by omega)]; split <;> omega
  · rw [hX i (by omega)]; split <;> omega
  · rw [hR i (by omega)]; omega
  · rw [hR i (by omega)]; omega
  · rfl
  · rw [hX i (by omega), hX (i + 1) (by omega), if_pos (by omega), if_neg (by omega)]; exact e0
  · omega
theorem sum_cyl (e r : Int) : sum (cyl e r) = e * (3 * (r * r)) := by
  show 0 + fq (e - 0) r r = _
  unfold fq; grind
theorem grows2 {l : List S30} (h : Ok l) {m : Int} (hm : 1 ≤ m) (hl : l.length ≤ 33) {k : Nat} (hk : 60 ≤ k) : spilelaw10_CapacityGrows.j2 k l (sum l) (wide l m) false = some true := by
  obtain ⟨k, rfl⟩ : ∃ m, k = m + 1 := ⟨k - 1, by omega⟩
  have l2 := h.len2
  simp only [spilelaw10_CapacityGrows.j2]
  rw [if_neg (by decide), clone_f l (by omega), Option.bind_some, Space_ok h (by omega), Option.bind_some, clone_f (wide l m) (by rw [wide_len]; omega), Option.bind_some]
  by_cases c : sCheck (wide l m) = 0
  · have hw := sCheck_ok c
    have g : sum l < sum (wide l m) := by
      unfold sum; rw [wide_len]
      exact (sm_wide h hm (l.length - 1) (by omega)).2 (by omega)
    have g1 := low_mono (Int.le_of_lt g)
    have g2 := high_mono (Int.le_of_lt g)
    rw [Fru_ok hw (by omega), Option.bind_some, Space_ok hw (by omega), Option.bind_some, if_pos rfl, if_pos rfl, if_pos rfl, if_pos (by simp only []; omega), if_pos (by simp only []; omega), decide_eq_true (by simp only []; omega)]
  · rw [Fru_bad c, Option.bind_some, Space_bad c, Option.bind_some, if_pos rfl, if_neg c]
theorem grows1 {l : List S30} (h : Ok l) {m : Int} (hm : 1 ≤ m) (hm2 : m ≤ 100000) : ∀ d i k (w : List S30) (x y : Int), i + d = l.length → d + 70 < k → w.length = l.length →
    (∀ j, j < l.length → w[j]?.getD z30 = if j < i then ⟨X l j, R l j + m⟩ else l[j]?.getD z30) → 1 ≤ x → x ≤ 100000 → 1 ≤ y → y ≤ 100000 → (∀ j, j < i → x ≤ R l j) → (∀ j, j < i → R l j ≤ y) →
    spilelaw10_CapacityGrows.l0 k l m (sum l) w x y l (l.length : Int) (i : Int) = some true
  | 0, i, k, w, x, y, hd, hk, hw, hj, x0, x1, y0, y1, hx, hy => by
    obtain ⟨k, rfl⟩ : ∃ m, k = m + 1 := ⟨k - 1, by omega⟩
    have l2 := h.len2; have l32 := h.len32
    have e : w = wide l m := ext_getD (by rw [hw, wide_len]) fun j hjl => by
      rw [hw] at hjl
      rw [hj j hjl, if_pos (by omega), wide_get hjl]
    have b1 : X l (l.length - 1) ≤ 100000 := h.x1 _ (by omega)
    have b0 : 0 < X l (l.length - 1) := by have := h.lt (i := 0) (j := l.length - 1) (by omega) (by omega); rw [h.zero] at this; exact this
    have s1 := sm_least h (M := x) (by omega) (fun j hj => hx j (by omega)) (l.length - 1) (by omega)
    have s2 := (sm_bound h (M := y) (fun j hj => hy j (by omega)) (l.length - 1) (by omega)).2
    have mx1 := mul_bound (a := x) (b := x) (A := 100000) (B := 100000) (by omega) x1 (by omega) x1
    have mx2 := mul_bound (a := 3 * X l (l.length - 1)) (b := x) (A := 300000) (B := 100000) (by omega) (by omega) (by omega) x1
    have mx3 := mul_bound (a := 3 * X l (l.length - 1) * x) (b := x) (A := 30000000000) (B := 100000) (by omega) (by omega) (by omega) x1
    have ec : X l (l.length - 1) * (3 * (x * x)) = 3 * X l (l.length - 1) * x * x := by grind
    simp only [spilelaw10_CapacityGrows.l0]
    rw [if_neg (by omega), wpred (by omega) (by omega), if_pos (by omega), if_pos (by omega), rdX]
    change ((capacity_Frustums.f k (cyl (X l (l.length - 1)) x)).bind _) = _
    rw [Fru_ok (ok_cyl b0 b1 x0 x1) (by omega), Option.bind_some]
    change ((capacity_Frustums.f k (cyl (X l (l.length - 1)) y)).bind _) = _
    rw [Fru_ok (ok_cyl b0 b1 y0 y1) (by omega), Option.bind_some, if_pos rfl, if_pos rfl, sum_cyl, sum_cyl]
    simp only []
    have hs1 : X l (l.length - 1) * (3 * (x * x)) ≤ sum l := s1
    have hs2 : sum l ≤ X l (l.length - 1) * (3 * (y * y)) := s2
    rw [if_neg (by omega), if_neg (by omega), Ln.wid (x := 3 * X l (l.length - 1)) (by omega) (by omega), Ln.wid (x := 3 * X l (l.length - 1) * x) (by omega) (by omega), Ln.wid (x := 3 * X l (l.length - 1) * x * x) (by omega) (by omega), ec, bne_self_eq_false, e]
    exact grows2 h hm (by omega) (by omega)
  | d + 1, i, k, w, x, y, hd, hk, hw, hj, x0, x1, y0, y1, hx, hy => by
    obtain ⟨k, rfl⟩ : ∃ m, k = m + 1 := ⟨k - 1, by omega⟩
    have l32 := h.len32
    have e := hj i (by omega)
    rw [if_neg (by omega)] at e
    have r0 := h.r0 i (by omega); have r1 := h.r1 i (by omega)
    have emn : mn x (R l i) = min x (R l i) := by unfold mn; split <;> omega
    have emx : mx y (R l i) = max y (R l i) := by unfold mx; split <;> omega
    simp only [spilelaw10_CapacityGrows.l0]
    rw [if_pos (by omega), if_pos (by omega), if_pos (by omega), if_pos (by omega), rdR, wsucc (by omega), emn, emx]
    refine grows1 h hm hm2 d (i + 1) k _ _ _ (by omega) (by omega) (by simp [hw]) (fun j hjl => ?_) (by omega) (by omega) (by omega) (by omega) (fun j hjl => ?_) (fun j hjl => ?_)
    · rw [Int.toNat_natCast, set_getD _ _ _ (by omega)]
      by_cases e1 : j = i
      · rw [if_pos e1, if_pos (by omega), e1, rdP, e]
        show (⟨X l i, wrap64 (R l i + m)⟩ : S30) = _
        rw [Ln.wid (by omega) (by omega)]
      · rw [if_neg e1, hj j hjl]
        by_cases e2 : j < i
        · rw [if_pos e2, if_pos (by omega)]
        · rw [if_neg e2, if_neg (by omega)]
    · by_cases e1 : j = i
      · subst e1; omega
      · have := hx j (by omega); omega
    · by_cases e1 : j = i
      · subst e1; omega
      · have := hy j (by omega); omega
theorem grows0 (l : List S30) (m : Int) (b : Bool) (hl : b = false → l.length ≤ 33 ∧ 1 ≤ m ∧ m ≤ 100000) {k : Nat} (hk : 150 ≤ k) : spilelaw10_CapacityGrows.j0 k l m b = some true := by
  obtain ⟨k, rfl⟩ : ∃ m, k = m + 1 := ⟨k - 1, by omega⟩
  simp only [spilelaw10_CapacityGrows.j0]
  cases b with
  | true => rw [if_pos rfl]
  | false =>
    obtain ⟨h1, h2, h3⟩ := hl rfl
    rw [if_neg (by decide), clone_f l (by omega), Option.bind_some]
    by_cases c : sCheck l = 0
    · have ho := sCheck_ok c
      have l2 := ho.len2
      have l32 := ho.len32
      rw [Fru_ok ho (by omega), Option.bind_some, if_pos rfl, if_neg (by omega), Option.bind_some, if_pos (by omega)]
      have e0 : (rd_T30 l 0).f1 = R l 0 := rfl
      rw [e0]
      exact grows1 ho h2 h3 l.length 0 k l (R l 0) (R l 0) (by omega) (by omega) rfl (fun j hj => by rw [if_neg (by omega)]) (ho.r0 0 (by omega)) (ho.r1 0 (by omega)) (ho.r0 0 (by omega)) (ho.r1 0 (by omega)) (fun j hj => by omega) (fun j hj => by omega)
    · rw [Fru_bad c, Option.bind_some, if_neg c]
      rfl
theorem capacityGrows : CapacityGrows := by
  intro l m _
  refine ⟨200, ?_⟩
  unfold spilelaw10_CapacityGrows.f
  rw [awakeG, Option.bind_some, if_pos rfl, few_f, Option.bind_some]
  by_cases h : (l.length : Int) ≤ 33
  · rw [if_pos (decide_eq_true h)]
    by_cases h1 : m < 1
    · rw [if_pos h1]; exact grows0 l m true (by simp) (by decide)
    · rw [if_neg h1]; exact grows0 l m _ (fun q => by have := of_decide_eq_false q; omega) (by decide)
  · rw [if_neg (by simpa using h)]; exact grows0 l m true (by simp) (by decide)
end Go.Proofs.Ytcbmmhedefigeaa.Pure
