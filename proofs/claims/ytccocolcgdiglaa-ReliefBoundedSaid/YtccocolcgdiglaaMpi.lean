import Derived.Test.YtccocolcgdiglaaXx0
import Derived.Maps.OwnOps
import Derived.Maps.OwnSet
/-! What the reliefs have given: a map to whole numbers that the call makes. -/
namespace Go.Proofs.Ytccocolcgdiglaa.Mpi
set_option linter.unusedVariables false
set_option linter.unusedSimpArgs false
open Go.RowKit Go.Maps Go.Proofs.Ytccocolcgdiglaa.X Go.Proofs.YtccocolcgdiglaaW.PrintWords Go.Proofs.YtccocolcgdiglaaW.PrintLast

/-- what a relief has given to the items before i -/
def gvU (xs : List S25) (ns : List Int) (id : Int) : Nat → Int
  | 0 => 0
  | i + 1 => if (xs.getD i z25).f4 = id then wrap64 (gvU xs ns id i + ns.getD i 0) else gvU xs ns id i
def gv (xs : List S25) (ns : List Int) (id : Int) : Int := gvU xs ns id ns.length
theorem gvU_snoc (xs : List S25) (ns : List Int) (n id : Int) : ∀ i, i ≤ ns.length → gvU xs (ns ++ [n]) id i = gvU xs ns id i
  | 0, _ => rfl
  | i + 1, h => by
    unfold gvU
    rw [gvU_snoc xs ns n id i (by omega)]
    have : (ns ++ [n]).getD i 0 = ns.getD i 0 := by simp [List.getD, List.getElem?_append_left (show i < ns.length by omega)]
    rw [this]
theorem gv_snoc (xs : List S25) (ns : List Int) (n id : Int) : gv xs (ns ++ [n]) id = if (xs.getD ns.length z25).f4 = id then wrap64 (gv xs ns id + n) else gv xs ns id := by
  have hl : (ns ++ [n]).length = ns.length + 1 := by simp
  unfold gv
  rw [hl]
  show (if (xs.getD ns.length z25).f4 = id then wrap64 (gvU xs (ns ++ [n]) id ns.length + (ns ++ [n]).getD ns.length 0) else gvU xs (ns ++ [n]) id ns.length) = _
  rw [gvU_snoc xs ns n id ns.length (Nat.le_refl _)]
  have : (ns ++ [n]).getD ns.length 0 = n := by simp [List.getD]
  rw [this]
theorem gvU_wrap (xs : List S25) (ns : List Int) (id : Int) : ∀ i, wrap64 (gvU xs ns id i) = gvU xs ns id i
  | 0 => by unfold gvU wrap64; decide
  | i + 1 => by
    unfold gvU
    split
    · unfold wrap64; omega
    · exact gvU_wrap xs ns id i
theorem gv_zero (xs : List S25) (ns : List Int) (id : Int) : gv xs (ns ++ [0]) id = gv xs ns id := by
  rw [gv_snoc]
  split
  · rw [Int.add_zero]; exact gvU_wrap _ _ _ _
  · rfl
def Z : DataW Unit := .lit (.int .i64 0)
/-- block b is a map of at most n entries: what each relief has given -/
def GM (P : Program) (k e : TypeId) (w : World) (b n : Nat) (xs : List S25) (ns : List Int) : Prop :=
  ∃ D : DataW Unit, w.ownsMap P k (plainElem P e) b n D ∧ IsMap D ∧ ∀ id, D.atKey (.int .i64 id) Z = .lit (.int .i64 (gv xs ns id))
variable {P : Program} {k e t : TypeId} {w : World} {b n : Nat} {xs : List S25} {ns : List Int}
theorem GM.made (w : World) (P : Program) (k e : TypeId) (xs : List S25) : GM P k e (w.alloc (.map #[] 0)) w.heap.size 0 xs [] := ⟨_, World.ownsMap_made w P k _, isMap_empty, fun id => rfl⟩
theorem GM.lt (h : GM P k e w b n xs ns) : b < w.heap.size := by obtain ⟨D, h1, _⟩ := h; exact World.ownsMap.lt h1
theorem GM.map (h : GM P k e w b n xs ns) : ∃ es clock, w.heap[b]? = some (.map es clock) := by obtain ⟨D, ⟨es, clock, h1, _⟩, _⟩ := h; exact ⟨es, clock, h1⟩
theorem GM.block {w' : World} (h : GM P k e w b n xs ns) (hb : w'.heap[b]? = w.heap[b]?) : GM P k e w' b n xs ns := by
  obtain ⟨D, ⟨es, clock, h1, F, hs, hD⟩, h2⟩ := h
  exact ⟨D, ⟨es, clock, hb.trans h1, F, hs, hD⟩, h2⟩
theorem GM.below {w' : World} (h : GM P k e w b n xs ns) (hb : Below w.heap.size w w') : GM P k e w' b n xs ns := h.block (hb.block b h.lt)
theorem GM.kept {w' : World} {row : Option Nat} (h : GM P k e w b n xs ns) (hg : w.grownBy w' row) (hne : some b ≠ row) : GM P k e w' b n xs ns := h.block (hg.block b h.lt hne)
theorem GM.setCell (h : GM P k e w b n xs ns) {a : Addr} (ha : b ≠ a.block) (u : Value) : GM P k e (w.setCell a u) b n xs ns := by
  obtain ⟨D, h1, h2⟩ := h
  exact ⟨D, World.ownsMap.setCell h1 ha u, h2⟩
theorem GM.drew (h : GM P k e w b n xs ns) : GM P k e w.drew b n xs ns := h
theorem GM.drewN (h : GM P k e w b n xs ns) (m : Nat) : GM P k e (w.drewN m) b n xs ns := h
theorem GM.alloc (h : GM P k e w b n xs ns) (o : Obj) : GM P k e (w.alloc o) b n xs ns := by
  obtain ⟨D, h1, h2⟩ := h
  exact ⟨D, World.ownsMap.alloc h1 o, h2⟩
theorem GM.mono (h : GM P k e w b n xs ns) {n' : Nat} (hn : n ≤ n') : GM P k e w b n' xs ns := by
  obtain ⟨D, h1, h2⟩ := h
  exact ⟨D, World.ownsMap.mono h1 hn, h2⟩
theorem GM.look {ops : Array Oper} {rest : List Oper} {o : Oper} {a : Act} {Q : Exit → Act → World → Prop}
    (hg : o.guard = none) (m x : Operand) (hop : o.op = Op.lookup t m x false) (K : Keyed P k) (ht : P.underlying t = some (.map k e)) (he : P.underlying e = some (.int .i64)) (hz : (zeroValue e).run P w = .ok (.int .i64 0) w)
    (hm : a.eval m = .map (some b)) (hown : GM P k e w b n xs ns) (id : Int) (hx : a.eval x = .int .i64 id) (hkey : keyOf P k (.int .i64 id) = some (.int .i64 id))
    (hK : wpList P ops Q rest (a.put o.dst (.int .i64 (gv xs ns id))) w) : wpList P ops Q (o :: rest) a w := by
  obtain ⟨D, h1, _, h3⟩ := hown
  refine wpList_lookup_own_int w hg m x t hop k e .i64 K ht he hz b n D hm h1 _ _ hx hkey fun c hc _ => ?_
  have h4 := h3 id
  unfold Z at h4
  rw [hc] at h4
  have : c = gv xs ns id := by injection h4 with h5; injection h5
  rw [this]
  exact hK
/-- the look-up, as an equation -/
theorem GM.run (h : GM P k e w b n xs ns) (K : Keyed P k) (ht : P.underlying t = some (.map k e)) (he : P.underlying e = some (.int .i64)) (hz : (zeroValue e).run P w = .ok (.int .i64 0) w) (id : Int) (hkey : keyOf P k (.int .i64 id) = some (.int .i64 id)) :
    (Instr.lookup t (.map (some b)) (.int .i64 id) false).run P w = .ok (.int .i64 (gv xs ns id)) w := by
  obtain ⟨D, h1, _, h3⟩ := h
  obtain ⟨c, hrun, hat, _⟩ := World.ownsMap.lookup_int h1 K ht he hz hkey
  have h4 := h3 id
  unfold Z at h4
  rw [hat] at h4
  have : c = gv xs ns id := by injection h4 with h5; injection h5
  rw [this] at hrun
  exact hrun
theorem GM.store {ops : Array Oper} {rest : List Oper} {o : Oper} {a : Act} {Q : Exit → Act → World → Prop}
    (hg : o.guard = none) (m x v : Operand) (hop : o.op = Op.mapUpdate t m x v) (K : Keyed P k) (ht : P.underlying t = some (.map k e)) (he : P.underlying e = some (.int .i64))
    (hm : a.eval m = .map (some b)) (hown : GM P k e w b n xs ns) (hn : n < maxLen) (id g : Int) (hx : a.eval x = .int .i64 id) (hkey : keyOf P k (.int .i64 id) = some (.int .i64 id)) (hv : a.eval v = .int .i64 (wrap64 (gv xs ns id + g))) (hid : (xs.getD ns.length z25).f4 = id)
    (hK : ∀ w', GM P k e w' b (n + 1) xs (ns ++ [g]) → w.grownBy w' (some b) → wpList P ops Q rest (a.put o.dst undef) w') : wpList P ops Q (o :: rest) a w := by
  obtain ⟨D, h1, h2, h3⟩ := hown
  refine wpList_mapUpdate_own w hg m x v t hop k e K ht (plainElem P e) b n D hm h1 hn _ _ (.int .i64 id) hx hv hkey (.lit (.int .i64 (wrap64 (gv xs ns id + g)))) [] (plainElem_int he (wrap64_wf _)) fun w' r1 r2 => hK w' ⟨_, r1, h2.put _ _, fun id' => ?_⟩ r2
  rw [gv_snoc, hid]
  by_cases c : id = id'
  · subst c
    rw [if_pos rfl, atKey_put_same h2 (show WideAt.IsKeyLit (.int .i64 id) from trivial)]
  · rw [if_neg c, atKey_put_other (by intro e; injection e with _ e2; exact c e2.symm)]
    exact h3 id'
/-- a row of the call's own is not the map -/
theorem ne_row {α : Type} {d : Kd α} {e' base : Nat} {ok : Nat → Prop} {v : Value} {ys : List α} (h : GM P k e w b n xs ns) (hr : Kd.R d e' w base ok v ys) : some b ≠ v.ownBlock := by
  intro c
  obtain ⟨es, clock, hm⟩ := h.map
  obtain ⟨_, inner, ho, _⟩ := hr
  obtain ⟨cells, hc⟩ := own_typed ho b c.symm
  rw [hm] at hc
  cases hc
/-- the same, with what is known already named first -/
theorem GM.kept' {w₀ w' : World} {row : Option Nat} (h₀ : GM P k e w₀ b n xs ns) (h : GM P k e w b n xs ns) (hg : w.grownBy w' row) (hne : some b ≠ row) : GM P k e w' b n xs ns := h.kept hg hne
theorem GM.below' {w₀ w' : World} (h₀ : GM P k e w₀ b n xs ns) (h : GM P k e w b n xs ns) (hb : Below w.heap.size w w') : GM P k e w' b n xs ns := h.below hb
theorem GM.lt' {w₀ : World} (h₀ : GM P k e w₀ b n xs ns) (h : GM P k e w b n xs ns) : b < w.heap.size := h.lt
theorem ne_row' {α : Type} {d : Kd α} {e' base : Nat} {ok : Nat → Prop} {v : Value} {ys : List α} {w₀ : World} (h₀ : GM P k e w₀ b n xs ns) (h : GM P k e w b n xs ns) (hr : Kd.R d e' w base ok v ys) : some b ≠ v.ownBlock := ne_row h hr
theorem GM.kept2 {α : Type} {d : Kd α} {e' base : Nat} {ok : Nat → Prop} {v : Value} {ys : List α} {w₀ w' : World} (h₀ : GM P k e w₀ b n xs ns) (hg : w.grownBy w' v.ownBlock) (h : GM P k e w b n xs ns) (hr : Kd.R d e' w base ok v ys) : GM P k e w' b n xs ns := h.kept hg (ne_row h hr)
theorem row_kept {α : Type} {d : Kd α} {e' base : Nat} {v : Value} {ys : List α} {w' : World} (h : GM P k e w b n xs ns) (hr : Kd.R d e' w base (fun _ => True) v ys) (hg : w.grownBy w' (some b)) : Kd.R d e' w' base (fun _ => True) v ys := by
  obtain ⟨es, clock, hm⟩ := h.map
  refine Kd.R_mono (Kd.R_step (Kd.R_bound hr) (fun j hj hlt => hg.block j hlt ?_)) (fun _ _ => trivial)
  intro c
  have e1 : j = b := by injection c
  subst e1
  obtain ⟨_, _, _, q, _, cells, hc⟩ := hj
  rw [hm] at hc
  cases hc
theorem cells_kept {g : Nat} {cs : Array Value} {ty : TypeId} {fr : Nat × Nat} {w' : World} (h : GM P k e w b n xs ns) (hc : w.heap[g]? = some (.cells cs ty fr)) (hg : w.grownBy w' (some b)) : w'.heap[g]? = some (.cells cs ty fr) := by
  obtain ⟨es, clock, hm⟩ := h.map
  refine (hg.block g (Array.getElem?_eq_some_iff.1 hc).1 ?_).trans hc
  intro c
  have e1 : g = b := by injection c
  subst e1
  rw [hm] at hc
  cases hc
end Go.Proofs.Ytccocolcgdiglaa.Mpi
