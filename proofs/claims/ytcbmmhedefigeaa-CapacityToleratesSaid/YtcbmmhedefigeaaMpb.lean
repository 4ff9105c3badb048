import Derived.Test.YtcbmmhedefigeaaXx0
import Derived.Maps.OwnOps
import Derived.Maps.OwnSet
/-! A set kept in a map to bool that the call makes: looked up and stored into. -/
namespace Go.Proofs.Ytcbmmhedefigeaa.Mpb
set_option linter.unusedVariables false
set_option linter.unusedSimpArgs false
open Go.RowKit Go.Maps

def Tr : DataW Unit := .lit (.bool true)
def Fa : DataW Unit := .lit (.bool false)
/-- block b is a map to bool of at most n entries: true at these keys -/
def OwnsSet (P : Program) (k e : TypeId) (w : World) (b n : Nat) (acc : List Lit) : Prop := w.ownsMap P k (plainElem P e) b n (setOf Tr acc)
theorem plainElem_bool_inv {P : Program} {e : TypeId} (he : P.underlying e = some .bool) {v : Value} {z : DataW Unit × List MemPlace} (h : plainElem P e v = some z) : ∃ x, v = .bool x ∧ z = (.lit (.bool x), []) := by
  unfold plainElem at h
  rw [he] at h
  cases v <;> simp at h
  subst h
  exact ⟨_, rfl, rfl⟩
theorem isMap_setOf (acc : List Lit) : ∀ D : DataW Unit, IsMap D → IsMap (acc.foldl (fun m x => m.put x Tr) D) := by
  induction acc with
  | nil => intro D h; exact h
  | cons x acc ih => intro D h; exact ih _ (h.put x Tr)
open Classical in
theorem atKey_fold (k : Lit) : ∀ (acc : List Lit) (D : DataW Unit) (x : Bool), IsMap D → (∀ y ∈ acc, WideAt.IsKeyLit y) → D.atKey k Fa = .lit (.bool x) → (acc.foldl (fun m y => m.put y Tr) D).atKey k Fa = .lit (.bool (x || acc.any (fun y => y.sameKey k)))
  | [], D, x, _, _, h => by simpa using h
  | y :: acc, D, x, hD, hk, h => by
    rw [List.foldl_cons]
    by_cases c : y = k
    · subst c
      rw [atKey_fold y acc (D.put y Tr) true (hD.put y Tr) (fun z hz => hk z (List.mem_cons_of_mem _ hz)) (atKey_put_same hD (hk y List.mem_cons_self) _ _)]
      rw [List.any_cons, WideAt.sameKey_self (hk y List.mem_cons_self)]
      simp
    · rw [atKey_fold k acc (D.put y Tr) x (hD.put y Tr) (fun z hz => hk z (List.mem_cons_of_mem _ hz)) (by rw [atKey_put_other (fun e => c e.symm)]; exact h)]
      rw [List.any_cons, sameKey_ne c, Bool.false_or]
theorem atKey_setOf (k : Lit) (acc : List Lit) (hk : ∀ y ∈ acc, WideAt.IsKeyLit y) : (setOf Tr acc).atKey k Fa = .lit (.bool (acc.any (fun y => y.sameKey k))) := by
  have := atKey_fold k acc (.map []) false isMap_empty hk rfl
  simpa [setOf] using this
variable {P : Program} {k e t : TypeId} {w : World} {b n : Nat} {acc : List Lit}
theorem OwnsSet.made (w : World) (P : Program) (k e : TypeId) : OwnsSet P k e (w.alloc (.map #[] 0)) w.heap.size 0 [] := World.ownsMap_made w P k _
theorem OwnsSet.lt (h : OwnsSet P k e w b n acc) : b < w.heap.size := World.ownsMap.lt h
theorem OwnsSet.block {w' : World} (h : OwnsSet P k e w b n acc) (hb : w'.heap[b]? = w.heap[b]?) : OwnsSet P k e w' b n acc := by
  obtain ⟨es, clock, h1, F, hs, hD⟩ := h
  exact ⟨es, clock, hb.trans h1, F, hs, hD⟩
theorem OwnsSet.below {w' : World} (h : OwnsSet P k e w b n acc) (hb : Below w.heap.size w w') : OwnsSet P k e w' b n acc := h.block (hb.block b h.lt)
theorem OwnsSet.setCell (h : OwnsSet P k e w b n acc) {a : Addr} (ha : b ≠ a.block) (u : Value) : OwnsSet P k e (w.setCell a u) b n acc := World.ownsMap.setCell h ha u
theorem OwnsSet.drew (h : OwnsSet P k e w b n acc) : OwnsSet P k e w.drew b n acc := h
theorem OwnsSet.alloc (h : OwnsSet P k e w b n acc) (o : Obj) : OwnsSet P k e (w.alloc o) b n acc := World.ownsMap.alloc h o
theorem look_set {ops : Array Oper} {rest : List Oper} {o : Oper} {a : Act} {Q : Exit → Act → World → Prop}
    (hg : o.guard = none) (m x : Operand) (hop : o.op = Op.lookup t m x false) (K : Keyed P k) (ht : P.underlying t = some (.map k e)) (he : P.underlying e = some .bool) (hz : (zeroValue e).run P w = .ok (.bool false) w)
    (hm : a.eval m = .map (some b)) (hown : OwnsSet P k e w b n acc) (hk : ∀ y ∈ acc, WideAt.IsKeyLit y) (key : Value) (kl : Lit) (hx : a.eval x = key) (hkey : keyOf P k key = some kl)
    (hK : wpList P ops Q rest (a.put o.dst (.bool (acc.any (fun y => y.sameKey kl)))) w) : wpList P ops Q (o :: rest) a w := by
  refine wpList_plain hg fun K' hK' => ?_
  obtain ⟨v, ps, hrun, hv⟩ := World.ownsMap.lookup hown K ht hz (plainElem_bool he false) hkey
  obtain ⟨c, rfl, hc⟩ := plainElem_bool_inv he hv
  simp only [Prod.mk.injEq] at hc
  have hc1 : (setOf Tr acc).atKey kl Fa = .lit (.bool c) := hc.1
  rw [atKey_setOf kl acc hk] at hc1
  have hcc : acc.any (fun y => y.sameKey kl) = c := by injection hc1 with h1; injection h1
  rw [hcc] at hK
  unfold Oper.wp
  simp [execOp, hop, hm, hx, hrun, Result.andThen]
  exact hK' _ _ hK
theorem store_set {ops : Array Oper} {rest : List Oper} {o : Oper} {a : Act} {Q : Exit → Act → World → Prop}
    (hg : o.guard = none) (m x v : Operand) (hop : o.op = Op.mapUpdate t m x v) (K : Keyed P k) (ht : P.underlying t = some (.map k e)) (he : P.underlying e = some .bool)
    (hm : a.eval m = .map (some b)) (hown : OwnsSet P k e w b n acc) (hn : n < maxLen) (key : Value) (kl : Lit) (hx : a.eval x = key) (hv : a.eval v = .bool true) (hkey : keyOf P k key = some kl)
    (hK : ∀ w', OwnsSet P k e w' b (n + 1) (acc ++ [kl]) → w.grownBy w' (some b) → wpList P ops Q rest (a.put o.dst undef) w') : wpList P ops Q (o :: rest) a w :=
  wpList_mapUpdate_own w hg m x v t hop k e K ht (plainElem P e) b n (setOf Tr acc) hm hown hn key (.bool true) kl hx hv hkey Tr [] (plainElem_bool he true) fun w' h1 h2 => hK w' (by unfold OwnsSet; rw [setOf_snoc]; exact h1) h2
end Go.Proofs.Ytcbmmhedefigeaa.Mpb
