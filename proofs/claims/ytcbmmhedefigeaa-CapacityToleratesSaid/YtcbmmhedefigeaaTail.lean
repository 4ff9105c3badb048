import Derived.StillTail
import Derived.StillTactics
import Derived.StillTailTactics
import Derived.OrdersIn
import Derived.TacticsIn
import Derived.RangeFuncCalls
import Derived.RangeFuncLeaves
/-! A region that draws its order, inside a fence that lets everything by (the wide one, or a round under it): what only reads comes in the text's order, then the tail. -/
namespace Go.Proofs.Ytcbmmhedefigeaa.Tail
set_option linter.unusedVariables false
set_option linter.unusedSimpArgs false
section
variable {P : Program} {ops : Array Oper} {md : Region.Mode} {w : World} {F : Fence} {m : Nat}

/-- what is asked of the fence -/
structure Open (F : Fence) (m : Nat) (P : Program) : Prop where
  fn : ∀ f, F.fn f
  depth : F.depth = none
  calls : ∀ f args w R, Calls P f args w R → CallsIn F (m - 1) P f args w R
  rows : ∀ row args w R, Rows P row args w R → RowsIn F (m - 1) P row args w R

theorem rows_wide {k : Nat} (row : String) (args : Array Value) (w : World) (R : Value → World → Prop) (h : Rows P row args w R) : RowsIn Fence.wide k P row args w R :=
  fun c cs _ => let ⟨v, w', r, s⟩ := h c cs; ⟨v, w', r, stepsIn_wide.2 s⟩

theorem open_wide (m : Nat) (P : Program) : Open Fence.wide m P := ⟨fun _ => trivial, rfl, fun _ _ _ _ h => callsIn_wide.2 h, rows_wide⟩
theorem open_round (l m : Nat) (P : Program) : Open (Fence.wide.inRound l) m P := ⟨fun _ => trivial, rfl, fun _ _ _ _ h => CallsIn.inRound l (callsIn_wide.2 h), rows_wide⟩

def noDefer (ops : Array Oper) : Bool := ops.toList.all fun o => match o.op with
  | .defer _ => false
  | _ => true

theorem noDefer_spec (h : noDefer ops = true) {i : Nat} {o : Oper} (hi : ops[i]? = some o) (c : _) : o.op ≠ .defer c := by
  intro e
  unfold noDefer at h
  have := List.all_eq_true.1 h o (by rw [← Array.getElem?_toList] at hi; exact List.mem_of_getElem? hi)
  rw [e] at this
  cases this

theorem opIn_of_still (hO : Open F m P) {o : Oper} (hnd : ∀ c, o.op ≠ .defer c) {a : Act} {next : Act → Prop} {K : Act → World → Prop} {Q : Exit → Act → World → Prop} (h : ∀ a, next a → K a w) (hh : o.still P a w next) : o.wpIn F m P a w K Q := by
  unfold Oper.wpIn
  refine ⟨fun f _ => hO.fn f, ?_⟩
  rw [Oper.semAt_eq _ _ _ hnd]
  unfold Oper.still at hh
  generalize (execOp a.eval o).run P w = r at *
  cases r with
  | ok x w' =>
    cases x <;> simp only [Oper.stillUpon] at hh
    all_goals first
      | (obtain ⟨rfl, hh⟩ := hh; exact h _ hh)
      | (obtain ⟨rfl, v, hc, hh⟩ := hh
         refine ⟨fun hs => (by rw [hO.depth] at hs; cases hs), hO.calls _ _ _ _ (hc.mono ?_)⟩
         rintro e w'' ⟨rfl, rfl⟩
         exact h _ hh)
      | exact hh.elim
  | halt x w' => cases x <;> simp only [Oper.stillUpon] at hh <;> exact hh.elim

theorem opIn_of_stOp (hO : Open F m P) (hnd : noDefer ops = true) {i : Nat} {a : Act} {K : Act → Prop} {K' : Act → World → Prop} {Q : Exit → Act → World → Prop} (h : ∀ a, K a → K' a w) (hh : stOp P ops w i K a) : wpOpIn F m P ops Q i K' a w := by
  unfold stOp at hh
  unfold wpOpIn
  split
  · rename_i ho; simp only [ho] at hh; exact h _ hh
  · rename_i o ho
    simp only [ho] at hh
    split
    · rename_i hw; simp only [hw, if_true] at hh; exact opIn_of_still hO (noDefer_spec hnd ho) h hh
    · rename_i hw; simp only [hw] at hh; exact ⟨fun f _ => hO.fn f, h _ hh⟩

theorem anyIn_of_head (hO : Open F m P) (hnd : noDefer ops = true) {n g : Nat} {L : Array Bool → Act → Prop} {Q : Exit → Act → World → Prop} (hL : ∀ listed a, L listed a → wpAnyIn F m P md ops Q g listed a w) :
    ∀ (f : Nat) (listed : Array Bool) (a : Act), wpAnyL P md ops w n L f listed a → wpAnyIn F m P md ops Q (f + g) listed a w
  | 0, listed, a, h => by rw [Nat.zero_add]; exact hL _ _ h
  | f + 1, listed, a, h => by
    rw [show f + 1 + g = (f + g) + 1 by omega]
    exact ⟨fun h0 => absurd h0 h.1, fun i hi => opIn_of_stOp hO hnd (fun a' h' => anyIn_of_head hO hnd hL f _ a' h') (h.2 i hi).2⟩

theorem anyIn_of_seq {Q : Exit → Act → World → Prop} : ∀ (l : List Oper) (k : Nat) (listed : Array Bool) (a : Act) (w : World), (∀ j, l[j]? = ops[k + j]?) →
    Region.seqB md ops l.length k listed = true → wpListIn F m P ops Q l a w → wpAnyIn F m P md ops Q l.length listed a w
  | [], _, _, _, _, _, hB, h => ⟨by simpa [Region.seqB] using hB, h⟩
  | o :: l, k, listed, a, w, hl, hB, h => by
    have h0 : ops[k]? = some o := by simpa using (hl 0).symm
    simp only [List.length_cons, Region.seqB, Bool.and_eq_true, decide_eq_true_eq] at hB
    refine ⟨fun h1 => (by rw [hB.1] at h1; cases h1), fun i hi => ?_⟩
    rw [hB.1] at hi
    have hik : i = k := by simpa using hi
    subst hik
    have hw : wpOpIn F m P ops Q i (wpListIn F m P ops Q l) a w := by unfold wpOpIn; simp only [h0]; exact h
    exact wpOpIn_mono (fun a' w' h' => anyIn_of_seq l (i + 1) _ a' w' (fun j => by have := hl (j + 1); simpa [Nat.add_assoc, Nat.add_comm 1 j] using this) hB.2 h') hw

/-- the law: n operations that only read, then the tail in its one order -/
theorem region_tail (hO : Open F m P) {id : Nat} {Q : Exit → Act → World → Prop} {a : Act} {w : World} {l : List Oper} (n : Nat) (hm : P.follows .mixedOrders = true) (hB : Region.lexTailB .any l.toArray n = true) (hnd : noDefer l.toArray = true)
    (h : wpStill P l.toArray { w with drawn := w.drawn + 1 } (fun a' => wpListIn F m P l.toArray Q (l.drop n) a' { w with drawn := w.drawn + 1 }) (l.take n) a) : (Code.region id l.toArray true).wpIn F m P Q a w := by
  simp only [Region.lexTailB, Bool.and_eq_true, decide_eq_true_eq] at hB
  obtain ⟨⟨⟨⟨hsel, hn⟩, hs⟩, hc⟩, hlex⟩ := hB
  have hn' : n < l.length := by simpa using hn
  have htl : (l.take n).length = n := by simp; omega
  have hdl : (l.drop n).length = l.toArray.size - n := by simp
  have inv0 : HeadInv .any l.toArray n (Array.replicate l.toArray.size false) :=
    ⟨by simp, fun j oj _ hl => (by rw [getD_replicate_false] at hl; cases hl), fun t _ ht => getD_in (by simpa using ht) (getD_replicate_false _ _)⟩
  have H := wpAnyL_lex (md := .any) (g := l.toArray.size - n) hsel hs hc hn (l.take n) 0 _ a (fun j hj => by
    have hj' : j < n := by rw [htl] at hj; exact hj
    simp [hj']) (by simpa using htl) inv0 (by rw [htl]; exact hlex) h
  refine wpIn_region_any hm ?_
  have := anyIn_of_head (Q := Q) (g := l.toArray.size - n) hO hnd (fun listed a' hL => by
    have := anyIn_of_seq (md := .any) (F := F) (m := m) (P := P) (Q := Q) (l.drop n) n listed a' { w with drawn := w.drawn + 1 } (fun j => by simp [List.getElem?_drop]) (by rw [hdl]; exact hL.1) hL.2
    rwa [hdl] at this) _ _ _ H
  rw [htl, show n + (l.toArray.size - n) = l.toArray.size by omega] at this
  exact this

theorem opIn_of_wpOp (hO : Open F m P) (hnd : noDefer ops = true) {i : Nat} {a : Act} {w : World} {K K' : Act → World → Prop} {Q : Exit → Act → World → Prop} (hL : ¬ LetsOut Q) (h : ∀ a w, K a w → K' a w) (hh : wpOp P ops Q i K a w) : wpOpIn F m P ops Q i K' a w := by
  unfold wpOp at hh
  unfold wpOpIn
  split
  · rename_i ho; simp only [ho] at hh; exact h _ _ hh
  · rename_i o ho
    simp only [ho] at hh
    split
    · rename_i hw
      simp only [hw, if_true] at hh
      rcases hh with hh | ⟨_, hh⟩
      · refine ⟨fun f _ => hO.fn f, ?_⟩
        rw [Oper.semAt_eq _ _ _ (noDefer_spec hnd ho)]
        unfold Oper.wp at hh
        generalize (execOp a.eval o).run P w = r at *
        cases r with
        | ok x w' =>
          cases x <;> simp only [Oper.upon] at hh
          all_goals first
            | exact h _ _ hh
            | exact ⟨fun hs => (by rw [hO.depth] at hs; cases hs), hO.calls _ _ _ _ (hh.mono (fun e w'' he => by cases e <;> first | exact h _ _ he | exact he))⟩
            | exact ⟨fun hs => (by rw [hO.depth] at hs; cases hs), hO.rows _ _ _ _ (hh.mono (fun _ _ he => h _ _ he))⟩
            | exact hh.elim
        | halt x w' => cases x <;> simp only [Oper.upon] at hh <;> first | exact hh | exact hh.elim
      · exact absurd hh hL
    · rename_i hw; simp only [hw] at hh; exact ⟨fun f _ => hO.fn f, h _ _ hh⟩

theorem anyIn_of_any (hO : Open F m P) (hnd : noDefer ops = true) {Q : Exit → Act → World → Prop} (hL : ¬ LetsOut Q) : ∀ (fuel : Nat) (listed : Array Bool) (a : Act) (w : World), wpAny P md ops Q fuel listed a w → wpAnyIn F m P md ops Q fuel listed a w
  | 0, _, _, _, h => h
  | fuel + 1, _, _, _, h => ⟨h.1, fun i hi => opIn_of_wpOp hO hnd hL (fun a' w' h' => anyIn_of_any hO hnd hL fuel _ a' w' h') (h.2 i hi)⟩

/-- a region that draws, told in the wide fence's words -/
theorem region_any (hO : Open F m P) {id n : Nat} {Q : Exit → Act → World → Prop} {a : Act} {w : World} (l : Array Bool) (hm : P.follows .mixedOrders = true) (hnd : noDefer ops = true) (hL : ¬ LetsOut Q) (hn : ops.size = n) (hl : Array.replicate n false = l)
    (h : wpAny P .any ops Q n l a w.drew) : (Code.region id ops true).wpIn F m P Q a w := by
  subst hn
  subst hl
  exact wpIn_region_any hm (anyIn_of_any hO hnd hL _ _ _ _ h)

theorem noDeferL_spec {l : List Oper} (h : noDefer l.toArray = true) {o : Oper} (ho : o ∈ l) (c : _) : o.op ≠ .defer c := by
  intro e
  unfold noDefer at h
  have := List.all_eq_true.1 h o ho
  rw [e] at this
  cases this

theorem opIn_of_wp (hO : Open F m P) {o : Oper} (hnd : ∀ c, o.op ≠ .defer c) {a : Act} {w : World} {K K' : Act → World → Prop} {Q : Exit → Act → World → Prop} (h : ∀ a w, K a w → K' a w) (hh : o.wp P a w K Q) : o.wpIn F m P a w K' Q := by
  refine ⟨fun f _ => hO.fn f, ?_⟩
  rw [Oper.semAt_eq _ _ _ hnd]
  unfold Oper.wp at hh
  generalize (execOp a.eval o).run P w = r at *
  cases r with
  | ok x w' =>
    cases x <;> simp only [Oper.upon] at hh
    all_goals first
      | exact h _ _ hh
      | exact ⟨fun hs => (by rw [hO.depth] at hs; cases hs), hO.calls _ _ _ _ (hh.mono (fun e w'' he => by cases e <;> first | exact h _ _ he | exact he))⟩
      | exact ⟨fun hs => (by rw [hO.depth] at hs; cases hs), hO.rows _ _ _ _ (hh.mono (fun _ _ he => h _ _ he))⟩
      | exact hh.elim
  | halt x w' => cases x <;> simp only [Oper.upon] at hh <;> first | exact hh | exact hh.elim

theorem listIn_of_list (hO : Open F m P) {Q : Exit → Act → World → Prop} (hL : ¬ LetsOut Q) : ∀ (l : List Oper), (∀ o ∈ l, ∀ c, o.op ≠ .defer c) → ∀ (a : Act) (w : World), wpList P ops Q l a w → wpListIn F m P ops Q l a w
  | [], _, _, _, h => h
  | o :: l, hn, a, w, h => by
    have ih := listIn_of_list hO hL l (fun o' ho' => hn o' (List.mem_cons_of_mem _ ho'))
    unfold wpList at h
    unfold wpListIn
    split
    · rename_i hw
      simp only [hw, if_true] at h
      rcases h with h | ⟨_, h⟩
      · exact opIn_of_wp hO (hn o List.mem_cons_self) ih h
      · exact absurd h hL
    · rename_i hw
      simp only [hw] at h
      exact ⟨fun f _ => hO.fn f, ih _ _ h⟩

/-- a region in the text's order, told in the wide fence's words -/
theorem region_list (hO : Open F m P) {id : Nat} {Q : Exit → Act → World → Prop} {a : Act} {w : World} {l : List Oper} (hnd : noDefer l.toArray = true) (hL : ¬ LetsOut Q)
    (h : wpList P l.toArray Q l a w) : (Code.region id l.toArray false).wpIn F m P Q a w :=
  wpIn_region_lit (listIn_of_list hO hL l (fun o ho c => noDeferL_spec hnd ho c) a w h)
end
end Go.Proofs.Ytcbmmhedefigeaa.Tail
