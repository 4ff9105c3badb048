import Derived.RangeFuncBox
import Derived.RangeFuncLeaves
import Derived.RangeFuncNested
import Derived.RangeFuncBound
import Derived.RangeFuncCalls
import Derived.Shelf.Abstract
import Derived.Shelf.RegionOpen
import Derived.WalkKit
import Derived.OwnWalkIn
import Derived.TacticsInMore
import Derived.LoopNIn
import Derived.LoopIn
import Derived.IntWalk
import Derived.StillTailTactics
import Derived.Test.YtcbmmhedefigeaaProg
import Derived.Test.YtcbmmhedefigeaaTail
import Derived.Test.YtcbmmhedefigeaaXx0
/-! The neighbours of a profile, as profile.staves yields them: the iterator's contract. -/
namespace Go.Proofs.Ytcbmmhedefigeaa.It
set_option linter.unusedVariables false
set_option linter.unusedSimpArgs false
open Go.RowKit Go.Shelf Go.Proofs.Ytcbmmhedefigeaa.X
attribute [local go_sem] Oper.semAt_some
/-- what has come when k rounds are over -/
def upto {α : Type} (f : Nat → α) (k : Nat) : List α := (List.range k).map f
theorem upto_succ {α : Type} (f : Nat → α) (k : Nat) : upto f (k + 1) = upto f k ++ [f k] := by simp [upto, List.range_succ]
theorem upto_length {α : Type} (f : Nat → α) (k : Nat) : (upto f k).length = k := by simp [upto]
/-- the neighbours -/
def nb (zs : List S30) (j : Nat) : S30 × S30 := (zs[j]?.getD z30, zs[j + 1]?.getD z30)
/-- a point as a value -/
@[reducible] def pv (x : S30) : Value := .agg #[.int .i64 x.f0, .int .i64 x.f1]
theorem add_block (a : Addr) (n : Nat) : (a.add n).block = a.block := by unfold Addr.add; split <;> rfl
theorem add_succ (a : Addr) (n : Nat) : a.add (n + 1) = ⟨a.block, a.off + (n + 1), none⟩ := by unfold Addr.add; rw [if_neg (by omega)]
theorem grown_drew (w : World) : w.grownBy w.drew none := ⟨rfl, rfl, rfl, Nat.le_refl _, fun _ _ _ => rfl⟩
/-- what a round must keep: what lay below n₀, and the box of the slice -/
def KB (n₀ Bs : Nat) (W W' : World) : Prop := Below n₀ W W' ∧ W'.heap[Bs]? = W.heap[Bs]?
theorem KB.refl (n₀ Bs : Nat) (W : World) : KB n₀ Bs W W := ⟨Below.refl _ _, rfl⟩
theorem KB.trans {n₀ Bs : Nat} {A B C : World} (h : KB n₀ Bs A B) (h' : KB n₀ Bs B C) : KB n₀ Bs A C := ⟨h.1.trans h'.1, h'.2.trans h.2⟩
theorem KB.drew (n₀ Bs : Nat) (W : World) : KB n₀ Bs W W.drew := ⟨(Below.refl n₀ W).drew, rfl⟩
theorem KB.box {n₀ Bs : Nat} {A B : World} (h : KB n₀ Bs A B) : B.cell? ⟨Bs, 0, none⟩ = A.cell? ⟨Bs, 0, none⟩ := World.cell?_of_block h.2
/-- a store into a block that is new, and not the box -/
theorem KB.setCell {n₀ Bs : Nat} {A B : World} (h : KB n₀ Bs A B) {p : Addr} (hp : n₀ ≤ p.block) (hne : Bs ≠ p.block) (v : Value) : KB n₀ Bs A (B.setCell p v) := ⟨h.1.setCell hp v, (Below.heap_setCell B p v Bs hne).trans h.2⟩
theorem KB.alloc {n₀ Bs : Nat} {A B : World} (h : KB n₀ Bs A B) (hn : n₀ ≤ B.heap.size) (hlt : Bs < B.heap.size) (o : Obj) : KB n₀ Bs A (B.alloc o) := ⟨h.1.alloc hn o, (Below.heap_alloc B o Bs hlt).trans h.2⟩
theorem KB.below {n₀ Bs m : Nat} {A B C : World} (h : KB n₀ Bs A B) (hb : Below m B C) (hm : n₀ ≤ m) (hlt : Bs < m) : KB n₀ Bs A C := ⟨h.1.trans (hb.mono hm), (hb.block Bs hlt).trans h.2⟩
theorem kb_t {n₀ Bs : Nat} : ∀ {A B C : World}, KB n₀ Bs A B → KB n₀ Bs B C → KB n₀ Bs A C := fun h h' => h.trans h'
theorem kb_b {n₀ Bs : Nat} {w : World} (hn : n₀ ≤ w.heap.size) (hB : Bs < w.heap.size) : ∀ (W : World) (l : Nat) (o o' : Obj), w.heap.size ≤ l → W.heap[l]? = some o → o.isCells = false → o.isWalk = false → KB n₀ Bs W (W.putObj l o') :=
 fun W l o o' hl ho hc hw => ⟨belowK_b (w := w) hn W l o o' hl ho hc hw, World.putObj_heap_other (by omega)⟩
set_option maxRecDepth 100000 in
set_option maxHeartbeats 400000 in
theorem strips1_in (n : Nat) (hn : 1 ≤ n) (l Bs n₀ len cap : Nat) (ad : Addr) (zs : List S30) (G : S30 × S30 → Prop) (hG : ∀ k, k < len - 1 → G (nb zs k)) (hreach : len < 1000000000000) (hb : ad.block < n₀) (J Jx : List (S30 × S30) → World → Prop)
  (hY : ∀ pre x W, G x → J pre W → pre.length < len - 1 → YieldAt Fence.wide (n - 1) Try.prog l #[pv x.1, pv x.2] W fun e W' =>
   (e = .returned (.bool true) ∧ J (pre ++ [x]) W' ∧ KB n₀ Bs W W') ∨ (e = .returned (.bool false) ∧ Jx (pre ++ [x]) W'))
  (W : World) (hJ : AbidesFrom W.heap.size J) (hBs : W.cell? ⟨Bs, 0, none⟩ = some (.slice (some ad) len cap)) (hc : ∀ j, j < len → W.cell? (ad.add (j * 2)) = some (.int .i64 (zs[j]?.getD z30).f0) ∧ W.cell? ⟨(ad.add (j * 2)).block, (ad.add (j * 2)).off + 1, none⟩ = some (.int .i64 (zs[j]?.getD z30).f1)) (h0 : J [] W) :
  CallsIn Fence.wide n Try.prog 56 #[.func (.yield l) #[] #[], .pointer (some ⟨Bs, 0, none⟩)] W fun e W' => (∃ v, e = .returned v) ∧
   ((∃ ys, ys = upto (nb zs) (len - 1) ∧ J ys W') ∨ (∃ pre, (∃ k, k ≤ len - 1 ∧ pre = upto (nb zs) k) ∧ Jx pre W')) := by
 refine callsIn_of_wp Try.func56 rfl trivial ?_
 simp only [Try.ntmps56, List.size_toArray, List.length_cons, List.length_nil, Nat.reduceAdd, Nat.reduceSub, Array.replicate_succ, Array.replicate_zero, List.push_toArray, List.append_toArray, List.nil_append, List.cons_append]
 gi_wp2
 gi_loopw [3] (fun i wr => ∃ k : Nat, k ≤ len - 1 ∧ i = .int .i64 ((k : Int) + 1) ∧ J (upto (nb zs) k) wr ∧ KB n₀ Bs W wr)
  (fun i _ => len - (intOf i).toNat)
 case atStart => exact ⟨0, Nat.zero_le _, rfl, h0, KB.refl _ _ _⟩
 case round =>
  obtain ⟨k, hk, rfl, hJs, hnx⟩ := hrel
  have hBs' := hnx.box.trans hBs
  by_cases hlt : k + 1 < len
  ·obtain ⟨p, hp⟩ : ∃ p, zs[k]?.getD z30 = p := ⟨_, rfl⟩
   obtain ⟨q, hq⟩ : ∃ q, zs[k + 1]?.getD z30 = q := ⟨_, rfl⟩
   have hc1 : wr.cell? (ad.add (k * 2)) = some (.int .i64 p.f0) := by rw [← hp]; exact (hnx.1.cell (p := ad.add (k * 2)) (by rw [add_block]; exact hb)).trans (hc k (by omega)).1
   have hc1' : wr.cell? ⟨(ad.add (k * 2)).block, (ad.add (k * 2)).off + 1, none⟩ = some (.int .i64 p.f1) := by rw [← hp]; exact (hnx.1.cell (p := ⟨(ad.add (k * 2)).block, (ad.add (k * 2)).off + 1, none⟩) (by show (ad.add (k * 2)).block < n₀; rw [add_block]; exact hb)).trans (hc k (by omega)).2
   have hc2 : wr.cell? (ad.add ((k + 1) * 2)) = some (.int .i64 q.f0) := by rw [← hq]; exact (hnx.1.cell (p := ad.add ((k + 1) * 2)) (by rw [add_block]; exact hb)).trans (hc (k + 1) (by omega)).1
   have hc2' : wr.cell? ⟨(ad.add ((k + 1) * 2)).block, (ad.add ((k + 1) * 2)).off + 1, none⟩ = some (.int .i64 q.f1) := by rw [← hq]; exact (hnx.1.cell (p := ⟨(ad.add ((k + 1) * 2)).block, (ad.add ((k + 1) * 2)).off + 1, none⟩) (by show (ad.add ((k + 1) * 2)).block < n₀; rw [add_block]; exact hb)).trans (hc (k + 1) (by omega)).2
   have hJd : J (upto (nb zs) k) wr.drew := hJ _ _ _ none hJs (grown_drew wr) (fun r e => by cases e)
   obtain ⟨fn, tmps, assign, body, hy, hR⟩ := hY _ (nb zs k) wr.drew (hG k (by omega)) hJd (by rw [upto_length]; omega)
   dsimp only [nb, pv] at hy
   rw [hp, hq] at hy
   have hR2 : RoundIn Fence.wide (n - 1) Try.prog l fn tmps assign body wr.drew fun e W' => ∃ bb, e = .returned (.bool bb) ∧ ((bb = true ∧ J (upto (nb zs) (k + 1)) W' ∧ KB n₀ Bs wr.drew W') ∨ (bb = false ∧ Jx (upto (nb zs) (k + 1)) W')) := hR.mono (by
    rintro e W' (⟨rfl, h1, h2⟩ | ⟨rfl, h1⟩)
    ·exact ⟨true, rfl, .inl ⟨rfl, by rw [upto_succ]; exact h1, h2⟩⟩
    ·exact ⟨false, rfl, .inr ⟨rfl, by rw [upto_succ]; exact h1⟩⟩)
   clear hR
   have hd := KB.drew n₀ Bs wr
   have hlt0 : k < len := by omega
   have hs1 : IntKind.i64.wrap (k : Int) = k := IntWalk.i64_in _ (by omega)
   have hs2 : (k : Int) < len := by omega
   have hs3 : (k : Int) + 1 < len := by omega
   have hs4 : ((k : Int) + 1).toNat = k + 1 := by omega
   have hs5 : (0 : Int) ≤ (k : Int) + 1 := by omega
   gi_wp2
   refine Tail.region_tail (Tail.open_wide _ _) 10 (by kernel_rfl) (by kernel_rfl) (by kernel_rfl) ?_
   simp only [List.take_succ_cons, List.take_zero, List.drop_succ_cons, List.drop_zero]
   repeat still_step
   try refine wpStill_nil ?_
   change wpListIn _ _ _ _ _ _ _ (World.drew wr)
   gi_wp2
   refine hR2.mono ?_
   clear hR2
   rintro e W3 ⟨bb, rfl, ⟨rfl, hJ3, hk3⟩ | ⟨rfl, hJx3⟩⟩
   ·gi_wp2
    go_roundw
    case rel => exact ⟨k + 1, by omega, by go_num, hJ3, hnx.trans (hd.trans hk3)⟩
    case measure => simp [intOf]; omega
   ·gi_wp2
    refine bodyPost_ret (results_none rfl _ _ _) rfl ?_
    exact ⟨⟨_, rfl⟩, .inr ⟨_, ⟨k + 1, by omega, rfl⟩, hJx3⟩⟩
  ·obtain rfl : k = len - 1 := by omega
   gi_wp2
   go_end0
   exact ⟨⟨_, rfl⟩, .inl ⟨_, rfl, hJs⟩⟩
set_option maxRecDepth 100000 in
set_option maxHeartbeats 400000 in
/-- .. where there is no element: no round -/
theorem strips1_none (n : Nat) (l Bs cap : Nat) (A : Option Addr) (J : List (S30 × S30) → World → Prop) (W : World) (hBs : W.cell? ⟨Bs, 0, none⟩ = some (.slice A 0 cap)) (h0 : J [] W) :
  CallsIn Fence.wide n Try.prog 56 #[.func (.yield l) #[] #[], .pointer (some ⟨Bs, 0, none⟩)] W fun e W' => (∃ v, e = .returned v) ∧ J [] W' := by
 refine callsIn_of_wp Try.func56 rfl trivial ?_
 simp only [Try.ntmps56, List.size_toArray, List.length_cons, List.length_nil, Nat.reduceAdd, Nat.reduceSub, Array.replicate_succ, Array.replicate_zero, List.push_toArray, List.append_toArray, List.nil_append, List.cons_append]
 gi_wp2
 gi_loopw [3] (fun i wr => i = .int .i64 1 ∧ J [] wr ∧ wr.cell? ⟨Bs, 0, none⟩ = some (.slice A 0 cap)) (fun _ _ => 0)
 case atStart => exact ⟨rfl, h0, hBs⟩
 case round =>
  obtain ⟨rfl, hJs, hBs'⟩ := hrel
  gi_wp2
  go_end0
  exact ⟨⟨_, rfl⟩, hJs⟩
set_option maxHeartbeats 400000 in
/-- segment.strips: the slice value is boxed; the function value captures the box -/
theorem strips_in (n : Nat) (A : Option Addr) (len cap : Nat) (w : World) :
  CallsIn Fence.wide n Try.prog 49 #[.slice A len cap] w fun e w' => e = .returned (.func (.func 56) #[] #[.pointer (some ⟨w.heap.size, 0, none⟩)]) ∧ w' = w.alloc (.cells #[.slice A len cap] 22) := by
 refine callsIn_of_wp Try.func49 rfl trivial ?_
 simp only [Try.ntmps49, List.size_toArray, List.length_cons, List.length_nil, Nat.reduceAdd, Nat.reduceSub, Array.replicate_succ, Array.replicate_zero, List.push_toArray, List.append_toArray, List.nil_append, List.cons_append]
 gi_wp2
 go_ret
 exact ⟨rfl, rfl⟩
/-- the slice A holds the numbers zs, in a block below n₀ -/
def Holds (n₀ : Nat) (W : World) (A : Option Addr) (zs : List S30) : Prop := zs = [] ∨ ∃ ad, A = some ad ∧ ad.block < n₀ ∧ ∀ j, j < zs.length → W.cell? (ad.add (j * 2)) = some (.int .i64 (zs[j]?.getD z30).f0) ∧ W.cell? ⟨(ad.add (j * 2)).block, (ad.add (j * 2)).off + 1, none⟩ = some (.int .i64 (zs[j]?.getD z30).f1)
theorem Holds.below {n₀ : Nat} {W W' : World} {A : Option Addr} {zs : List S30} (h : Below n₀ W W') : Holds n₀ W A zs → Holds n₀ W' A zs
 | .inl e => .inl e
 | .inr ⟨ad, e, hb, hc⟩ => .inr ⟨ad, e, hb, fun j hj => ⟨(h.cell (p := ad.add (j * 2)) (by rw [add_block]; exact hb)).trans (hc j hj).1, (h.cell (p := ⟨(ad.add (j * 2)).block, (ad.add (j * 2)).off + 1, none⟩) (by show (ad.add (j * 2)).block < n₀; rw [add_block]; exact hb)).trans (hc j hj).2⟩⟩
/-- what strips hands back yields the neighbours, all of them, or the first of them -/
theorem strips_stops (n : Nat) (hn : 1 ≤ n) (Bs n₀ cap : Nat) (A : Option Addr) (zs : List S30) (hreach : zs.length < 1000000000000) (w : World) (hBs : Bs < w.heap.size) (hn₀ : n₀ ≤ w.heap.size)
  (hc : w.cell? ⟨Bs, 0, none⟩ = some (.slice A zs.length cap)) (hI : Holds n₀ w A zs) :
  SeqStopsK Fence.wide n Try.prog 56 #[.pointer (some ⟨Bs, 0, none⟩)] (fun x : S30 × S30 => #[pv x.1, pv x.2]) (KB n₀ Bs) (fun ys => ys = upto (nb zs) (zs.length - 1))
   (fun pre => ∃ k, k ≤ zs.length - 1 ∧ pre = upto (nb zs) k) (zs.length - 1) w := fun l J Jx W hW hJ _ hY h0 => by
 have hc' := (hW.cell (p := ⟨Bs, 0, none⟩) hBs).trans hc
 rcases hI.below (hW.mono hn₀) with rfl | ⟨ad, rfl, hb, hcs⟩
 ·exact (strips1_none n l Bs cap A J W hc' h0).mono fun e W' ⟨he, hj⟩ => ⟨he, .inl ⟨_, rfl, hj⟩⟩
 ·exact strips1_in n hn l Bs n₀ zs.length cap ad zs (fun _ => True) (fun _ _ => trivial) hreach hb J Jx (fun pre x W _ => hY pre x W) W hJ hc' hcs h0
/-- .. the same, where the neighbours are known to be right: the loop's body sees only such -/
theorem strips_stopsG (G : S30 × S30 → Prop) (n : Nat) (hn : 1 ≤ n) (Bs n₀ cap : Nat) (A : Option Addr) (zs : List S30) (hG : ∀ k, k < zs.length - 1 → G (nb zs k)) (hreach : zs.length < 1000000000000) (w : World) (hBs : Bs < w.heap.size) (hn₀ : n₀ ≤ w.heap.size)
  (hc : w.cell? ⟨Bs, 0, none⟩ = some (.slice A zs.length cap)) (hI : Holds n₀ w A zs) :
  SeqStopsK Fence.wide n Try.prog 56 #[.pointer (some ⟨Bs, 0, none⟩)] (fun x : { x : S30 × S30 // G x } => #[pv x.1.1, pv x.1.2]) (KB n₀ Bs) (fun ys => ys.map (·.1) = upto (nb zs) (zs.length - 1))
   (fun pre => ∃ k, k ≤ zs.length - 1 ∧ pre.map (·.1) = upto (nb zs) k) (zs.length - 1) w := fun l J Jx W hW hJ hJx hY h0 => by
 have hc' := (hW.cell (p := ⟨Bs, 0, none⟩) hBs).trans hc
 rcases hI.below (hW.mono hn₀) with rfl | ⟨ad, rfl, hb, hcs⟩
 ·exact (strips1_none n l Bs cap A (fun pre W => ∃ pre', pre = pre'.map (·.1) ∧ J pre' W) W hc' ⟨[], rfl, h0⟩).mono fun e W' ⟨he, pre', h1, h2⟩ => ⟨he, .inl ⟨pre', h1.symm.trans rfl, h2⟩⟩
 ·refine (strips1_in n hn l Bs n₀ zs.length cap ad zs G hG hreach hb (fun pre W => ∃ pre' : List { x : S30 × S30 // G x }, pre = pre'.map (·.1) ∧ J pre' W) (fun pre W => ∃ pre' : List { x : S30 × S30 // G x }, pre = pre'.map (·.1) ∧ Jx pre' W) ?_ W ?_ hc' hcs ⟨[], rfl, h0⟩).mono ?_
  ·rintro pre x W1 hx ⟨pre', rfl, hj⟩ hlt
   obtain ⟨fn, tmps, assign, body, h1, h2⟩ := hY pre' ⟨x, hx⟩ W1 hj (by simpa using hlt)
   refine ⟨fn, tmps, assign, body, h1, h2.mono ?_⟩
   rintro e W' (⟨he, h3, h4⟩ | ⟨he, h3⟩)
   ·exact .inl ⟨he, ⟨pre' ++ [⟨x, hx⟩], by simp, h3⟩, h4⟩
   ·exact .inr ⟨he, pre' ++ [⟨x, hx⟩], by simp, h3⟩
  ·rintro s A B row ⟨pre', h1, h2⟩ hg hr
   exact ⟨pre', h1, hJ pre' A B row h2 hg hr⟩
  ·rintro e W' ⟨he, (⟨ys, h1, pre', h2, h3⟩ | ⟨pre, ⟨k, hk, h1⟩, pre', h2, h3⟩)⟩
   ·exact ⟨he, .inl ⟨pre', h2.symm.trans h1, h3⟩⟩
   ·exact ⟨he, .inr ⟨pre', ⟨k, hk, h2.symm.trans h1⟩, h3⟩⟩
end Go.Proofs.Ytcbmmhedefigeaa.It
