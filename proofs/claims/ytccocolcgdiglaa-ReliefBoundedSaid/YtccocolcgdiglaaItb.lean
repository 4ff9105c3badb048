import Derived.RangeFuncBox
import Derived.RangeFuncLeaves
import Derived.RangeFuncNested
import Derived.RangeFuncBound
import Derived.RangeFuncCalls
import Derived.Shelf.Abstract
import Derived.Shelf.RegionOpen
import Derived.WalkKit
import Derived.OwnWalkIn
import Derived.TacticsInMore
import Derived.LoopNIn
import Derived.LoopIn
import Derived.IntWalk
import Derived.StillTailTactics
import Derived.Test.YtccocolcgdiglaaProg
import Derived.Test.YtccocolcgdiglaaXx0
import Derived.Test.YtccocolcgdiglaaChr
import Derived.Test.YtccocolcgdiglaaIdx
/-! The reliefs that apply to an item, as relief.applying yields them: the iterator's contract. -/
namespace Go.Proofs.Ytccocolcgdiglaa.It
set_option linter.unusedVariables false
set_option linter.unusedSimpArgs false
open Go.RowKit Go.Shelf Go.Proofs.Ytccocolcgdiglaa.X Go.Proofs.YtccocolcgdiglaaW.PrintWords Go.Proofs.YtccocolcgdiglaaW.PrintLast
attribute [local go_sem] Oper.semAt_some

/-- whether a relief applies to an item -/
def appl (r : S33) (x : S25) : Bool := (decide (r.f2 = 0) || decide (r.f2 = x.f1)) && (decide (r.f3 ≤ x.f2) && decide (x.f2 ≤ r.f4))
/-- an item as a value -/
@[reducible] def iv (x : S25) : Value := .agg #[.int .i64 x.f0, .int .i64 x.f1, .int .i64 x.f2, .int .i64 x.f3, .int .i64 x.f4]
theorem appl_f (r : S33) (x : S25) : relief_Applies.f r.f0 r.f1 r.f2 r.f3 r.f4 r.f5 r.f6 x.f0 x.f1 x.f2 x.f3 x.f4 = some (appl r x) := by
  unfold relief_Applies.f relief_within.f appl
  by_cases h : r.f2 = 0
  · simp only [h, if_true]
    by_cases h2 : x.f2 ≥ r.f3 <;> simp [h2]
  · simp only [h, if_false]
    by_cases h1 : r.f2 = x.f1
    · by_cases h2 : x.f2 ≥ r.f3 <;> simp [h1, h2]
    · simp [h1]
theorem applies_calls (r : S33) (x : S25) (w : World) : Calls Try.prog 20 #[rv r, iv x] w fun e w' => e = .returned (.bool (appl r x)) ∧ Below w.heap.size w w' :=
  relief_Applies.calls r.f0 r.f1 r.f2 r.f3 r.f4 r.f5 r.f6 x.f0 x.f1 x.f2 x.f3 x.f4 _ w (appl_f r x)

/-- what a round must keep: what lay below n₀, and the box of the item -/
def KB (n₀ Bx : Nat) (W W' : World) : Prop := Below n₀ W W' ∧ W'.heap[Bx]? = W.heap[Bx]?
theorem KB.refl (n₀ Bx : Nat) (W : World) : KB n₀ Bx W W := ⟨Below.refl _ _, rfl⟩
theorem KB.trans {n₀ Bx : Nat} {A B C : World} (h : KB n₀ Bx A B) (h' : KB n₀ Bx B C) : KB n₀ Bx A C := ⟨h.1.trans h'.1, h'.2.trans h.2⟩
theorem KB.setCell {n₀ Bx : Nat} {A B : World} (h : KB n₀ Bx A B) {p : Addr} (hp : n₀ ≤ p.block) (hne : Bx ≠ p.block) (v : Value) : KB n₀ Bx A (B.setCell p v) := ⟨h.1.setCell hp v, (Below.heap_setCell B p v Bx hne).trans h.2⟩
theorem KB.alloc {n₀ Bx : Nat} {A B : World} (h : KB n₀ Bx A B) (hn : n₀ ≤ B.heap.size) (hlt : Bx < B.heap.size) (o : Obj) : KB n₀ Bx A (B.alloc o) := ⟨h.1.alloc hn o, (Below.heap_alloc B o Bx hlt).trans h.2⟩
theorem KB.below {n₀ Bx m : Nat} {A B C : World} (h : KB n₀ Bx A B) (hb : Below m B C) (hm : n₀ ≤ m) (hlt : Bx < m) : KB n₀ Bx A C := ⟨h.1.trans (hb.mono hm), (hb.block Bx hlt).trans h.2⟩
theorem kb_t {n₀ Bx : Nat} : ∀ {A B C : World}, KB n₀ Bx A B → KB n₀ Bx B C → KB n₀ Bx A C := fun h h' => h.trans h'
theorem add_block (a : Addr) (n : Nat) : (a.add n).block = a.block := by unfold Addr.add; split <;> rfl
theorem grown_of_below {w w' : World} (h : Below w.heap.size w w') : w.grownBy w' none := ⟨h.os, h.tape, h.output, h.size, fun k hk _ => h.block k hk⟩
theorem size_setCell (w : World) (a : Addr) (v : Value) : (w.setCell a v).heap.size = w.heap.size := by unfold World.setCell; simp

set_option maxRecDepth 100000 in
set_option maxHeartbeats 400000 in
theorem appl_in (n : Nat) (hn : 1 ≤ n) (l Bs Bx n₀ len cap : Nat) (ad : Addr) (zs : List S33) (hz : zs.length = len) (x : S25) (G : S33 → Prop) (hG : ∀ k, k < len → G (rd_T33 zs k)) (hreach : len < 1000000000000) (hb : ad.block < n₀) (J Jx : List S33 → World → Prop)
    (hY : ∀ pre z W, G z → J pre W → pre.length < len → YieldAt Fence.wide (n - 1) Try.prog l #[rv z] W fun e W' =>
      (e = .returned (.bool true) ∧ J (pre ++ [z]) W' ∧ KB n₀ Bx W W') ∨ (e = .returned (.bool false) ∧ Jx (pre ++ [z]) W'))
    (W : World) (hJ : AbidesFrom W.heap.size J) (hn0 : n₀ ≤ W.heap.size) (hBs : W.cell? ⟨Bs, 0, none⟩ = some (.slice (some ad) len cap)) (hBx : W.heap[Bx]? = some (.cells #[.int .i64 x.f0, .int .i64 x.f1, .int .i64 x.f2, .int .i64 x.f3, .int .i64 x.f4] 25 (0, 0)))
    (hc : Kd.C k33 W (some ad) len zs) (h0 : J [] W) :
    CallsIn Fence.wide n Try.prog 41 #[.func (.yield l) #[] #[], .pointer (some ⟨Bs, 0, none⟩), .pointer (some ⟨Bx, 0, none⟩)] W fun e W' => (∃ v, e = .returned v) ∧
      ((∃ ys, ys = zs.filter (fun r => appl r x) ∧ J ys W') ∨ (∃ pre, Jx pre W')) := by
  have hu33 := Try.underlying33
  refine callsIn_of_wp Try.func41 rfl trivial ?_
  simp only [Try.ntmps41, List.size_toArray, List.length_cons, List.length_nil, Nat.reduceAdd, Nat.reduceSub, Array.replicate_succ, Array.replicate_zero, List.push_toArray, List.append_toArray, List.nil_append, List.cons_append]
  gi_wp2
  gi_loopw [8] (fun i wr => ∃ k : Nat, k ≤ len ∧ i = .int .i64 (k : Int) ∧ J ((zs.take k).filter (fun r => appl r x)) wr ∧ KB n₀ Bx W wr)
    (fun i _ => len - (intOf i).toNat)
  case atStart => exact ⟨0, Nat.zero_le _, rfl, h0, KB.refl _ _ _⟩
  case round =>
    obtain ⟨k, hk, rfl, hJs, hnx⟩ := hrel
    by_cases hlt : k < len
    · have hBx1 := hnx.2.trans hBx
      obtain ⟨ad108, e108, hx0, hx1, hx2, hx3, hx4, hx5, hx6⟩ := at_T33 hc (k : Int) (by omega) (by omega)
      cases e108
      replace hx0 := (hnx.1.cell (p := ad.add ((k : Int).toNat * 7)) (by rw [add_block]; exact hb)).trans hx0
      replace hx1 := (hnx.1.cell (p := ⟨(ad.add ((k : Int).toNat * 7)).block, _, _⟩) (by show (ad.add ((k : Int).toNat * 7)).block < n₀; rw [add_block]; exact hb)).trans hx1
      replace hx2 := (hnx.1.cell (p := ⟨(ad.add ((k : Int).toNat * 7)).block, _, _⟩) (by show (ad.add ((k : Int).toNat * 7)).block < n₀; rw [add_block]; exact hb)).trans hx2
      replace hx3 := (hnx.1.cell (p := ⟨(ad.add ((k : Int).toNat * 7)).block, _, _⟩) (by show (ad.add ((k : Int).toNat * 7)).block < n₀; rw [add_block]; exact hb)).trans hx3
      replace hx4 := (hnx.1.cell (p := ⟨(ad.add ((k : Int).toNat * 7)).block, _, _⟩) (by show (ad.add ((k : Int).toNat * 7)).block < n₀; rw [add_block]; exact hb)).trans hx4
      replace hx5 := (hnx.1.cell (p := ⟨(ad.add ((k : Int).toNat * 7)).block, _, _⟩) (by show (ad.add ((k : Int).toNat * 7)).block < n₀; rw [add_block]; exact hb)).trans hx5
      replace hx6 := (hnx.1.cell (p := ⟨(ad.add ((k : Int).toNat * 7)).block, _, _⟩) (by show (ad.add ((k : Int).toNat * 7)).block < n₀; rw [add_block]; exact hb)).trans hx6
      have ej : ((k : Int).toNat) = k := by simp
      rw [ej] at hx0 hx1 hx2 hx3 hx4 hx5 hx6
      have q1 : (0 ≤ (k : Int)) = True := eq_true (by omega)
      have q2 : ((k : Int) < (len : Int)) = True := eq_true (by omega)
      obtain ⟨z, hzk⟩ : ∃ z, rd_T33 zs (k : Int) = z := ⟨_, rfl⟩
      rw [hzk] at hx0 hx1 hx2 hx3 hx4 hx5 hx6
      have hGz : G z := by rw [← hzk]; exact hG k hlt
      have hw1 : IntKind.i64.wrap ((k : Int) + 1) = (k : Int) + 1 := IntWalk.i64_in _ (by omega)
      have htk : zs.take (k + 1) = zs.take k ++ [z] := by
        rw [List.take_add_one, List.getElem?_eq_getElem (by omega), ← hzk]
        unfold rd_T33
        rw [ej, List.getD_eq_getElem?_getD, List.getElem?_eq_getElem (by omega)]
        rfl
      have c4b0 : decide ((k : Int) < (len : Int)) = true := decide_eq_true (by omega)
      have hA : (wr.alloc (.cells #[.int .i64 z.f0, .string z.f1, .int .i64 z.f2, .int .i64 z.f3, .int .i64 z.f4, .int .i64 z.f5, .int .i64 z.f6] 33)).heap[Bx]? = _ := blk_alloc hBx1 _
      have hBx0c := (blk_cell hA 0).trans rfl
      have hBx1c := (blk_cell hA 1).trans rfl
      have hBx2c := (blk_cell hA 2).trans rfl
      have hBx3c := (blk_cell hA 3).trans rfl
      have hBx4c := (blk_cell hA 4).trans rfl
      have hszw := hnx.1.size
      have hltx := blk_lt hBx1
      have hfil : (zs.take (k + 1)).filter (fun r => appl r x) = (zs.take k).filter (fun r => appl r x) ++ (if appl z x then [z] else []) := by
        rw [htk, List.filter_append]
        cases hap : appl z x <;> simp [hap]
      have hpl : ((zs.take k).filter (fun r => appl r x)).length ≤ k := Nat.le_trans (List.length_filter_le _ _) (by rw [List.length_take]; omega)
      cases hap : appl z x with
      | false =>
        rw [hap] at hfil
        gi_wp2_with (refine ⟨trivial, ?_⟩; gi_at_call 20; refine (callsIn_wide.2 (applies_calls z x _)).mono ?_; rw [hap]; rintro e w2 ⟨rfl, hb2⟩)
        have hbb : Below wr.heap.size wr w2 := below_step (below_alloc (Below.refl wr.heap.size wr) _) hb2
        have hJd : J ((zs.take k).filter (fun r => appl r x)) w2 := hJ _ _ _ none hJs (grown_of_below hbb) (fun r e => by cases e)
        repeat (refine ⟨fun _ h => (by cases h), ?_⟩; gi_wp2)
        go_roundw
        case rel => exact ⟨k + 1, by omega, by go_num, by rw [hfil]; simpa using hJd, hnx.below hbb (by omega) hltx⟩
        case measure => simp [intOf]; omega
      | true =>
        rw [hap] at hfil
        gi_wp2_with (refine ⟨trivial, ?_⟩; gi_at_call 20; refine (callsIn_wide.2 (applies_calls z x _)).mono ?_; rw [hap]; rintro e w2 ⟨rfl, hb2⟩;
                              have hbb : Below wr.heap.size wr w2 := below_step (below_alloc (Below.refl wr.heap.size wr) _) hb2;
                              have hJd : J ((zs.take k).filter (fun r => appl r x)) w2 := hJ _ _ _ none hJs (grown_of_below hbb) (fun r e => by cases e);
                              have hzb := blk_below (blk_new wr (.cells #[.int .i64 z.f0, .string z.f1, .int .i64 z.f2, .int .i64 z.f3, .int .i64 z.f4, .int .i64 z.f5, .int .i64 z.f6] 33)) hb2;
                              have hz0 := (blk_cell hzb 0).trans rfl; have hz1 := (blk_cell hzb 1).trans rfl; have hz2 := (blk_cell hzb 2).trans rfl; have hz3 := (blk_cell hzb 3).trans rfl;
                              have hz4 := (blk_cell hzb 4).trans rfl; have hz5 := (blk_cell hzb 5).trans rfl; have hz6 := (blk_cell hzb 6).trans rfl;
                              obtain ⟨fn, tmps, assign, body, hy, hR⟩ := hY _ z w2 hGz hJd (by omega); dsimp only [rv] at hy;
                              have hR2 : RoundIn Fence.wide (n - 1) Try.prog l fn tmps assign body w2 fun e W' => ∃ bb, e = .returned (.bool bb) ∧ ((bb = true ∧ J ((zs.take (k + 1)).filter (fun r => appl r x)) W' ∧ KB n₀ Bx w2 W') ∨ (bb = false ∧ Jx ((zs.take (k + 1)).filter (fun r => appl r x)) W')) := hR.mono (by
                                rintro e W' (⟨rfl, h1, h2⟩ | ⟨rfl, h1⟩)
                                · exact ⟨true, rfl, .inl ⟨rfl, by rw [hfil]; exact h1, h2⟩⟩
                                · exact ⟨false, rfl, .inr ⟨rfl, by rw [hfil]; exact h1⟩⟩);
                              clear hR)
        refine hR2.mono ?_
        clear hR2
        rintro e W3 ⟨bb, rfl, ⟨rfl, hJ3, hk3⟩ | ⟨rfl, hJx3⟩⟩
        · gi_wp2
          go_roundw
          case rel => exact ⟨k + 1, by omega, by go_num, hJ3, (hnx.below hbb (by omega) hltx).trans hk3⟩
          case measure => simp [intOf]; omega
        · gi_wp2
          refine bodyPost_ret (results_none rfl _ _ _) rfl ?_
          exact ⟨⟨_, rfl⟩, .inr ⟨_, hJx3⟩⟩
    · obtain rfl : k = len := by omega
      gi_wp2
      go_end0
      exact ⟨⟨_, rfl⟩, .inl ⟨_, by rw [← hz, List.take_length], hJs⟩⟩

set_option maxRecDepth 100000 in
set_option maxHeartbeats 400000 in
/-- .. where there is no relief: no round -/
theorem appl_none (n : Nat) (l Bs Bx cap : Nat) (A : Option Addr) (x : S25) (J : List S33 → World → Prop) (W : World) (hBs : W.cell? ⟨Bs, 0, none⟩ = some (.slice A 0 cap)) (h0 : J [] W) :
    CallsIn Fence.wide n Try.prog 41 #[.func (.yield l) #[] #[], .pointer (some ⟨Bs, 0, none⟩), .pointer (some ⟨Bx, 0, none⟩)] W fun e W' => (∃ v, e = .returned v) ∧ J [] W' := by
  refine callsIn_of_wp Try.func41 rfl trivial ?_
  simp only [Try.ntmps41, List.size_toArray, List.length_cons, List.length_nil, Nat.reduceAdd, Nat.reduceSub, Array.replicate_succ, Array.replicate_zero, List.push_toArray, List.append_toArray, List.nil_append, List.cons_append]
  gi_wp2
  gi_loopw [8] (fun i wr => i = .int .i64 0 ∧ J [] wr) (fun _ _ => 0)
  case atStart => exact ⟨rfl, h0⟩
  case round =>
    obtain ⟨rfl, hJs⟩ := hrel
    gi_wp2
    go_end0
    exact ⟨⟨_, rfl⟩, hJs⟩

set_option maxHeartbeats 400000 in
/-- relief.applying: the slice and the item are boxed; the function value captures both boxes -/
theorem applying_in (n : Nat) (A : Option Addr) (len cap : Nat) (x : S25) (w : World) :
    CallsIn Fence.wide n Try.prog 30 #[.slice A len cap, iv x] w fun e w' => e = .returned (.func (.func 41) #[] #[.pointer (some ⟨w.heap.size, 0, none⟩), .pointer (some ⟨w.heap.size + 1, 0, none⟩)]) ∧
      w' = (w.alloc (.cells #[.slice A len cap] 22)).alloc (.cells #[.int .i64 x.f0, .int .i64 x.f1, .int .i64 x.f2, .int .i64 x.f3, .int .i64 x.f4] 25) := by
  refine callsIn_of_wp Try.func30 rfl trivial ?_
  simp only [Try.ntmps30, List.size_toArray, List.length_cons, List.length_nil, Nat.reduceAdd, Nat.reduceSub, Array.replicate_succ, Array.replicate_zero, List.push_toArray, List.append_toArray, List.nil_append, List.cons_append]
  gi_wp2
  go_ret
  exact ⟨rfl, rfl⟩

/-- what applying hands back yields the reliefs that apply, all of them, or the first of them; the loop's body sees only right ones -/
theorem appl_stops (G : S33 → Prop) (n : Nat) (hn : 1 ≤ n) (Bs Bx n₀ cap : Nat) (A : Option Addr) (zs : List S33) (x : S25) (hG : ∀ k, k < zs.length → G (rd_T33 zs (k : Int))) (hreach : zs.length < 1000000000000) (w : World) (hBs : Bs < w.heap.size) (hBxl : Bx < w.heap.size) (hn₀ : n₀ ≤ w.heap.size)
    (hc : w.cell? ⟨Bs, 0, none⟩ = some (.slice A zs.length cap)) (hx : w.heap[Bx]? = some (.cells #[.int .i64 x.f0, .int .i64 x.f1, .int .i64 x.f2, .int .i64 x.f3, .int .i64 x.f4] 25 (0, 0)))
    (hA : ∀ ad, A = some ad → zs ≠ [] → ad.block < n₀) (hI : Kd.C k33 w A zs.length zs) :
    SeqStopsK Fence.wide n Try.prog 41 #[.pointer (some ⟨Bs, 0, none⟩), .pointer (some ⟨Bx, 0, none⟩)] (fun z : { z : S33 // G z } => #[rv z.1]) (KB n₀ Bx) (fun ys => ys.map (·.1) = zs.filter (fun r => appl r x))
      (fun _ => True) zs.length w := fun l J Jx W hW hJ hJx hY h0 => by
  have hc' := (hW.cell (p := ⟨Bs, 0, none⟩) hBs).trans hc
  have hx' := (hW.block Bx hBxl).trans hx
  have hI' := Kd.C_below hI hW
  cases zs with
  | nil =>
    exact (appl_none n l Bs Bx cap A x (fun pre W => ∃ pre', pre = pre'.map (·.1) ∧ J pre' W) W hc' ⟨[], rfl, h0⟩).mono fun e W' ⟨he, pre', h1, h2⟩ => ⟨he, .inl ⟨pre', h1.symm.trans rfl, h2⟩⟩
  | cons z0 zs0 =>
    obtain ⟨ad, rfl, _⟩ := at_T33 hI (0 : Int) (by omega) (by simp)
    refine (appl_in n hn l Bs Bx n₀ (z0 :: zs0).length cap ad (z0 :: zs0) rfl x G hG hreach (hA ad rfl (by simp)) (fun pre W => ∃ pre' : List { z : S33 // G z }, pre = pre'.map (·.1) ∧ J pre' W) (fun pre W => ∃ pre' : List { z : S33 // G z }, pre = pre'.map (·.1) ∧ Jx pre' W) ?_ W ?_ (by have := hW.size; omega) hc' hx' hI' ⟨[], rfl, h0⟩).mono ?_
    · rintro pre z W1 hz ⟨pre', rfl, hj⟩ hlt
      obtain ⟨fn, tmps, assign, body, h1, h2⟩ := hY pre' ⟨z, hz⟩ W1 hj (by simpa using hlt)
      refine ⟨fn, tmps, assign, body, h1, h2.mono ?_⟩
      rintro e W' (⟨he, h3, h4⟩ | ⟨he, h3⟩)
      · exact .inl ⟨he, ⟨pre' ++ [⟨z, hz⟩], by simp, h3⟩, h4⟩
      · exact .inr ⟨he, pre' ++ [⟨z, hz⟩], by simp, h3⟩
    · rintro s A B row ⟨pre', h1, h2⟩ hg hr
      exact ⟨pre', h1, hJ pre' A B row h2 hg hr⟩
    · rintro e W' ⟨he, (⟨ys, h1, pre', h2, h3⟩ | ⟨pre, pre', h2, h3⟩)⟩
      · exact ⟨he, .inl ⟨pre', h2.symm.trans h1, h3⟩⟩
      · exact ⟨he, .inr ⟨pre', trivial, h3⟩⟩

end Go.Proofs.Ytccocolcgdiglaa.It
