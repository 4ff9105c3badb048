import Derived.Test.YtccocolcgdiglaaXx0
import Derived.RangeFuncCalls
/-! slices.IndexFunc over reliefs, with the closure of relief.find: the first relief with an ID. -/
namespace Go.Proofs.Ytccocolcgdiglaa.X
set_option linter.unusedVariables false
set_option linter.unusedSimpArgs false
open Go.RowKit Go.Proofs.YtccocolcgdiglaaW.PrintWords Go.Proofs.YtccocolcgdiglaaW.PrintLast

@[reducible] def rv (x : S33) : Value := .agg #[.int .i64 x.f0, .string x.f1, .int .i64 x.f2, .int .i64 x.f3, .int .i64 x.f4, .int .i64 x.f5, .int .i64 x.f6]
set_option maxRecDepth 100000 in
set_option maxHeartbeats 400000 in
theorem here_calls (x : S33) (a : Int) (B : Nat) (w : World) (hB : w.cell? ⟨B, 0, none⟩ = some (.int .i64 a)) :
    Calls Try.prog 43 #[rv x, .pointer (some ⟨B, 0, none⟩)] w fun e w' => e = .returned (.bool (x.f0 == a)) ∧ Below w.heap.size w w' := by
  have hu33 := Try.underlying33
  have hlt := World.block_lt_of_cell? w _ hB
  have hB1 := ((below_alloc (Below.refl w.heap.size w) (.cells #[.int .i64 x.f0, .string x.f1, .int .i64 x.f2, .int .i64 x.f3, .int .i64 x.f4, .int .i64 x.f5, .int .i64 x.f6] 33)).cell hlt).trans hB
  have hN := (blk_cell (blk_new w (.cells #[.int .i64 x.f0, .string x.f1, .int .i64 x.f2, .int .i64 x.f3, .int .i64 x.f4, .int .i64 x.f5, .int .i64 x.f6] 33)) 0).trans rfl
  go_enter Try.func43, Try.ntmps43
  go_wp2
  go_ret
  exact ⟨rfl, below_alloc (Below.refl _ _) _⟩
/-- the first relief with this ID; -1 if there is none -/
def fidx (l : List S33) (a : Int) : Nat → Int
  | 0 => -1
  | n + 1 => if (l.getD (l.length - (n + 1)) z33).f0 = a then ((l.length - (n + 1) : Nat) : Int) else fidx l a n
def idxR (l : List S33) (a : Int) : Int := fidx l a l.length
def api_Relief_42.f (l0 : List S33) (a1 : Int) : Option Int := if l0.length < 1000000000000 then some (idxR l0 a1) else none
set_option maxRecDepth 100000 in
set_option maxHeartbeats 400000 in
theorem api_Relief_42.calls (A0 : Option Addr) (c0 : Nat) (l0 : List S33) (a1 : Int) (r : Int) {B : Nat} (w : World) (hr0 : Kd.C k33 w A0 l0.length l0) (hc0 : l0.length ≤ c0) (h : api_Relief_42.f l0 a1 = some r) (hB : w.cell? ⟨B, 0, none⟩ = some (.int .i64 a1)) :
    Calls Try.prog 42 #[.slice A0 l0.length c0, .func (.func 43) #[] #[.pointer (some ⟨B, 0, none⟩)]] w fun e w' => e = .returned (.int .i64 r) ∧ Below w.heap.size w w' := by
  unfold api_Relief_42.f at h
  by_cases hlen : l0.length < 1000000000000
  · rw [if_pos hlen] at h
    obtain rfl := Option.some.inj h
    clear h
    have hu33 := Try.underlying33
    have HR0 := Aside0.mk hr0
    have HC0 := Aside0.mk hc0
    have HBX := Aside0.mk hB
    clear hr0 hc0 hB
    have hge := fun args w => enters_ Try.func43 (by kernel_rfl) rfl args w
    go_enter Try.func42, Try.ntmps42
    go_wp2
    go_loopg [8] (l0.length + 1) (fun kq v8 w' => ∃ j : Nat, v8 = .int .i64 (j : Int) ∧ j + kq = l0.length + 1 ∧ j ≤ l0.length ∧ Aside0 (idxR l0 a1 = fidx l0 a1 (l0.length - j)) ∧ Below w.heap.size w w')
    case atStart => exact ⟨0, rfl, by omega, by omega, ⟨rfl⟩, Below.refl _ _⟩
    case round =>
      obtain ⟨j, rfl, hk, hj, HF, hb⟩ := hrel
      by_cases c : j < l0.length
      · have c4b0 : decide ((j : Int) < (l0.length : Int)) = true := decide_eq_true (by omega)
        obtain ⟨ad108, e108, hx0, hx1, hx2, hx3, hx4, hx5, hx6⟩ := at_T33 HR0.out (j : Int) (by omega) (by omega)
        cases e108
        replace hx0 := (hb.cell (World.block_lt_of_cell? w _ hx0)).trans hx0
        replace hx1 := (hb.cell (World.block_lt_of_cell? w _ hx1)).trans hx1
        replace hx2 := (hb.cell (World.block_lt_of_cell? w _ hx2)).trans hx2
        replace hx3 := (hb.cell (World.block_lt_of_cell? w _ hx3)).trans hx3
        replace hx4 := (hb.cell (World.block_lt_of_cell? w _ hx4)).trans hx4
        replace hx5 := (hb.cell (World.block_lt_of_cell? w _ hx5)).trans hx5
        replace hx6 := (hb.cell (World.block_lt_of_cell? w _ hx6)).trans hx6
        have ej : ((j : Int).toNat) = j := by simp
        rw [ej] at hx0 hx1 hx2 hx3 hx4 hx5 hx6
        have q1 : (0 ≤ (j : Int)) = True := eq_true (by omega)
        have q2 : ((j : Int) < (l0.length : Int)) = True := eq_true (by omega)
        obtain ⟨x, hx⟩ : ∃ x, rd_T33 l0 (j : Int) = x := ⟨_, rfl⟩
        rw [hx] at hx0 hx1 hx2 hx3 hx4 hx5 hx6
        have hw1 : IntKind.i64.wrap ((j : Int) + 1) = (j : Int) + 1 := IntWalk.i64_in _ (by omega)
        have hxg : l0.getD j z33 = x := by rw [← hx]; unfold rd_T33; rw [ej]
        have hge1 := hge #[rv x, .pointer (some ⟨B, 0, none⟩)] wr
        have hBw := (hb.cell (World.block_lt_of_cell? w _ HBX.out)).trans HBX.out
        have HBW := Aside0.mk hBw
        clear hBw
        have hF := HF.out
        obtain ⟨m, hm⟩ : ∃ m, l0.length - j = m + 1 := ⟨l0.length - j - 1, by omega⟩
        rw [hm] at hF
        unfold fidx at hF
        rw [show l0.length - (m + 1) = j by omega, hxg] at hF
        by_cases hpx : x.f0 = a1
        · rw [if_pos hpx] at hF
          have HF2 := Aside0.mk hF
          clear hF
          have hpb : (x.f0 == a1) = true := beq_iff_eq.mpr hpx
          have HPB := Aside0.mk hpb
          clear hpb hpx
          go_wp2_with (refine (here_calls x a1 B wr HBW.out).mono ?_; rintro e w2 ⟨rfl, hb2⟩; rw [HPB.out])
          go_ret
          exact ⟨by rw [HF2.out]; rfl, hb.trans (hb2.mono hb.size)⟩
        · rw [if_neg hpx] at hF
          have HF2 := Aside0.mk hF
          clear hF
          have hpb : (x.f0 == a1) = false := beq_eq_false_iff_ne.mpr hpx
          have HPB := Aside0.mk hpb
          clear hpb hpx
          go_wp2_with (refine (here_calls x a1 B wr HBW.out).mono ?_; rintro e w2 ⟨rfl, hb2⟩; rw [HPB.out])
          obtain ⟨gk, rfl⟩ : ∃ m, gk = m + 1 := ⟨gk - 1, by omega⟩
          go_roundg gk
          case measure => omega
          case rel =>
            exact ⟨j + 1, by first | rfl | simp, by omega, by omega, ⟨by rw [HF2.out]; congr 1; omega⟩, hb.trans (hb2.mono hb.size)⟩
      · have c4b0 : decide ((j : Int) < (l0.length : Int)) = false := decide_eq_false (by omega)
        go_wp2
        go_ret
        exact ⟨by rw [HF.out, show l0.length - j = 0 by omega]; rfl, hb⟩
  · rw [if_neg hlen] at h; cases h
end Go.Proofs.Ytccocolcgdiglaa.X
