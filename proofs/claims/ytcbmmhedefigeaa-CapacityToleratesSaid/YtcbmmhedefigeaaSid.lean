import Derived.Test.YtcbmmhedefigeaaXx0
import Derived.RangeFuncCalls
/-! The closure of capacity.Agrees: on which side of the tolerance a bound lies. -/
namespace Go.Proofs.Ytcbmmhedefigeaa.X
set_option linter.unusedVariables false
set_option linter.unusedSimpArgs false
open Go.RowKit Go.Proofs.YtcbmmhedefigeaaW.PrintWords Go.Proofs.YtcbmmhedefigeaaW.PrintLast

def sSide (n d tol : Int) : Int := if wrap64 (1000 * wrap64 (n - d)) > wrap64 (tol * d) then 1 else if wrap64 (-(wrap64 (1000 * wrap64 (n - d)))) > wrap64 (tol * d) then -1 else 0
def capacity_Agrees_1.f (n : Int) (s : ByteArray) (p : Int) (l : List S30) (d : Int) (tol : Int) : Option Int := some (sSide n d tol)
set_option maxRecDepth 100000 in
theorem capacity_Agrees_1.calls (n : Int) (s : ByteArray) (p : Int) (A : Option Addr) (c : Nat) (l : List S30) (d : Int) (tol : Int) (r : Int) (w : World) {Bc Bt : Nat} (hr0 : Kd.C k30 w A l.length l) (hc0 : l.length ≤ c) (h : capacity_Agrees_1.f n s p l d tol = some r)
    (hBc : w.cell? ⟨Bc, 3, none⟩ = some (.int .i64 d)) (hBt : w.cell? ⟨Bt, 0, none⟩ = some (.int .i64 tol)) :
    Calls Try.prog 42 #[.int .i64 n, .pointer (some ⟨Bc, 0, none⟩), .pointer (some ⟨Bt, 0, none⟩)] w fun e w' => e = .returned (.int .i64 r) ∧ Below w.heap.size w w' := by
  clear hr0 hc0
  have hu40 := Try.underlying40
  obtain rfl := Option.some.inj h
  clear h
  unfold sSide
  obtain ⟨m, hm⟩ : ∃ m, wrap64 (1000 * wrap64 (n - d)) = m := ⟨_, rfl⟩
  obtain ⟨q, hq⟩ : ∃ q, wrap64 (tol * d) = q := ⟨_, rfl⟩
  obtain ⟨v, hv⟩ : ∃ v, wrap64 (-m) = v := ⟨_, rfl⟩
  rw [hm, hq, hv]
  have hm' : IntKind.i64.wrap (1000 * IntKind.i64.wrap (n - d)) = m := by rw [i64_w, i64_w]; exact hm
  have hq' : IntKind.i64.wrap (tol * d) = q := by rw [i64_w]; exact hq
  have hv' : IntKind.i64.wrap (-m) = v := by rw [i64_w]; exact hv
  by_cases c1 : m > q
  · rw [if_pos c1]
    have c1b : decide (q < m) = true := decide_eq_true c1
    go_enter Try.func42, Try.ntmps42
    go_wp2
    go_ret
    exact ⟨rfl, Below.refl _ _⟩
  · rw [if_neg c1]
    have c1b : decide (q < m) = false := decide_eq_false c1
    by_cases c2 : v > q
    · rw [if_pos c2]
      have c2b : decide (q < v) = true := decide_eq_true c2
      go_enter Try.func42, Try.ntmps42
      go_wp2
      go_ret
      exact ⟨rfl, Below.refl _ _⟩
    · rw [if_neg c2]
      have c2b : decide (q < v) = false := decide_eq_false c2
      go_enter Try.func42, Try.ntmps42
      go_wp2
      go_ret
      exact ⟨rfl, Below.refl _ _⟩
end Go.Proofs.Ytcbmmhedefigeaa.X
