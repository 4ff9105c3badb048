import Derived.Test.YtdomdddponkmhaaCf8
import Derived.Test.YtdomdddponkmhaaIt8
/-! slices.ContainsFunc over a profile, with the closure of ProfileInserted: is there a point at x? -/
namespace Go.Proofs.Ytdomdddponkmhaa.X
set_option linter.unusedVariables false
set_option linter.unusedSimpArgs false
open Go.RowKit Go.Proofs.YtdomdddponkmhaaW.PrintWords Go.Proofs.YtdomdddponkmhaaW.PrintLast

set_option maxRecDepth 100000 in
set_option maxHeartbeats 400000 in
theorem here_calls (x : S30) (a : Int) (B : Nat) (w : World) (hB : w.cell? ⟨B, 0, none⟩ = some (.int .i64 a)) :
    Calls Try.prog 24 #[.agg #[.int .i64 x.f0, .int .i64 x.f1], .pointer (some ⟨B, 0, none⟩)] w fun e w' => e = .returned (.bool (x.f0 == a)) ∧ Below w.heap.size w w' := by
  have hu30 := Try.underlying30
  have hlt := World.block_lt_of_cell? w _ hB
  have hB1 := ((below_alloc (Below.refl w.heap.size w) (.cells #[.int .i64 x.f0, .int .i64 x.f1] 30)).cell hlt).trans hB
  have hN := (blk_cell (blk_new w (.cells #[.int .i64 x.f0, .int .i64 x.f1] 30)) 0).trans rfl
  go_enter Try.func24, Try.ntmps24
  go_wp2
  go_ret
  exact ⟨rfl, below_alloc (Below.refl _ _) _⟩
def api_Point_23.f (l0 : List S30) (a1 : Int) : Option Bool := if l0.length < 1000000000000 then some (l0.any fun z => z.f0 == a1) else none
theorem api_Point_23.calls (A0 : Option Addr) (c0 : Nat) (l0 : List S30) (a1 : Int) (r : Bool) {B : Nat} (w : World) (hr0 : Kd.C k30 w A0 l0.length l0) (hc0 : l0.length ≤ c0) (h : api_Point_23.f l0 a1 = some r) (hB : w.cell? ⟨B, 0, none⟩ = some (.int .i64 a1)) :
    Calls Try.prog 23 #[.slice A0 l0.length c0, .func (.func 24) #[] #[.pointer (some ⟨B, 0, none⟩)]] w fun e w' => e = .returned (.bool r) ∧ Below w.heap.size w w' := by
  unfold api_Point_23.f at h
  by_cases hl : l0.length < 1000000000000
  · rw [if_pos hl] at h
    obtain rfl := Option.some.inj h
    exact contains_calls 24 _ (fun z => z.f0 == a1) A0 c0 l0 w hr0 hc0 hl (enters_of Try.func24 (by kernel_rfl) rfl) fun x w' hb =>
      here_calls x a1 B w' ((hb.cell (World.block_lt_of_cell? w _ hB)).trans hB)
  · rw [if_neg hl] at h; cases h
end Go.Proofs.Ytdomdddponkmhaa.X
