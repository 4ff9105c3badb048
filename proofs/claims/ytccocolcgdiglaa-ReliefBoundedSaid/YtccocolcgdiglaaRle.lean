import Derived.Test.YtccocolcgdiglaaAwk
/-! The chapter's example. -/
namespace Go.Proofs.Ytccocolcgdiglaa.Rel
open Go.RowKit Go.Proofs.Ytccocolcgdiglaa.X Go.Proofs.YtccocolcgdiglaaW.PrintWords Go.Proofs.YtccocolcgdiglaaW.PrintLast Go.Proofs.YtccocolcgdiglaaW.PrintMore
set_option maxRecDepth 100000 in
theorem awake0 : spilelaw47_awake.f 200 = some true := by decide +kernel
theorem leo_up {α : Type} {f : Nat → Option α} (h : ∀ k, LeO (f k) (f (k + 1))) {r : α} {k : Nat} (e : f k = some r) : ∀ d, f (k + d) = some r
  | 0 => e
  | d + 1 => h (k + d) r (leo_up h e d)
theorem awake_f {k : Nat} (hk : 200 ≤ k) : spilelaw47_awake.f k = some true := by
  obtain ⟨d, rfl⟩ := Nat.le.dest hk
  exact leo_up spilelaw47_awake.mono awake0 d
end Go.Proofs.Ytccocolcgdiglaa.Rel
