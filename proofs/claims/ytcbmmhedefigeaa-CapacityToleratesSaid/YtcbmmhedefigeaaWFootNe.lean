-- Written by a program of this work: the print's words that this work's texts name. Not trusted: Lean checks it.
import Derived.Test.YtcbmmhedefigeaaWN
namespace Go.Proofs.YtcbmmhedefigeaaW.PrintWords
open Go.RowKit
namespace Kd
section
variable {α : Type} {d : Kd α} {W : World} {g n : Nat} {S ok : Nat → Prop} {A : Option Addr} {ad : Addr} {xs : List α}
end
end Kd
end Go.Proofs.YtcbmmhedefigeaaW.PrintWords
