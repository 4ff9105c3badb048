-- Written by a program of this work: the print's words that this work's texts name. Not trusted: Lean checks it.
import Derived.Test.YtcbmmhedefigeaaWWords
import Derived.Test.YtcbmmhedefigeaaWLast
namespace Go.Proofs.YtcbmmhedefigeaaW.PrintWords
open Go.RowKit
namespace Kd
section
variable {α : Type} {d : Kd α} {e base g o n cap : Nat} {ok okp : Nat → Prop} {w W : World} {v : Value} {xs : List α}
end
section
variable {α : Type} {enc : α → Value} {h1 : ∀ x, (enc x).oneCell' = true} {e base g o n cap : Nat} {ok : Nat → Prop} {W : World} {xs : List α}
end
end Kd
end Go.Proofs.YtcbmmhedefigeaaW.PrintWords
