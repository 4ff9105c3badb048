-- Written by a program of this work: the print's words that this work's texts name. Not trusted: Lean checks it.
import Derived.Test.YtcbmmhedefigeaaWInv
import Derived.Test.YtcbmmhedefigeaaWFootNe
namespace Go.Proofs.YtcbmmhedefigeaaW.PrintWords
open Go.RowKit
end Go.Proofs.YtcbmmhedefigeaaW.PrintWords
namespace Go.Proofs.YtcbmmhedefigeaaW.PrintLast
section
variable {ops : Array Oper} {a : Act} {o og : Oper} {g : Nat} {t : Tmp} {u : Bool}
end
end Go.Proofs.YtcbmmhedefigeaaW.PrintLast
