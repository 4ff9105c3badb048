-- Written by a program of this work: the print's words that this work's texts name. Not trusted: Lean checks it.
import Derived.Test.YtcbmmhedefigeaaWTab
namespace Go.Proofs.YtcbmmhedefigeaaW.PrintLast
section
variable {P : Program} {ops : Array Oper} {Q : Exit → Act → World → Prop} {md : Region.Mode} {S : World → Prop} {ds : List Nat} {T : Bool × List (List Nat × List Nat)}
end
end Go.Proofs.YtcbmmhedefigeaaW.PrintLast
