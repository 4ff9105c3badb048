-- Written by a program of this work: the print's words that this work's texts name. Not trusted: Lean checks it.
import Derived.Test.YtcbmmhedefigeaaWWords
namespace Go.Proofs.YtcbmmhedefigeaaW.PrintWords
open Go.RowKit
section
variable {P : Program} {ops : Array Oper} {rest : List Oper} {o : Oper} {a : Act} {Q : Exit → Act → World → Prop} {W : World}
end
end Go.Proofs.YtcbmmhedefigeaaW.PrintWords
