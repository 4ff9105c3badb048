-- Written by a program of this work, over the kit's print of the translation. Not trusted: Lean checks it.
import Derived.Test.YthbkbokfngbocaaProg
import Derived.Below
import Derived.Deep.Draws
import Derived.Deep.AppendLies
import Derived.Maps.AppendAt
import Derived.OwnWalk
import Derived.Laws.BytesArg
import Derived.Laws.MakeOwn
import Derived.Laws.OwnMore
import Derived.Deep.OwnRows
import Derived.Tactics
import Derived.Lib.ConvBytes
import Derived.Laws.Slices
import Derived.WalkKit
import Derived.KernelRfl
import Derived.RowKit3
import Derived.Deep.LoopGhost
import Derived.Deep.QuietTactic
import Derived.BigQuiet
import Derived.WideLaws
import Derived.Deep.DeepCutAuto
import Derived.Deep.CutBlock
import Derived.Deep.RegionHeld3
import Derived.Laws.Rows
import Derived.Lib.AppendStr
import Derived.ArgAppend
import Derived.Laws.IdiomCopy
import Derived.OrdersHeld
import Derived.Laws.BitsLemmas
import Derived.RowKit
import Derived.WalkMore
import Derived.Test.YthbkbokfngbocaaWWords
import Derived.Test.YthbkbokfngbocaaWLast
import Derived.Test.YthbkbokfngbocaaWTab
import Derived.Test.YthbkbokfngbocaaWFour
import Derived.Test.YthbkbokfngbocaaWQPut
import Derived.Test.YthbkbokfngbocaaWApart
import Derived.Test.YthbkbokfngbocaaWArr
import Derived.Test.YthbkbokfngbocaaWZeros
import Derived.Test.YthbkbokfngbocaaWFoot
import Derived.Test.YthbkbokfngbocaaWKept
import Derived.Test.YthbkbokfngbocaaWShare
import Derived.Test.YthbkbokfngbocaaWN
import Derived.Test.YthbkbokfngbocaaWFootNe
import Derived.Test.YthbkbokfngbocaaWAt
import Derived.Test.YthbkbokfngbocaaWEqStruct
import Derived.Test.YthbkbokfngbocaaWRepsOne
import Derived.Test.YthbkbokfngbocaaWInv
import Derived.Test.YthbkbokfngbocaaWInvWords
import Derived.Test.YthbkbokfngbocaaWGuard
import Derived.Test.YthbkbokfngbocaaWNEv
import Derived.Test.YthbkbokfngbocaaWMore
namespace Go.Proofs.Ythbkbokfngbocaa.X
open Go.RowKit Go.Proofs.YthbkbokfngbocaaW.PrintWords Go.Proofs.YthbkbokfngbocaaW.PrintLast Go.Proofs.YthbkbokfngbocaaW.PrintMore
attribute [local go_sem] max2_int min2_int max_two min_two max_three min_three max_four min_four   -- for this text's walks alone
set_option linter.unusedVariables false
set_option linter.unusedSimpArgs false



def errW : Option Int → Value
  | none => .nilIface
  | some c => .iface 0 (.int .i64 c)
theorem errW_none : errW none = .nilIface := rfl
theorem errW_some (c : Int) : errW (some c) = .iface 0 (.int .i64 c) := rfl

theorem info3 : (Try.prog.info? 3).map (fun i => (i.zero, i.size, i.bytes)) = some (some (.int .i64 0), 1, 8) := by kernel_rfl
-- the values' own types


end Go.Proofs.Ythbkbokfngbocaa.X
