-- Written by a program of this work, over the kit's print of the translation. Not trusted: Lean checks it.
import Derived.Test.YtkhphphfnjmabaaProg
import Derived.Below
import Derived.Deep.Draws
import Derived.Deep.AppendLies
import Derived.Maps.AppendAt
import Derived.OwnWalk
import Derived.Laws.BytesArg
import Derived.Laws.MakeOwn
import Derived.Laws.OwnMore
import Derived.Deep.OwnRows
import Derived.Tactics
import Derived.Lib.ConvBytes
import Derived.Laws.Slices
import Derived.WalkKit
import Derived.KernelRfl
import Derived.RowKit3
import Derived.Deep.LoopGhost
import Derived.Deep.QuietTactic
import Derived.BigQuiet
import Derived.WideLaws
import Derived.Deep.DeepCutAuto
import Derived.Deep.CutBlock
import Derived.Deep.RegionHeld3
import Derived.Laws.Rows
import Derived.Lib.AppendStr
import Derived.ArgAppend
import Derived.Laws.IdiomCopy
import Derived.OrdersHeld
import Derived.Laws.BitsLemmas
import Derived.RowKit
import Derived.WalkMore
import Derived.Test.YtkhphphfnjmabaaWWords
import Derived.Test.YtkhphphfnjmabaaWLast
import Derived.Test.YtkhphphfnjmabaaWTab
import Derived.Test.YtkhphphfnjmabaaWFour
import Derived.Test.YtkhphphfnjmabaaWQPut
import Derived.Test.YtkhphphfnjmabaaWApart
import Derived.Test.YtkhphphfnjmabaaWArr
import Derived.Test.YtkhphphfnjmabaaWZeros
import Derived.Test.YtkhphphfnjmabaaWFoot
import Derived.Test.YtkhphphfnjmabaaWKept
import Derived.Test.YtkhphphfnjmabaaWShare
import Derived.Test.YtkhphphfnjmabaaWN
import Derived.Test.YtkhphphfnjmabaaWFootNe
import Derived.Test.YtkhphphfnjmabaaWAt
import Derived.Test.YtkhphphfnjmabaaWEqStruct
import Derived.Test.YtkhphphfnjmabaaWRepsOne
import Derived.Test.YtkhphphfnjmabaaWInv
import Derived.Test.YtkhphphfnjmabaaWInvWords
import Derived.Test.YtkhphphfnjmabaaWGuard
import Derived.Test.YtkhphphfnjmabaaWNEv
import Derived.Test.YtkhphphfnjmabaaWMore
namespace Go.Proofs.Ytkhphphfnjmabaa.X
open Go.RowKit Go.Proofs.YtkhphphfnjmabaaW.PrintWords Go.Proofs.YtkhphphfnjmabaaW.PrintLast Go.Proofs.YtkhphphfnjmabaaW.PrintMore
attribute [local go_sem] max2_int min2_int max_two min_two max_three min_three max_four min_four   -- for this text's walks alone
set_option linter.unusedVariables false
set_option linter.unusedSimpArgs false



def errW : Option Int → Value
  | none => .nilIface
  | some c => .iface 0 (.int .i64 c)
theorem errW_none : errW none = .nilIface := rfl
theorem errW_some (c : Int) : errW (some c) = .iface 0 (.int .i64 c) := rfl

-- the values' own types

theorem fld30_0 (v0 v1 : Value) (w : World) : (Instr.field 30 (.agg #[v0, v1]) 0).run Try.prog w = .ok v0 w := by kernel_rfl
theorem fld30_1 (v0 v1 : Value) (w : World) : (Instr.field 30 (.agg #[v0, v1]) 1).run Try.prog w = .ok v1 w := by kernel_rfl
end Go.Proofs.Ytkhphphfnjmabaa.X
