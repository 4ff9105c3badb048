import Derived.Test.YtcbmmhedefigeaaXx0
import Derived.RangeFuncCalls
/-! A call through a function value, and the closure of capacity.Frustums. -/
namespace Go.Proofs.Ytcbmmhedefigeaa.X
set_option linter.unusedVariables false
set_option linter.unusedSimpArgs false
open Go.RowKit Go.Proofs.YtcbmmhedefigeaaW.PrintWords Go.Proofs.YtcbmmhedefigeaaW.PrintLast

theorem goesV_ {P : Program} {ops : Array Oper} {Q : Exit → Act → World → Prop} {oi : Oper} {N : Option Tmp} {a : Act} {w : World} {K : Act → World → Prop} {f : FuncId} {fn : Func} {c : Operand} {xs : Array Operand} {ts : Array TypeId} (lb : Array Value) (hf : P.funcs[f]? = some fn) (hname : (fn.name == "runtime.NumGoroutine") = false) (hb : fn.body.isSome = true) (args : Array Value)
    (hw : Region.wanted oi (yielded ops a.tmps) = true) (hN : oi.dst = N) (hop : oi.op = .call { callee := .value c, args := xs, argTypes := ts }) (hc : a.eval c = .func (.func f) #[] lb) (hargs : xs.map a.eval ++ lb = args)
    (h : Calls P f args w fun e w' => ∃ v, e = .returned v ∧ K (a.put N v) w') : if Region.wanted oi (yielded ops a.tmps) = true then Oper.wp P oi a w K Q else K (a.put N undef) w := by
  refine call_ f args hw hN ?_ h
  have he := enters_ hf hname hb args w
  unfold execOp
  simp [hop, hc, resolve, Deferred.ofValue, invoke, hargs, he]
def fru (s h a b : Int) : Int := wrap64 (s + wrap64 (h * wrap64 (wrap64 (wrap64 (a * a) + wrap64 (a * b)) + wrap64 (b * b))))
set_option maxRecDepth 100000 in
theorem fru_calls (h a b s : Int) (B : Nat) (w : World) (hB : w.cell? ⟨B, 0, none⟩ = some (.int .i64 s)) (hF : w.frozen? ⟨B, 0, none⟩ = false) :
    Calls Try.prog 33 #[.int .i64 h, .int .i64 a, .int .i64 b, .pointer (some ⟨B, 0, none⟩)] w fun e w' => e = .returned (.tuple #[]) ∧ w' = w.setCell ⟨B, 0, none⟩ (.int .i64 (fru s h a b)) := by
  go_enter Try.func33, Try.ntmps33
  go_wp2
  first | go_end0 | (refine bodyPost_end (results_none rfl _ _ _) rfl rfl ?_)
  exact ⟨rfl, rfl⟩
end Go.Proofs.Ytcbmmhedefigeaa.X
