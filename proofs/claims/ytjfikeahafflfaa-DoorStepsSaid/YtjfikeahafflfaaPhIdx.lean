/- What the table of phases holds, and what an index into it finds. No conditions. -/
import Derived.Test.YtjfikeahafflfaaPhases
import Derived.Test.YtjfikeahafflfaaCxf41
namespace Go.Proofs.Ytjfikeahafflfaa.C
open Go.RowKit Go.Proofs.YtjfikeahafflfaaW.PrintWords Go.Proofs.YtjfikeahafflfaaW.PrintLast Go.Proofs.YtjfikeahafflfaaW.PrintMore
section
variable {P : Program} {ops : Array Oper} {Q : Exit → Act → World → Prop}
/-- A call of a function that a slot holds. -/
theorem goesV_ {oi : Oper} {N : Option Tmp} {a : Act} {w : World} {K : Act → World → Prop} {f : FuncId} {fn : Func} {x : Operand} {xs : Array Operand} {ts : Array TypeId} (hf : P.funcs[f]? = some fn) (hname : (fn.name == "runtime.NumGoroutine") = false) (hb : fn.body.isSome = true) (args : Array Value)
    (hw : Region.wanted oi (yielded ops a.tmps) = true) (hN : oi.dst = N) (hop : oi.op = .call { callee := .value x, args := xs, argTypes := ts }) (hx : a.eval x = .func (.func f) #[] #[]) (hargs : xs.map a.eval = args)
    (h : Calls P f args w fun e w' => ∃ v, e = .returned v ∧ K (a.put N v) w') : if Region.wanted oi (yielded ops a.tmps) = true then Oper.wp P oi a w K Q else K (a.put N undef) w := by
  refine call_ f args hw hN ?_ h
  have he := enters_ hf hname hb args w
  unfold execOp
  simp [hop, hx, resolve, Deferred.ofValue, invoke, hargs, he]
end
theorem ph_field0 (x y : Value) (w : World) : Sem.run Try.prog (Instr.field 73 (.agg #[x, y]) 0) w = .ok x w := by
  have hu73 := Try.underlying73
  have hu3 := Try.underlying3
  simp [Instr.field, run_underlying hu73, part, isAgg, asAgg, run_underlying hu3, Result.andThen]
theorem ph_field1 (x y : Value) (w : World) : Sem.run Try.prog (Instr.field 73 (.agg #[x, y]) 1) w = .ok y w := by
  have hu73 := Try.underlying73
  have hu71 := Try.underlying71
  simp [Instr.field, run_underlying hu73, part, isAgg, asAgg, run_underlying hu71, Result.andThen]
/-- How many ticks of a phase are left at most. -/
def mostI (d : Int) : Int := if d = 0 then 0 else if d = 1 then 60 else if d = 2 then 300 else 60
/-- What a phase's ticks do: a function of the program. -/
def tickN (d : Int) : Nat := if d = 0 then 43 else if d = 1 then 44 else if d = 2 then 46 else 47
theorem within_le {n lo hi : Int} (h : door_within.f n lo hi = some true) : lo ≤ n ∧ n ≤ hi := by
  unfold door_within.f at h
  split at h <;> simp at h <;> omega
theorem ph_index0 (ev : Operand → Value) (o : Oper) (x y : Operand) (ho : o.op = .index 74 x y) (hx : ev x = phV) (hy : ev y = .int .i64 0) (w : World) :
    Sem.run Try.prog (execOp ev o) w = .ok (.value (.agg #[.int .i64 0, .func (.func 43) #[] #[]])) w := by
  have hu74 := Try.underlying74
  have hs : (Try.prog.info? 73).map (·.size) = some 2 := by kernel_rfl
  obtain ⟨i, hi, hs⟩ := Option.map_eq_some_iff.mp hs
  unfold execOp
  rw [ho]
  simp only
  rw [hx, hy]
  unfold phV
  simp [Instr.index, asIntOf, run_underlying hu74, part, sizeOf, typeInfo, Result.andThen, hi, hs]
theorem ph_index1 (ev : Operand → Value) (o : Oper) (x y : Operand) (ho : o.op = .index 74 x y) (hx : ev x = phV) (hy : ev y = .int .i64 1) (w : World) :
    Sem.run Try.prog (execOp ev o) w = .ok (.value (.agg #[.int .i64 60, .func (.func 44) #[] #[]])) w := by
  have hu74 := Try.underlying74
  have hs : (Try.prog.info? 73).map (·.size) = some 2 := by kernel_rfl
  obtain ⟨i, hi, hs⟩ := Option.map_eq_some_iff.mp hs
  unfold execOp
  rw [ho]
  simp only
  rw [hx, hy]
  unfold phV
  simp [Instr.index, asIntOf, run_underlying hu74, part, sizeOf, typeInfo, Result.andThen, hi, hs]
theorem ph_index2 (ev : Operand → Value) (o : Oper) (x y : Operand) (ho : o.op = .index 74 x y) (hx : ev x = phV) (hy : ev y = .int .i64 2) (w : World) :
    Sem.run Try.prog (execOp ev o) w = .ok (.value (.agg #[.int .i64 300, .func (.func 46) #[] #[]])) w := by
  have hu74 := Try.underlying74
  have hs : (Try.prog.info? 73).map (·.size) = some 2 := by kernel_rfl
  obtain ⟨i, hi, hs⟩ := Option.map_eq_some_iff.mp hs
  unfold execOp
  rw [ho]
  simp only
  rw [hx, hy]
  unfold phV
  simp [Instr.index, asIntOf, run_underlying hu74, part, sizeOf, typeInfo, Result.andThen, hi, hs]
theorem ph_index3 (ev : Operand → Value) (o : Oper) (x y : Operand) (ho : o.op = .index 74 x y) (hx : ev x = phV) (hy : ev y = .int .i64 3) (w : World) :
    Sem.run Try.prog (execOp ev o) w = .ok (.value (.agg #[.int .i64 60, .func (.func 47) #[] #[]])) w := by
  have hu74 := Try.underlying74
  have hs : (Try.prog.info? 73).map (·.size) = some 2 := by kernel_rfl
  obtain ⟨i, hi, hs⟩ := Option.map_eq_some_iff.mp hs
  unfold execOp
  rw [ho]
  simp only
  rw [hx, hy]
  unfold phV
  simp [Instr.index, asIntOf, run_underlying hu74, part, sizeOf, typeInfo, Result.andThen, hi, hs]
theorem ph_index {d : Int} {ev : Operand → Value} {o : Oper} {x y : Operand} (ho : o.op = .index 74 x y) (hx : ev x = phV) (hy : ev y = .int .i64 d) (h0 : 0 ≤ d) (h3 : d ≤ 3) (w : World) :
    Sem.run Try.prog (execOp ev o) w = .ok (.value (.agg #[.int .i64 (mostI d), .func (.func (tickN d)) #[] #[]])) w := by
  have e : d = 0 ∨ d = 1 ∨ d = 2 ∨ d = 3 := by omega
  rcases e with rfl | rfl | rfl | rfl
  · exact ph_index0 ev o x y ho hx hy w
  · exact ph_index1 ev o x y ho hx hy w
  · exact ph_index2 ev o x y ho hx hy w
  · exact ph_index3 ev o x y ho hx hy w
end Go.Proofs.Ytjfikeahafflfaa.C
