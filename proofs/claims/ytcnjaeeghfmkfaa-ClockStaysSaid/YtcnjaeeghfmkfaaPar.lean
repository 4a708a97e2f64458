/- What the laws' arguments read as; each law's walk as a statement. By this session's rowgen.py. -/
import Derived.Test.YtcnjaeeghfmkfaaOpens
import Derived.Test.YtcnjaeeghfmkfaaDx0
import Derived.Test.YtcnjaeeghfmkfaaRows
namespace Go.Proofs.Ytcnjaeeghfmkfaa.Par
open Go.RowKit Go.Proofs.YtcnjaeeghfmkfaaW.PrintWords Go.Proofs.Ytcnjaeeghfmkfaa.Opens Go.Proofs.Ytcnjaeeghfmkfaa.D
set_option linter.unusedVariables false
set_option maxRecDepth 100000
def W23 (x : S23) : Prop := True ∧ True ∧ (Lit.int .i64 x.f2).wf = true ∧ (Lit.int .i64 x.f3).wf = true
theorem opens23 : Opens Try.prog k23 23 W23 := by
  have h := opens_struct (P := Try.prog) (t := 23) (d := (Kd.pair Kd.bool (Kd.pair Kd.bool (Kd.pair (Kd.int .i64) (Kd.int .i64))))) (g := fun x : S23 => (x.f0, x.f1, x.f2, x.f3)) (mk := fun (a : Bool × Bool × Int × Int) => (⟨a.1, a.2.1, a.2.2.1, a.2.2.2⟩ : S23)) Try.underlying23 (by kernel_rfl) (fun _ => rfl) (run_cons _ rfl rfl (by kernel_rfl) (opens_bool Try.underlying4) rfl (run_cons _ rfl rfl (by kernel_rfl) (opens_bool Try.underlying4) rfl (run_cons _ rfl rfl (by kernel_rfl) (opens_int .i64 Try.underlying3) rfl (run_last _ rfl rfl (by kernel_rfl) (opens_int .i64 Try.underlying3)))))
  exact h
/-- ClockReads walked: whatever its arguments are, it answers true, and nothing that was there has changed. -/
def WalkClockReads : Prop := ∀ (x0 : S23) (x1 : Int) (w : World) (w0 : W23 x0) (w1 : (Lit.int .i64 x1).wf = true),
  Calls Try.prog 3 #[.agg #[.bool x0.f0, .bool x0.f1, .int .i64 x0.f2, .int .i64 x0.f3], .int .i64 x1] w fun e w' => e = .returned (.bool true) ∧ Below w.heap.size w w'
/-- ClockAll walked: whatever its arguments are, it answers true, and nothing that was there has changed. -/
def WalkClockAll : Prop := ∀ (x0 : S23) (x1 : (List Int)) (A1 : Option Addr) (c1 : Nat) (w : World) (w0 : W23 x0) (w1 : ((∀ x_ ∈ x1, (Lit.int .i64 x_).wf = true) ∧ x1.length * 8 ≤ 140737488351232)) (l1 : x1.length ≤ c1) (g1 : Kd.C (Kd.int .i64) w A1 x1.length x1),
  Calls Try.prog 4 #[.agg #[.bool x0.f0, .bool x0.f1, .int .i64 x0.f2, .int .i64 x0.f3], .slice A1 x1.length c1] w fun e w' => e = .returned (.bool true) ∧ Below w.heap.size w w'
/-- ClockOdd walked: whatever its arguments are, it answers true, and nothing that was there has changed. -/
def WalkClockOdd : Prop := ∀ (x0 : S23) (x1 : Int) (w : World) (w0 : W23 x0) (w1 : (Lit.int .i64 x1).wf = true),
  Calls Try.prog 5 #[.agg #[.bool x0.f0, .bool x0.f1, .int .i64 x0.f2, .int .i64 x0.f3], .int .i64 x1] w fun e w' => e = .returned (.bool true) ∧ Below w.heap.size w w'
/-- ClockAgree walked: whatever its arguments are, it answers true, and nothing that was there has changed. -/
def WalkClockAgree : Prop := ∀ (x0 : S23) (x1 : Int) (x2 : Int) (w : World) (w0 : W23 x0) (w1 : (Lit.int .i64 x1).wf = true) (w2 : (Lit.int .i64 x2).wf = true),
  Calls Try.prog 6 #[.agg #[.bool x0.f0, .bool x0.f1, .int .i64 x0.f2, .int .i64 x0.f3], .int .i64 x1, .int .i64 x2] w fun e w' => e = .returned (.bool true) ∧ Below w.heap.size w w'
/-- ClockGoes walked: whatever its arguments are, it answers true, and nothing that was there has changed. -/
def WalkClockGoes : Prop := ∀ (x0 : S23) (x1 : (List Int)) (A1 : Option Addr) (c1 : Nat) (w : World) (w0 : W23 x0) (w1 : ((∀ x_ ∈ x1, (Lit.int .i64 x_).wf = true) ∧ x1.length * 8 ≤ 140737488351232)) (l1 : x1.length ≤ c1) (g1 : Kd.C (Kd.int .i64) w A1 x1.length x1),
  Calls Try.prog 7 #[.agg #[.bool x0.f0, .bool x0.f1, .int .i64 x0.f2, .int .i64 x0.f3], .slice A1 x1.length c1] w fun e w' => e = .returned (.bool true) ∧ Below w.heap.size w w'
/-- ClockStays walked: whatever its arguments are, it answers true, and nothing that was there has changed. -/
def WalkClockStays : Prop := ∀ (x0 : S23) (x1 : (List Int)) (A1 : Option Addr) (c1 : Nat) (w : World) (w0 : W23 x0) (w1 : ((∀ x_ ∈ x1, (Lit.int .i64 x_).wf = true) ∧ x1.length * 8 ≤ 140737488351232)) (l1 : x1.length ≤ c1) (g1 : Kd.C (Kd.int .i64) w A1 x1.length x1),
  Calls Try.prog 8 #[.agg #[.bool x0.f0, .bool x0.f1, .int .i64 x0.f2, .int .i64 x0.f3], .slice A1 x1.length c1] w fun e w' => e = .returned (.bool true) ∧ Below w.heap.size w w'
end Go.Proofs.Ytcnjaeeghfmkfaa.Par
