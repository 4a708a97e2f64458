/- What the laws' arguments read as; each law's walk as a statement. By this session's rowgen.py. -/
import Derived.Test.YtjfikeahafflfaaOpens
import Derived.Test.YtjfikeahafflfaaCx0
import Derived.Test.YtjfikeahafflfaaRows
namespace Go.Proofs.Ytjfikeahafflfaa.Par
open Go.RowKit Go.Proofs.YtjfikeahafflfaaW.PrintWords Go.Proofs.Ytjfikeahafflfaa.Opens Go.Proofs.Ytjfikeahafflfaa.C
set_option linter.unusedVariables false
set_option maxRecDepth 100000
def W40 (x : S40) : Prop := (Lit.int .i64 x.f0).wf = true ∧ (Lit.int .i64 x.f1).wf = true ∧ (Lit.int .i64 x.f2).wf = true ∧ (Lit.int .i64 x.f3).wf = true ∧ (Lit.int .i64 x.f4).wf = true ∧ (Lit.int .i64 x.f5).wf = true ∧ (Lit.int .i64 x.f6).wf = true
theorem opens40 : Opens Try.prog k40 40 W40 := by
  have h := opens_struct (P := Try.prog) (t := 40) (d := (Kd.pair (Kd.int .i64) (Kd.pair (Kd.int .i64) (Kd.pair (Kd.int .i64) (Kd.pair (Kd.int .i64) (Kd.pair (Kd.int .i64) (Kd.pair (Kd.int .i64) (Kd.int .i64)))))))) (g := fun x : S40 => (x.f0, x.f1, x.f2, x.f3, x.f4, x.f5, x.f6)) (mk := fun (a : Int × Int × Int × Int × Int × Int × Int) => (⟨a.1, a.2.1, a.2.2.1, a.2.2.2.1, a.2.2.2.2.1, a.2.2.2.2.2.1, a.2.2.2.2.2.2⟩ : S40)) Try.underlying40 (by kernel_rfl) (fun _ => rfl) (run_cons _ rfl rfl (by kernel_rfl) (opens_int .i64 Try.underlying3) rfl (run_cons _ rfl rfl (by kernel_rfl) (opens_int .i64 Try.underlying3) rfl (run_cons _ rfl rfl (by kernel_rfl) (opens_int .i64 Try.underlying3) rfl (run_cons _ rfl rfl (by kernel_rfl) (opens_int .i64 Try.underlying3) rfl (run_cons _ rfl rfl (by kernel_rfl) (opens_int .i64 Try.underlying3) rfl (run_cons _ rfl rfl (by kernel_rfl) (opens_int .i64 Try.underlying3) rfl (run_last _ rfl rfl (by kernel_rfl) (opens_int .i64 Try.underlying3))))))))
  exact h
def W42 (x : S42) : Prop := (Lit.int .i64 x.f0).wf = true ∧ W40 x.f1 ∧ (Lit.int .i64 x.f2).wf = true ∧ (Lit.int .i64 x.f3).wf = true
theorem opens42 : Opens Try.prog k42 42 W42 := by
  have h := opens_struct (P := Try.prog) (t := 42) (d := (Kd.pair (Kd.int .i64) (Kd.pair k40 (Kd.pair (Kd.int .i64) (Kd.int .i64))))) (g := fun x : S42 => (x.f0, x.f1, x.f2, x.f3)) (mk := fun (a : Int × S40 × Int × Int) => (⟨a.1, a.2.1, a.2.2.1, a.2.2.2⟩ : S42)) Try.underlying42 (by kernel_rfl) (fun _ => rfl) (run_cons _ rfl rfl (by kernel_rfl) (opens_int .i64 Try.underlying3) rfl (run_cons _ rfl rfl (by kernel_rfl) (opens40) rfl (run_cons _ rfl rfl (by kernel_rfl) (opens_int .i64 Try.underlying3) rfl (run_last _ rfl rfl (by kernel_rfl) (opens_int .i64 Try.underlying3)))))
  exact h
def W44 (x : S44) : Prop := (Lit.int .i64 x.f0).wf = true ∧ (Lit.int .i64 x.f1).wf = true ∧ (Lit.int .i64 x.f2).wf = true
theorem opens44 : Opens Try.prog k44 44 W44 := by
  have h := opens_struct (P := Try.prog) (t := 44) (d := (Kd.pair (Kd.int .i64) (Kd.pair (Kd.int .i64) (Kd.int .i64)))) (g := fun x : S44 => (x.f0, x.f1, x.f2)) (mk := fun (a : Int × Int × Int) => (⟨a.1, a.2.1, a.2.2⟩ : S44)) Try.underlying44 (by kernel_rfl) (fun _ => rfl) (run_cons _ rfl rfl (by kernel_rfl) (opens_int .i64 Try.underlying3) rfl (run_cons _ rfl rfl (by kernel_rfl) (opens_int .i64 Try.underlying3) rfl (run_last _ rfl rfl (by kernel_rfl) (opens_int .i64 Try.underlying3))))
  exact h
def WalkWireOnly : Prop := ∀ (x0 : (List Int)) (A0 : Option Addr) (c0 : Nat) (x1 : Int) (w : World) (w0 : ((∀ x_ ∈ x0, (Lit.int .u8 x_).wf = true) ∧ x0.length * 1 ≤ 140737488351232)) (l0 : x0.length ≤ c0) (g0 : Kd.C (Kd.int .u8) w A0 x0.length x0) (w1 : (Lit.int .i64 x1).wf = true),
  Calls Try.prog 3 #[.slice A0 x0.length c0, .int .i64 x1] w fun e w' => e = .returned (.bool true) ∧ Below w.heap.size w w'
def WalkWireApart : Prop := ∀ (x0 : Int) (x1 : Int) (w : World) (w0 : (Lit.int .i64 x0).wf = true) (w1 : (Lit.int .i64 x1).wf = true),
  Calls Try.prog 4 #[.int .i64 x0, .int .i64 x1] w fun e w' => e = .returned (.bool true) ∧ Below w.heap.size w w'
def WalkWirePuts : Prop := ∀ (x0 : Int) (x1 : (List Int)) (A1 : Option Addr) (c1 : Nat) (w : World) (w0 : (Lit.int .i64 x0).wf = true) (w1 : ((∀ x_ ∈ x1, (Lit.int .i64 x_).wf = true) ∧ x1.length * 8 ≤ 140737488351232)) (l1 : x1.length ≤ c1) (g1 : Kd.C (Kd.int .i64) w A1 x1.length x1),
  Calls Try.prog 5 #[.int .i64 x0, .slice A1 x1.length c1] w fun e w' => e = .returned (.bool true) ∧ Below w.heap.size w w'
def WalkWireBack : Prop := ∀ (x0 : (List Int)) (A0 : Option Addr) (c0 : Nat) (x1 : (List Int)) (A1 : Option Addr) (c1 : Nat) (w : World) (w0 : ((∀ x_ ∈ x0, (Lit.int .i64 x_).wf = true) ∧ x0.length * 8 ≤ 140737488351232)) (l0 : x0.length ≤ c0) (g0 : Kd.C (Kd.int .i64) w A0 x0.length x0) (w1 : ((∀ x_ ∈ x1, (Lit.int .u8 x_).wf = true) ∧ x1.length * 1 ≤ 140737488351232)) (l1 : x1.length ≤ c1) (g1 : Kd.C (Kd.int .u8) w A1 x1.length x1),
  Calls Try.prog 6 #[.slice A0 x0.length c0, .slice A1 x1.length c1] w fun e w' => e = .returned (.bool true) ∧ Below w.heap.size w w'
def WalkWireShort : Prop := ∀ (x0 : (List Int)) (A0 : Option Addr) (c0 : Nat) (x1 : Int) (w : World) (w0 : ((∀ x_ ∈ x0, (Lit.int .i64 x_).wf = true) ∧ x0.length * 8 ≤ 140737488351232)) (l0 : x0.length ≤ c0) (g0 : Kd.C (Kd.int .i64) w A0 x0.length x0) (w1 : (Lit.int .i64 x1).wf = true),
  Calls Try.prog 7 #[.slice A0 x0.length c0, .int .i64 x1] w fun e w' => e = .returned (.bool true) ∧ Below w.heap.size w w'
def WalkDoorSteps : Prop := ∀ (x0 : S42) (x1 : S44) (x2 : Bool) (w : World) (w0 : W42 x0) (w1 : W44 x1),
  Calls Try.prog 8 #[.agg #[.int .i64 x0.f0, .int .i64 x0.f1.f0, .int .i64 x0.f1.f1, .int .i64 x0.f1.f2, .int .i64 x0.f1.f3, .int .i64 x0.f1.f4, .int .i64 x0.f1.f5, .int .i64 x0.f1.f6, .int .i64 x0.f2, .int .i64 x0.f3], .agg #[.int .i64 x1.f0, .int .i64 x1.f1, .int .i64 x1.f2], .bool x2] w fun e w' => e = .returned (.bool true) ∧ Below w.heap.size w w'
def WalkDoorAsks : Prop := ∀ (x0 : S40) (x1 : S44) (w : World) (w0 : W40 x0) (w1 : W44 x1),
  Calls Try.prog 9 #[.agg #[.int .i64 x0.f0, .int .i64 x0.f1, .int .i64 x0.f2, .int .i64 x0.f3, .int .i64 x0.f4, .int .i64 x0.f5, .int .i64 x0.f6], .agg #[.int .i64 x1.f0, .int .i64 x1.f1, .int .i64 x1.f2]] w fun e w' => e = .returned (.bool true) ∧ Below w.heap.size w w'
def WalkDoorFalls : Prop := ∀ (x0 : S42) (x1 : S44) (x2 : Bool) (w : World) (w0 : W42 x0) (w1 : W44 x1),
  Calls Try.prog 10 #[.agg #[.int .i64 x0.f0, .int .i64 x0.f1.f0, .int .i64 x0.f1.f1, .int .i64 x0.f1.f2, .int .i64 x0.f1.f3, .int .i64 x0.f1.f4, .int .i64 x0.f1.f5, .int .i64 x0.f1.f6, .int .i64 x0.f2, .int .i64 x0.f3], .agg #[.int .i64 x1.f0, .int .i64 x1.f1, .int .i64 x1.f2], .bool x2] w fun e w' => e = .returned (.bool true) ∧ Below w.heap.size w w'
def WalkDoorEnds : Prop := ∀ (x0 : S42) (x1 : S44) (x2 : (List Bool)) (A2 : Option Addr) (c2 : Nat) (w : World) (w0 : W42 x0) (w1 : W44 x1) (w2 : ((∀ x_ ∈ x2, True) ∧ x2.length * 1 ≤ 140737488351232)) (l2 : x2.length ≤ c2) (g2 : Kd.C Kd.bool w A2 x2.length x2),
  Calls Try.prog 11 #[.agg #[.int .i64 x0.f0, .int .i64 x0.f1.f0, .int .i64 x0.f1.f1, .int .i64 x0.f1.f2, .int .i64 x0.f1.f3, .int .i64 x0.f1.f4, .int .i64 x0.f1.f5, .int .i64 x0.f1.f6, .int .i64 x0.f2, .int .i64 x0.f3], .agg #[.int .i64 x1.f0, .int .i64 x1.f1, .int .i64 x1.f2], .slice A2 x2.length c2] w fun e w' => e = .returned (.bool true) ∧ Below w.heap.size w w'
def WalkDoorDeaf : Prop := ∀ (x0 : S42) (x1 : S44) (w : World) (w0 : W42 x0) (w1 : W44 x1),
  Calls Try.prog 12 #[.agg #[.int .i64 x0.f0, .int .i64 x0.f1.f0, .int .i64 x0.f1.f1, .int .i64 x0.f1.f2, .int .i64 x0.f1.f3, .int .i64 x0.f1.f4, .int .i64 x0.f1.f5, .int .i64 x0.f1.f6, .int .i64 x0.f2, .int .i64 x0.f3], .agg #[.int .i64 x1.f0, .int .i64 x1.f1, .int .i64 x1.f2]] w fun e w' => e = .returned (.bool true) ∧ Below w.heap.size w w'
end Go.Proofs.Ytjfikeahafflfaa.Par
