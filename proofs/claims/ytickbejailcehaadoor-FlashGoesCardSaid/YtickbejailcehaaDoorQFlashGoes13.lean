/- Texts of this claim, one behind the other: what the law's functions come to, walked (printed by a program, with the words that the print uses), and what that is, in plain Lean. No conditions of their own. -/
import Derived.Test.YtickbejailcehaaDoorQFlashGoes12
import Derived.Test.YtickbejailcehaaDoorRows
namespace Go.Proofs.YtickbejailcehaaDoor.Par
open Go.RowKit Go.Proofs.YtickbejailcehaaDoorW.PrintWords Go.Proofs.YtickbejailcehaaDoor.Opens Go.Proofs.YtickbejailcehaaDoor.C
set_option linter.unusedVariables false
set_option maxRecDepth 100000
def W26 (x : S26) : Prop := (Lit.int .i64 x.f0).wf = true ∧ (Lit.int .i64 x.f1).wf = true ∧ (Lit.int .i64 x.f2).wf = true ∧ ((∀ x_ ∈ x.f3, (Lit.int .u8 x_).wf = true) ∧ x.f3.length * 1 ≤ 140737488351232)
theorem opens26 : Opens Tryd.prog k26 26 W26 := by
  have h := opens_struct (P := Tryd.prog) (t := 26) (d := (Kd.pair (Kd.int .i64) (Kd.pair (Kd.int .i64) (Kd.pair (Kd.int .i64) (Kd.slice 5 (Kd.int .u8)))))) (g := fun x : S26 => (x.f0, x.f1, x.f2, x.f3)) (mk := fun (a : Int × Int × Int × (List Int)) => (⟨a.1, a.2.1, a.2.2.1, a.2.2.2⟩ : S26)) Tryd.underlying26 (by kernel_rfl) (fun _ => rfl) (run_cons _ rfl rfl (by kernel_rfl) (opens_int .i64 Tryd.underlying3) rfl (run_cons _ rfl rfl (by kernel_rfl) (opens_int .i64 Tryd.underlying3) rfl (run_cons _ rfl rfl (by kernel_rfl) (opens_int .i64 Tryd.underlying3) rfl (run_last _ rfl rfl (by kernel_rfl) (opens_slice' (0 : Int) (B := 1) Tryd.underlying22 (by kernel_rfl) (by kernel_rfl) (opens_int .u8 Tryd.underlying5))))))
  exact h
def WalkFlashGoes : Prop := ∀ (x0 : (List S26)) (A0 : Option Addr) (c0 : Nat) (x1 : (List Int)) (A1 : Option Addr) (c1 : Nat) (w : World) (w0 : ((∀ x_ ∈ x0, W26 x_) ∧ x0.length * 48 ≤ 140737488351232)) (l0 : x0.length ≤ c0) (g0 : Kd.C k26 w A0 x0.length x0) (w1 : ((∀ x_ ∈ x1, (Lit.int .i64 x_).wf = true) ∧ x1.length * 8 ≤ 140737488351232)) (l1 : x1.length ≤ c1) (g1 : Kd.C (Kd.int .i64) w A1 x1.length x1) (ht : Laid.TabAt w),
  Calls Tryd.prog 8 #[.slice A0 x0.length c0, .slice A1 x1.length c1] w fun e w' => e = .returned (.bool true) ∧ Below w.heap.size w w'
end Go.Proofs.YtickbejailcehaaDoor.Par
