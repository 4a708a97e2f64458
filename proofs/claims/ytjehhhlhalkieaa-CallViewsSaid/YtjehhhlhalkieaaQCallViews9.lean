/- Texts of this claim, one behind the other: what the law's functions come to, walked (printed by a program, with the words that the print uses), and what that is, in plain Lean. No conditions of their own. -/
import Derived.Test.YtjehhhlhalkieaaQCallViews8
import Derived.Test.YtjehhhlhalkieaaRows
namespace Go.Proofs.Ytjehhhlhalkieaa.Par
open Go.RowKit Go.Proofs.YtjehhhlhalkieaaW.PrintWords Go.Proofs.Ytjehhhlhalkieaa.Opens Go.Proofs.Ytjehhhlhalkieaa.C
set_option linter.unusedVariables false
set_option maxRecDepth 100000
def W23 (x : S23) : Prop := (Lit.int .i64 x.f0).wf = true ∧ (Lit.int .i64 x.f1).wf = true
theorem opens23 : Opens Try.prog k23 23 W23 := by
  have h := opens_struct (P := Try.prog) (t := 23) (d := (Kd.pair (Kd.int .i64) (Kd.int .i64))) (g := fun x : S23 => (x.f0, x.f1)) (mk := fun (a : Int × Int) => (⟨a.1, a.2⟩ : S23)) Try.underlying23 (by kernel_rfl) (fun _ => rfl) (run_cons _ rfl rfl (by kernel_rfl) (opens_int .i64 Try.underlying3) rfl (run_last _ rfl rfl (by kernel_rfl) (opens_int .i64 Try.underlying3)))
  exact h
def W56 (x : S56) : Prop := (Lit.int .i64 x.f0).wf = true ∧ (Lit.int .i64 x.f1).wf = true ∧ (Lit.int .i64 x.f2).wf = true
theorem opens56 : Opens Try.prog k56 56 W56 := by
  have h := opens_struct (P := Try.prog) (t := 56) (d := (Kd.pair (Kd.int .i64) (Kd.pair (Kd.int .i64) (Kd.int .i64)))) (g := fun x : S56 => (x.f0, x.f1, x.f2)) (mk := fun (a : Int × Int × Int) => (⟨a.1, a.2.1, a.2.2⟩ : S56)) Try.underlying56 (by kernel_rfl) (fun _ => rfl) (run_cons _ rfl rfl (by kernel_rfl) (opens_int .i64 Try.underlying3) rfl (run_cons _ rfl rfl (by kernel_rfl) (opens_int .i64 Try.underlying3) rfl (run_last _ rfl rfl (by kernel_rfl) (opens_int .i64 Try.underlying3))))
  exact h
def W62 (x : S62) : Prop := (Lit.int .i64 x.f0).wf = true ∧ (Lit.int .i64 x.f1).wf = true
theorem opens62 : Opens Try.prog k62 62 W62 := by
  have h := opens_struct (P := Try.prog) (t := 62) (d := (Kd.pair (Kd.int .i64) (Kd.int .i64))) (g := fun x : S62 => (x.f0, x.f1)) (mk := fun (a : Int × Int) => (⟨a.1, a.2⟩ : S62)) Try.underlying62 (by kernel_rfl) (fun _ => rfl) (run_cons _ rfl rfl (by kernel_rfl) (opens_int .i64 Try.underlying3) rfl (run_last _ rfl rfl (by kernel_rfl) (opens_int .i64 Try.underlying3)))
  exact h
def W27 (x : S27) : Prop := ((∀ x_ ∈ x.f0, W56 x_) ∧ x.f0.length * 24 ≤ 140737488351232) ∧ ((∀ x_ ∈ x.f1, W62 x_) ∧ x.f1.length * 16 ≤ 140737488351232)
theorem opens27 : Opens Try.prog k27 27 W27 := by
  have h := opens_struct (P := Try.prog) (t := 27) (d := (Kd.pair (Kd.slice 56 k56) (Kd.slice 62 k62))) (g := fun x : S27 => (x.f0, x.f1)) (mk := fun (a : (List S56) × (List S62)) => (⟨a.1, a.2⟩ : S27)) Try.underlying27 (by kernel_rfl) (fun _ => rfl) (run_cons _ rfl rfl (by kernel_rfl) (opens_slice' z56 (B := 24) Try.underlying24 (by kernel_rfl) (by kernel_rfl) opens56) rfl (run_last _ rfl rfl (by kernel_rfl) (opens_slice' z62 (B := 16) Try.underlying25 (by kernel_rfl) (by kernel_rfl) opens62)))
  exact h
def WalkCallViews : Prop := ∀ (x0 : S23) (x1 : S27) (A1_0 : Option Addr) (c1_0 : Nat) (A1_1 : Option Addr) (c1_1 : Nat) (w : World) (w0 : W23 x0) (w1 : W27 x1) (l1_0 : x1.f0.length ≤ c1_0) (g1_0 : Kd.C k56 w A1_0 x1.f0.length x1.f0) (l1_1 : x1.f1.length ≤ c1_1) (g1_1 : Kd.C k62 w A1_1 x1.f1.length x1.f1),
  Calls Try.prog 8 #[.agg #[.int .i64 x0.f0, .int .i64 x0.f1], .agg #[.slice A1_0 x1.f0.length c1_0, .slice A1_1 x1.f1.length c1_1]] w fun e w' => e = .returned (.bool true) ∧ Below w.heap.size w w'
end Go.Proofs.Ytjehhhlhalkieaa.Par
