/- Texts of this claim, one behind the other: what the law's functions come to, walked (printed by a program, with the words that the print uses), and what that is, in plain Lean. No conditions of their own. -/
import Derived.Test.YtickbejailcehaaDoorQFlashWrites13
import Derived.Test.YtickbejailcehaaDoorRows
namespace Go.Proofs.YtickbejailcehaaDoor.Par
open Go.RowKit Go.Proofs.YtickbejailcehaaDoorW.PrintWords Go.Proofs.YtickbejailcehaaDoor.Opens Go.Proofs.YtickbejailcehaaDoor.C
set_option linter.unusedVariables false
set_option maxRecDepth 100000
def W24 (x:S24):Prop:=((∀ x_ ∈ x.f0,(Lit.int .u8 x_).wf=true)∧x.f0.length * 1≤140737488351232)∧((∀ x_ ∈ x.f1,(Lit.int .u8 x_).wf=true)∧x.f1.length * 1≤140737488351232)
theorem Nu:Opens Tryd.prog k24 24 W24:=by
  have h:=J7 (P:=Tryd.prog) (t:=24) (d:=(Kd.pair (Kd.slice 5 (Kd.int .u8)) (Kd.slice 5 (Kd.int .u8)))) (g:=fun x:S24=>(x.f0,x.f1)) (mk:=fun(a:(List Int)×(List Int))=>(⟨a.1,a.2⟩:S24)) Tryd.underlying24 kr (fun _=>rfl) (J1 _ rfl rfl kr (Y9 (0:Int) (B:=1) Tryd.underlying22 kr kr (Yu .u8 Tryd.underlying5)) rfl (Gj _ rfl rfl kr (Y9 (0:Int) (B:=1) Tryd.underlying22 kr kr (Yu .u8 Tryd.underlying5))))
  exact h
def W26 (x:S26):Prop:=(Lit.int .i64 x.f0).wf=true∧(Lit.int .i64 x.f1).wf=true∧(Lit.int .i64 x.f2).wf=true∧((∀ x_ ∈ x.f3,(Lit.int .u8 x_).wf=true)∧x.f3.length * 1≤140737488351232)
theorem Nt:Opens Tryd.prog k26 26 W26:=by
  have h:=J7 (P:=Tryd.prog) (t:=26) (d:=(Kd.pair (Kd.int .i64) (Kd.pair (Kd.int .i64) (Kd.pair (Kd.int .i64) (Kd.slice 5 (Kd.int .u8)))))) (g:=fun x:S26=>(x.f0,x.f1,x.f2,x.f3)) (mk:=fun(a:Int×Int×Int×(List Int))=>(⟨a.1,a.2.1,a.2.2.1,a.2.2.2⟩:S26)) Tryd.underlying26 kr (fun _=>rfl) (J1 _ rfl rfl kr (Yu .i64 Tryd.underlying3) rfl (J1 _ rfl rfl kr (Yu .i64 Tryd.underlying3) rfl (J1 _ rfl rfl kr (Yu .i64 Tryd.underlying3) rfl (Gj _ rfl rfl kr (Y9 (0:Int) (B:=1) Tryd.underlying22 kr kr (Yu .u8 Tryd.underlying5))))))
  exact h
def Xu:Prop:=∀ (x0:S24) (A0_0:Option Addr) (c0_0:Nat) (A0_1:Option Addr) (c0_1:Nat) (x1:S26) (A1_3:Option Addr) (c1_3:Nat) (x2:Int) (w:World) (w0:W24 x0) (l0_0:x0.f0.length≤c0_0) (g0_0:Kd.C (Kd.int .u8) w A0_0 x0.f0.length x0.f0) (l0_1:x0.f1.length≤c0_1) (g0_1:Kd.C (Kd.int .u8) w A0_1 x0.f1.length x0.f1) (w1:W26 x1) (l1_3:x1.f3.length≤c1_3) (g1_3:Kd.C (Kd.int .u8) w A1_3 x1.f3.length x1.f3) (w2:(Lit.int .i64 x2).wf=true) (ht:Laid.TabAt w),
  Calls Tryd.prog 3 #[.agg #[.slice A0_0 x0.f0.length c0_0,.slice A0_1 x0.f1.length c0_1],.agg #[.int .i64 x1.f0,.int .i64 x1.f1,.int .i64 x1.f2,.slice A1_3 x1.f3.length c1_3],.int .i64 x2] w fun e w'=>e = .returned (.bool true)∧Below w.heap.size w w'
end Go.Proofs.YtickbejailcehaaDoor.Par
