/- Texts of this claim, one behind the other: what the law's functions come to, walked (printed by a program, with the words that the print uses), and what that is, in plain Lean. No conditions of their own. -/
import Derived.Test.YtickbejailcehaaDoorQFlashWrites13
import Derived.Test.YtickbejailcehaaDoorRows
namespace Go.Proofs.YtickbejailcehaaDoor.Par
open Go.RowKit Go.Proofs.YtickbejailcehaaDoorW.PrintWords Go.Proofs.YtickbejailcehaaDoor.Opens Go.Proofs.YtickbejailcehaaDoor.C
set_option linter.unusedVariables false
set_option maxRecDepth 100000
def W24 (x:S24):Prop:=((∀ x_ ∈ x.f0,(Lit.int .u8 x_).wf=true)∧x.f0.length * 1≤140737488351232)∧((∀ x_ ∈ x.f1,(Lit.int .u8 x_).wf=true)∧x.f1.length * 1≤140737488351232)
theorem Nu:Opens Tryd.prog k24 24 W24:=by
  have h:=J7 (P:=Tryd.prog) (t:=24) (d:=(Kd.pair (Kd.slice 5 (Kd.int .u8)) (Kd.slice 5 (Kd.int .u8)))) (g:=fun x:S24=>(x.f0,x.f1)) (mk:=fun(a:(List Int)×(List Int))=>(⟨a.1,a.2⟩:S24)) Tryd.underlying24 kr (fun _=>rfl) (J1 _ rfl rfl kr (Y9 (0:Int) (B:=1) Tryd.underlying22 kr kr (Yu .u8 Tryd.underlying5)) rfl (Gj _ rfl rfl kr (Y9 (0:Int) (B:=1) Tryd.underlying22 kr kr (Yu .u8 Tryd.underlying5))))
  exact h
def W26 (x:S26):Prop:=(Lit.int .i64 x.f0).wf=true∧(Lit.int .i64 x.f1).wf=true∧(Lit.int .i64 x.f2).wf=true∧((∀ x_ ∈ x.f3,(Lit.int .u8 x_).wf=true)∧x.f3.length * 1≤140737488351232)
theorem Nt:Opens Tryd.prog k26 26 W26:=by
  have h:=J7 (P:=Tryd.prog) (t:=26) (d:=(Kd.pair (Kd.int .i64) (Kd.pair (Kd.int .i64) (Kd.pair (Kd.int .i64) (Kd.slice 5 (Kd.int .u8)))))) (g:=fun x:S26=>(x.f0,x.f1,x.f2,x.f3)) (mk:=fun(a:Int×Int×Int×(List Int))=>(⟨a.1,a.2.1,a.2.2.1,a.2.2.2⟩:S26)) Tryd.underlying26 kr (fun _=>rfl) (J1 _ rfl rfl kr (Yu .i64 Tryd.underlying3) rfl (J1 _ rfl rfl kr (Yu .i64 Tryd.underlying3) rfl (J1 _ rfl rfl kr (Yu .i64 Tryd.underlying3) rfl (Gj _ rfl rfl kr (Y9 (0:Int) (B:=1) Tryd.underlying22 kr kr (Yu .u8 Tryd.underlying5))))))
  exact h
def Xu:Prop:=∀ (O:S24) (γ:Option Addr) (δ :Nat) (Y:Option Addr) (Z:Nat) (U:S26) (a6:Option Addr) (a7:Nat) (x2:Int) (w:World) (w0:W24 O) (J:O.f0.length ≤ δ) (ζ :Kd.C (Kd.int .u8) w γ O.f0.length O.f0) (B:O.f1.length≤Z) (θ :Kd.C (Kd.int .u8) w Y O.f1.length O.f1) (w1:W26 U) (η :U.f3.length≤a7) (ι :Kd.C (Kd.int .u8) w a6 U.f3.length U.f3) (w2:(Lit.int .i64 x2).wf=true) (ht:Laid.TabAt w),
  Calls Tryd.prog 3 #[.agg #[.slice γ O.f0.length δ,.slice Y O.f1.length Z],.agg #[.int .i64 U.f0,.int .i64 U.f1,.int .i64 U.f2,.slice a6 U.f3.length a7],.int .i64 x2] w fun e w'=>e = .returned (.bool true)∧Below w.heap.size w w'
end Go.Proofs.YtickbejailcehaaDoor.Par
