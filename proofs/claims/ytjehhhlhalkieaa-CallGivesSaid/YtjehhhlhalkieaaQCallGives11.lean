/- Texts of this claim, one behind the other: what the law's functions come to, walked (printed by a program, with the words that the print uses), and what that is, in plain Lean. No conditions of their own. -/
import Derived.Test.YtjehhhlhalkieaaQCallGives10
import Derived.Test.YtjehhhlhalkieaaRows
namespace Go.Proofs.Ytjehhhlhalkieaa.Par
open Go.RowKit Go.Proofs.YtjehhhlhalkieaaW.PrintWords Go.Proofs.Ytjehhhlhalkieaa.Opens Go.Proofs.Ytjehhhlhalkieaa.C
set_option linter.unusedVariables false
set_option maxRecDepth 100000
def W23 (x:S23):Prop:=(Lit.int .i64 x.f0).wf=true∧(Lit.int .i64 x.f1).wf=true
theorem Mv:Opens Try.prog k23 23 W23:=by
  have h:=Yt (P:=Try.prog) (t:=23) (d:=(Kd.pair (Kd.int .i64) (Kd.int .i64))) (g:=fun x:S23=>(x.f0,x.f1)) (mk:=fun(a:Int×Int)=>(⟨a.1,a.2⟩:S23)) Try.underlying23 kr (fun _=>rfl) (Jx _ rfl rfl kr (Yk .i64 Try.underlying3) rfl (Jw _ rfl rfl kr (Yk .i64 Try.underlying3)))
  exact h
def W56 (x:S56):Prop:=(Lit.int .i64 x.f0).wf=true∧(Lit.int .i64 x.f1).wf=true∧(Lit.int .i64 x.f2).wf=true
theorem Wb:Opens Try.prog k56 56 W56:=by
  have h:=Yt (P:=Try.prog) (t:=56) (d:=(Kd.pair (Kd.int .i64) (Kd.pair (Kd.int .i64) (Kd.int .i64)))) (g:=fun x:S56=>(x.f0,x.f1,x.f2)) (mk:=fun(a:Int×Int×Int)=>(⟨a.1,a.2.1,a.2.2⟩:S56)) Try.underlying56 kr (fun _=>rfl) (Jx _ rfl rfl kr (Yk .i64 Try.underlying3) rfl (Jx _ rfl rfl kr (Yk .i64 Try.underlying3) rfl (Jw _ rfl rfl kr (Yk .i64 Try.underlying3))))
  exact h
def W62 (x:S62):Prop:=(Lit.int .i64 x.f0).wf=true∧(Lit.int .i64 x.f1).wf=true
theorem Mt:Opens Try.prog k62 62 W62:=by
  have h:=Yt (P:=Try.prog) (t:=62) (d:=(Kd.pair (Kd.int .i64) (Kd.int .i64))) (g:=fun x:S62=>(x.f0,x.f1)) (mk:=fun(a:Int×Int)=>(⟨a.1,a.2⟩:S62)) Try.underlying62 kr (fun _=>rfl) (Jx _ rfl rfl kr (Yk .i64 Try.underlying3) rfl (Jw _ rfl rfl kr (Yk .i64 Try.underlying3)))
  exact h
def W27 (x:S27):Prop:=((∀ x_ ∈ x.f0,W56 x_)∧x.f0.length * 24≤140737488351232)∧((∀ x_ ∈ x.f1,W62 x_)∧x.f1.length * 16≤140737488351232)
theorem Mu:Opens Try.prog k27 27 W27:=by
  have h:=Yt (P:=Try.prog) (t:=27) (d:=(Kd.pair (Kd.slice 56 k56) (Kd.slice 62 k62))) (g:=fun x:S27=>(x.f0,x.f1)) (mk:=fun(a:(List S56)×(List S62))=>(⟨a.1,a.2⟩:S27)) Try.underlying27 kr (fun _=>rfl) (Jx _ rfl rfl kr (Ko z56 (B:=24) Try.underlying24 kr kr Wb) rfl (Jw _ rfl rfl kr (Ko z62 (B:=16) Try.underlying25 kr kr Mt)))
  exact h
def Yn:Prop:=∀ (J:S23) (L:S27) (η :Option Addr) (δ :Nat) (θ :Option Addr) (ε :Nat) (X:S56) (w:World) (w0:W23 J) (w1:W27 L) (B:L.f0.length ≤ δ) (γ:Kd.C k56 w η L.f0.length L.f0) (D:L.f1.length ≤ ε) (ζ :Kd.C k62 w θ L.f1.length L.f1) (Z:W56 X),
  Calls Try.prog 5 #[.agg #[.int .i64 J.f0,.int .i64 J.f1],.agg #[.slice η L.f0.length δ,.slice θ L.f1.length ε],.agg #[.int .i64 X.f0,.int .i64 X.f1,.int .i64 X.f2]] w fun e w'=>e = .returned (.bool true)∧Below w.heap.size w w'
end Go.Proofs.Ytjehhhlhalkieaa.Par
