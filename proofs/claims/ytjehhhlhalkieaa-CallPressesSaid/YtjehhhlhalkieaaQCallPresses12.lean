/- Texts of this claim, one behind the other: what the law's functions come to, walked (printed by a program, with the words that the print uses), and what that is, in plain Lean. No conditions of their own. -/
import Derived.Test.YtjehhhlhalkieaaQCallPresses11
import Derived.Test.YtjehhhlhalkieaaRows
namespace Go.Proofs.Ytjehhhlhalkieaa.Par
open Go.RowKit Go.Proofs.YtjehhhlhalkieaaW.PrintWords Go.Proofs.Ytjehhhlhalkieaa.Opens Go.Proofs.Ytjehhhlhalkieaa.C
set_option linter.unusedVariables false
set_option maxRecDepth 100000
def W23 (x:S23):Prop:=(Lit.int .i64 x.f0).wf=true∧(Lit.int .i64 x.f1).wf=true
theorem Nw:Opens Try.prog k23 23 W23:=by
  have h:=Yp (P:=Try.prog) (t:=23) (d:=(Kd.pair (Kd.int .i64) (Kd.int .i64))) (g:=fun x:S23=>(x.f0,x.f1)) (mk:=fun(a:Int×Int)=>(⟨a.1,a.2⟩:S23)) Try.underlying23 kr (fun _=>rfl) (Y5 _ rfl rfl kr (X6 .i64 Try.underlying3) rfl (Jr _ rfl rfl kr (X6 .i64 Try.underlying3)))
  exact h
def W56 (x:S56):Prop:=(Lit.int .i64 x.f0).wf=true∧(Lit.int .i64 x.f1).wf=true∧(Lit.int .i64 x.f2).wf=true
theorem Nt:Opens Try.prog k56 56 W56:=by
  have h:=Yp (P:=Try.prog) (t:=56) (d:=(Kd.pair (Kd.int .i64) (Kd.pair (Kd.int .i64) (Kd.int .i64)))) (g:=fun x:S56=>(x.f0,x.f1,x.f2)) (mk:=fun(a:Int×Int×Int)=>(⟨a.1,a.2.1,a.2.2⟩:S56)) Try.underlying56 kr (fun _=>rfl) (Y5 _ rfl rfl kr (X6 .i64 Try.underlying3) rfl (Y5 _ rfl rfl kr (X6 .i64 Try.underlying3) rfl (Jr _ rfl rfl kr (X6 .i64 Try.underlying3))))
  exact h
def W62 (x:S62):Prop:=(Lit.int .i64 x.f0).wf=true∧(Lit.int .i64 x.f1).wf=true
theorem Ns:Opens Try.prog k62 62 W62:=by
  have h:=Yp (P:=Try.prog) (t:=62) (d:=(Kd.pair (Kd.int .i64) (Kd.int .i64))) (g:=fun x:S62=>(x.f0,x.f1)) (mk:=fun(a:Int×Int)=>(⟨a.1,a.2⟩:S62)) Try.underlying62 kr (fun _=>rfl) (Y5 _ rfl rfl kr (X6 .i64 Try.underlying3) rfl (Jr _ rfl rfl kr (X6 .i64 Try.underlying3)))
  exact h
def W27 (x:S27):Prop:=((∀ x_ ∈ x.f0,W56 x_)∧x.f0.length * 24≤140737488351232)∧((∀ x_ ∈ x.f1,W62 x_)∧x.f1.length * 16≤140737488351232)
theorem Nv:Opens Try.prog k27 27 W27:=by
  have h:=Yp (P:=Try.prog) (t:=27) (d:=(Kd.pair (Kd.slice 56 k56) (Kd.slice 62 k62))) (g:=fun x:S27=>(x.f0,x.f1)) (mk:=fun(a:(List S56)×(List S62))=>(⟨a.1,a.2⟩:S27)) Try.underlying27 kr (fun _=>rfl) (Y5 _ rfl rfl kr (Kx z56 (B:=24) Try.underlying24 kr kr Nt) rfl (Jr _ rfl rfl kr (Kx z62 (B:=16) Try.underlying25 kr kr Ns)))
  exact h
def W29 (x:S29):Prop:=(Lit.int .i64 x.f0).wf=true∧(Lit.int .i64 x.f1).wf=true∧(Lit.int .i64 x.f2).wf=true
theorem Nu:Opens Try.prog k29 29 W29:=by
  have h:=Yp (P:=Try.prog) (t:=29) (d:=(Kd.pair (Kd.int .i64) (Kd.pair (Kd.int .i64) (Kd.int .i64)))) (g:=fun x:S29=>(x.f0,x.f1,x.f2)) (mk:=fun(a:Int×Int×Int)=>(⟨a.1,a.2.1,a.2.2⟩:S29)) Try.underlying29 kr (fun _=>rfl) (Y5 _ rfl rfl kr (X6 .i64 Try.underlying3) rfl (Y5 _ rfl rfl kr (X6 .i64 Try.underlying3) rfl (Jr _ rfl rfl kr (X6 .i64 Try.underlying3))))
  exact h
def Yk:Prop:=∀ (D:S23) (J:S27) (ζ :Option Addr) (γ:Nat) (η :Option Addr) (ε :Nat) (X:S29) (w:World) (w0:W23 D) (w1:W27 J) (B:J.f0.length≤γ) (δ :Kd.C k56 w ζ J.f0.length J.f0) (I:J.f1.length ≤ ε) (θ :Kd.C k62 w η J.f1.length J.f1) (Y:W29 X),
  Calls Try.prog 3 #[.agg #[.int .i64 D.f0,.int .i64 D.f1],.agg #[.slice ζ J.f0.length γ,.slice η J.f1.length ε],.agg #[.int .i64 X.f0,.int .i64 X.f1,.int .i64 X.f2]] w fun e w'=>e = .returned (.bool true)∧Below w.heap.size w w'
end Go.Proofs.Ytjehhhlhalkieaa.Par
