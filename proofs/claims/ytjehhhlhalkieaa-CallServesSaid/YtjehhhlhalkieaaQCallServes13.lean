/- Texts of this claim, one behind the other: what the law's functions come to, walked (printed by a program, with the words that the print uses), and what that is, in plain Lean. No conditions of their own. -/
import Derived.Test.YtjehhhlhalkieaaQCallServes12
import Derived.Test.YtjehhhlhalkieaaRows
namespace Go.Proofs.Ytjehhhlhalkieaa.Par
open Go.RowKit Go.Proofs.YtjehhhlhalkieaaW.PrintWords Go.Proofs.Ytjehhhlhalkieaa.Opens Go.Proofs.Ytjehhhlhalkieaa.C
set_option linter.unusedVariables false
set_option maxRecDepth 100000
def W23 (x:S23):Prop:=(Lit.int .i64 x.f0).wf=true∧(Lit.int .i64 x.f1).wf=true
theorem M3:Opens Try.prog k23 23 W23:=by
  have h:=Yh (P:=Try.prog) (t:=23) (d:=(Kd.pair (Kd.int .i64) (Kd.int .i64))) (g:=fun x:S23=>(x.f0,x.f1)) (mk:=fun(a:Int×Int)=>(⟨a.1,a.2⟩:S23)) Try.underlying23 kr (fun _=>rfl) (Y6 _ rfl rfl kr (Xx .i64 Try.underlying3) rfl (Jm _ rfl rfl kr (Xx .i64 Try.underlying3)))
  exact h
def W56 (x:S56):Prop:=(Lit.int .i64 x.f0).wf=true∧(Lit.int .i64 x.f1).wf=true∧(Lit.int .i64 x.f2).wf=true
theorem M0:Opens Try.prog k56 56 W56:=by
  have h:=Yh (P:=Try.prog) (t:=56) (d:=(Kd.pair (Kd.int .i64) (Kd.pair (Kd.int .i64) (Kd.int .i64)))) (g:=fun x:S56=>(x.f0,x.f1,x.f2)) (mk:=fun(a:Int×Int×Int)=>(⟨a.1,a.2.1,a.2.2⟩:S56)) Try.underlying56 kr (fun _=>rfl) (Y6 _ rfl rfl kr (Xx .i64 Try.underlying3) rfl (Y6 _ rfl rfl kr (Xx .i64 Try.underlying3) rfl (Jm _ rfl rfl kr (Xx .i64 Try.underlying3))))
  exact h
def W62 (x:S62):Prop:=(Lit.int .i64 x.f0).wf=true∧(Lit.int .i64 x.f1).wf=true
theorem Mz:Opens Try.prog k62 62 W62:=by
  have h:=Yh (P:=Try.prog) (t:=62) (d:=(Kd.pair (Kd.int .i64) (Kd.int .i64))) (g:=fun x:S62=>(x.f0,x.f1)) (mk:=fun(a:Int×Int)=>(⟨a.1,a.2⟩:S62)) Try.underlying62 kr (fun _=>rfl) (Y6 _ rfl rfl kr (Xx .i64 Try.underlying3) rfl (Jm _ rfl rfl kr (Xx .i64 Try.underlying3)))
  exact h
def W27 (x:S27):Prop:=((∀ x_ ∈ x.f0,W56 x_)∧x.f0.length * 24≤140737488351232)∧((∀ x_ ∈ x.f1,W62 x_)∧x.f1.length * 16≤140737488351232)
theorem M2:Opens Try.prog k27 27 W27:=by
  have h:=Yh (P:=Try.prog) (t:=27) (d:=(Kd.pair (Kd.slice 56 k56) (Kd.slice 62 k62))) (g:=fun x:S27=>(x.f0,x.f1)) (mk:=fun(a:(List S56)×(List S62))=>(⟨a.1,a.2⟩:S27)) Try.underlying27 kr (fun _=>rfl) (Y6 _ rfl rfl kr (Kq z56 (B:=24) Try.underlying24 kr kr M0) rfl (Jm _ rfl rfl kr (Kq z62 (B:=16) Try.underlying25 kr kr Mz)))
  exact h
def W43 (x:S43):Prop:=(Lit.int .i64 x.f0).wf=true∧(Lit.int .i64 x.f1).wf=true∧(Lit.int .i64 x.f2).wf=true
theorem M1:Opens Try.prog k43 43 W43:=by
  have h:=Yh (P:=Try.prog) (t:=43) (d:=(Kd.pair (Kd.int .i64) (Kd.pair (Kd.int .i64) (Kd.int .i64)))) (g:=fun x:S43=>(x.f0,x.f1,x.f2)) (mk:=fun(a:Int×Int×Int)=>(⟨a.1,a.2.1,a.2.2⟩:S43)) Try.underlying43 kr (fun _=>rfl) (Y6 _ rfl rfl kr (Xx .i64 Try.underlying3) rfl (Y6 _ rfl rfl kr (Xx .i64 Try.underlying3) rfl (Jm _ rfl rfl kr (Xx .i64 Try.underlying3))))
  exact h
def Yj:Prop:=∀ (I:S23) (D:S27) (ζ :Option Addr) (γ:Nat) (η :Option Addr) (δ :Nat) (U:S43) (w:World) (w0:W23 I) (w1:W27 D) (B:D.f0.length≤γ) (ε :Kd.C k56 w ζ D.f0.length D.f0) (J:D.f1.length ≤ δ) (θ :Kd.C k62 w η D.f1.length D.f1) (X:W43 U),
  Calls Try.prog 4 #[.agg #[.int .i64 I.f0,.int .i64 I.f1],.agg #[.slice ζ D.f0.length γ,.slice η D.f1.length δ],.agg #[.int .i64 U.f0,.int .i64 U.f1,.int .i64 U.f2]] w fun e w'=>e = .returned (.bool true)∧Below w.heap.size w w'
end Go.Proofs.Ytjehhhlhalkieaa.Par
