/- Texts of this claim, one behind the other: what the law's functions come to, walked (printed by a program, with the words that the print uses), and what that is, in plain Lean. No conditions of their own. -/
import Derived.Test.YtmfffemidlhcpaaQGroupAll11
import Derived.Test.YtmfffemidlhcpaaRows
namespace Go.Proofs.Ytmfffemidlhcpaa.Par
open Go.RowKit Go.Proofs.YtmfffemidlhcpaaW.PrintWords Go.Proofs.Ytmfffemidlhcpaa.Opens Go.Proofs.Ytmfffemidlhcpaa.C
set_option linter.unusedVariables false
set_option maxRecDepth 100000
def W23 (x:S23):Prop:=(Lit.int .i64 x.f0).wf=true∧(Lit.int .i64 x.f1).wf=true∧(Lit.int .i64 x.f2).wf=true∧(Lit.int .i64 x.f3).wf=true∧(Lit.int .i64 x.f4).wf=true∧(Lit.int .i64 x.f5).wf=true∧(Lit.int .i64 x.f6).wf=true
theorem Eo:Opens Try.prog k23 23 W23:=by
  have h:=Xb (P:=Try.prog) (t:=23) (d:=(Kd.pair (Kd.int .i64) (Kd.pair (Kd.int .i64) (Kd.pair (Kd.int .i64) (Kd.pair (Kd.int .i64) (Kd.pair (Kd.int .i64) (Kd.pair (Kd.int .i64) (Kd.int .i64)))))))) (g:=fun x:S23=>(x.f0,x.f1,x.f2,x.f3,x.f4,x.f5,x.f6)) (mk:=fun(a:Int×Int×Int×Int×Int×Int×Int)=>(⟨a.1,a.2.1,a.2.2.1,a.2.2.2.1,a.2.2.2.2.1,a.2.2.2.2.2.1,a.2.2.2.2.2.2⟩:S23)) Try.underlying23 kr (fun _=>rfl) (Zi _ rfl rfl kr (Zd .i64 Try.underlying3) rfl (Zi _ rfl rfl kr (Zd .i64 Try.underlying3) rfl (Zi _ rfl rfl kr (Zd .i64 Try.underlying3) rfl (Zi _ rfl rfl kr (Zd .i64 Try.underlying3) rfl (Zi _ rfl rfl kr (Zd .i64 Try.underlying3) rfl (Zi _ rfl rfl kr (Zd .i64 Try.underlying3) rfl (Xv _ rfl rfl kr (Zd .i64 Try.underlying3))))))))
  exact h
def W25 (x:S25):Prop:=(Lit.int .i64 x.f0).wf=true∧W23 x.f1∧(Lit.int .i64 x.f2).wf=true∧(Lit.int .i64 x.f3).wf=true
theorem En:Opens Try.prog k25 25 W25:=by
  have h:=Xb (P:=Try.prog) (t:=25) (d:=(Kd.pair (Kd.int .i64) (Kd.pair k23 (Kd.pair (Kd.int .i64) (Kd.int .i64))))) (g:=fun x:S25=>(x.f0,x.f1,x.f2,x.f3)) (mk:=fun(a:Int×S23×Int×Int)=>(⟨a.1,a.2.1,a.2.2.1,a.2.2.2⟩:S25)) Try.underlying25 kr (fun _=>rfl) (Zi _ rfl rfl kr (Zd .i64 Try.underlying3) rfl (Zi _ rfl rfl kr (Eo) rfl (Zi _ rfl rfl kr (Zd .i64 Try.underlying3) rfl (Xv _ rfl rfl kr (Zd .i64 Try.underlying3)))))
  exact h
def W27 (x:S27):Prop:=(Lit.int .i64 x.f0).wf=true∧(Lit.int .i64 x.f1).wf=true∧(Lit.int .i64 x.f2).wf=true
theorem Em:Opens Try.prog k27 27 W27:=by
  have h:=Xb (P:=Try.prog) (t:=27) (d:=(Kd.pair (Kd.int .i64) (Kd.pair (Kd.int .i64) (Kd.int .i64)))) (g:=fun x:S27=>(x.f0,x.f1,x.f2)) (mk:=fun(a:Int×Int×Int)=>(⟨a.1,a.2.1,a.2.2⟩:S27)) Try.underlying27 kr (fun _=>rfl) (Zi _ rfl rfl kr (Zd .i64 Try.underlying3) rfl (Zi _ rfl rfl kr (Zd .i64 Try.underlying3) rfl (Xv _ rfl rfl kr (Zd .i64 Try.underlying3))))
  exact h
def W29 (x:S29):Prop:=(Lit.int .i64 x.f0).wf=true∧(Lit.int .i64 x.f1).wf=true∧(Lit.int .i64 x.f2).wf=true∧(Lit.int .i64 x.f3).wf=true∧W27 x.f4
theorem El:Opens Try.prog k29 29 W29:=by
  have h:=Xb (P:=Try.prog) (t:=29) (d:=(Kd.pair (Kd.int .i64) (Kd.pair (Kd.int .i64) (Kd.pair (Kd.int .i64) (Kd.pair (Kd.int .i64) k27))))) (g:=fun x:S29=>(x.f0,x.f1,x.f2,x.f3,x.f4)) (mk:=fun(a:Int×Int×Int×Int×S27)=>(⟨a.1,a.2.1,a.2.2.1,a.2.2.2.1,a.2.2.2.2⟩:S29)) Try.underlying29 kr (fun _=>rfl) (Zi _ rfl rfl kr (Zd .i64 Try.underlying3) rfl (Zi _ rfl rfl kr (Zd .i64 Try.underlying3) rfl (Zi _ rfl rfl kr (Zd .i64 Try.underlying3) rfl (Zi _ rfl rfl kr (Zd .i64 Try.underlying3) rfl (Xv _ rfl rfl kr (Em))))))
  exact h
def W31 (x:S31):Prop:=W29 x.f0∧(Lit.int .i64 x.f1).wf=true∧True∧True
theorem Ek:Opens Try.prog k31 31 W31:=by
  have h:=Xb (P:=Try.prog) (t:=31) (d:=(Kd.pair k29 (Kd.pair (Kd.int .i64) (Kd.pair Kd.bool Kd.bool)))) (g:=fun x:S31=>(x.f0,x.f1,x.f2,x.f3)) (mk:=fun(a:S29×Int×Bool×Bool)=>(⟨a.1,a.2.1,a.2.2.1,a.2.2.2⟩:S31)) Try.underlying31 kr (fun _=>rfl) (Zi _ rfl rfl kr (El) rfl (Zi _ rfl rfl kr (Zd .i64 Try.underlying3) rfl (Zi _ rfl rfl kr (Gr Try.underlying4) rfl (Xv _ rfl rfl kr (Gr Try.underlying4)))))
  exact h
def W36 (x:S36):Prop:=(Lit.int .i64 x.f0).wf=true∧(Lit.int .i64 x.f1).wf=true∧(Lit.int .i64 x.f2).wf=true
theorem Ej:Opens Try.prog k36 36 W36:=by
  have h:=Xb (P:=Try.prog) (t:=36) (d:=(Kd.pair (Kd.int .i64) (Kd.pair (Kd.int .i64) (Kd.int .i64)))) (g:=fun x:S36=>(x.f0,x.f1,x.f2)) (mk:=fun(a:Int×Int×Int)=>(⟨a.1,a.2.1,a.2.2⟩:S36)) Try.underlying36 kr (fun _=>rfl) (Zi _ rfl rfl kr (Zd .i64 Try.underlying3) rfl (Zi _ rfl rfl kr (Zd .i64 Try.underlying3) rfl (Xv _ rfl rfl kr (Zd .i64 Try.underlying3))))
  exact h
def W86 (x:S86):Prop:=(Lit.int .i64 x.f0).wf=true∧(Lit.int .i64 x.f1).wf=true
theorem Eg:Opens Try.prog k86 86 W86:=by
  have h:=Xb (P:=Try.prog) (t:=86) (d:=(Kd.pair (Kd.int .i64) (Kd.int .i64))) (g:=fun x:S86=>(x.f0,x.f1)) (mk:=fun(a:Int×Int)=>(⟨a.1,a.2⟩:S86)) Try.underlying86 kr (fun _=>rfl) (Zi _ rfl rfl kr (Zd .i64 Try.underlying3) rfl (Xv _ rfl rfl kr (Zd .i64 Try.underlying3)))
  exact h
def W50 (x:S50):Prop:=((∀ x_ ∈ x.f0,W36 x_)∧x.f0.length * 24≤140737488351232)∧((∀ x_ ∈ x.f1,W86 x_)∧x.f1.length * 16≤140737488351232)
theorem Ei:Opens Try.prog k50 50 W50:=by
  have h:=Xb (P:=Try.prog) (t:=50) (d:=(Kd.pair (Kd.slice 36 k36) (Kd.slice 86 k86))) (g:=fun x:S50=>(x.f0,x.f1)) (mk:=fun(a:(List S36)×(List S86))=>(⟨a.1,a.2⟩:S50)) Try.underlying50 kr (fun _=>rfl) (Zi _ rfl rfl kr (Jl z36 (B:=24) Try.underlying47 kr kr Ej) rfl (Xv _ rfl rfl kr (Jl z86 (B:=16) Try.underlying48 kr kr Eg)))
  exact h
def W52 (x:S52):Prop:=W25 x.f0∧((∀ x_ ∈ x.f1,W31 x_)∧x.f1.length * 72≤140737488351232)∧(Lit.int .i64 x.f2).wf=true∧W50 x.f3
theorem Eh:Opens Try.prog k52 52 W52:=by
  have h:=Xb (P:=Try.prog) (t:=52) (d:=(Kd.pair k25 (Kd.pair (Kd.slice 31 k31) (Kd.pair (Kd.int .i64) k50)))) (g:=fun x:S52=>(x.f0,x.f1,x.f2,x.f3)) (mk:=fun(a:S25×(List S31)×Int×S50)=>(⟨a.1,a.2.1,a.2.2.1,a.2.2.2⟩:S52)) Try.underlying52 kr (fun _=>rfl) (Zi _ rfl rfl kr (En) rfl (Zi _ rfl rfl kr (Jl z31 (B:=72) Try.underlying46 kr kr Ek) rfl (Zi _ rfl rfl kr (Zd .i64 Try.underlying3) rfl (Xv _ rfl rfl kr (Ei)))))
  exact h
def Yo:Prop:=∀ (B:S52) (a8:Option Addr) (a9:Nat) (ah:Option Addr) (ae:Nat) (af:Option Addr) (ag:Nat) (w:World) (w0:W52 B) (ρ:B.f1.length≤a9) (O:Kd.C k31 w a8 B.f1.length B.f1) (ι :B.f3.f0.length≤ae) (Z:Kd.C k36 w ah B.f3.f0.length B.f3.f0) (φ :B.f3.f1.length≤ag) (γ:Kd.C k86 w af B.f3.f1.length B.f3.f1),
  Calls Try.prog 8 #[.agg #[.int .i64 B.f0.f0,.int .i64 B.f0.f1.f0,.int .i64 B.f0.f1.f1,.int .i64 B.f0.f1.f2,.int .i64 B.f0.f1.f3,.int .i64 B.f0.f1.f4,.int .i64 B.f0.f1.f5,.int .i64 B.f0.f1.f6,.int .i64 B.f0.f2,.int .i64 B.f0.f3,.slice a8 B.f1.length a9,.int .i64 B.f2,.slice ah B.f3.f0.length ae,.slice af B.f3.f1.length ag]] w fun e w'=>e = .returned (.bool true)∧Below w.heap.size w w'
end Go.Proofs.Ytmfffemidlhcpaa.Par
