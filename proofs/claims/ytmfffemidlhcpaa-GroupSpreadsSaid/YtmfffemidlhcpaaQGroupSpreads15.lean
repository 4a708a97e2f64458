/- Texts of this claim, one behind the other: what the law's functions come to, walked (printed by a program, with the words that the print uses), and what that is, in plain Lean. No conditions of their own. -/
import Derived.Test.YtmfffemidlhcpaaQGroupSpreads14
import Derived.Test.YtmfffemidlhcpaaRows
namespace Go.Proofs.Ytmfffemidlhcpaa.Par
open Go.RowKit Go.Proofs.YtmfffemidlhcpaaW.PrintWords Go.Proofs.Ytmfffemidlhcpaa.Opens Go.Proofs.Ytmfffemidlhcpaa.C
set_option linter.unusedVariables false
set_option maxRecDepth 100000
def W23 (x:S23):Prop:=(Lit.int .i64 x.f0).wf=true∧(Lit.int .i64 x.f1).wf=true∧(Lit.int .i64 x.f2).wf=true∧(Lit.int .i64 x.f3).wf=true∧(Lit.int .i64 x.f4).wf=true∧(Lit.int .i64 x.f5).wf=true∧(Lit.int .i64 x.f6).wf=true
theorem Dy:Opens Try.prog k23 23 W23:=by
 have h:=Xh (P:=Try.prog) (t:=23) (d:=(Kd.pair (Kd.int .i64) (Kd.pair (Kd.int .i64) (Kd.pair (Kd.int .i64) (Kd.pair (Kd.int .i64) (Kd.pair (Kd.int .i64) (Kd.pair (Kd.int .i64) (Kd.int .i64)))))))) (g:=fun x:S23=>(x.f0,x.f1,x.f2,x.f3,x.f4,x.f5,x.f6)) (mk:=fun(a:Int×Int×Int×Int×Int×Int×Int)=>(⟨a.1,a.2.1,a.2.2.1,a.2.2.2.1,a.2.2.2.2.1,a.2.2.2.2.2.1,a.2.2.2.2.2.2⟩:S23)) Try.underlying23 kr (fun _=>rfl) (Zw _ rfl rfl kr (Zr .i64 Try.underlying3) rfl (Zw _ rfl rfl kr (Zr .i64 Try.underlying3) rfl (Zw _ rfl rfl kr (Zr .i64 Try.underlying3) rfl (Zw _ rfl rfl kr (Zr .i64 Try.underlying3) rfl (Zw _ rfl rfl kr (Zr .i64 Try.underlying3) rfl (Zw _ rfl rfl kr (Zr .i64 Try.underlying3) rfl (Yc _ rfl rfl kr (Zr .i64 Try.underlying3))))))))
 exact h
def W25 (x:S25):Prop:=(Lit.int .i64 x.f0).wf=true∧W23 x.f1∧(Lit.int .i64 x.f2).wf=true∧(Lit.int .i64 x.f3).wf=true
theorem Dx:Opens Try.prog k25 25 W25:=by
 have h:=Xh (P:=Try.prog) (t:=25) (d:=(Kd.pair (Kd.int .i64) (Kd.pair k23 (Kd.pair (Kd.int .i64) (Kd.int .i64))))) (g:=fun x:S25=>(x.f0,x.f1,x.f2,x.f3)) (mk:=fun(a:Int×S23×Int×Int)=>(⟨a.1,a.2.1,a.2.2.1,a.2.2.2⟩:S25)) Try.underlying25 kr (fun _=>rfl) (Zw _ rfl rfl kr (Zr .i64 Try.underlying3) rfl (Zw _ rfl rfl kr (Dy) rfl (Zw _ rfl rfl kr (Zr .i64 Try.underlying3) rfl (Yc _ rfl rfl kr (Zr .i64 Try.underlying3)))))
 exact h
def W27 (x:S27):Prop:=(Lit.int .i64 x.f0).wf=true∧(Lit.int .i64 x.f1).wf=true∧(Lit.int .i64 x.f2).wf=true
theorem Dw:Opens Try.prog k27 27 W27:=by
 have h:=Xh (P:=Try.prog) (t:=27) (d:=(Kd.pair (Kd.int .i64) (Kd.pair (Kd.int .i64) (Kd.int .i64)))) (g:=fun x:S27=>(x.f0,x.f1,x.f2)) (mk:=fun(a:Int×Int×Int)=>(⟨a.1,a.2.1,a.2.2⟩:S27)) Try.underlying27 kr (fun _=>rfl) (Zw _ rfl rfl kr (Zr .i64 Try.underlying3) rfl (Zw _ rfl rfl kr (Zr .i64 Try.underlying3) rfl (Yc _ rfl rfl kr (Zr .i64 Try.underlying3))))
 exact h
def W29 (x:S29):Prop:=(Lit.int .i64 x.f0).wf=true∧(Lit.int .i64 x.f1).wf=true∧(Lit.int .i64 x.f2).wf=true∧(Lit.int .i64 x.f3).wf=true∧W27 x.f4
theorem Dv:Opens Try.prog k29 29 W29:=by
 have h:=Xh (P:=Try.prog) (t:=29) (d:=(Kd.pair (Kd.int .i64) (Kd.pair (Kd.int .i64) (Kd.pair (Kd.int .i64) (Kd.pair (Kd.int .i64) k27))))) (g:=fun x:S29=>(x.f0,x.f1,x.f2,x.f3,x.f4)) (mk:=fun(a:Int×Int×Int×Int×S27)=>(⟨a.1,a.2.1,a.2.2.1,a.2.2.2.1,a.2.2.2.2⟩:S29)) Try.underlying29 kr (fun _=>rfl) (Zw _ rfl rfl kr (Zr .i64 Try.underlying3) rfl (Zw _ rfl rfl kr (Zr .i64 Try.underlying3) rfl (Zw _ rfl rfl kr (Zr .i64 Try.underlying3) rfl (Zw _ rfl rfl kr (Zr .i64 Try.underlying3) rfl (Yc _ rfl rfl kr (Dw))))))
 exact h
def W31 (x:S31):Prop:=W29 x.f0∧(Lit.int .i64 x.f1).wf=true∧True∧True
theorem Du:Opens Try.prog k31 31 W31:=by
 have h:=Xh (P:=Try.prog) (t:=31) (d:=(Kd.pair k29 (Kd.pair (Kd.int .i64) (Kd.pair Kd.bool Kd.bool)))) (g:=fun x:S31=>(x.f0,x.f1,x.f2,x.f3)) (mk:=fun(a:S29×Int×Bool×Bool)=>(⟨a.1,a.2.1,a.2.2.1,a.2.2.2⟩:S31)) Try.underlying31 kr (fun _=>rfl) (Zw _ rfl rfl kr (Dv) rfl (Zw _ rfl rfl kr (Zr .i64 Try.underlying3) rfl (Zw _ rfl rfl kr (Vo Try.underlying4) rfl (Yc _ rfl rfl kr (Vo Try.underlying4)))))
 exact h
def W36 (x:S36):Prop:=(Lit.int .i64 x.f0).wf=true∧(Lit.int .i64 x.f1).wf=true∧(Lit.int .i64 x.f2).wf=true
theorem Dt:Opens Try.prog k36 36 W36:=by
 have h:=Xh (P:=Try.prog) (t:=36) (d:=(Kd.pair (Kd.int .i64) (Kd.pair (Kd.int .i64) (Kd.int .i64)))) (g:=fun x:S36=>(x.f0,x.f1,x.f2)) (mk:=fun(a:Int×Int×Int)=>(⟨a.1,a.2.1,a.2.2⟩:S36)) Try.underlying36 kr (fun _=>rfl) (Zw _ rfl rfl kr (Zr .i64 Try.underlying3) rfl (Zw _ rfl rfl kr (Zr .i64 Try.underlying3) rfl (Yc _ rfl rfl kr (Zr .i64 Try.underlying3))))
 exact h
def W86 (x:S86):Prop:=(Lit.int .i64 x.f0).wf=true∧(Lit.int .i64 x.f1).wf=true
theorem Dq:Opens Try.prog k86 86 W86:=by
 have h:=Xh (P:=Try.prog) (t:=86) (d:=(Kd.pair (Kd.int .i64) (Kd.int .i64))) (g:=fun x:S86=>(x.f0,x.f1)) (mk:=fun(a:Int×Int)=>(⟨a.1,a.2⟩:S86)) Try.underlying86 kr (fun _=>rfl) (Zw _ rfl rfl kr (Zr .i64 Try.underlying3) rfl (Yc _ rfl rfl kr (Zr .i64 Try.underlying3)))
 exact h
def W50 (x:S50):Prop:=((∀ x_ ∈ x.f0,W36 x_)∧x.f0.length * 24≤140737488351232)∧((∀ x_ ∈ x.f1,W86 x_)∧x.f1.length * 16≤140737488351232)
theorem Ds:Opens Try.prog k50 50 W50:=by
 have h:=Xh (P:=Try.prog) (t:=50) (d:=(Kd.pair (Kd.slice 36 k36) (Kd.slice 86 k86))) (g:=fun x:S50=>(x.f0,x.f1)) (mk:=fun(a:(List S36)×(List S86))=>(⟨a.1,a.2⟩:S50)) Try.underlying50 kr (fun _=>rfl) (Zw _ rfl rfl kr (Jz z36 (B:=24) Try.underlying47 kr kr Dt) rfl (Yc _ rfl rfl kr (Jz z86 (B:=16) Try.underlying48 kr kr Dq)))
 exact h
def W52 (x:S52):Prop:=W25 x.f0∧((∀ x_ ∈ x.f1,W31 x_)∧x.f1.length * 72≤140737488351232)∧(Lit.int .i64 x.f2).wf=true∧W50 x.f3
theorem Dr:Opens Try.prog k52 52 W52:=by
 have h:=Xh (P:=Try.prog) (t:=52) (d:=(Kd.pair k25 (Kd.pair (Kd.slice 31 k31) (Kd.pair (Kd.int .i64) k50)))) (g:=fun x:S52=>(x.f0,x.f1,x.f2,x.f3)) (mk:=fun(a:S25×(List S31)×Int×S50)=>(⟨a.1,a.2.1,a.2.2.1,a.2.2.2⟩:S52)) Try.underlying52 kr (fun _=>rfl) (Zw _ rfl rfl kr (Dx) rfl (Zw _ rfl rfl kr (Jz z31 (B:=72) Try.underlying46 kr kr Du) rfl (Zw _ rfl rfl kr (Zr .i64 Try.underlying3) rfl (Yc _ rfl rfl kr (Ds)))))
 exact h
def X9:Prop:=∀ (B:S52) (a0:Option Addr) (a1:Nat) (a2:Option Addr) (a3:Nat) (a5:Option Addr) (a7:Nat) (w:World) (w0:W52 B) (κ :B.f1.length≤a1) (O:Kd.C k31 w a0 B.f1.length B.f1) (μ :B.f3.f0.length≤a3) (Y:Kd.C k36 w a2 B.f3.f0.length B.f3.f0) (ν :B.f3.f1.length≤a7) (Z:Kd.C k86 w a5 B.f3.f1.length B.f3.f1),
 Calls Try.prog 5 #[.agg #[nI B.f0.f0,nI B.f0.f1.f0,nI B.f0.f1.f1,nI B.f0.f1.f2,nI B.f0.f1.f3,nI B.f0.f1.f4,nI B.f0.f1.f5,nI B.f0.f1.f6,nI B.f0.f2,nI B.f0.f3,.slice a0 B.f1.length a1,nI B.f2,.slice a2 B.f3.f0.length a3,.slice a5 B.f3.f1.length a7]] w fun e w'=>e = .returned (.bool true)∧Below w.heap.size w w'
end Go.Proofs.Ytmfffemidlhcpaa.Par
