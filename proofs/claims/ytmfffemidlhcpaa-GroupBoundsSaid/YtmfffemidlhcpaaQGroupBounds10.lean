/- Texts of this claim, one behind the other: what the law's functions come to, walked (printed by a program, with the words that the print uses), and what that is, in plain Lean. No conditions of their own. -/
import Derived.Test.YtmfffemidlhcpaaQGroupBounds9
import Derived.Test.YtmfffemidlhcpaaRows
namespace Go.Proofs.Ytmfffemidlhcpaa.Par
open Go.RowKit Go.Proofs.YtmfffemidlhcpaaW.PrintWords Go.Proofs.Ytmfffemidlhcpaa.Opens Go.Proofs.Ytmfffemidlhcpaa.C
set_option linter.unusedVariables false
set_option maxRecDepth 100000
def W23 (x:S23):Prop:=(Lit.int .i64 x.f0).wf=true∧(Lit.int .i64 x.f1).wf=true∧(Lit.int .i64 x.f2).wf=true∧(Lit.int .i64 x.f3).wf=true∧(Lit.int .i64 x.f4).wf=true∧(Lit.int .i64 x.f5).wf=true∧(Lit.int .i64 x.f6).wf=true
theorem Mz:Opens Try.prog k23 23 W23:=by
  have h:=Xl (P:=Try.prog) (t:=23) (d:=(Kd.pair (Kd.int .i64) (Kd.pair (Kd.int .i64) (Kd.pair (Kd.int .i64) (Kd.pair (Kd.int .i64) (Kd.pair (Kd.int .i64) (Kd.pair (Kd.int .i64) (Kd.int .i64)))))))) (g:=fun x:S23=>(x.f0,x.f1,x.f2,x.f3,x.f4,x.f5,x.f6)) (mk:=fun(a:Int×Int×Int×Int×Int×Int×Int)=>(⟨a.1,a.2.1,a.2.2.1,a.2.2.2.1,a.2.2.2.2.1,a.2.2.2.2.2.1,a.2.2.2.2.2.2⟩:S23)) Try.underlying23 kr (fun _=>rfl) (Zo _ rfl rfl kr (Zc .i64 Try.underlying3) rfl (Zo _ rfl rfl kr (Zc .i64 Try.underlying3) rfl (Zo _ rfl rfl kr (Zc .i64 Try.underlying3) rfl (Zo _ rfl rfl kr (Zc .i64 Try.underlying3) rfl (Zo _ rfl rfl kr (Zc .i64 Try.underlying3) rfl (Zo _ rfl rfl kr (Zc .i64 Try.underlying3) rfl (Yb _ rfl rfl kr (Zc .i64 Try.underlying3))))))))
  exact h
def W25 (x:S25):Prop:=(Lit.int .i64 x.f0).wf=true∧W23 x.f1∧(Lit.int .i64 x.f2).wf=true∧(Lit.int .i64 x.f3).wf=true
theorem My:Opens Try.prog k25 25 W25:=by
  have h:=Xl (P:=Try.prog) (t:=25) (d:=(Kd.pair (Kd.int .i64) (Kd.pair k23 (Kd.pair (Kd.int .i64) (Kd.int .i64))))) (g:=fun x:S25=>(x.f0,x.f1,x.f2,x.f3)) (mk:=fun(a:Int×S23×Int×Int)=>(⟨a.1,a.2.1,a.2.2.1,a.2.2.2⟩:S25)) Try.underlying25 kr (fun _=>rfl) (Zo _ rfl rfl kr (Zc .i64 Try.underlying3) rfl (Zo _ rfl rfl kr (Mz) rfl (Zo _ rfl rfl kr (Zc .i64 Try.underlying3) rfl (Yb _ rfl rfl kr (Zc .i64 Try.underlying3)))))
  exact h
def W27 (x:S27):Prop:=(Lit.int .i64 x.f0).wf=true∧(Lit.int .i64 x.f1).wf=true∧(Lit.int .i64 x.f2).wf=true
theorem Mx:Opens Try.prog k27 27 W27:=by
  have h:=Xl (P:=Try.prog) (t:=27) (d:=(Kd.pair (Kd.int .i64) (Kd.pair (Kd.int .i64) (Kd.int .i64)))) (g:=fun x:S27=>(x.f0,x.f1,x.f2)) (mk:=fun(a:Int×Int×Int)=>(⟨a.1,a.2.1,a.2.2⟩:S27)) Try.underlying27 kr (fun _=>rfl) (Zo _ rfl rfl kr (Zc .i64 Try.underlying3) rfl (Zo _ rfl rfl kr (Zc .i64 Try.underlying3) rfl (Yb _ rfl rfl kr (Zc .i64 Try.underlying3))))
  exact h
def W29 (x:S29):Prop:=(Lit.int .i64 x.f0).wf=true∧(Lit.int .i64 x.f1).wf=true∧(Lit.int .i64 x.f2).wf=true∧(Lit.int .i64 x.f3).wf=true∧W27 x.f4
theorem Mw:Opens Try.prog k29 29 W29:=by
  have h:=Xl (P:=Try.prog) (t:=29) (d:=(Kd.pair (Kd.int .i64) (Kd.pair (Kd.int .i64) (Kd.pair (Kd.int .i64) (Kd.pair (Kd.int .i64) k27))))) (g:=fun x:S29=>(x.f0,x.f1,x.f2,x.f3,x.f4)) (mk:=fun(a:Int×Int×Int×Int×S27)=>(⟨a.1,a.2.1,a.2.2.1,a.2.2.2.1,a.2.2.2.2⟩:S29)) Try.underlying29 kr (fun _=>rfl) (Zo _ rfl rfl kr (Zc .i64 Try.underlying3) rfl (Zo _ rfl rfl kr (Zc .i64 Try.underlying3) rfl (Zo _ rfl rfl kr (Zc .i64 Try.underlying3) rfl (Zo _ rfl rfl kr (Zc .i64 Try.underlying3) rfl (Yb _ rfl rfl kr (Mx))))))
  exact h
def W31 (x:S31):Prop:=W29 x.f0∧(Lit.int .i64 x.f1).wf=true∧True∧True
theorem Mv:Opens Try.prog k31 31 W31:=by
  have h:=Xl (P:=Try.prog) (t:=31) (d:=(Kd.pair k29 (Kd.pair (Kd.int .i64) (Kd.pair Kd.bool Kd.bool)))) (g:=fun x:S31=>(x.f0,x.f1,x.f2,x.f3)) (mk:=fun(a:S29×Int×Bool×Bool)=>(⟨a.1,a.2.1,a.2.2.1,a.2.2.2⟩:S31)) Try.underlying31 kr (fun _=>rfl) (Zo _ rfl rfl kr (Mw) rfl (Zo _ rfl rfl kr (Zc .i64 Try.underlying3) rfl (Zo _ rfl rfl kr (K6 Try.underlying4) rfl (Yb _ rfl rfl kr (K6 Try.underlying4)))))
  exact h
def W36 (x:S36):Prop:=(Lit.int .i64 x.f0).wf=true∧(Lit.int .i64 x.f1).wf=true∧(Lit.int .i64 x.f2).wf=true
theorem Mu:Opens Try.prog k36 36 W36:=by
  have h:=Xl (P:=Try.prog) (t:=36) (d:=(Kd.pair (Kd.int .i64) (Kd.pair (Kd.int .i64) (Kd.int .i64)))) (g:=fun x:S36=>(x.f0,x.f1,x.f2)) (mk:=fun(a:Int×Int×Int)=>(⟨a.1,a.2.1,a.2.2⟩:S36)) Try.underlying36 kr (fun _=>rfl) (Zo _ rfl rfl kr (Zc .i64 Try.underlying3) rfl (Zo _ rfl rfl kr (Zc .i64 Try.underlying3) rfl (Yb _ rfl rfl kr (Zc .i64 Try.underlying3))))
  exact h
def Xu:Prop:=∀ (B:S25) (J:S31) (Y:S36) (w:World) (w0:W25 B) (w1:W31 J) (w2:W36 Y),
  Calls Try.prog 7 #[.agg #[.int .i64 B.f0,.int .i64 B.f1.f0,.int .i64 B.f1.f1,.int .i64 B.f1.f2,.int .i64 B.f1.f3,.int .i64 B.f1.f4,.int .i64 B.f1.f5,.int .i64 B.f1.f6,.int .i64 B.f2,.int .i64 B.f3],.agg #[.int .i64 J.f0.f0,.int .i64 J.f0.f1,.int .i64 J.f0.f2,.int .i64 J.f0.f3,.int .i64 J.f0.f4.f0,.int .i64 J.f0.f4.f1,.int .i64 J.f0.f4.f2,.int .i64 J.f1,.bool J.f2,.bool J.f3],.agg #[.int .i64 Y.f0,.int .i64 Y.f1,.int .i64 Y.f2]] w fun e w'=>e = .returned (.bool true)∧Below w.heap.size w w'
end Go.Proofs.Ytmfffemidlhcpaa.Par
