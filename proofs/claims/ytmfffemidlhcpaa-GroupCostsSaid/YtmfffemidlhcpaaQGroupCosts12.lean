/- Texts of this claim, one behind the other: what the law's functions come to, walked (printed by a program, with the words that the print uses), and what that is, in plain Lean. No conditions of their own. -/
import Derived.Test.YtmfffemidlhcpaaQGroupCosts11
import Derived.Test.YtmfffemidlhcpaaRows
namespace Go.Proofs.Ytmfffemidlhcpaa.Par
open Go.RowKit Go.Proofs.YtmfffemidlhcpaaW.PrintWords Go.Proofs.Ytmfffemidlhcpaa.Opens Go.Proofs.Ytmfffemidlhcpaa.C
set_option linter.unusedVariables false
set_option maxRecDepth 100000
def W23 (x:S23):Prop:=(Lit.int .i64 x.f0).wf=true∧(Lit.int .i64 x.f1).wf=true∧(Lit.int .i64 x.f2).wf=true∧(Lit.int .i64 x.f3).wf=true∧(Lit.int .i64 x.f4).wf=true∧(Lit.int .i64 x.f5).wf=true∧(Lit.int .i64 x.f6).wf=true
theorem Nv:Opens Try.prog k23 23 W23:=by
  have h:=Xd (P:=Try.prog) (t:=23) (d:=(Kd.pair (Kd.int .i64) (Kd.pair (Kd.int .i64) (Kd.pair (Kd.int .i64) (Kd.pair (Kd.int .i64) (Kd.pair (Kd.int .i64) (Kd.pair (Kd.int .i64) (Kd.int .i64)))))))) (g:=fun x:S23=>(x.f0,x.f1,x.f2,x.f3,x.f4,x.f5,x.f6)) (mk:=fun(a:Int×Int×Int×Int×Int×Int×Int)=>(⟨a.1,a.2.1,a.2.2.1,a.2.2.2.1,a.2.2.2.2.1,a.2.2.2.2.2.1,a.2.2.2.2.2.2⟩:S23)) Try.underlying23 kr (fun _=>rfl) (Zm _ rfl rfl kr (Zd .i64 Try.underlying3) rfl (Zm _ rfl rfl kr (Zd .i64 Try.underlying3) rfl (Zm _ rfl rfl kr (Zd .i64 Try.underlying3) rfl (Zm _ rfl rfl kr (Zd .i64 Try.underlying3) rfl (Zm _ rfl rfl kr (Zd .i64 Try.underlying3) rfl (Zm _ rfl rfl kr (Zd .i64 Try.underlying3) rfl (X1 _ rfl rfl kr (Zd .i64 Try.underlying3))))))))
  exact h
def W25 (x:S25):Prop:=(Lit.int .i64 x.f0).wf=true∧W23 x.f1∧(Lit.int .i64 x.f2).wf=true∧(Lit.int .i64 x.f3).wf=true
theorem Nu:Opens Try.prog k25 25 W25:=by
  have h:=Xd (P:=Try.prog) (t:=25) (d:=(Kd.pair (Kd.int .i64) (Kd.pair k23 (Kd.pair (Kd.int .i64) (Kd.int .i64))))) (g:=fun x:S25=>(x.f0,x.f1,x.f2,x.f3)) (mk:=fun(a:Int×S23×Int×Int)=>(⟨a.1,a.2.1,a.2.2.1,a.2.2.2⟩:S25)) Try.underlying25 kr (fun _=>rfl) (Zm _ rfl rfl kr (Zd .i64 Try.underlying3) rfl (Zm _ rfl rfl kr (Nv) rfl (Zm _ rfl rfl kr (Zd .i64 Try.underlying3) rfl (X1 _ rfl rfl kr (Zd .i64 Try.underlying3)))))
  exact h
def W27 (x:S27):Prop:=(Lit.int .i64 x.f0).wf=true∧(Lit.int .i64 x.f1).wf=true∧(Lit.int .i64 x.f2).wf=true
theorem Nt:Opens Try.prog k27 27 W27:=by
  have h:=Xd (P:=Try.prog) (t:=27) (d:=(Kd.pair (Kd.int .i64) (Kd.pair (Kd.int .i64) (Kd.int .i64)))) (g:=fun x:S27=>(x.f0,x.f1,x.f2)) (mk:=fun(a:Int×Int×Int)=>(⟨a.1,a.2.1,a.2.2⟩:S27)) Try.underlying27 kr (fun _=>rfl) (Zm _ rfl rfl kr (Zd .i64 Try.underlying3) rfl (Zm _ rfl rfl kr (Zd .i64 Try.underlying3) rfl (X1 _ rfl rfl kr (Zd .i64 Try.underlying3))))
  exact h
def W29 (x:S29):Prop:=(Lit.int .i64 x.f0).wf=true∧(Lit.int .i64 x.f1).wf=true∧(Lit.int .i64 x.f2).wf=true∧(Lit.int .i64 x.f3).wf=true∧W27 x.f4
theorem Ns:Opens Try.prog k29 29 W29:=by
  have h:=Xd (P:=Try.prog) (t:=29) (d:=(Kd.pair (Kd.int .i64) (Kd.pair (Kd.int .i64) (Kd.pair (Kd.int .i64) (Kd.pair (Kd.int .i64) k27))))) (g:=fun x:S29=>(x.f0,x.f1,x.f2,x.f3,x.f4)) (mk:=fun(a:Int×Int×Int×Int×S27)=>(⟨a.1,a.2.1,a.2.2.1,a.2.2.2.1,a.2.2.2.2⟩:S29)) Try.underlying29 kr (fun _=>rfl) (Zm _ rfl rfl kr (Zd .i64 Try.underlying3) rfl (Zm _ rfl rfl kr (Zd .i64 Try.underlying3) rfl (Zm _ rfl rfl kr (Zd .i64 Try.underlying3) rfl (Zm _ rfl rfl kr (Zd .i64 Try.underlying3) rfl (X1 _ rfl rfl kr (Nt))))))
  exact h
def W31 (x:S31):Prop:=W29 x.f0∧(Lit.int .i64 x.f1).wf=true∧True∧True
theorem Nr:Opens Try.prog k31 31 W31:=by
  have h:=Xd (P:=Try.prog) (t:=31) (d:=(Kd.pair k29 (Kd.pair (Kd.int .i64) (Kd.pair Kd.bool Kd.bool)))) (g:=fun x:S31=>(x.f0,x.f1,x.f2,x.f3)) (mk:=fun(a:S29×Int×Bool×Bool)=>(⟨a.1,a.2.1,a.2.2.1,a.2.2.2⟩:S31)) Try.underlying31 kr (fun _=>rfl) (Zm _ rfl rfl kr (Ns) rfl (Zm _ rfl rfl kr (Zd .i64 Try.underlying3) rfl (Zm _ rfl rfl kr (Gd Try.underlying4) rfl (X1 _ rfl rfl kr (Gd Try.underlying4)))))
  exact h
def W34 (x:S34):Prop:=((∀ x_ ∈ x.f0,(Lit.int .i64 x_).wf=true)∧x.f0.length * 8≤140737488351232)∧((∀ x_ ∈ x.f1,(Lit.int .i64 x_).wf=true)∧x.f1.length * 8≤140737488351232)∧((∀ x_ ∈ x.f2,(Lit.int .i64 x_).wf=true)∧x.f2.length * 8≤140737488351232)
theorem Nq:Opens Try.prog k34 34 W34:=by
  have h:=Xd (P:=Try.prog) (t:=34) (d:=(Kd.pair (Kd.slice 3 (Kd.int .i64)) (Kd.pair (Kd.slice 3 (Kd.int .i64)) (Kd.slice 3 (Kd.int .i64))))) (g:=fun x:S34=>(x.f0,x.f1,x.f2)) (mk:=fun(a:(List Int)×(List Int)×(List Int))=>(⟨a.1,a.2.1,a.2.2⟩:S34)) Try.underlying34 kr (fun _=>rfl) (Zm _ rfl rfl kr (Y5 (0:Int) (B:=8) Try.underlying32 kr kr (Zd .i64 Try.underlying3)) rfl (Zm _ rfl rfl kr (Y5 (0:Int) (B:=8) Try.underlying32 kr kr (Zd .i64 Try.underlying3)) rfl (X1 _ rfl rfl kr (Y5 (0:Int) (B:=8) Try.underlying32 kr kr (Zd .i64 Try.underlying3)))))
  exact h
def W36 (x:S36):Prop:=(Lit.int .i64 x.f0).wf=true∧(Lit.int .i64 x.f1).wf=true∧(Lit.int .i64 x.f2).wf=true
theorem Np:Opens Try.prog k36 36 W36:=by
  have h:=Xd (P:=Try.prog) (t:=36) (d:=(Kd.pair (Kd.int .i64) (Kd.pair (Kd.int .i64) (Kd.int .i64)))) (g:=fun x:S36=>(x.f0,x.f1,x.f2)) (mk:=fun(a:Int×Int×Int)=>(⟨a.1,a.2.1,a.2.2⟩:S36)) Try.underlying36 kr (fun _=>rfl) (Zm _ rfl rfl kr (Zd .i64 Try.underlying3) rfl (Zm _ rfl rfl kr (Zd .i64 Try.underlying3) rfl (X1 _ rfl rfl kr (Zd .i64 Try.underlying3))))
  exact h
def W38 (x:S38):Prop:=W34 x.f0∧W36 x.f1
theorem Nn:Opens Try.prog k38 38 W38:=by
  have h:=Xd (P:=Try.prog) (t:=38) (d:=(Kd.pair k34 k36)) (g:=fun x:S38=>(x.f0,x.f1)) (mk:=fun(a:S34×S36)=>(⟨a.1,a.2⟩:S38)) Try.underlying38 kr (fun _=>rfl) (Zm _ rfl rfl kr (Nq) rfl (X1 _ rfl rfl kr (Np)))
  exact h
def X8:Prop:=∀ (B:S25) (J:S31) (O:S38) (a9:Option Addr) (aa:Nat) (ab:Option Addr) (ac:Nat) (ai:Option Addr) (aj:Nat) (w:World) (w0:W25 B) (w1:W31 J) (w2:W38 O) (σ:O.f0.f0.length≤aa) (Y:Kd.C (Kd.int .i64) w a9 O.f0.f0.length O.f0.f0) (τ :O.f0.f1.length≤ac) (Z:Kd.C (Kd.int .i64) w ab O.f0.f1.length O.f0.f1) (φ :O.f0.f2.length≤aj) (γ:Kd.C (Kd.int .i64) w ai O.f0.f2.length O.f0.f2),
  Calls Try.prog 3 #[.agg #[.int .i64 B.f0,.int .i64 B.f1.f0,.int .i64 B.f1.f1,.int .i64 B.f1.f2,.int .i64 B.f1.f3,.int .i64 B.f1.f4,.int .i64 B.f1.f5,.int .i64 B.f1.f6,.int .i64 B.f2,.int .i64 B.f3],.agg #[.int .i64 J.f0.f0,.int .i64 J.f0.f1,.int .i64 J.f0.f2,.int .i64 J.f0.f3,.int .i64 J.f0.f4.f0,.int .i64 J.f0.f4.f1,.int .i64 J.f0.f4.f2,.int .i64 J.f1,.bool J.f2,.bool J.f3],.agg #[.slice a9 O.f0.f0.length aa,.slice ab O.f0.f1.length ac,.slice ai O.f0.f2.length aj,.int .i64 O.f1.f0,.int .i64 O.f1.f1,.int .i64 O.f1.f2]] w fun e w'=>e = .returned (.bool true)∧Below w.heap.size w w'
end Go.Proofs.Ytmfffemidlhcpaa.Par
