/- Texts of this claim, one behind the other: what the law's functions come to, walked (printed by a program, with the words that the print uses), and what that is, in plain Lean. No conditions of their own. -/
import Derived.Test.YtmfffemidlhcpaaQGroupCosts10
namespace Go.Proofs.Ytmfffemidlhcpaa.C
open Go.RowKit Go.Proofs.YtmfffemidlhcpaaW.PrintWords Go.Proofs.YtmfffemidlhcpaaW.PrintLast Go.Proofs.YtmfffemidlhcpaaW.PrintMore
attribute [local go_sem] Zz Zx Z9 Z8 Zq Zp Zy Zw
set_option linter.unusedVariables false
set_option linter.unusedSimpArgs false
def newellaw21_awake.f (k:Nat):Option (Bool):=(newellaw17_Plain.f).bind fun J=>((some (([(⟨(⟨0,0,0,0,(⟨0,0,0⟩:S27)⟩:S29),0,false,false⟩:S31),(⟨(⟨3,0,0,0,(⟨0,0,0⟩:S27)⟩:S29),0,false,false⟩:S31)]:List (S31)):List (S31))).bind fun B=>((some (([(⟨2,1,(-1)⟩:S36)]:List (S36)):List (S36))).bind fun δ =>(if 0<(B.length:Int) then ((group_Cost.f k J.1 J.2.1 J.2.2.1 J.2.2.2.1 J.2.2.2.2.1 J.2.2.2.2.2.1 J.2.2.2.2.2.2.1 J.2.2.2.2.2.2.2.1 J.2.2.2.2.2.2.2.2.1 J.2.2.2.2.2.2.2.2.2 ((Qb B 0).f0.f0) ((Qb B 0).f0.f1) ((Qb B 0).f0.f2) ((Qb B 0).f0.f3) ((Qb B 0).f0.f4.f0) ((Qb B 0).f0.f4.f1) ((Qb B 0).f0.f4.f2) ((Qb B 0).f1) ((Qb B 0).f2) ((Qb B 0).f3) ([]:List Int) ([]:List Int) ([]:List Int) 2 1 (-1)).bind fun a7=>(if 1<(B.length:Int) then ((group_Cost.f k J.1 J.2.1 J.2.2.1 J.2.2.2.1 J.2.2.2.2.1 J.2.2.2.2.2.1 J.2.2.2.2.2.2.1 J.2.2.2.2.2.2.2.1 J.2.2.2.2.2.2.2.2.1 J.2.2.2.2.2.2.2.2.2 ((Qb B 1).f0.f0) ((Qb B 1).f0.f1) ((Qb B 1).f0.f2) ((Qb B 1).f0.f3) ((Qb B 1).f0.f4.f0) ((Qb B 1).f0.f4.f1) ((Qb B 1).f0.f4.f2) ((Qb B 1).f1) ((Qb B 1).f2) ((Qb B 1).f3) ([]:List Int) ([]:List Int) ([]:List Int) 2 1 (-1)).bind fun ψ =>((group_Pick.f k J.1 J.2.1 J.2.2.1 J.2.2.2.1 J.2.2.2.2.1 J.2.2.2.2.2.1 J.2.2.2.2.2.2.1 J.2.2.2.2.2.2.2.1 J.2.2.2.2.2.2.2.2.1 J.2.2.2.2.2.2.2.2.2 B 0 δ ([]:List (S86)) 2 1 (-1)).bind fun φ =>((group_Spread.f k J.1 J.2.1 J.2.2.1 J.2.2.2.1 J.2.2.2.2.1 J.2.2.2.2.2.1 J.2.2.2.2.2.2.1 J.2.2.2.2.2.2.2.1 J.2.2.2.2.2.2.2.2.1 J.2.2.2.2.2.2.2.2.2 B 0 δ ([]:List (S86))).bind fun X=>(if a7.1=4 then (if a7.2=0 then (if ψ.1=2 then (if ψ.2=0 then (if φ.1=1 then (if φ.2=0 then (if X.2.2=0 then (if (X.1.length:Int)=1 then (if 0<(X.1.length:Int) then (if ((Qc X.1 0).f2)=1 then ((group_Check.f k J.1 J.2.1 J.2.2.1 J.2.2.2.1 J.2.2.2.2.1 J.2.2.2.2.2.1 J.2.2.2.2.2.2.1 J.2.2.2.2.2.2.2.1 J.2.2.2.2.2.2.2.2.1 J.2.2.2.2.2.2.2.2.2 B δ ([]:List (S86))).bind fun a0=>(some (a0==0))) else (none)) else (none)) else (none)) else (none)) else (none)) else (none)) else (none)) else (none)) else (none)) else (none))))) else (none))) else (none))))
theorem newellaw21_awake.mono:∀ k,LeO (newellaw21_awake.f k) (newellaw21_awake.f (k+1)):=by
 intro  k
 unfold newellaw21_awake.f
 repeat' first
   |(with_reducible exact group_Check.mono _ _ _ _ _ _ _ _ _ _ _ _ _ _)
   |(with_reducible exact group_Cost.mono _ _ _ _ _ _ _ _ _ _ _ _ _ _ _ _ _ _ _ _ _ _ _ _ _ _ _)
   |(with_reducible exact group_Pick.mono _ _ _ _ _ _ _ _ _ _ _ _ _ _ _ _ _ _)
   |(with_reducible exact group_Spread.mono _ _ _ _ _ _ _ _ _ _ _ _ _ _ _)
   |(with_reducible exact LeO.refl _)
   |(with_reducible exact LeO.none _)
   |(with_reducible refine LeO.ite ?_ ?_)
   |(with_reducible refine LeO.bind ?_ (fun _=>?_))
   |exact group_Check.mono _ _ _ _ _ _ _ _ _ _ _ _ _ _
   |exact group_Cost.mono _ _ _ _ _ _ _ _ _ _ _ _ _ _ _ _ _ _ _ _ _ _ _ _ _ _ _
   |exact group_Pick.mono _ _ _ _ _ _ _ _ _ _ _ _ _ _ _ _ _ _
   |exact group_Spread.mono _ _ _ _ _ _ _ _ _ _ _ _ _ _ _
   |exact LeO.none _
   |refine LeO.ite ?_ ?_
   |refine LeO.bind ?_ (fun _=>?_)
def newellaw21_awake.T5:Bool×List (List Nat×List Nat):=(true,[([],[]),([],[]),([1],[1]),([2],[2]),([],[]),([],[]),([0,3,4,5],[0,3,4,5]),([6],[6]),([7],[7]),([7],[7]),([8,6,0,1,2,3,4,5,6,7,8],[8]),([9,10,0,1,2,3,4,5,6,7,8,9,10],[9])])
def newellaw21_awake.B5:List Nat:=[0,0,2,6,0,0,63,127,255,255,511,2047]
theorem newellaw21_awake.Nf:rtab .any (opsOf Try.f9 5)=newellaw21_awake.T5:=by kernel_rfl
theorem newellaw21_awake.Wv:Zr newellaw21_awake.T5.2 newellaw21_awake.B5=true:=by kernel_rfl
def newellaw21_awake.T6:Bool×List (List Nat×List Nat):=(true,[([],[]),([],[]),([1],[1]),([2],[2]),([],[]),([],[]),([0,3,4,5],[0,3,4,5]),([6],[6]),([7],[7]),([7],[7]),([8,6,0,1,2,3,4,5,6,7,8],[8]),([9,10,0,1,2,3,4,5,6,7,8,9,10],[9])])
def newellaw21_awake.B6:List Nat:=[0,0,2,6,0,0,63,127,255,255,511,2047]
theorem newellaw21_awake.Er:rtab .any (opsOf Try.f9 6)=newellaw21_awake.T6:=by kernel_rfl
theorem newellaw21_awake.Mw:Zr newellaw21_awake.T6.2 newellaw21_awake.B6=true:=by kernel_rfl
set_option maxHeartbeats 8000000 in
set_option maxRecDepth 100000 in
theorem newellaw21_awake.calls (k:Nat)  (r:Bool) (w:World) (h:newellaw21_awake.f k=some r):
  Calls Try.prog 9 #[] w fun e w'=>e = .returned (.bool r)∧Below w.heap.size w w':=by
 have cx:=Try.underlying25
 have i4:=Try.underlying31
 have iw:=Try.underlying29
 have dh:=Try.underlying36
 have f8:=Try.underlying50
 have f7:=Try.underlying34
 have HB:=Aside0.mk (Below.refl w.heap.size w)
 have H:((newellaw17_Plain.f).bind fun J=>((some (([(⟨(⟨0,0,0,0,(⟨0,0,0⟩:S27)⟩:S29),0,false,false⟩:S31),(⟨(⟨3,0,0,0,(⟨0,0,0⟩:S27)⟩:S29),0,false,false⟩:S31)]:List (S31)):List (S31))).bind fun B=>((some (([(⟨2,1,(-1)⟩:S36)]:List (S36)):List (S36))).bind fun δ =>(if 0<(B.length:Int) then ((group_Cost.f k J.1 J.2.1 J.2.2.1 J.2.2.2.1 J.2.2.2.2.1 J.2.2.2.2.2.1 J.2.2.2.2.2.2.1 J.2.2.2.2.2.2.2.1 J.2.2.2.2.2.2.2.2.1 J.2.2.2.2.2.2.2.2.2 ((Qb B 0).f0.f0) ((Qb B 0).f0.f1) ((Qb B 0).f0.f2) ((Qb B 0).f0.f3) ((Qb B 0).f0.f4.f0) ((Qb B 0).f0.f4.f1) ((Qb B 0).f0.f4.f2) ((Qb B 0).f1) ((Qb B 0).f2) ((Qb B 0).f3) ([]:List Int) ([]:List Int) ([]:List Int) 2 1 (-1)).bind fun a7=>(if 1<(B.length:Int) then ((group_Cost.f k J.1 J.2.1 J.2.2.1 J.2.2.2.1 J.2.2.2.2.1 J.2.2.2.2.2.1 J.2.2.2.2.2.2.1 J.2.2.2.2.2.2.2.1 J.2.2.2.2.2.2.2.2.1 J.2.2.2.2.2.2.2.2.2 ((Qb B 1).f0.f0) ((Qb B 1).f0.f1) ((Qb B 1).f0.f2) ((Qb B 1).f0.f3) ((Qb B 1).f0.f4.f0) ((Qb B 1).f0.f4.f1) ((Qb B 1).f0.f4.f2) ((Qb B 1).f1) ((Qb B 1).f2) ((Qb B 1).f3) ([]:List Int) ([]:List Int) ([]:List Int) 2 1 (-1)).bind fun ψ =>((group_Pick.f k J.1 J.2.1 J.2.2.1 J.2.2.2.1 J.2.2.2.2.1 J.2.2.2.2.2.1 J.2.2.2.2.2.2.1 J.2.2.2.2.2.2.2.1 J.2.2.2.2.2.2.2.2.1 J.2.2.2.2.2.2.2.2.2 B 0 δ ([]:List (S86)) 2 1 (-1)).bind fun φ =>((group_Spread.f k J.1 J.2.1 J.2.2.1 J.2.2.2.1 J.2.2.2.2.1 J.2.2.2.2.2.1 J.2.2.2.2.2.2.1 J.2.2.2.2.2.2.2.1 J.2.2.2.2.2.2.2.2.1 J.2.2.2.2.2.2.2.2.2 B 0 δ ([]:List (S86))).bind fun X=>(if a7.1=4 then (if a7.2=0 then (if ψ.1=2 then (if ψ.2=0 then (if φ.1=1 then (if φ.2=0 then (if X.2.2=0 then (if (X.1.length:Int)=1 then (if 0<(X.1.length:Int) then (if ((Qc X.1 0).f2)=1 then ((group_Check.f k J.1 J.2.1 J.2.2.1 J.2.2.2.1 J.2.2.2.2.1 J.2.2.2.2.2.1 J.2.2.2.2.2.2.1 J.2.2.2.2.2.2.2.1 J.2.2.2.2.2.2.2.2.1 J.2.2.2.2.2.2.2.2.2 B δ ([]:List (S86))).bind fun a0=>(some (a0==0))) else (none)) else (none)) else (none)) else (none)) else (none)) else (none)) else (none)) else (none)) else (none)) else (none))))) else (none))) else (none)))))=some r:=h
 clear h
 replace H:=Option.bind_eq_some_iff.mp H
 obtain⟨⟨Y,Z,aj,ε,ζ,η,θ,ι,μ,ξ⟩,de,H⟩:=H
 replace H:((some (([(⟨(⟨0,0,0,0,(⟨0,0,0⟩:S27)⟩:S29),0,false,false⟩:S31),(⟨(⟨3,0,0,0,(⟨0,0,0⟩:S27)⟩:S29),0,false,false⟩:S31)]:List (S31)):List (S31))).bind fun B=>((some (([(⟨2,1,(-1)⟩:S36)]:List (S36)):List (S36))).bind fun δ =>(if 0<(B.length:Int) then ((group_Cost.f k Y Z aj ε ζ η θ ι μ ξ ((Qb B 0).f0.f0) ((Qb B 0).f0.f1) ((Qb B 0).f0.f2) ((Qb B 0).f0.f3) ((Qb B 0).f0.f4.f0) ((Qb B 0).f0.f4.f1) ((Qb B 0).f0.f4.f2) ((Qb B 0).f1) ((Qb B 0).f2) ((Qb B 0).f3) ([]:List Int) ([]:List Int) ([]:List Int) 2 1 (-1)).bind fun a7=>(if 1<(B.length:Int) then ((group_Cost.f k Y Z aj ε ζ η θ ι μ ξ ((Qb B 1).f0.f0) ((Qb B 1).f0.f1) ((Qb B 1).f0.f2) ((Qb B 1).f0.f3) ((Qb B 1).f0.f4.f0) ((Qb B 1).f0.f4.f1) ((Qb B 1).f0.f4.f2) ((Qb B 1).f1) ((Qb B 1).f2) ((Qb B 1).f3) ([]:List Int) ([]:List Int) ([]:List Int) 2 1 (-1)).bind fun ψ =>((group_Pick.f k Y Z aj ε ζ η θ ι μ ξ B 0 δ ([]:List (S86)) 2 1 (-1)).bind fun φ =>((group_Spread.f k Y Z aj ε ζ η θ ι μ ξ B 0 δ ([]:List (S86))).bind fun X=>(if a7.1=4 then (if a7.2=0 then (if ψ.1=2 then (if ψ.2=0 then (if φ.1=1 then (if φ.2=0 then (if X.2.2=0 then (if (X.1.length:Int)=1 then (if 0<(X.1.length:Int) then (if ((Qc X.1 0).f2)=1 then ((group_Check.f k Y Z aj ε ζ η θ ι μ ξ B δ ([]:List (S86))).bind fun a0=>(some (a0==0))) else (none)) else (none)) else (none)) else (none)) else (none)) else (none)) else (none)) else (none)) else (none)) else (none))))) else (none))) else (none))))=some r:=H
 have A1:=Aside0.mk de
 clear de
 obtain⟨B,cb⟩:∃ y_:List (S31),y_=(([(⟨(⟨0,0,0,0,(⟨0,0,0⟩:S27)⟩:S29),0,false,false⟩:S31),(⟨(⟨3,0,0,0,(⟨0,0,0⟩:S27)⟩:S29),0,false,false⟩:S31)]:List (S31))):=⟨_,rfl⟩
 replace H:((some (([(⟨2,1,(-1)⟩:S36)]:List (S36)):List (S36))).bind fun δ =>(if 0<(B.length:Int) then ((group_Cost.f k Y Z aj ε ζ η θ ι μ ξ ((Qb B 0).f0.f0) ((Qb B 0).f0.f1) ((Qb B 0).f0.f2) ((Qb B 0).f0.f3) ((Qb B 0).f0.f4.f0) ((Qb B 0).f0.f4.f1) ((Qb B 0).f0.f4.f2) ((Qb B 0).f1) ((Qb B 0).f2) ((Qb B 0).f3) ([]:List Int) ([]:List Int) ([]:List Int) 2 1 (-1)).bind fun a7=>(if 1<(B.length:Int) then ((group_Cost.f k Y Z aj ε ζ η θ ι μ ξ ((Qb B 1).f0.f0) ((Qb B 1).f0.f1) ((Qb B 1).f0.f2) ((Qb B 1).f0.f3) ((Qb B 1).f0.f4.f0) ((Qb B 1).f0.f4.f1) ((Qb B 1).f0.f4.f2) ((Qb B 1).f1) ((Qb B 1).f2) ((Qb B 1).f3) ([]:List Int) ([]:List Int) ([]:List Int) 2 1 (-1)).bind fun ψ =>((group_Pick.f k Y Z aj ε ζ η θ ι μ ξ B 0 δ ([]:List (S86)) 2 1 (-1)).bind fun φ =>((group_Spread.f k Y Z aj ε ζ η θ ι μ ξ B 0 δ ([]:List (S86))).bind fun X=>(if a7.1=4 then (if a7.2=0 then (if ψ.1=2 then (if ψ.2=0 then (if φ.1=1 then (if φ.2=0 then (if X.2.2=0 then (if (X.1.length:Int)=1 then (if 0<(X.1.length:Int) then (if ((Qc X.1 0).f2)=1 then ((group_Check.f k Y Z aj ε ζ η θ ι μ ξ B δ ([]:List (S86))).bind fun a0=>(some (a0==0))) else (none)) else (none)) else (none)) else (none)) else (none)) else (none)) else (none)) else (none)) else (none)) else (none))))) else (none))) else (none)))=some r:=by first|(rw[cb];with_reducible exact H)|(have am:=(Option.bind_some _ _).symm.trans H;rw[cb];with_reducible exact am)|(have am:=(Option.bind_some _ _).symm.trans H;with_reducible exact am)|with_reducible exact H|(rw[cb];exact H)|exact H
 have fg:=Aside0.mk cb
 clear cb
 obtain⟨δ,cd⟩:∃ y_:List (S36),y_=(([(⟨2,1,(-1)⟩:S36)]:List (S36))):=⟨_,rfl⟩
 replace H:(if 0<(B.length:Int) then ((group_Cost.f k Y Z aj ε ζ η θ ι μ ξ ((Qb B 0).f0.f0) ((Qb B 0).f0.f1) ((Qb B 0).f0.f2) ((Qb B 0).f0.f3) ((Qb B 0).f0.f4.f0) ((Qb B 0).f0.f4.f1) ((Qb B 0).f0.f4.f2) ((Qb B 0).f1) ((Qb B 0).f2) ((Qb B 0).f3) ([]:List Int) ([]:List Int) ([]:List Int) 2 1 (-1)).bind fun a7=>(if 1<(B.length:Int) then ((group_Cost.f k Y Z aj ε ζ η θ ι μ ξ ((Qb B 1).f0.f0) ((Qb B 1).f0.f1) ((Qb B 1).f0.f2) ((Qb B 1).f0.f3) ((Qb B 1).f0.f4.f0) ((Qb B 1).f0.f4.f1) ((Qb B 1).f0.f4.f2) ((Qb B 1).f1) ((Qb B 1).f2) ((Qb B 1).f3) ([]:List Int) ([]:List Int) ([]:List Int) 2 1 (-1)).bind fun ψ =>((group_Pick.f k Y Z aj ε ζ η θ ι μ ξ B 0 δ ([]:List (S86)) 2 1 (-1)).bind fun φ =>((group_Spread.f k Y Z aj ε ζ η θ ι μ ξ B 0 δ ([]:List (S86))).bind fun X=>(if a7.1=4 then (if a7.2=0 then (if ψ.1=2 then (if ψ.2=0 then (if φ.1=1 then (if φ.2=0 then (if X.2.2=0 then (if (X.1.length:Int)=1 then (if 0<(X.1.length:Int) then (if ((Qc X.1 0).f2)=1 then ((group_Check.f k Y Z aj ε ζ η θ ι μ ξ B δ ([]:List (S86))).bind fun a0=>(some (a0==0))) else (none)) else (none)) else (none)) else (none)) else (none)) else (none)) else (none)) else (none)) else (none)) else (none))))) else (none))) else (none))=some r:=by first|(rw[cd];with_reducible exact H)|(have am:=(Option.bind_some _ _).symm.trans H;rw[cd];with_reducible exact am)|(have am:=(Option.bind_some _ _).symm.trans H;with_reducible exact am)|with_reducible exact H|(rw[cd];exact H)|exact H
 have fh:=Aside0.mk cd
 clear cd
 by_cases c2:0<(B.length:Int)
 ·rw[if_pos c2] at H
  have c2b0:decide (0<(B.length:Int))=true:=decide_eq_true c2
  have c2b1:decide (0<B.length)=true:=decide_eq_true (by omega)
  clear c2
  replace H:=Option.bind_eq_some_iff.mp H
  obtain⟨⟨bv,cu⟩,aa,H⟩:=H
  replace H:(if 1<(B.length:Int) then ((group_Cost.f k Y Z aj ε ζ η θ ι μ ξ ((Qb B 1).f0.f0) ((Qb B 1).f0.f1) ((Qb B 1).f0.f2) ((Qb B 1).f0.f3) ((Qb B 1).f0.f4.f0) ((Qb B 1).f0.f4.f1) ((Qb B 1).f0.f4.f2) ((Qb B 1).f1) ((Qb B 1).f2) ((Qb B 1).f3) ([]:List Int) ([]:List Int) ([]:List Int) 2 1 (-1)).bind fun ψ =>((group_Pick.f k Y Z aj ε ζ η θ ι μ ξ B 0 δ ([]:List (S86)) 2 1 (-1)).bind fun φ =>((group_Spread.f k Y Z aj ε ζ η θ ι μ ξ B 0 δ ([]:List (S86))).bind fun X=>(if bv=4 then (if cu=0 then (if ψ.1=2 then (if ψ.2=0 then (if φ.1=1 then (if φ.2=0 then (if X.2.2=0 then (if (X.1.length:Int)=1 then (if 0<(X.1.length:Int) then (if ((Qc X.1 0).f2)=1 then ((group_Check.f k Y Z aj ε ζ η θ ι μ ξ B δ ([]:List (S86))).bind fun a0=>(some (a0==0))) else (none)) else (none)) else (none)) else (none)) else (none)) else (none)) else (none)) else (none)) else (none)) else (none))))) else (none))=some r:=H
  have A3:=Aside0.mk aa
  clear aa
  by_cases c4:1<(B.length:Int)
  ·rw[if_pos c4] at H
   have c4b0:decide (1<(B.length:Int))=true:=decide_eq_true c4
   have c4b1:decide (1<B.length)=true:=decide_eq_true (by omega)
   clear c4
   replace H:=Option.bind_eq_some_iff.mp H
   obtain⟨⟨bz,ca⟩,b3,H⟩:=H
   replace H:((group_Pick.f k Y Z aj ε ζ η θ ι μ ξ B 0 δ ([]:List (S86)) 2 1 (-1)).bind fun φ =>((group_Spread.f k Y Z aj ε ζ η θ ι μ ξ B 0 δ ([]:List (S86))).bind fun X=>(if bv=4 then (if cu=0 then (if bz=2 then (if ca=0 then (if φ.1=1 then (if φ.2=0 then (if X.2.2=0 then (if (X.1.length:Int)=1 then (if 0<(X.1.length:Int) then (if ((Qc X.1 0).f2)=1 then ((group_Check.f k Y Z aj ε ζ η θ ι μ ξ B δ ([]:List (S86))).bind fun a0=>(some (a0==0))) else (none)) else (none)) else (none)) else (none)) else (none)) else (none)) else (none)) else (none)) else (none)) else (none))))=some r:=H
   have A5:=Aside0.mk b3
   clear b3
   replace H:=Option.bind_eq_some_iff.mp H
   obtain⟨⟨ce,cf⟩,az,H⟩:=H
   replace H:((group_Spread.f k Y Z aj ε ζ η θ ι μ ξ B 0 δ ([]:List (S86))).bind fun X=>(if bv=4 then (if cu=0 then (if bz=2 then (if ca=0 then (if ce=1 then (if cf=0 then (if X.2.2=0 then (if (X.1.length:Int)=1 then (if 0<(X.1.length:Int) then (if ((Qc X.1 0).f2)=1 then ((group_Check.f k Y Z aj ε ζ η θ ι μ ξ B δ ([]:List (S86))).bind fun a0=>(some (a0==0))) else (none)) else (none)) else (none)) else (none)) else (none)) else (none)) else (none)) else (none)) else (none)) else (none)))=some r:=H
   have A6:=Aside0.mk az
   clear az
   replace H:=Option.bind_eq_some_iff.mp H
   obtain⟨⟨τ,ch,ci⟩,eg,H⟩:=H
   replace H:(if bv=4 then (if cu=0 then (if bz=2 then (if ca=0 then (if ce=1 then (if cf=0 then (if ci=0 then (if (τ.length:Int)=1 then (if 0<(τ.length:Int) then (if ((Qc τ 0).f2)=1 then ((group_Check.f k Y Z aj ε ζ η θ ι μ ξ B δ ([]:List (S86))).bind fun a0=>(some (a0==0))) else (none)) else (none)) else (none)) else (none)) else (none)) else (none)) else (none)) else (none)) else (none)) else (none))=some r:=H
   have A7:=Aside0.mk eg
   clear eg
   by_cases c8:bv=4
   ·rw[if_pos c8] at H
    have c8b0:(bv==4)=true:=beq_iff_eq.mpr c8
    have c8b1:(bv != 4)=false:=bne_eq_false_iff_eq.mpr c8
    clear c8
    by_cases c9:cu=0
    ·rw[if_pos c9] at H
     have c9b0:(cu==0)=true:=beq_iff_eq.mpr c9
     have c9b1:(cu != 0)=false:=bne_eq_false_iff_eq.mpr c9
     clear c9
     by_cases c10:bz=2
     ·rw[if_pos c10] at H
      have c10b0:(bz==2)=true:=beq_iff_eq.mpr c10
      have c10b1:(bz != 2)=false:=bne_eq_false_iff_eq.mpr c10
      clear c10
      by_cases al:ca=0
      ·rw[if_pos al] at H
       have c11b0:(ca==0)=true:=beq_iff_eq.mpr al
       have c11b1:(ca != 0)=false:=bne_eq_false_iff_eq.mpr al
       clear al
       by_cases ae:ce=1
       ·rw[if_pos ae] at H
        have c12b0:(ce==1)=true:=beq_iff_eq.mpr ae
        have c12b1:(ce != 1)=false:=bne_eq_false_iff_eq.mpr ae
        clear ae
        by_cases a2:cf=0
        ·rw[if_pos a2] at H
         have c13b0:(cf==0)=true:=beq_iff_eq.mpr a2
         have c13b1:(cf != 0)=false:=bne_eq_false_iff_eq.mpr a2
         clear a2
         by_cases ag:ci=0
         ·rw[if_pos ag] at H
          have c14b0:(ci==0)=true:=beq_iff_eq.mpr ag
          have c14b1:(ci != 0)=false:=bne_eq_false_iff_eq.mpr ag
          clear ag
          by_cases ac:(τ.length:Int)=1
          ·rw[if_pos ac] at H
           have c15b0:((τ.length:Int)==1)=true:=beq_iff_eq.mpr ac
           have c15b1:((τ.length:Int) != 1)=false:=bne_eq_false_iff_eq.mpr ac
           clear ac
           by_cases a6:0<(τ.length:Int)
           ·rw[if_pos a6] at H
            have c16b0:decide (0<(τ.length:Int))=true:=decide_eq_true a6
            have c16b1:decide (0 < τ.length)=true:=decide_eq_true (by omega)
            clear a6
            by_cases af:((Qc τ 0).f2)=1
            ·rw[if_pos af] at H
             have c17b0:(((Qc τ 0).f2)==1)=true:=beq_iff_eq.mpr af
             have c17b1:(((Qc τ 0).f2) != 1)=false:=bne_eq_false_iff_eq.mpr af
             clear af
             replace H:=Option.bind_eq_some_iff.mp H
             obtain⟨a0,b5,H⟩:=H
             replace H:(some (a0==0))=some r:=H
             have cg:=Aside0.mk b5
             clear b5
             obtain rfl:=Option.some.inj H
             go_enter Try.func9,Try.ntmps9
             try go_wp2_with (first|((with_reducible refine Qd (f:=27) rfl ?_);refine Qn (some 13) rfl rfl Try.func27 kr rfl #[] rfl qM ?_;(with_reducible refine(newellaw17_Plain.calls  Y Z aj ε ζ η θ ι μ ξ _ A1.out).mono ?_);rintro e ay ⟨rfl,hb⟩;refine⟨_,rfl, ?_⟩;replace HB:=sHb hb;(try clear hb);(try clear a4);(try clear hk);(try clear hi))|((with_reducible refine Qe (N:=1) rfl ?_);(try(refine Zo (by rfl) ?_;dsimp only));refine qE 1 #[.int .i64 0,.int .i64 0,.int .i64 0,.int .i64 0,.int .i64 0,.int .i64 0,.int .i64 0,.int .i64 0,.int .i64 0,.int .i64 0] 25 ?_;intro κ hg fr hbox hb;have O:=Aside0.mk hbox;have gg:=sGe hg;have gi:=sGe hg;replace HB:=sHb hb;clear hb hbox hg;obtain⟨cq,cr,d0,d3,d4,e0,e3,fm,fn,fu,e4,ek,el,em,en,g0,g1,fv,fz,g2⟩:=Q5 O.out)|((with_reducible refine Qe (N:=17) rfl ?_);(try(refine Zo (by rfl) ?_;dsimp only));refine Kd.Vb k31 _ 31 ?hg (N:=17) ?hd (xs:=([(⟨(⟨0,0,0,0,(⟨0,0,0⟩:S27)⟩:S29),0,false,false⟩:S31),(⟨(⟨3,0,0,0,(⟨0,0,0⟩:S27)⟩:S29),0,false,false⟩:S31)]:List (S31))) (inner:=[.int .i64 0,.int .i64 0,.int .i64 0,.int .i64 0,.int .i64 0,.int .i64 0,.int .i64 0,.int .i64 0,.bool false,.bool false,.int .i64 3,.int .i64 0,.int .i64 0,.int .i64 0,.int .i64 0,.int .i64 0,.int .i64 0,.int .i64 0,.bool false,.bool false]) (ok:=fun _=>True) (okp:=fun _=>True) ?hr ?hp (fun _ hk=>hk) trivial (Below.refl _ _) (Nat.le_refl _) (by simp) ?_;(case hd=>rfl);(case hg=>rfl);(case hr=>go_simp <;> rfl);(case hp=>exact(Reps.c10 (show Kd.M k31 _ _ _ (⟨(⟨0,0,0,0,(⟨0,0,0⟩:S27)⟩:S29),0,false,false⟩:S31) [.int .i64 0,.int .i64 0,.int .i64 0,.int .i64 0,.int .i64 0,.int .i64 0,.int .i64 0,.int .i64 0,.bool false,.bool false] from(Wp _ _ _ (⟨(⟨0,0,0,0,(⟨0,0,0⟩:S27)⟩:S29),0,false,false⟩:S31))) (Reps.c10 (show Kd.M k31 _ _ _ (⟨(⟨3,0,0,0,(⟨0,0,0⟩:S27)⟩:S29),0,false,false⟩:S31) [.int .i64 3,.int .i64 0,.int .i64 0,.int .i64 0,.int .i64 0,.int .i64 0,.int .i64 0,.int .i64 0,.bool false,.bool false] from(Wp _ _ _ (⟨(⟨3,0,0,0,(⟨0,0,0⟩:S27)⟩:S29),0,false,false⟩:S31))) (Reps.none _ _))));intro g8 be dd hb hg_ hnew_;clear hg_ hnew_;(first|rw[← fg.out] at dd|(simp only[Int.reduceToNat] at dd;rw[← fg.out] at dd));have γ:=Aside0.mk (Kd.Zc dd (Qu bel));replace O:=Aside0.mk (Qt (g:= κ) (o:=.cells #[.int .i64 Y,.int .i64 Z,.int .i64 aj,.int .i64 ε,.int .i64 ζ,.int .i64 η,.int .i64 θ,.int .i64 ι,.int .i64 μ,.int .i64 ξ] 25 (0,0)) (by(with_reducible repeat first|refine Qk ?_ _|refine Qf ?_|refine Ql ?_ _);refine Qm (cs:=#[.int .i64 Y,.int .i64 Z,.int .i64 aj,.int .i64 ε,.int .i64 ζ,.int .i64 η,.int .i64 θ,.int .i64 ι,.int .i64 μ,.int .i64 0]) ?_ 9 _ rfl;(with_reducible repeat first|refine Qk ?_ _|refine Qf ?_|refine Ql ?_ _);refine Qm (cs:=#[.int .i64 Y,.int .i64 Z,.int .i64 aj,.int .i64 ε,.int .i64 ζ,.int .i64 η,.int .i64 θ,.int .i64 ι,.int .i64 0,.int .i64 0]) ?_ 8 _ rfl;(with_reducible repeat first|refine Qk ?_ _|refine Qf ?_|refine Ql ?_ _);refine Qm (cs:=#[.int .i64 Y,.int .i64 Z,.int .i64 aj,.int .i64 ε,.int .i64 ζ,.int .i64 η,.int .i64 θ,.int .i64 0,.int .i64 0,.int .i64 0]) ?_ 7 _ rfl;(with_reducible repeat first|refine Qk ?_ _|refine Qf ?_|refine Ql ?_ _);refine Qm (cs:=#[.int .i64 Y,.int .i64 Z,.int .i64 aj,.int .i64 ε,.int .i64 ζ,.int .i64 η,.int .i64 0,.int .i64 0,.int .i64 0,.int .i64 0]) ?_ 6 _ rfl;(with_reducible repeat first|refine Qk ?_ _|refine Qf ?_|refine Ql ?_ _);refine Qm (cs:=#[.int .i64 Y,.int .i64 Z,.int .i64 aj,.int .i64 ε,.int .i64 ζ,.int .i64 0,.int .i64 0,.int .i64 0,.int .i64 0,.int .i64 0]) ?_ 5 _ rfl;(with_reducible repeat first|refine Qk ?_ _|refine Qf ?_|refine Ql ?_ _);refine Qm (cs:=#[.int .i64 Y,.int .i64 Z,.int .i64 aj,.int .i64 ε,.int .i64 0,.int .i64 0,.int .i64 0,.int .i64 0,.int .i64 0,.int .i64 0]) ?_ 4 _ rfl;(with_reducible repeat first|refine Qk ?_ _|refine Qf ?_|refine Ql ?_ _);refine Qm (cs:=#[.int .i64 Y,.int .i64 Z,.int .i64 aj,.int .i64 0,.int .i64 0,.int .i64 0,.int .i64 0,.int .i64 0,.int .i64 0,.int .i64 0]) ?_ 3 _ rfl;(with_reducible repeat first|refine Qk ?_ _|refine Qf ?_|refine Ql ?_ _);refine Qm (cs:=#[.int .i64 Y,.int .i64 Z,.int .i64 0,.int .i64 0,.int .i64 0,.int .i64 0,.int .i64 0,.int .i64 0,.int .i64 0,.int .i64 0]) ?_ 2 _ rfl;(with_reducible repeat first|refine Qk ?_ _|refine Qf ?_|refine Ql ?_ _);refine Qm (cs:=#[.int .i64 Y,.int .i64 0,.int .i64 0,.int .i64 0,.int .i64 0,.int .i64 0,.int .i64 0,.int .i64 0,.int .i64 0,.int .i64 0]) ?_ 1 _ rfl;(with_reducible repeat first|refine Qk ?_ _|refine Qf ?_|refine Ql ?_ _);refine Qm (cs:=#[.int .i64 0,.int .i64 0,.int .i64 0,.int .i64 0,.int .i64 0,.int .i64 0,.int .i64 0,.int .i64 0,.int .i64 0,.int .i64 0]) ?_ 0 _ rfl;(with_reducible repeat first|refine Qk ?_ _|refine Qf ?_|refine Ql ?_ _);exact O.out) hb);replace HB:=sHb hb;clear hb dd)|((with_reducible refine Qe (N:=3) rfl ?_);(try(refine Zo (by rfl) ?_;dsimp only));refine qE 3 #[.int .i64 0,.int .i64 0,.int .i64 0] 36 ?_;intro ab hg cp hbox hb;have L:=Aside0.mk hbox;have h8:=sGe hg;have ha:=sGe hg;have e5:=sNl O hg;have ea:=sNg O hg;replace γ:=sRb γ hb;replace O:=sBk O hb;replace HB:=sHb hb;clear hb hbox hg;have d1:=ea.out;have d2:=e5.out;obtain⟨d9,da,dx,db,dc,dy⟩:=qD3 L.out)|((with_reducible refine Qe (N:=20) rfl ?_);(try(refine Zo (by rfl) ?_;dsimp only));refine Kd.Vb k36 _ 36 ?hg (N:=20) ?hd (xs:=([(⟨2,1,(-1)⟩:S36)]:List (S36))) (inner:=[.int .i64 2,.int .i64 1,.int .i64 (-1)]) (ok:=fun _=>True) (okp:=fun _=>True) ?hr ?hp (fun _ hk=>hk) trivial (Below.refl _ _) (Nat.le_refl _) (by simp) ?_;(case hd=>rfl);(case hg=>rfl);(case hr=>go_simp <;> rfl);(case hp=>exact(Reps.c3 (show Kd.M k36 _ _ _ (⟨2,1,(-1)⟩:S36) [.int .i64 2,.int .i64 1,.int .i64 (-1)] from(Kg _ _ _ (⟨2,1,(-1)⟩:S36))) (Reps.none _ _)));intro hy ey cj hb hg_ hnew_;clear hg_ hnew_;(first|rw[← fh.out] at cj|(simp only[Int.reduceToNat] at cj;rw[← fh.out] at cj));have ν :=Aside0.mk (Kd.Zc (Kd.J4 cj (g:=ab) (o:=.cells #[.int .i64 2,.int .i64 1,.int .i64 (-1)] 36 (0,0)) (by(with_reducible repeat first|refine Qk ?_ _|refine Qf ?_|refine Ql ?_ _);refine Qm (cs:=#[.int .i64 2,.int .i64 1,.int .i64 0]) ?_ 2 _ rfl;(with_reducible repeat first|refine Qk ?_ _|refine Qf ?_|refine Ql ?_ _);refine Qm (cs:=#[.int .i64 2,.int .i64 0,.int .i64 0]) ?_ 1 _ rfl;(with_reducible repeat first|refine Qk ?_ _|refine Qf ?_|refine Ql ?_ _);refine Qm (cs:=#[.int .i64 0,.int .i64 0,.int .i64 0]) ?_ 0 _ rfl;(with_reducible repeat first|refine Qk ?_ _|refine Qf ?_|refine Ql ?_ _);exact L.out)) (Qu bel));replace γ:=Aside0.mk (Kd.Z4 (by(with_reducible repeat first|apply Kd.Qx|apply Kd.Qw|apply Kd.Q2);exact(Kd.Q0 (Kd.Qv (Kd.Qv (Kd.Qv (Kd.Q7 γ.out L.out (by decide)) (fun _ hk=>hk.2) (.int .i64 2)) (fun _ hk=>hk.2) (.int .i64 1)) (fun _ hk=>hk.2) (.int .i64 (-1))) (fun _ h_=>h_.1))) hb);replace O:=sBk O hb;replace L:=Aside0.mk (Qt (g:=ab) (o:=.cells #[.int .i64 2,.int .i64 1,.int .i64 (-1)] 36 (0,0)) (by(with_reducible repeat first|refine Qk ?_ _|refine Qf ?_|refine Ql ?_ _);refine Qm (cs:=#[.int .i64 2,.int .i64 1,.int .i64 0]) ?_ 2 _ rfl;(with_reducible repeat first|refine Qk ?_ _|refine Qf ?_|refine Ql ?_ _);refine Qm (cs:=#[.int .i64 2,.int .i64 0,.int .i64 0]) ?_ 1 _ rfl;(with_reducible repeat first|refine Qk ?_ _|refine Qf ?_|refine Ql ?_ _);refine Qm (cs:=#[.int .i64 0,.int .i64 0,.int .i64 0]) ?_ 0 _ rfl;(with_reducible repeat first|refine Qk ?_ _|refine Qf ?_|refine Ql ?_ _);exact L.out) hb);replace HB:=sHb hb;clear hb cj;obtain⟨bk,bf,gh⟩:=Kd.Q9 ν.out;subst gh)|((with_reducible refine Qe (N:=4) rfl ?_);(try(refine Zo (by rfl) ?_;dsimp only));refine qE 4 #[.slice none 0 0,.slice none 0 0] 50 ?_;intro ω hg ej hbox hb;have σ:=Aside0.mk hbox;have he:=sGe hg;have hh:=sGe hg;have eb:=sNl O hg;have ec:=sNg O hg;have ed:=sNl L hg;have ee:=sNg L hg;replace γ:=sRb γ hb;replace ν :=sRb ν hb;replace O:=sBk O hb;replace L:=sBk L hb;replace HB:=sHb hb;clear hb hbox hg;have fo:=ec.out;have fp:=eb.out;have dv:=ee.out;have gf:=ed.out;obtain⟨e6,e7,e8,e9⟩:=qD2 σ.out))
             have ρ:Aside0 (Kd.R k31 31 ((ej.setCell ⟨ω,0,none⟩ (.slice bk δ.length bf)).setCell ⟨ω,1,none⟩ (.slice none 0 0)) w.heap.size (fun _=>True) g8 B):=⟨by(with_reducible repeat first|apply Kd.Qx|apply Kd.Qw|apply Kd.Q2);exact Kd.Q0 (Kd.Qv (Kd.Qv (Kd.Q7 γ.out σ.out (by decide)) (fun _ hk=>hk.2) _) (fun _ hk=>hk.2) (.slice none 0 0)) (fun _ hk=>trivial)⟩
             have χ :Aside0 (Kd.R k36 36 ((ej.setCell ⟨ω,0,none⟩ (.slice bk δ.length bf)).setCell ⟨ω,1,none⟩ (.slice none 0 0)) w.heap.size (fun k_=>k_≠ab) (.slice bk δ.length bf) δ):=⟨by(with_reducible repeat first|apply Kd.Qx|apply Kd.Qw|apply Kd.Q2);exact Kd.Q0 (Kd.Qv (Kd.Qv (Kd.Q7 ν.out σ.out (by decide)) (fun _ hk=>hk.2) _) (fun _ hk=>hk.2) (.slice none 0 0)) (fun _ hk=>hk.1.2)⟩
             have a3:Aside0 (((ej.setCell ⟨ω,0,none⟩ (.slice bk δ.length bf)).setCell ⟨ω,1,none⟩ (.slice none 0 0)).heap[κ]?=some (.cells #[.int .i64 Y,.int .i64 Z,.int .i64 aj,.int .i64 ε,.int .i64 ζ,.int .i64 η,.int .i64 θ,.int .i64 ι,.int .i64 μ,.int .i64 ξ] 25 (0,0))):=⟨bka O⟩
             have a8:Aside0 (((ej.setCell ⟨ω,0,none⟩ (.slice bk δ.length bf)).setCell ⟨ω,1,none⟩ (.slice none 0 0)).heap[ab]?=some (.cells #[.int .i64 2,.int .i64 1,.int .i64 (-1)] 36 (0,0))):=⟨bka L⟩
             have ah:Aside0 (((ej.setCell ⟨ω,0,none⟩ (.slice bk δ.length bf)).setCell ⟨ω,1,none⟩ (.slice none 0 0)).heap[ω]?=some (.cells #[.slice bk δ.length bf,.slice none 0 0] 50 (0,0))):=⟨by refine Qm (cs:=#[.slice bk δ.length bf,.slice none 0 0]) ?_ 1 _ rfl;refine Qm (cs:=#[.slice none 0 0,.slice none 0 0]) ?_ 0 _ rfl;exact σ.out⟩
             have ar:Aside0 (Below w.heap.size w ((ej.setCell ⟨ω,0,none⟩ (.slice bk δ.length bf)).setCell ⟨ω,1,none⟩ (.slice none 0 0))):=⟨bel⟩
             (try clear γ)
             (try clear ν)
             (try clear O)
             (try clear L)
             (try clear σ)
             (try clear HB)
             generalize((ej.setCell ⟨ω,0,none⟩ (.slice bk δ.length bf)).setCell ⟨ω,1,none⟩ (.slice none 0 0))=h7 at ρ χ a3 a8 ah ar ⊢
             have γ:=ρ
             have ν := χ
             have O:=a3
             have L:=a8
             have σ:=ah
             have HB:=ar
             clear ρ χ a3 a8 ah ar
             replace γ:=Aside0.mk (Kd.Q2 γ.out)
             replace ν :=Aside0.mk (Kd.Q2 ν.out)
             replace O:=Aside0.mk (Qf O.out)
             replace L:=Aside0.mk (Qf L.out)
             replace σ:=Aside0.mk (Qf σ.out)
             replace HB:=Aside0.mk (Qi HB.out)
             obtain⟨i0,ev,g3⟩:=Kd.Q9 γ.out
             (first|subst g3|(injection g3 with aw bm ax;have bn:=aw.symm;have bo:=ax.symm;clear aw bm ax;subst bn;subst bo))
             have eo:0≤(0:Int):=(by omega)
             have ep:0<(B.length:Int):=of_decide_eq_true (by assumption)
             obtain⟨ak,il,dm,dn,dp,b6,b7,b8,b9,ba,bb,bc⟩:=Gq (Kd.Qz γ.out).2.2 0 eo ep
             cases il
             have hj:(0<B.length)=True:=eq_true (by omega)
             (try rw[show((0:Int)).toNat=0 from rfl] at dm)
             (try rw[show 0 * 10=0 from rfl] at dm)
             (try rw[Addr.add_zero'] at dm)
             (try rw[show((0:Int)).toNat=0 from rfl] at dn)
             (try rw[show 0 * 10=0 from rfl] at dn)
             (try rw[Addr.add_zero'] at dn)
             (try rw[show((0:Int)).toNat=0 from rfl] at dp)
             (try rw[show 0 * 10=0 from rfl] at dp)
             (try rw[Addr.add_zero'] at dp)
             (try rw[show((0:Int)).toNat=0 from rfl] at b6)
             (try rw[show 0 * 10=0 from rfl] at b6)
             (try rw[Addr.add_zero'] at b6)
             (try rw[show((0:Int)).toNat=0 from rfl] at b7)
             (try rw[show 0 * 10=0 from rfl] at b7)
             (try rw[Addr.add_zero'] at b7)
             (try rw[show((0:Int)).toNat=0 from rfl] at b8)
             (try rw[show 0 * 10=0 from rfl] at b8)
             (try rw[Addr.add_zero'] at b8)
             (try rw[show((0:Int)).toNat=0 from rfl] at b9)
             (try rw[show 0 * 10=0 from rfl] at b9)
             (try rw[Addr.add_zero'] at b9)
             (try rw[show((0:Int)).toNat=0 from rfl] at ba)
             (try rw[show 0 * 10=0 from rfl] at ba)
             (try rw[Addr.add_zero'] at ba)
             (try rw[show((0:Int)).toNat=0 from rfl] at bb)
             (try rw[show 0 * 10=0 from rfl] at bb)
             (try rw[Addr.add_zero'] at bb)
             (try rw[show((0:Int)).toNat=0 from rfl] at bc)
             (try rw[show 0 * 10=0 from rfl] at bc)
             (try rw[Addr.add_zero'] at bc)
             replace eo:=eq_true eo
             replace ep:=eq_true ep
             refine Zl (n:=12) (S:=fun w'=>w'.cell? ⟨κ,0,none⟩=some (.int .i64 Y)∧w'.cell? ⟨κ,1,none⟩=some (.int .i64 Z)∧w'.cell? ⟨κ,2,none⟩=some (.int .i64 aj)∧w'.cell? ⟨κ,3,none⟩=some (.int .i64 ε)∧w'.cell? ⟨κ,4,none⟩=some (.int .i64 ζ)∧w'.cell? ⟨κ,5,none⟩=some (.int .i64 η)∧w'.cell? ⟨κ,6,none⟩=some (.int .i64 θ)∧w'.cell? ⟨κ,7,none⟩=some (.int .i64 ι)∧w'.cell? ⟨κ,8,none⟩=some (.int .i64 μ)∧w'.cell? ⟨κ,9,none⟩=some (.int .i64 ξ)∧w'.cell? ⟨ab,0,none⟩=some (.int .i64 2)∧w'.cell? ⟨ab,1,none⟩=some (.int .i64 1)∧w'.cell? ⟨ab,2,none⟩=some (.int .i64 (-1))∧w'.cell? ak=some (.int .i64 ((Qb B 0).f0.f0))∧w'.cell? ⟨ak.block,ak.off+1,none⟩=some (.int .i64 ((Qb B 0).f0.f1))∧w'.cell? ⟨ak.block,ak.off+2,none⟩=some (.int .i64 ((Qb B 0).f0.f2))∧w'.cell? ⟨ak.block,ak.off+3,none⟩=some (.int .i64 ((Qb B 0).f0.f3))∧w'.cell? ⟨ak.block,ak.off+4,none⟩=some (.int .i64 ((Qb B 0).f0.f4.f0))∧w'.cell? ⟨ak.block,ak.off+5,none⟩=some (.int .i64 ((Qb B 0).f0.f4.f1))∧w'.cell? ⟨ak.block,ak.off+6,none⟩=some (.int .i64 ((Qb B 0).f0.f4.f2))∧w'.cell? ⟨ak.block,ak.off+7,none⟩=some (.int .i64 ((Qb B 0).f1))∧w'.cell? ⟨ak.block,ak.off+8,none⟩=some (.bool ((Qb B 0).f2))∧w'.cell? ⟨ak.block,ak.off+9,none⟩=some (.bool ((Qb B 0).f3))) (ds:=[]) #[false,false,false,false,false,false,false,false,false,false,false,false] kr rfl rfl ⟨(Qa O.out 0).trans rfl,(Qa O.out 1).trans rfl,(Qa O.out 2).trans rfl,(Qa O.out 3).trans rfl,(Qa O.out 4).trans rfl,(Qa O.out 5).trans rfl,(Qa O.out 6).trans rfl,(Qa O.out 7).trans rfl,(Qa O.out 8).trans rfl,(Qa O.out 9).trans rfl,(Qa L.out 0).trans rfl,(Qa L.out 1).trans rfl,(Qa L.out 2).trans rfl,dm,dn,dp,b6,b7,b8,b9,ba,bb,bc⟩ (fun hHeld=>?_);refine Q8 newellaw21_awake.Nf newellaw21_awake.Wv (fun HT_ HW_=>?_)
             generalize h7.drew=ka at γ ν O L σ HB dm dn dp b6 b7 b8 b9 ba bb bc hHeld ⊢
             refine qP 1 (some 24) (bN 12 2) HT_ ?_
             refine qP 2 (some 25) (bN 12 6) HT_ ?_
             refine qP 4 (some 27) (bN 12 22) HT_ ?_
             refine qT 0 (some 23) (bN 12 23) HT_ HW_ hHeld ?_
             refine qT 3 (some 26) (bN 12 31) HT_ HW_ hHeld ?_
             refine qT 5 (some 28) (bN 12 63) HT_ HW_ hHeld ?_
             refine Zg (i:=6) (N:=some 29) (bN 12 127) rfl rfl (Q4 HT_.out kr) (by decide) (fun K hK=>?_)
             refine Zf Try.func10 kr rfl #[.agg #[.int .i64 Y,.int .i64 Z,.int .i64 aj,.int .i64 ε,.int .i64 ζ,.int .i64 η,.int .i64 θ,.int .i64 ι,.int .i64 μ,.int .i64 ξ],.agg #[.int .i64 ((Qb B 0).f0.f0),.int .i64 ((Qb B 0).f0.f1),.int .i64 ((Qb B 0).f0.f2),.int .i64 ((Qb B 0).f0.f3),.int .i64 ((Qb B 0).f0.f4.f0),.int .i64 ((Qb B 0).f0.f4.f1),.int .i64 ((Qb B 0).f0.f4.f2),.int .i64 ((Qb B 0).f1),.bool ((Qb B 0).f2),.bool ((Qb B 0).f3)],.agg #[.slice none 0 0,.slice none 0 0,.slice none 0 0],.agg #[.int .i64 2,.int .i64 1,.int .i64 (-1)]] (by rfl) rfl rfl qM ?_
             refine(group_Cost.calls k Y Z aj ε ζ η θ ι μ ξ ((Qb B 0).f0.f0) ((Qb B 0).f0.f1) ((Qb B 0).f0.f2) ((Qb B 0).f0.f3) ((Qb B 0).f0.f4.f0) ((Qb B 0).f0.f4.f1) ((Qb B 0).f0.f4.f2) ((Qb B 0).f1) ((Qb B 0).f2) ((Qb B 0).f3) _ _ ([]:List Int) _ _ ([]:List Int) _ _ ([]:List Int) 2 1 (-1) bv cu _ ?side1 ?side2 ?side3 ?side4 ?side5 ?side6 A3.out).mono ?_
             (case side1=>exact Kd.Jd _ _)
             (case side2=>exact Nat.le_refl _)
             (case side3=>exact Kd.Jd _ _)
             (case side4=>exact Nat.le_refl _)
             (case side5=>exact Kd.Jd _ _)
             (case side6=>exact Nat.le_refl _)
             rintro e kb ⟨rfl,hb⟩
             have ck:=(hb.cell (World.block_lt_of_cell? _ _ (hHeld.2.2.2.2.2.2.2.2.2.2.2.2.2.1))).trans (hHeld.2.2.2.2.2.2.2.2.2.2.2.2.2.1)
             have ct:=(hb.cell (World.block_lt_of_cell? _ _ (hHeld.2.2.2.2.2.2.2.2.2.2.2.2.2.2.1))).trans (hHeld.2.2.2.2.2.2.2.2.2.2.2.2.2.2.1)
             have cv:=(hb.cell (World.block_lt_of_cell? _ _ (hHeld.2.2.2.2.2.2.2.2.2.2.2.2.2.2.2.1))).trans (hHeld.2.2.2.2.2.2.2.2.2.2.2.2.2.2.2.1)
             have cw:=(hb.cell (World.block_lt_of_cell? _ _ (hHeld.2.2.2.2.2.2.2.2.2.2.2.2.2.2.2.2.1))).trans (hHeld.2.2.2.2.2.2.2.2.2.2.2.2.2.2.2.2.1)
             have cy:=(hb.cell (World.block_lt_of_cell? _ _ (hHeld.2.2.2.2.2.2.2.2.2.2.2.2.2.2.2.2.2.1))).trans (hHeld.2.2.2.2.2.2.2.2.2.2.2.2.2.2.2.2.2.1)
             have cz:=(hb.cell (World.block_lt_of_cell? _ _ (hHeld.2.2.2.2.2.2.2.2.2.2.2.2.2.2.2.2.2.2.1))).trans (hHeld.2.2.2.2.2.2.2.2.2.2.2.2.2.2.2.2.2.2.1)
             have df:=(hb.cell (World.block_lt_of_cell? _ _ (hHeld.2.2.2.2.2.2.2.2.2.2.2.2.2.2.2.2.2.2.2.1))).trans (hHeld.2.2.2.2.2.2.2.2.2.2.2.2.2.2.2.2.2.2.2.1)
             have di:=(hb.cell (World.block_lt_of_cell? _ _ (hHeld.2.2.2.2.2.2.2.2.2.2.2.2.2.2.2.2.2.2.2.2.1))).trans (hHeld.2.2.2.2.2.2.2.2.2.2.2.2.2.2.2.2.2.2.2.2.1)
             have dj:=(hb.cell (World.block_lt_of_cell? _ _ (hHeld.2.2.2.2.2.2.2.2.2.2.2.2.2.2.2.2.2.2.2.2.2.1))).trans (hHeld.2.2.2.2.2.2.2.2.2.2.2.2.2.2.2.2.2.2.2.2.2.1)
             have dk:=(hb.cell (World.block_lt_of_cell? _ _ (hHeld.2.2.2.2.2.2.2.2.2.2.2.2.2.2.2.2.2.2.2.2.2.2))).trans (hHeld.2.2.2.2.2.2.2.2.2.2.2.2.2.2.2.2.2.2.2.2.2.2)
             refine⟨_,rfl, ?_⟩
             replace γ:=sRb γ hb
             replace ν :=sRb ν hb
             replace O:=sBk O hb
             replace L:=sBk L hb
             replace σ:=sBk σ hb
             replace HB:=sHb hb
             (try clear hb)
             (try clear a4)
             (try clear hk)
             (try clear hi)
             refine hK.out _ _ ⟨qc O,qc O,qc O,qc O,qc O,qc O,qc O,qc O,qc O,qc O,qc L,qc L,qc L,ck,ct,cv,cw,cy,cz,df,di,dj,dk⟩ (fun hHeld=>?_)
             clear hK K
             refine qN (some 29) ?_
             refine qP 7 (some 22) (bN 12 255) HT_ ?_
             refine qP 8 (some 30) (bN 12 511) HT_ ?_
             refine qP 9 (some 31) (bN 12 1023) HT_ ?_
             refine qP 10 (some 5) (bN 12 2047) HT_ ?_
             refine qP 11 (some 6) (bN 12 4095) HT_ ?_
             refine Z2 (Zh HT_.out kr) ?_
             try go_wp2
             replace γ:=Aside0.mk (Kd.Q2 γ.out)
             replace ν :=Aside0.mk (Kd.Q2 ν.out)
             replace O:=Aside0.mk (Qf O.out)
             replace L:=Aside0.mk (Qf L.out)
             replace σ:=Aside0.mk (Qf σ.out)
             replace HB:=Aside0.mk (Qi HB.out)
             have ew:0≤(1:Int):=(by omega)
             have fb:1<(B.length:Int):=of_decide_eq_true (by assumption)
             obtain⟨g4,gj,bd,bg,bh,bi,bj,bp,bq,br,bs,bu⟩:=Gq (Kd.Qz γ.out).2.2 1 ew fb
             obtain rfl:ak=g4:=(by injection gj)
             (try simp only[show(1:Int).toNat=1 from rfl,Nat.reduceMul,Nat.reduceEqDiff,Go.Addr.add,↓reduceIte] at bd)
             (try simp only[show(1:Int).toNat=1 from rfl,Nat.reduceMul,Nat.reduceEqDiff,Go.Addr.add,↓reduceIte] at bg)
             (try simp only[show(1:Int).toNat=1 from rfl,Nat.reduceMul,Nat.reduceEqDiff,Go.Addr.add,↓reduceIte] at bh)
             (try simp only[show(1:Int).toNat=1 from rfl,Nat.reduceMul,Nat.reduceEqDiff,Go.Addr.add,↓reduceIte] at bi)
             (try simp only[show(1:Int).toNat=1 from rfl,Nat.reduceMul,Nat.reduceEqDiff,Go.Addr.add,↓reduceIte] at bj)
             (try simp only[show(1:Int).toNat=1 from rfl,Nat.reduceMul,Nat.reduceEqDiff,Go.Addr.add,↓reduceIte] at bp)
             (try simp only[show(1:Int).toNat=1 from rfl,Nat.reduceMul,Nat.reduceEqDiff,Go.Addr.add,↓reduceIte] at bq)
             (try simp only[show(1:Int).toNat=1 from rfl,Nat.reduceMul,Nat.reduceEqDiff,Go.Addr.add,↓reduceIte] at br)
             (try simp only[show(1:Int).toNat=1 from rfl,Nat.reduceMul,Nat.reduceEqDiff,Go.Addr.add,↓reduceIte] at bs)
             (try simp only[show(1:Int).toNat=1 from rfl,Nat.reduceMul,Nat.reduceEqDiff,Go.Addr.add,↓reduceIte] at bu)
             have hl:(1<B.length)=True:=eq_true (by omega)
             (try rw[show((1:Int)).toNat=1 from rfl] at bd)
             (try rw[show 1 * 10=10 from rfl] at bd)
             (try rw[show((1:Int)).toNat=1 from rfl] at bg)
             (try rw[show 1 * 10=10 from rfl] at bg)
             (try rw[show((1:Int)).toNat=1 from rfl] at bh)
             (try rw[show 1 * 10=10 from rfl] at bh)
             (try rw[show((1:Int)).toNat=1 from rfl] at bi)
             (try rw[show 1 * 10=10 from rfl] at bi)
             (try rw[show((1:Int)).toNat=1 from rfl] at bj)
             (try rw[show 1 * 10=10 from rfl] at bj)
             (try rw[show((1:Int)).toNat=1 from rfl] at bp)
             (try rw[show 1 * 10=10 from rfl] at bp)
             (try rw[show((1:Int)).toNat=1 from rfl] at bq)
             (try rw[show 1 * 10=10 from rfl] at bq)
             (try rw[show((1:Int)).toNat=1 from rfl] at br)
             (try rw[show 1 * 10=10 from rfl] at br)
             (try rw[show((1:Int)).toNat=1 from rfl] at bs)
             (try rw[show 1 * 10=10 from rfl] at bs)
             (try rw[show((1:Int)).toNat=1 from rfl] at bu)
             (try rw[show 1 * 10=10 from rfl] at bu)
             replace ew:=eq_true ew
             replace fb:=eq_true fb
             refine Zl (n:=12) (S:=fun w'=>w'.cell? ⟨κ,0,none⟩=some (.int .i64 Y)∧w'.cell? ⟨κ,1,none⟩=some (.int .i64 Z)∧w'.cell? ⟨κ,2,none⟩=some (.int .i64 aj)∧w'.cell? ⟨κ,3,none⟩=some (.int .i64 ε)∧w'.cell? ⟨κ,4,none⟩=some (.int .i64 ζ)∧w'.cell? ⟨κ,5,none⟩=some (.int .i64 η)∧w'.cell? ⟨κ,6,none⟩=some (.int .i64 θ)∧w'.cell? ⟨κ,7,none⟩=some (.int .i64 ι)∧w'.cell? ⟨κ,8,none⟩=some (.int .i64 μ)∧w'.cell? ⟨κ,9,none⟩=some (.int .i64 ξ)∧w'.cell? ⟨ab,0,none⟩=some (.int .i64 2)∧w'.cell? ⟨ab,1,none⟩=some (.int .i64 1)∧w'.cell? ⟨ab,2,none⟩=some (.int .i64 (-1))∧w'.cell? ⟨ak.block,ak.off+10,none⟩=some (.int .i64 ((Qb B 1).f0.f0))∧w'.cell? ⟨ak.block,ak.off+10+1,none⟩=some (.int .i64 ((Qb B 1).f0.f1))∧w'.cell? ⟨ak.block,ak.off+10+2,none⟩=some (.int .i64 ((Qb B 1).f0.f2))∧w'.cell? ⟨ak.block,ak.off+10+3,none⟩=some (.int .i64 ((Qb B 1).f0.f3))∧w'.cell? ⟨ak.block,ak.off+10+4,none⟩=some (.int .i64 ((Qb B 1).f0.f4.f0))∧w'.cell? ⟨ak.block,ak.off+10+5,none⟩=some (.int .i64 ((Qb B 1).f0.f4.f1))∧w'.cell? ⟨ak.block,ak.off+10+6,none⟩=some (.int .i64 ((Qb B 1).f0.f4.f2))∧w'.cell? ⟨ak.block,ak.off+10+7,none⟩=some (.int .i64 ((Qb B 1).f1))∧w'.cell? ⟨ak.block,ak.off+10+8,none⟩=some (.bool ((Qb B 1).f2))∧w'.cell? ⟨ak.block,ak.off+10+9,none⟩=some (.bool ((Qb B 1).f3))) (ds:=[]) #[false,false,false,false,false,false,false,false,false,false,false,false] kr rfl rfl ⟨(Qa O.out 0).trans rfl,(Qa O.out 1).trans rfl,(Qa O.out 2).trans rfl,(Qa O.out 3).trans rfl,(Qa O.out 4).trans rfl,(Qa O.out 5).trans rfl,(Qa O.out 6).trans rfl,(Qa O.out 7).trans rfl,(Qa O.out 8).trans rfl,(Qa O.out 9).trans rfl,(Qa L.out 0).trans rfl,(Qa L.out 1).trans rfl,(Qa L.out 2).trans rfl,bd,bg,bh,bi,bj,bp,bq,br,bs,bu⟩ (fun hHeld=>?_);refine Q8 newellaw21_awake.Er newellaw21_awake.Mw (fun HT_ HW_=>?_)
             generalize kb.drew=g5 at γ ν O L σ HB bd bg bh bi bj bp bq br bs bu hHeld ⊢
             refine qP 1 (some 34) (bN 12 2) HT_ ?_
             refine qP 2 (some 35) (bN 12 6) HT_ ?_
             refine qP 4 (some 37) (bN 12 22) HT_ ?_
             refine qT 0 (some 33) (bN 12 23) HT_ HW_ hHeld ?_
             refine qT 3 (some 36) (bN 12 31) HT_ HW_ hHeld ?_
             refine qT 5 (some 38) (bN 12 63) HT_ HW_ hHeld ?_
             refine Zg (i:=6) (N:=some 39) (bN 12 127) rfl rfl (Q4 HT_.out kr) (by decide) (fun K hK=>?_)
             refine Zf Try.func10 kr rfl #[.agg #[.int .i64 Y,.int .i64 Z,.int .i64 aj,.int .i64 ε,.int .i64 ζ,.int .i64 η,.int .i64 θ,.int .i64 ι,.int .i64 μ,.int .i64 ξ],.agg #[.int .i64 ((Qb B 1).f0.f0),.int .i64 ((Qb B 1).f0.f1),.int .i64 ((Qb B 1).f0.f2),.int .i64 ((Qb B 1).f0.f3),.int .i64 ((Qb B 1).f0.f4.f0),.int .i64 ((Qb B 1).f0.f4.f1),.int .i64 ((Qb B 1).f0.f4.f2),.int .i64 ((Qb B 1).f1),.bool ((Qb B 1).f2),.bool ((Qb B 1).f3)],.agg #[.slice none 0 0,.slice none 0 0,.slice none 0 0],.agg #[.int .i64 2,.int .i64 1,.int .i64 (-1)]] (by rfl) rfl rfl qM ?_
             refine(group_Cost.calls k Y Z aj ε ζ η θ ι μ ξ ((Qb B 1).f0.f0) ((Qb B 1).f0.f1) ((Qb B 1).f0.f2) ((Qb B 1).f0.f3) ((Qb B 1).f0.f4.f0) ((Qb B 1).f0.f4.f1) ((Qb B 1).f0.f4.f2) ((Qb B 1).f1) ((Qb B 1).f2) ((Qb B 1).f3) _ _ ([]:List Int) _ _ ([]:List Int) _ _ ([]:List Int) 2 1 (-1) bz ca _ ?side1 ?side2 ?side3 ?side4 ?side5 ?side6 A5.out).mono ?_
             (case side1=>exact Kd.Jd _ _)
             (case side2=>exact Nat.le_refl _)
             (case side3=>exact Kd.Jd _ _)
             (case side4=>exact Nat.le_refl _)
             (case side5=>exact Kd.Jd _ _)
             (case side6=>exact Nat.le_refl _)
             rintro e iv ⟨rfl,hb⟩
             have ck:=(hb.cell (World.block_lt_of_cell? _ _ (hHeld.2.2.2.2.2.2.2.2.2.2.2.2.2.1))).trans (hHeld.2.2.2.2.2.2.2.2.2.2.2.2.2.1)
             have ct:=(hb.cell (World.block_lt_of_cell? _ _ (hHeld.2.2.2.2.2.2.2.2.2.2.2.2.2.2.1))).trans (hHeld.2.2.2.2.2.2.2.2.2.2.2.2.2.2.1)
             have cv:=(hb.cell (World.block_lt_of_cell? _ _ (hHeld.2.2.2.2.2.2.2.2.2.2.2.2.2.2.2.1))).trans (hHeld.2.2.2.2.2.2.2.2.2.2.2.2.2.2.2.1)
             have cw:=(hb.cell (World.block_lt_of_cell? _ _ (hHeld.2.2.2.2.2.2.2.2.2.2.2.2.2.2.2.2.1))).trans (hHeld.2.2.2.2.2.2.2.2.2.2.2.2.2.2.2.2.1)
             have cy:=(hb.cell (World.block_lt_of_cell? _ _ (hHeld.2.2.2.2.2.2.2.2.2.2.2.2.2.2.2.2.2.1))).trans (hHeld.2.2.2.2.2.2.2.2.2.2.2.2.2.2.2.2.2.1)
             have cz:=(hb.cell (World.block_lt_of_cell? _ _ (hHeld.2.2.2.2.2.2.2.2.2.2.2.2.2.2.2.2.2.2.1))).trans (hHeld.2.2.2.2.2.2.2.2.2.2.2.2.2.2.2.2.2.2.1)
             have df:=(hb.cell (World.block_lt_of_cell? _ _ (hHeld.2.2.2.2.2.2.2.2.2.2.2.2.2.2.2.2.2.2.2.1))).trans (hHeld.2.2.2.2.2.2.2.2.2.2.2.2.2.2.2.2.2.2.2.1)
             have di:=(hb.cell (World.block_lt_of_cell? _ _ (hHeld.2.2.2.2.2.2.2.2.2.2.2.2.2.2.2.2.2.2.2.2.1))).trans (hHeld.2.2.2.2.2.2.2.2.2.2.2.2.2.2.2.2.2.2.2.2.1)
             have dj:=(hb.cell (World.block_lt_of_cell? _ _ (hHeld.2.2.2.2.2.2.2.2.2.2.2.2.2.2.2.2.2.2.2.2.2.1))).trans (hHeld.2.2.2.2.2.2.2.2.2.2.2.2.2.2.2.2.2.2.2.2.2.1)
             have dk:=(hb.cell (World.block_lt_of_cell? _ _ (hHeld.2.2.2.2.2.2.2.2.2.2.2.2.2.2.2.2.2.2.2.2.2.2))).trans (hHeld.2.2.2.2.2.2.2.2.2.2.2.2.2.2.2.2.2.2.2.2.2.2)
             refine⟨_,rfl, ?_⟩
             replace γ:=sRb γ hb
             replace ν :=sRb ν hb
             replace O:=sBk O hb
             replace L:=sBk L hb
             replace σ:=sBk σ hb
             replace HB:=sHb hb
             (try clear hb)
             (try clear a4)
             (try clear hk)
             (try clear hi)
             refine hK.out _ _ ⟨qc O,qc O,qc O,qc O,qc O,qc O,qc O,qc O,qc O,qc O,qc L,qc L,qc L,ck,ct,cv,cw,cy,cz,df,di,dj,dk⟩ (fun hHeld=>?_)
             clear hK K
             refine qN (some 39) ?_
             refine qP 7 (some 32) (bN 12 255) HT_ ?_
             refine qP 8 (some 40) (bN 12 511) HT_ ?_
             refine qP 9 (some 41) (bN 12 1023) HT_ ?_
             refine qP 10 (some 7) (bN 12 2047) HT_ ?_
             refine qP 11 (some 8) (bN 12 4095) HT_ ?_
             refine Z2 (Zh HT_.out kr) ?_
             obtain⟨fa,fc,ft,gl,gm,gn,gp,gr,gs,gt,fw,fx,fy,gu,gv,gw,gx,gy,h4,h5⟩:=Q5 O.out
             obtain⟨fi,fj,fk,fl⟩:=qD2 σ.out
             obtain⟨dz,i6,i7,i9,ia,ib⟩:=qD3 L.out
             try go_wp2_with (first|((with_reducible refine Qd (f:=14) rfl ?_);refine Qn (some 47) rfl rfl Try.func14 kr rfl #[.agg #[.int .i64 Y,.int .i64 Z,.int .i64 aj,.int .i64 ε,.int .i64 ζ,.int .i64 η,.int .i64 θ,.int .i64 ι,.int .i64 μ,.int .i64 ξ],.slice (some ak) B.length ev,.int .i64 0,.agg #[.slice bk δ.length bf,.slice none 0 0],.agg #[.int .i64 2,.int .i64 1,.int .i64 (-1)]] rfl qM ?_;(refine(group_Pick.calls k Y Z aj ε ζ η θ ι μ ξ _ _ B 0 _ _ δ _ _ ([]:List (S86)) 2 1 (-1) ce cf _ ?side1 ?side2 ?side3 ?side4 ?side5 ?side6 A6.out).mono ?_);(case side1=>repeat(first|exact(Kd.Qz γ.out).2.2|(with_reducible refine Kd.Xm ?_ _)|(with_reducible refine Kd.Xl ?_ _)|(with_reducible refine Kd.Xz ?_)));(case side2=>exact(Kd.Qz γ.out).2.1);(case side3=>repeat(first|exact(Kd.Qz ν.out).2.2|(with_reducible refine Kd.Xm ?_ _)|(with_reducible refine Kd.Xl ?_ _)|(with_reducible refine Kd.Xz ?_)));(case side4=>exact(Kd.Qz ν.out).2.1);(case side5=>exact Kd.Jd _ _);(case side6=>exact Nat.le_refl _);rintro e l3 ⟨rfl,hb⟩;refine⟨_,rfl, ?_⟩;replace γ:=sRb γ hb;replace ν :=sRb ν hb;replace O:=sBk O hb;replace L:=sBk L hb;replace σ:=sBk σ hb;replace HB:=sHb hb;(try clear hb);(try clear a4);(try clear hk);(try clear hi);obtain⟨d8,fq,h9,kh,ki,kj,kk,cn,co,dq,gz,h0,kl,km,kn,ko,kp,dr,dt,io⟩:=Q5 O.out;obtain⟨jn,jo,jp,jq⟩:=qD2 σ.out)|((with_reducible refine Qd (f:=21) rfl ?_);refine Qn (some 54) rfl rfl Try.func21 kr rfl #[.agg #[.int .i64 Y,.int .i64 Z,.int .i64 aj,.int .i64 ε,.int .i64 ζ,.int .i64 η,.int .i64 θ,.int .i64 ι,.int .i64 μ,.int .i64 ξ],.slice (some ak) B.length ev,.int .i64 0,.agg #[.slice bk δ.length bf,.slice none 0 0]] rfl qM ?_;(refine(group_Spread.calls k Y Z aj ε ζ η θ ι μ ξ _ _ B 0 _ _ δ _ _ ([]:List (S86)) τ ch ci _ ?side1 ?side2 ?side3 ?side4 ?side5 ?side6 A7.out).mono ?_);(case side1=>repeat(first|exact(Kd.Qz γ.out).2.2|(with_reducible refine Kd.Xm ?_ _)|(with_reducible refine Kd.Xl ?_ _)|(with_reducible refine Kd.Xz ?_)));(case side2=>exact(Kd.Qz γ.out).2.1);(case side3=>repeat(first|exact(Kd.Qz ν.out).2.2|(with_reducible refine Kd.Xm ?_ _)|(with_reducible refine Kd.Xl ?_ _)|(with_reducible refine Kd.Xz ?_)));(case side4=>exact(Kd.Qz ν.out).2.1);(case side5=>exact Kd.Jd _ _);(case side6=>exact Nat.le_refl _);rintro e i5 ⟨i1,i2,rfl,ai,b4,hb⟩;refine⟨_,rfl, ?_⟩;have b0:=Aside0.mk (Kd.Zc (Kd.J4 (Kd.E5 ai (Kd.M1 (kra ν))) (g:=ab) (o:=.cells #[.int .i64 2,.int .i64 1,.int .i64 (-1)] 36 (0,0)) (bka L)) (Qu bel));have bw:=Aside0.mk (Kd.Zc b4 (Qu bel));replace γ:=sRb γ hb;replace ν :=Aside0.mk (Kd.M2 (kra ν) (Kd.M3 ai) hb);replace O:=sBk O hb;replace L:=sBk L hb;replace σ:=sBk σ hb;replace HB:=sHb hb;(try clear hb);(try clear a4);(try clear hk);(try clear hi);(try clear ai);(try clear b4))|((with_reducible refine Qe (N:=11) rfl ?_);(try(refine Zo (by rfl) ?_;dsimp only));refine qE 11 #[.slice none 0 0,.slice none 0 0] 50 ?_;intro b1 hg n1 hbox hb;have an:=Aside0.mk hbox;have ho:=sGe hg;have hu:=sGe hg;have ef:=sNl O hg;have eh:=sNg O hg;have ei:=sNl L hg;have er:=sNg L hg;have et:=sNl σ hg;have eu:=sNg σ hg;replace γ:=sRb γ hb;replace ν :=sRb ν hb;replace b0:=sRb b0 hb;replace bw:=sRb bw hb;replace O:=sBk O hb;replace L:=sBk L hb;replace σ:=sBk σ hb;replace HB:=sHb hb;clear hb hbox hg;obtain⟨i3,av,gk⟩:=Kd.Q9 b0.out;subst gk;have g6:=eh.out;have g7:=ef.out;have mz:=er.out;have n0:=ei.out;have jj:=eu.out;have jk:=et.out;obtain⟨d5,d6,d7,ez⟩:=qD2 an.out;obtain⟨du,dw,gq⟩:=Kd.Q9 bw.out;subst gq;have fe:0≤(0:Int):=(by omega);have ff:0<(τ.length:Int):=of_decide_eq_true (by assumption);obtain⟨a9,h6,ao,ap,au⟩:=Xy (Kd.Qz b0.out).2.2 0 fe ff;cases h6;have hx:(0 < τ.length)=True:=eq_true (by omega);(try rw[show((0:Int)).toNat=0 from rfl] at ao);(try rw[show 0 * 3=0 from rfl] at ao);(try rw[Addr.add_zero'] at ao);(try rw[show((0:Int)).toNat=0 from rfl] at ap);(try rw[show 0 * 3=0 from rfl] at ap);(try rw[Addr.add_zero'] at ap);(try rw[show((0:Int)).toNat=0 from rfl] at au);(try rw[show 0 * 3=0 from rfl] at au);(try rw[Addr.add_zero'] at au);have a1:a9.block≠b1:=Kd.Vm (Kd.Xc b0.out an.out (by decide));have a5:a9.block≠b1:=Kd.Vm (Kd.Xc b0.out an.out (by decide));replace ao:=(cell_far (p:=⟨b1,0,none⟩) (by first|(rw[add_block];exact a1)|(show(Addr.add _ _).block≠_;rw[add_block];exact a1)|exact a1) (.slice (some a9) τ.length av)).trans ao;replace ap:=(cell_far (p:=⟨b1,0,none⟩) (by first|(rw[add_block];exact a1)|(show(Addr.add _ _).block≠_;rw[add_block];exact a1)|exact a1) (.slice (some a9) τ.length av)).trans ap;replace au:=(cell_far (p:=⟨b1,0,none⟩) (by first|(rw[add_block];exact a1)|(show(Addr.add _ _).block≠_;rw[add_block];exact a1)|exact a1) (.slice (some a9) τ.length av)).trans au;replace ao:=(cell_far (p:=⟨b1,1,none⟩) (by first|(rw[add_block];exact a5)|(show(Addr.add _ _).block≠_;rw[add_block];exact a5)|exact a5) (.slice du ch.length dw)).trans ao;replace ap:=(cell_far (p:=⟨b1,1,none⟩) (by first|(rw[add_block];exact a5)|(show(Addr.add _ _).block≠_;rw[add_block];exact a5)|exact a5) (.slice du ch.length dw)).trans ap;replace au:=(cell_far (p:=⟨b1,1,none⟩) (by first|(rw[add_block];exact a5)|(show(Addr.add _ _).block≠_;rw[add_block];exact a5)|exact a5) (.slice du ch.length dw)).trans au;clear a1;clear a5;replace fe:=eq_true fe;replace ff:=eq_true ff;obtain⟨jd,je,jf,jg,jh,ji,k1,jx,jy,jz,k2,k3,k4,k5,k6,k7,k8,k0,kz,l2⟩:=Q5 O.out;obtain⟨g9,ga,gb,ge⟩:=qD2 σ.out)|(go_at_call 17;(refine(group_Check.calls k Y Z aj ε ζ η θ ι μ ξ _ _ B _ _ δ _ _ ([]:List (S86)) a0 _ ?side1 ?side2 ?side3 ?side4 ?side5 ?side6 cg.out).mono ?_);(case side1=>refine(Kd.Qz (e:=31) (base:=w.heap.size) (ok:=fun k_=>True) (n:=B.length) (c:=ev) ?_).2.2;exact(by(with_reducible repeat first|apply Kd.Qx|apply Kd.Qw|apply Kd.Q2);exact(Kd.Q0 (Kd.Qv (Kd.Qv (Kd.Q7 γ.out an.out (by decide)) (fun _ hk=>hk.2) (.slice (some a9) τ.length av)) (fun _ hk=>hk.2) _) (fun _ h_=>h_.1))));(case side2=>exact(Kd.Qz γ.out).2.1);(case side3=>refine(Kd.Qz (e:=36) (base:=w.heap.size) (ok:=fun k_=>(k_≠ab∧some k_≠(.slice (some a9) τ.length av:Value).ownBlock)) (n:= δ.length) (c:=bf) ?_).2.2;exact(by(with_reducible repeat first|apply Kd.Qx|apply Kd.Qw|apply Kd.Q2);exact(Kd.Q0 (Kd.Qv (Kd.Qv (Kd.Q7 ν.out an.out (by decide)) (fun _ hk=>hk.2) (.slice (some a9) τ.length av)) (fun _ hk=>hk.2) _) (fun _ h_=>h_.1))));(case side4=>exact(Kd.Qz ν.out).2.1);(case side5=>exact Kd.Jd _ _);(case side6=>exact Nat.le_refl _);rintro e dl ⟨rfl,hb⟩;have ρ:=Aside0.mk (Kd.Z4 (by(with_reducible repeat first|apply Kd.Qx|apply Kd.Qw|apply Kd.Q2);exact(Kd.Q0 (Kd.Qv (Kd.Qv (Kd.Q7 γ.out an.out (by decide)) (fun _ hk=>hk.2) (.slice (some a9) τ.length av)) (fun _ hk=>hk.2) _) (fun _ h_=>h_.1))) hb);have χ :=Aside0.mk (Kd.Z4 (by(with_reducible repeat first|apply Kd.Qx|apply Kd.Qw|apply Kd.Q2);exact(Kd.Q0 (Kd.Qv (Kd.Qv (Kd.Q7 ν.out an.out (by decide)) (fun _ hk=>hk.2) (.slice (some a9) τ.length av)) (fun _ hk=>hk.2) _) (fun _ h_=>h_.1))) hb);have a3:=Aside0.mk (Kd.Z4 (by(with_reducible repeat first|apply Kd.Qx|apply Kd.Qw|apply Kd.Q2);exact(Kd.Q0 (Kd.Qv (Kd.Qv (Kd.Q7 b0.out an.out (by decide)) (fun _ hk=>hk.2) (.slice (some a9) τ.length av)) (fun _ hk=>hk.2) _) (fun _ h_=>h_.1))) hb);have a8:=Aside0.mk (Kd.Z4 (by(with_reducible repeat first|apply Kd.Qx|apply Kd.Qw|apply Kd.Q2);exact(Kd.Q0 (Kd.Qv (Kd.Qv (Kd.Q7 bw.out an.out (by decide)) (fun _ hk=>hk.2) (.slice (some a9) τ.length av)) (fun _ hk=>hk.2) _) (fun _ h_=>h_.1))) hb);have ah:=Aside0.mk (Qt (g:= κ) (o:=.cells #[.int .i64 Y,.int .i64 Z,.int .i64 aj,.int .i64 ε,.int .i64 ζ,.int .i64 η,.int .i64 θ,.int .i64 ι,.int .i64 μ,.int .i64 ξ] 25 (0,0)) (bka O) hb);have ar:=Aside0.mk (Qt (g:=ab) (o:=.cells #[.int .i64 2,.int .i64 1,.int .i64 (-1)] 36 (0,0)) (bka L) hb);have b2:=Aside0.mk (Qt (g:= ω) (o:=.cells #[.slice bk δ.length bf,.slice none 0 0] 50 (0,0)) (bka σ) hb);have bl:=Aside0.mk (Qt (g:=b1) (o:=.cells #[.slice (some a9) τ.length av,.slice du ch.length dw] 50 (0,0)) (by(with_reducible repeat first|refine Qk ?_ _|refine Qf ?_|refine Ql ?_ _);refine Qm (cs:=#[.slice (some a9) τ.length av,.slice none 0 0]) ?_ 1 _ rfl;(with_reducible repeat first|refine Qk ?_ _|refine Qf ?_|refine Ql ?_ _);refine Qm (cs:=#[.slice none 0 0,.slice none 0 0]) ?_ 0 _ rfl;(with_reducible repeat first|refine Qk ?_ _|refine Qf ?_|refine Ql ?_ _);exact an.out) hb);have cm:=Aside0.mk (Qy bel hb);clear γ;clear ν;clear b0;clear bw;clear O;clear L;clear σ;clear an;clear HB;have γ:=ρ;have ν := χ;have b0:=a3;have bw:=a8;have O:=ah;have L:=ar;have σ:=b2;have an:=bl;have HB:=cm;clear ρ χ a3 a8 ah ar b2 bl cm;(try clear hb);(try clear a4);(try clear hk);(try clear hi)))
             go_ret
             exact⟨rfl,HB.out⟩
            ·rw[if_neg af] at H
             exact absurd H (by simp)
           ·rw[if_neg a6] at H
            exact absurd H (by simp)
          ·rw[if_neg ac] at H
           exact absurd H (by simp)
         ·rw[if_neg ag] at H
          exact absurd H (by simp)
        ·rw[if_neg a2] at H
         exact absurd H (by simp)
       ·rw[if_neg ae] at H
        exact absurd H (by simp)
      ·rw[if_neg al] at H
       exact absurd H (by simp)
     ·rw[if_neg c10] at H
      exact absurd H (by simp)
    ·rw[if_neg c9] at H
     exact absurd H (by simp)
   ·rw[if_neg c8] at H
    exact absurd H (by simp)
  ·rw[if_neg c4] at H
   exact absurd H (by simp)
 ·rw[if_neg c2] at H
  exact absurd H (by simp)
end Go.Proofs.Ytmfffemidlhcpaa.C
namespace Go.Proofs.Ytmfffemidlhcpaa.GrpPure
open Go.RowKit Go.Proofs.YtmfffemidlhcpaaW.PrintWords Go.Proofs.YtmfffemidlhcpaaW.PrintLast Go.Proofs.YtmfffemidlhcpaaW.PrintMore Go.Proofs.Ytmfffemidlhcpaa.C Go.Proofs.Ytmfffemidlhcpaa.DoorPure
set_option linter.unusedVariables false
set_option linter.unusedSimpArgs false
open Go.Proofs.Ytmfffemidlhcpaa.Call (i64 okB Us)
theorem Ew {F C:Int} (hF:2≤F∧F≤64) (hC:1≤C∧C≤8):okB F C [] []=true:=by
  rw[Call.Ge]
  exact⟨hF,hC,⟨by simp,by simp⟩,⟨by simp,by simp⟩⟩
theorem N5 {F C:Int} (hF:2≤F∧F≤64) (hC:1≤C∧C≤8) (B J O:Int) (hd:i64 J) (k:Nat) (hk:0<k):group_hall.f k F C B J O=some (Xe F C B J O):=by
  obtain⟨k,rfl⟩:∃ m,k=m+1:=⟨k-1,by omega⟩
  unfold group_hall.f
  rw[Call.N6 k F C [] [] B J O (by simp) (by simp) (by unfold Call.i64;omega) hd]
  unfold Us
  rw[if_pos (Ew hF hC)]
  cases Xe F C B J O <;> rfl
theorem Wr {F C:Int} (hF:2≤F∧F≤64) (hC:1≤C∧C≤8) {B J O:Int} (h:Xe F C B J O=true):0≤B∧B<F:=by
  have:=(Call.Ur hF hC).1 h
  omega
def G4 (F:Int) (a b c:List Int):Bool:=ColPure.X2 F (-1) a&&(ColPure.X2 F (-1) b&&ColPure.X2 F (-1) c)
def Up (g0:Int) (p:Prop) [Decidable p] (a b c:List Int) (B J O:Int):Bool:=decide p&&(G4 g0 a b c&&Xe g0 8 B J O)
theorem Ej {g0 g1 g2 Y g4 g5 Z g7 X g9 c0 c1 c2 c3 c4 c5 c6 l7:Int} (B J O:Int) (hd:i64 J) (l8 l9:Bool) (a b c:List Int) (hv:ColPure.Few a b c) (f:Nat) (hf:1500≤f):
    group_Cost.f f g0 g1 g2 Y g4 g5 Z g7 X g9 c0 c1 c2 c3 c4 c5 c6 l7 l8 l9 a b c B J O=some (if Up g0 (Kb g0 g1 g2 Y g4 g5 Z g7 X g9 c0 c1 c2 c3 c4 c5 c6 l7) a b c B J O=true then (Ws g0 g1 g2 Y Z X g9 c0 c1 c2 c3 c4 c5 c6 l7 (Vf a b c) B J,0) else (0,210)):=by
  unfold group_Cost.f
  rw[Nx _ _ _ _ _ _ _ _ _ _ _ _ _ _ _ _ _ _ _ _ f (by omega),ColPure.Ym hv g0 0 0 false false f hf]
  simp only[Option.bind_some]
  by_cases h1:Kb g0 g1 g2 Y g4 g5 Z g7 X g9 c0 c1 c2 c3 c4 c5 c6 l7
  · have hF:2≤g0∧g0≤64:=h1.1.1.2.1
    have em:ColPure.G2 g0 0 0 a b c=G4 g0 a b c:=by
      unfold ColPure.G2 G4
      rw[decide_eq_true (by omega),Bool.and_true,Bool.and_assoc]
    rw[decide_eq_true h1,if_pos rfl,em,N5 hF (by omega) B J O hd f (by omega)]
    unfold Up
    rw[decide_eq_true h1,Bool.true_and]
    simp only[Option.bind_some]
    cases L:G4 g0 a b c
    · rfl
    · cases h3:Xe g0 8 B J O
      · rfl
      · rw[N9 J O l8 l9 a b c f (by omega) h1 (Wr hF (by omega) h3)]
        rfl
  · unfold Up
    rw[decide_eq_false h1,if_neg (by decide),Bool.false_and,if_neg (by decide)]
theorem M9 {g0 g1 g2 Y g4 g5 Z g7 X g9 c0 c1 c2 c3 c4 c5 c6 l7:Int} (B J O:Int) (l8 l9:Bool) (a b c:List Int) (hv:ColPure.Few a b c) (f:Nat) (hf:1500≤f):
    newelref21_Costs.f f g0 g1 g2 Y g4 g5 Z g7 X g9 c0 c1 c2 c3 c4 c5 c6 l7 l8 l9 a b c B J O=some (Up g0 (Kb g0 g1 g2 Y g4 g5 Z g7 X g9 c0 c1 c2 c3 c4 c5 c6 l7) a b c B J O):=by
  unfold newelref21_Costs.f
  rw[Mc _ _ _ _ _ _ _ _ _ _ _ _ _ _ _ _ _ _ _ _ f (by omega),show newelref20_View.f f g0 a b c=some (G4 g0 a b c) from ColPure.Na hv g0 f hf]
  simp only[Option.bind_some]
  by_cases h1:Kb g0 g1 g2 Y g4 g5 Z g7 X g9 c0 c1 c2 c3 c4 c5 c6 l7
  · have hF:2≤g0∧g0≤64:=h1.1.1.2.1
    unfold Up
    rw[decide_eq_true h1,Call.Uk f B J O hF (by omega) (by omega),Bool.true_and]
    simp only[Option.bind_some,if_true]
    cases L:G4 g0 a b c <;> rfl
  · obtain⟨r,hr⟩:∃ r,newelref19_Hall.f f g0 8 B J O=some r:=by
      obtain⟨f,rfl⟩:∃ m,f=m+1:=⟨f-1,by omega⟩
      unfold newelref19_Hall.f
      simp only[newelref19_Hall.j0]
      repeat' split
      all_goals exact⟨_,rfl⟩
    unfold Up
    rw[hr,decide_eq_false h1,Bool.false_and]
    rfl
theorem My:newellaw21_awake.f 60=some true:=by kernel_rfl
theorem Uy (k:Nat) (hk:60≤k):newellaw21_awake.f k=some true:=L0 (g:=newellaw21_awake.f) newellaw21_awake.mono hk My
end Go.Proofs.Ytmfffemidlhcpaa.GrpPure
namespace Go.Proofs.Ytmfffemidlhcpaa.C
open Go.RowKit Go.Proofs.YtmfffemidlhcpaaW.PrintWords Go.Proofs.YtmfffemidlhcpaaW.PrintLast Go.Proofs.YtmfffemidlhcpaaW.PrintMore
attribute [local go_sem] Zz Zx Z9 Z8 Zq Zp Zy Zw
set_option linter.unusedVariables false
set_option linter.unusedSimpArgs false
mutual
def newellaw21_GroupCosts.j0:Nat→Bool→Int→Int→Int→Int→Int→Int→Int→Int→Int→Int→Int→Int→Int→Int→Int→Int→Int→Int→Bool→Bool→List Int→List Int→List Int→Int→Int→Int→Option (Bool)
 |0,_,_,_,_,_,_,_,_,_,_,_,_,_,_,_,_,_,_,_,_,_,_,_,_,_,_,_=>none
 |k+1,a1,B,J,L,O,X,Y,Z,γ,δ,ε,ζ,η,θ,ι,κ,μ,ν,ξ,ρ,σ,τ,φ,χ,ψ,ω,a0=>if a1=true then ((newellaw21_awake.f k).bind fun d9=>(some d9)) else ((group_Cost.f k B J L O X Y Z γ δ ε ζ η θ ι κ μ ν ξ ρ σ τ φ χ ψ ω a0).bind fun bb=>((newelref21_Costs.f k B J L O X Y Z γ δ ε ζ η θ ι κ μ ν ξ ρ σ τ φ χ ψ ω a0).bind fun bf=>(if bf=true then ((newellaw21_awake.f k).bind fun b9=>(if b9=true then (if bb.2=0 then ((newelref21_Cost.f k B J L O X Y Z γ δ ε ζ η θ ι κ μ ν ξ ρ σ τ φ χ ψ ω a0).bind fun av=>(newellaw21_GroupCosts.j2 k (bb.1==av))) else (none)) else (none))) else ((newellaw21_awake.f k).bind fun ba=>(if ba=true then (if bb.2=210 then (newellaw21_GroupCosts.j1 k (bb.1==0)) else (none)) else (none))))))
def newellaw21_GroupCosts.j2:Nat→Bool→Option (Bool)
 |0,_=>none
 |k+1,Z=>some Z
def newellaw21_GroupCosts.j1:Nat→Bool→Option (Bool)
 |0,_=>none
 |k+1,Z=>some Z
end
def newellaw21_GroupCosts.f (k:Nat) (B:Int) (J:Int) (L:Int) (Y:Int) (Z:Int) (ε :Int) (γ:Int) (θ :Int) (ζ :Int) (η :Int) (O:Int) (X:Int) (δ :Int) (κ :Int) (ι :Int) (μ :Int) (ν :Int) (ξ :Int) (ψ :Bool) (ω :Bool) (σ:List Int) (τ :List Int) (φ :List Int) (am:Int) (an:Int) (ar:Int):Option (Bool):=if (σ.length:Int)>80 then (newellaw21_GroupCosts.j0 k true B J L Y Z ε γ θ ζ η O X δ κ ι μ ν ξ ψ ω σ τ φ am an ar) else (if (τ.length:Int)>80 then (newellaw21_GroupCosts.j0 k true B J L Y Z ε γ θ ζ η O X δ κ ι μ ν ξ ψ ω σ τ φ am an ar) else (newellaw21_GroupCosts.j0 k (decide ((φ.length:Int)>80)) B J L Y Z ε γ θ ζ η O X δ κ ι μ ν ξ ψ ω σ τ φ am an ar))
set_option maxHeartbeats 8000000 in
set_option maxRecDepth 100000 in
theorem newellaw21_GroupCosts.calls (k:Nat) (B:Int) (J:Int) (L:Int) (Y:Int) (Z:Int) (ε :Int) (γ:Int) (θ :Int) (ζ :Int) (η :Int) (O:Int) (X:Int) (δ :Int) (κ :Int) (ι :Int) (μ :Int) (ν :Int) (ξ :Int) (ψ :Bool) (ω :Bool) (a9:Option Addr) (aa:Nat) (σ:List Int) (ab:Option Addr) (ac:Nat) (τ :List Int) (ai:Option Addr) (aj:Nat) (φ :List Int) (am:Int) (an:Int) (ar:Int) (r:Bool) (w:World) (cb:Kd.C (Kd.int .i64) w a9 σ.length σ) (cp:σ.length≤aa) (cq:Kd.C (Kd.int .i64) w ab τ.length τ) (cr: τ.length≤ac) (e3:Kd.C (Kd.int .i64) w ai φ.length φ) (e4: φ.length≤aj) (h:newellaw21_GroupCosts.f k B J L Y Z ε γ θ ζ η O X δ κ ι μ ν ξ ψ ω σ τ φ am an ar=some r):
  Calls Try.prog 3 #[.agg #[.int .i64 B,.int .i64 J,.int .i64 L,.int .i64 Y,.int .i64 Z,.int .i64 ε,.int .i64 γ,.int .i64 θ,.int .i64 ζ,.int .i64 η],.agg #[.int .i64 O,.int .i64 X,.int .i64 δ,.int .i64 κ,.int .i64 ι,.int .i64 μ,.int .i64 ν,.int .i64 ξ,.bool ψ,.bool ω],.agg #[.slice a9 σ.length aa,.slice ab τ.length ac,.slice ai φ.length aj,.int .i64 am,.int .i64 an,.int .i64 ar]] w fun e w'=>e = .returned (.bool r)∧Below w.heap.size w w':=by
 have cx:=Try.underlying25
 have i4:=Try.underlying31
 have om:=Try.underlying38
 have f7:=Try.underlying34
 have dh:=Try.underlying36
 have b8:=Aside0.mk cb
 have bn:=Aside0.mk cp
 clear cb cp
 have bw:=Aside0.mk cq
 have bz:=Aside0.mk cr
 clear cq cr
 have cy:=Aside0.mk e3
 have cz:=Aside0.mk e4
 clear e3 e4
 have HB:=Aside0.mk (Below.refl w.heap.size w)
 have H:(if (σ.length:Int)>80 then (newellaw21_GroupCosts.j0 k true B J L Y Z ε γ θ ζ η O X δ κ ι μ ν ξ ψ ω σ τ φ am an ar) else (if (τ.length:Int)>80 then (newellaw21_GroupCosts.j0 k true B J L Y Z ε γ θ ζ η O X δ κ ι μ ν ξ ψ ω σ τ φ am an ar) else (newellaw21_GroupCosts.j0 k (decide ((φ.length:Int)>80)) B J L Y Z ε γ θ ζ η O X δ κ ι μ ν ξ ψ ω σ τ φ am an ar)))=some r:=h
 clear h
 have ct:=Aside0.mk H
 clear H
 go_enter Try.func3,Try.ntmps3
 go_upto_region 1 with(first|((with_reducible refine Qe (N:=3) rfl ?_);(try(refine Zo (by rfl) ?_;dsimp only));refine qE 3 #[.int .i64 B,.int .i64 J,.int .i64 L,.int .i64 Y,.int .i64 Z,.int .i64 ε,.int .i64 γ,.int .i64 θ,.int .i64 ζ,.int .i64 η] 25 ?_;intro da hg w5 hbox hb;have a0:=Aside0.mk hbox;have od:=sGe hg;have oe:=sGe hg;replace HB:=sHb hb;clear hb hbox hg)|((with_reducible refine Qe (N:=4) rfl ?_);(try(refine Zo (by rfl) ?_;dsimp only));refine qE 4 #[.int .i64 O,.int .i64 X,.int .i64 δ,.int .i64 κ,.int .i64 ι,.int .i64 μ,.int .i64 ν,.int .i64 ξ,.bool ψ,.bool ω] 31 ?_;intro db hg w6 hbox hb;have a1:=Aside0.mk hbox;have oh:=sGe hg;have oi:=sGe hg;have cj:=sNl a0 hg;have ck:=sNg a0 hg;replace a0:=sBk a0 hb;replace HB:=sHb hb;clear hb hbox hg)|((with_reducible refine Qe (N:=5) rfl ?_);(try(refine Zo (by rfl) ?_;dsimp only));refine qE 5 #[.slice a9 σ.length aa,.slice ab τ.length ac,.slice ai φ.length aj,.int .i64 am,.int .i64 an,.int .i64 ar] 38 ?_;intro dc hg w7 hbox hb;have a7:=Aside0.mk hbox;have oj:=sGe hg;have ol:=sGe hg;have az:=sNl a0 hg;have b0:=sNg a0 hg;have b5:=sNl a1 hg;have b7:=sNg a1 hg;replace a0:=sBk a0 hb;replace a1:=sBk a1 hb;replace HB:=sHb hb;clear hb hbox hg))
 (try simp only[Act.put,qS])
 go_cut [27] (fun oa wc=>∃ (kq:Nat) (dx:Bool),oa = .bool dx∧Aside0 (newellaw21_GroupCosts.j0 kq dx B J L Y Z ε γ θ ζ η O X δ κ ι μ ν ξ ψ ω σ τ φ am an ar=some r)∧Aside0 (kq≤k)∧Aside0 (wc.heap[da]?=some (.cells #[.int .i64 B,.int .i64 J,.int .i64 L,.int .i64 Y,.int .i64 Z,.int .i64 ε,.int .i64 γ,.int .i64 θ,.int .i64 ζ,.int .i64 η] 25 (0,0)))∧Aside0 (wc.heap[db]?=some (.cells #[.int .i64 O,.int .i64 X,.int .i64 δ,.int .i64 κ,.int .i64 ι,.int .i64 μ,.int .i64 ν,.int .i64 ξ,.bool ψ,.bool ω] 31 (0,0)))∧Aside0 (wc.heap[dc]?=some (.cells #[(.slice a9 σ.length aa),(.slice ab τ.length ac),(.slice ai φ.length aj),.int .i64 am,.int .i64 an,.int .i64 ar] 38 (0,0)))∧Aside0 (Below w.heap.size w wc))
 case first=>
  have H:=ct.out
  clear ct
  by_cases c8:(σ.length:Int)>80
  ·rw[if_pos c8] at H
   have c8b0:decide (80<(σ.length:Int))=true:=decide_eq_true c8
   have c8b1:decide (80<σ.length)=true:=decide_eq_true (by omega)
   clear c8
   (first|rw[c8b0]|(simp only[Za,Zb];rw[c8b0])|skip)
   have H':=Aside0.mk H
   clear H
   have o3:=b0.out
   have o4:=az.out
   have h4:=b7.out
   have h5:=b5.out
   obtain⟨ah,ak,aw,b6,bd,be,ao,ap,ax,bk,bl,bm⟩:=qD6 a7.out
   go_wp2
   go_meet
   case rel=>exact⟨_,(true),rfl,H',⟨by first|omega|exact Nat.le_refl _⟩,a0,a1,a7,HB⟩
  ·rw[if_neg c8] at H
   have c8b0:decide (80<(σ.length:Int))=false:=decide_eq_false c8
   have c8b1:decide (80<σ.length)=false:=decide_eq_false (by omega)
   clear c8
   (first|rw[c8b0]|(simp only[Za,Zb];rw[c8b0])|skip)
   by_cases ae:(τ.length:Int)>80
   ·rw[if_pos ae] at H
    have c12b0:decide (80<(τ.length:Int))=true:=decide_eq_true ae
    have c12b1:decide (80 < τ.length)=true:=decide_eq_true (by omega)
    clear ae
    have H':=Aside0.mk H
    clear H
    have ip:=b0.out
    have iq:=az.out
    have h7:=b7.out
    have h8:=b5.out
    obtain⟨b1,b2,cd,bg,bh,bi,b3,b4,ce,bj,bq,d0⟩:=qD6 a7.out
    go_wp2
    go_meet
    case rel=>exact⟨_,(true),rfl,H',⟨by first|omega|exact Nat.le_refl _⟩,a0,a1,a7,HB⟩
   ·rw[if_neg ae] at H
    have c12b0:decide (80<(τ.length:Int))=false:=decide_eq_false ae
    have c12b1:decide (80 < τ.length)=false:=decide_eq_false (by omega)
    clear ae
    have H':=Aside0.mk H
    clear H
    have jb:=b0.out
    have jc:=az.out
    have mt:=b7.out
    have mu:=b5.out
    obtain⟨br,bs,dj,e5,fr,fw,bu,bv,dk,fx,fy,fz⟩:=qD6 a7.out
    go_wp2
    go_meet
    case rel=>exact⟨_,(decide ((φ.length:Int)>80)),rfl,H',⟨by first|omega|exact Nat.le_refl _⟩,a0,a1,a7,HB⟩
 case rest=>
  clear ct
  try clear c1
  try clear c2
  try clear p2
  try clear c3
  try clear c8
  try clear c8b0
  try clear c8b1
  try clear c9
  try clear c10
  try clear ae
  try clear c12b0
  try clear c12b1
  try clear a2
  try clear ag
  try clear a6
  try clear af
  try clear ah
  try clear ak
  try clear aw
  try clear b6
  try clear bd
  try clear be
  try clear b1
  try clear b2
  try clear cd
  try clear bg
  try clear bh
  try clear bi
  try clear br
  try clear bs
  try clear dj
  try clear e5
  try clear fr
  try clear fw
  try clear ao
  try clear ap
  try clear ax
  try clear bk
  try clear bl
  try clear bm
  try clear b3
  try clear b4
  try clear ce
  try clear bj
  try clear bq
  try clear d0
  try clear bu
  try clear bv
  try clear dk
  try clear fx
  try clear fy
  try clear fz
  obtain⟨kq,dx,rfl,HA,dv,a0,a1,a7,HB⟩:=hcut
  cases kq with
  |zero=>exact absurd HA.out (by simp[newellaw21_GroupCosts.j0])
  |succ a5=>
   have H:=HA.out
   clear HA
   simp only[newellaw21_GroupCosts.j0] at H
   by_cases ci:dx=true
   ·subst ci
    have H1:((newellaw21_awake.f a5).bind fun d9=>(some d9))=some r:=by rw[if_pos rfl] at H;exact H
    clear H
    have H:=H1
    clear H1
    replace H:=Option.bind_eq_some_iff.mp H
    obtain⟨d9,jv,H⟩:=H
    replace H:(some d9)=some r:=H
    have ch:=Aside0.mk jv
    clear jv
    obtain rfl:=Option.some.inj H
    go_wp2_with (first|((with_reducible refine Qd (f:=9) rfl ?_);refine Qn (some 28) rfl rfl Try.func9 kr rfl #[] rfl qM ?_;(with_reducible refine(newellaw21_awake.calls a5  d9 _ ch.out).mono ?_);rintro e bc ⟨rfl,hb⟩;refine⟨_,rfl, ?_⟩;replace a0:=sBk a0 hb;replace a1:=sBk a1 hb;replace a7:=sBk a7 hb;replace HB:=sHb hb;(try clear hb);(try clear a4);(try clear hk);(try clear hi)))
    go_ret
    exact⟨rfl,HB.out⟩
   ·replace ci:=Bool.eq_false_iff.mpr ci
    subst ci
    have H1:((group_Cost.f a5 B J L Y Z ε γ θ ζ η O X δ κ ι μ ν ξ ψ ω σ τ φ am an ar).bind fun bb=>((newelref21_Costs.f a5 B J L Y Z ε γ θ ζ η O X δ κ ι μ ν ξ ψ ω σ τ φ am an ar).bind fun bf=>(if bf=true then ((newellaw21_awake.f a5).bind fun b9=>(if b9=true then (if bb.2=0 then ((newelref21_Cost.f a5 B J L Y Z ε γ θ ζ η O X δ κ ι μ ν ξ ψ ω σ τ φ am an ar).bind fun av=>(newellaw21_GroupCosts.j2 a5 (bb.1==av))) else (none)) else (none))) else ((newellaw21_awake.f a5).bind fun ba=>(if ba=true then (if bb.2=210 then (newellaw21_GroupCosts.j1 a5 (bb.1==0)) else (none)) else (none))))))=some r:=by rw[if_neg (show ¬ (false=true) by decide)] at H;exact H
    clear H
    have H:=H1
    clear H1
    replace H:=Option.bind_eq_some_iff.mp H
    obtain⟨⟨ay,au⟩,dy,H⟩:=H
    replace H:((newelref21_Costs.f a5 B J L Y Z ε γ θ ζ η O X δ κ ι μ ν ξ ψ ω σ τ φ am an ar).bind fun bf=>(if bf=true then ((newellaw21_awake.f a5).bind fun b9=>(if b9=true then (if au=0 then ((newelref21_Cost.f a5 B J L Y Z ε γ θ ζ η O X δ κ ι μ ν ξ ψ ω σ τ φ am an ar).bind fun av=>(newellaw21_GroupCosts.j2 a5 (ay==av))) else (none)) else (none))) else ((newellaw21_awake.f a5).bind fun ba=>(if ba=true then (if au=210 then (newellaw21_GroupCosts.j1 a5 (ay==0)) else (none)) else (none)))))=some r:=H
    have nd:=Aside0.mk dy
    clear dy
    replace H:=Option.bind_eq_some_iff.mp H
    obtain⟨bf,jm,H⟩:=H
    replace H:(if bf=true then ((newellaw21_awake.f a5).bind fun b9=>(if b9=true then (if au=0 then ((newelref21_Cost.f a5 B J L Y Z ε γ θ ζ η O X δ κ ι μ ν ξ ψ ω σ τ φ am an ar).bind fun av=>(newellaw21_GroupCosts.j2 a5 (ay==av))) else (none)) else (none))) else ((newellaw21_awake.f a5).bind fun ba=>(if ba=true then (if au=210 then (newellaw21_GroupCosts.j1 a5 (ay==0)) else (none)) else (none))))=some r:=H
    have na:=Aside0.mk jm
    clear jm
    by_cases bo:bf=true
    ·subst bo
     have H1:((newellaw21_awake.f a5).bind fun b9=>(if b9=true then (if au=0 then ((newelref21_Cost.f a5 B J L Y Z ε γ θ ζ η O X δ κ ι μ ν ξ ψ ω σ τ φ am an ar).bind fun av=>(newellaw21_GroupCosts.j2 a5 (ay==av))) else (none)) else (none)))=some r:=by rw[if_pos rfl] at H;exact H
     clear H
     have H:=H1
     clear H1
     have nb:=Aside0.mk H
     clear H
     have ni:=cj.out
     have nj:=ck.out
     have m8:=az.out
     have m9:=b0.out
     obtain⟨eh,fi,fj,ie,ig,ih,ii,jn,jo,jp,ei,fk,fl,ij,ik,il,im,jq,jr,js⟩:=Q5 a0.out
     have jt:=b5.out
     have ju:=b7.out
     obtain⟨cf,dd,dz,ej,ek,el,em,g0,g1,g2,de,df,e0,en,eo,ep,er,g3,g4,g5⟩:=Q5 a1.out
     obtain⟨ea,eb,ec,gf,gg,gh,ed,ee,ef,gi,gj,gk⟩:=qD6 a7.out
     go_upto_region 6 with(first|((with_reducible refine Qd (f:=10) rfl ?_);refine Qn (some 36) rfl rfl Try.func10 kr rfl #[.agg #[.int .i64 B,.int .i64 J,.int .i64 L,.int .i64 Y,.int .i64 Z,.int .i64 ε,.int .i64 γ,.int .i64 θ,.int .i64 ζ,.int .i64 η],.agg #[.int .i64 O,.int .i64 X,.int .i64 δ,.int .i64 κ,.int .i64 ι,.int .i64 μ,.int .i64 ν,.int .i64 ξ,.bool ψ,.bool ω],.agg #[.slice a9 σ.length aa,.slice ab τ.length ac,.slice ai φ.length aj],.agg #[.int .i64 am,.int .i64 an,.int .i64 ar]] rfl qM ?_;(with_reducible refine(group_Cost.calls a5 B J L Y Z ε γ θ ζ η O X δ κ ι μ ν ξ ψ ω _ _ σ _ _ τ _ _ φ am an ar ay au _ ?side1 ?side2 ?side3 ?side4 ?side5 ?side6 nd.out).mono ?_);(case side1=>exact(Kd.Qp b8.out HB.out));(case side2=>exact bn.out);(case side3=>exact(Kd.Qp bw.out HB.out));(case side4=>exact bz.out);(case side5=>exact(Kd.Qp cy.out HB.out));(case side6=>exact cz.out);rintro e nf ⟨rfl,hb⟩;refine⟨_,rfl, ?_⟩;replace a0:=sBk a0 hb;replace a1:=sBk a1 hb;replace a7:=sBk a7 hb;replace HB:=sHb hb;(try clear hb);(try clear a4);(try clear hk);(try clear hi);obtain⟨e6,e7,ev,fg,fh,ft,fu,cm,dm,dn,e8,e9,ew,fv,g6,g7,g8,dp,gu,gv⟩:=Q5 a0.out;obtain⟨et,fm,fn,ha,he,hh,hj,iv,iw,ix,eu,fo,fp,hl,ho,hu,hx,iy,iz,j3⟩:=Q5 a1.out;obtain⟨d1,d2,i6,l3,l4,m4,d3,d4,i7,m5,m6,m7⟩:=qD6 a7.out)|((with_reducible refine Qd (f:=11) rfl ?_);refine Qn (some 45) rfl rfl Try.func11 kr rfl #[.agg #[.int .i64 B,.int .i64 J,.int .i64 L,.int .i64 Y,.int .i64 Z,.int .i64 ε,.int .i64 γ,.int .i64 θ,.int .i64 ζ,.int .i64 η],.agg #[.int .i64 O,.int .i64 X,.int .i64 δ,.int .i64 κ,.int .i64 ι,.int .i64 μ,.int .i64 ν,.int .i64 ξ,.bool ψ,.bool ω],.agg #[.slice a9 σ.length aa,.slice ab τ.length ac,.slice ai φ.length aj],.agg #[.int .i64 am,.int .i64 an,.int .i64 ar]] rfl qM ?_;(with_reducible refine(newelref21_Costs.calls a5 B J L Y Z ε γ θ ζ η O X δ κ ι μ ν ξ ψ ω _ _ σ _ _ τ _ _ φ am an ar true _ ?side1 ?side2 ?side3 ?side4 ?side5 ?side6 na.out).mono ?_);(case side1=>exact(Kd.Qp b8.out HB.out));(case side2=>exact bn.out);(case side3=>exact(Kd.Qp bw.out HB.out));(case side4=>exact bz.out);(case side5=>exact(Kd.Qp cy.out HB.out));(case side6=>exact cz.out);rintro e n3 ⟨rfl,hb⟩;refine⟨_,rfl, ?_⟩;replace a0:=sBk a0 hb;replace a1:=sBk a1 hb;replace a7:=sBk a7 hb;replace HB:=sHb hb;(try clear hb);(try clear a4);(try clear hk);(try clear hi)))
     (try simp only[Act.put,qS])
     go_cut [6] (fun v6 wc=>∃ (kq:Nat) (n1:Bool),v6 = .bool n1∧Aside0 (newellaw21_GroupCosts.j2 kq n1=some r)∧Aside0 (kq≤a5)∧Aside0 (wc.heap[da]?=some (.cells #[.int .i64 B,.int .i64 J,.int .i64 L,.int .i64 Y,.int .i64 Z,.int .i64 ε,.int .i64 γ,.int .i64 θ,.int .i64 ζ,.int .i64 η] 25 (0,0)))∧Aside0 (wc.heap[db]?=some (.cells #[.int .i64 O,.int .i64 X,.int .i64 δ,.int .i64 κ,.int .i64 ι,.int .i64 μ,.int .i64 ν,.int .i64 ξ,.bool ψ,.bool ω] 31 (0,0)))∧Aside0 (wc.heap[dc]?=some (.cells #[(.slice a9 σ.length aa),(.slice ab τ.length ac),(.slice ai φ.length aj),.int .i64 am,.int .i64 an,.int .i64 ar] 38 (0,0)))∧Aside0 (Below w.heap.size w wc))
     case first=>
      have H:=nb.out
      clear nb
      replace H:=Option.bind_eq_some_iff.mp H
      obtain⟨b9,fb,H⟩:=H
      replace H:(if b9=true then (if au=0 then ((newelref21_Cost.f a5 B J L Y Z ε γ θ ζ η O X δ κ ι μ ν ξ ψ ω σ τ φ am an ar).bind fun av=>(newellaw21_GroupCosts.j2 a5 (ay==av))) else (none)) else (none))=some r:=H
      have jl:=Aside0.mk fb
      clear fb
      by_cases fc:b9=true
      ·subst fc
       have H1:(if au=0 then ((newelref21_Cost.f a5 B J L Y Z ε γ θ ζ η O X δ κ ι μ ν ξ ψ ω σ τ φ am an ar).bind fun av=>(newellaw21_GroupCosts.j2 a5 (ay==av))) else (none))=some r:=by rw[if_pos rfl] at H;exact H
       clear H
       have H:=H1
       clear H1
       by_cases di:au=0
       ·rw[if_pos di] at H
        have c39b0:(au==0)=true:=beq_iff_eq.mpr di
        have c39b1:(au != 0)=false:=bne_eq_false_iff_eq.mpr di
        clear di
        (first|rw[c39b0]|(simp only[Za,Zb];rw[c39b0])|skip)
        replace H:=Option.bind_eq_some_iff.mp H
        obtain⟨av,o6,H⟩:=H
        replace H:(newellaw21_GroupCosts.j2 a5 (ay==av))=some r:=H
        have cg:=Aside0.mk o6
        clear o6
        have H':=Aside0.mk H
        clear H
        go_wp2_with (first|((with_reducible refine Qd (f:=9) rfl ?_);refine Qn (some 56) rfl rfl Try.func9 kr rfl #[] rfl qM ?_;(with_reducible refine(newellaw21_awake.calls a5  true _ jl.out).mono ?_);rintro e o8 ⟨rfl,hb⟩;refine⟨_,rfl, ?_⟩;replace a0:=sBk a0 hb;replace a1:=sBk a1 hb;replace a7:=sBk a7 hb;replace HB:=sHb hb;(try clear hb);(try clear a4);(try clear hk);(try clear hi);have lh:=cj.out;have ll:=ck.out;have mw:=az.out;have my:=b0.out;obtain⟨d8,fq,h9,kh,ki,kj,kk,cn,co,dq,gz,h0,kl,km,kn,ko,kp,dr,dt,io⟩:=Q5 a0.out;have i5:=b5.out;have ky:=b7.out;obtain⟨gl,gm,i1,ic,j4,j5,j6,du,i9,ia,gn,gp,i2,j7,j8,j9,ja,ib,l5,l6⟩:=Q5 a1.out;obtain⟨cu,cv,gr,dw,f8,fe,cw,eg,gs,ff,gx,gy⟩:=qD6 a7.out)|(go_at_call 12;(with_reducible refine(newelref21_Cost.calls a5 B J L Y Z ε γ θ ζ η O X δ κ ι μ ν ξ ψ ω _ _ σ _ _ τ _ _ φ am an ar av _ ?side1 ?side2 ?side3 ?side4 ?side5 ?side6 cg.out).mono ?_);(case side1=>exact(Kd.Qp b8.out HB.out));(case side2=>exact bn.out);(case side3=>exact(Kd.Qp bw.out HB.out));(case side4=>exact bz.out);(case side5=>exact(Kd.Qp cy.out HB.out));(case side6=>exact cz.out);rintro e o5 ⟨rfl,hb⟩;have ρ:=Aside0.mk (Qt (g:=da) (o:=.cells #[.int .i64 B,.int .i64 J,.int .i64 L,.int .i64 Y,.int .i64 Z,.int .i64 ε,.int .i64 γ,.int .i64 θ,.int .i64 ζ,.int .i64 η] 25 (0,0)) a0.out hb);have χ :=Aside0.mk (Qt (g:=db) (o:=.cells #[.int .i64 O,.int .i64 X,.int .i64 δ,.int .i64 κ,.int .i64 ι,.int .i64 μ,.int .i64 ν,.int .i64 ξ,.bool ψ,.bool ω] 31 (0,0)) a1.out hb);have a3:=Aside0.mk (Qt (g:=dc) (o:=.cells #[.slice a9 σ.length aa,.slice ab τ.length ac,.slice ai φ.length aj,.int .i64 am,.int .i64 an,.int .i64 ar] 38 (0,0)) a7.out hb);have a8:=Aside0.mk (Qy HB.out hb);clear a0;clear a1;clear a7;clear HB;have a0:=ρ;have a1:= χ;have a7:=a3;have HB:=a8;clear ρ χ a3 a8;(try clear hb);(try clear a4);(try clear hk);(try clear hi)))
        go_meet
        case rel=>exact⟨_,((ay==av)),rfl,H',⟨by have:=dv.out;omega⟩,a0,a1,a7,HB⟩
       ·rw[if_neg di] at H
        exact absurd H (by simp)
      ·replace fc:=Bool.eq_false_iff.mpr fc
       subst fc
       have H1:(none)=some r:=by rw[if_neg (show ¬ (false=true) by decide)] at H;exact H
       clear H
       have H:=H1
       clear H1
       exact absurd H (by simp)
     case rest=>
      clear nb
      try clear c1
      try clear c2
      try clear p2
      try clear c3
      try clear c4
      try clear c8
      try clear c8b0
      try clear c8b1
      try clear c9
      try clear c10
      try clear al
      try clear ae
      try clear c12b0
      try clear c12b1
      try clear a2
      try clear ag
      try clear a6
      try clear af
      try clear ci
      try clear bo
      try clear bp
      try clear ey
      try clear ca
      try clear fc
      try clear di
      try clear c39b0
      try clear c39b1
      try clear ob
      try clear gt
      try clear gw
      try clear ah
      try clear ak
      try clear aw
      try clear b6
      try clear bd
      try clear be
      try clear b1
      try clear b2
      try clear cd
      try clear bg
      try clear bh
      try clear bi
      try clear br
      try clear bs
      try clear dj
      try clear e5
      try clear fr
      try clear fw
      try clear eh
      try clear fi
      try clear fj
      try clear ie
      try clear ig
      try clear ih
      try clear ii
      try clear jn
      try clear jo
      try clear jp
      try clear cf
      try clear dd
      try clear dz
      try clear ej
      try clear ek
      try clear el
      try clear em
      try clear g0
      try clear g1
      try clear g2
      try clear ea
      try clear eb
      try clear ec
      try clear gf
      try clear gg
      try clear gh
      try clear e6
      try clear e7
      try clear ev
      try clear fg
      try clear fh
      try clear ft
      try clear fu
      try clear cm
      try clear dm
      try clear dn
      try clear et
      try clear fm
      try clear fn
      try clear ha
      try clear he
      try clear hh
      try clear hj
      try clear iv
      try clear iw
      try clear ix
      try clear d1
      try clear d2
      try clear i6
      try clear l3
      try clear l4
      try clear m4
      try clear d8
      try clear fq
      try clear h9
      try clear kh
      try clear ki
      try clear kj
      try clear kk
      try clear cn
      try clear co
      try clear dq
      try clear gl
      try clear gm
      try clear i1
      try clear ic
      try clear j4
      try clear j5
      try clear j6
      try clear du
      try clear i9
      try clear ia
      try clear cu
      try clear cv
      try clear gr
      try clear dw
      try clear f8
      try clear fe
      try clear ao
      try clear ap
      try clear ax
      try clear bk
      try clear bl
      try clear bm
      try clear b3
      try clear b4
      try clear ce
      try clear bj
      try clear bq
      try clear d0
      try clear bu
      try clear bv
      try clear dk
      try clear fx
      try clear fy
      try clear fz
      try clear ei
      try clear fk
      try clear fl
      try clear ij
      try clear ik
      try clear il
      try clear im
      try clear jq
      try clear jr
      try clear js
      try clear de
      try clear df
      try clear e0
      try clear en
      try clear eo
      try clear ep
      try clear er
      try clear g3
      try clear g4
      try clear g5
      try clear ed
      try clear ee
      try clear ef
      try clear gi
      try clear gj
      try clear gk
      try clear e8
      try clear e9
      try clear ew
      try clear fv
      try clear g6
      try clear g7
      try clear g8
      try clear dp
      try clear gu
      try clear gv
      try clear eu
      try clear fo
      try clear fp
      try clear hl
      try clear ho
      try clear hu
      try clear hx
      try clear iy
      try clear iz
      try clear j3
      try clear d3
      try clear d4
      try clear i7
      try clear m5
      try clear m6
      try clear m7
      try clear gz
      try clear h0
      try clear kl
      try clear km
      try clear kn
      try clear ko
      try clear kp
      try clear dr
      try clear dt
      try clear io
      try clear gn
      try clear gp
      try clear i2
      try clear j7
      try clear j8
      try clear j9
      try clear ja
      try clear ib
      try clear l5
      try clear l6
      try clear cw
      try clear eg
      try clear gs
      try clear ff
      try clear gx
      try clear gy
      try clear p2
      obtain⟨kq,n1,rfl,HA,oo,a0,a1,a7,HB⟩:=hcut
      cases kq with
      |zero=>exact absurd HA.out (by simp[newellaw21_GroupCosts.j2])
      |succ oq=>
       have H:=HA.out
       clear HA
       simp only[newellaw21_GroupCosts.j2] at H
       obtain rfl:=Option.some.inj H
       go_wp2
       go_ret
       exact⟨rfl,HB.out⟩
    ·replace bo:=Bool.eq_false_iff.mpr bo
     subst bo
     have H1:((newellaw21_awake.f a5).bind fun ba=>(if ba=true then (if au=210 then (newellaw21_GroupCosts.j1 a5 (ay==0)) else (none)) else (none)))=some r:=by rw[if_neg (show ¬ (false=true) by decide)] at H;exact H
     clear H
     have H:=H1
     clear H1
     have nc:=Aside0.mk H
     clear H
     have mz:=cj.out
     have n0:=ck.out
     have jj:=az.out
     have jk:=b0.out
     obtain⟨d5,d6,l7,l9,lb,lc,lf,lg,lw,m3,d7,ez,l8,mj,ml,mm,mo,mq,mr,ms⟩:=Q5 a0.out
     have ng:=b5.out
     have nh:=b7.out
     obtain⟨jd,je,jf,jg,jh,ji,k1,jx,jy,jz,k2,k3,k4,k5,k6,k7,k8,k0,kz,l2⟩:=Q5 a1.out
     obtain⟨g9,ga,hy,k9,ka,kb,gb,ge,i0,kc,kd,ke⟩:=qD6 a7.out
     go_upto_region 5 with(first|((with_reducible refine Qd (f:=10) rfl ?_);refine Qn (some 36) rfl rfl Try.func10 kr rfl #[.agg #[.int .i64 B,.int .i64 J,.int .i64 L,.int .i64 Y,.int .i64 Z,.int .i64 ε,.int .i64 γ,.int .i64 θ,.int .i64 ζ,.int .i64 η],.agg #[.int .i64 O,.int .i64 X,.int .i64 δ,.int .i64 κ,.int .i64 ι,.int .i64 μ,.int .i64 ν,.int .i64 ξ,.bool ψ,.bool ω],.agg #[.slice a9 σ.length aa,.slice ab τ.length ac,.slice ai φ.length aj],.agg #[.int .i64 am,.int .i64 an,.int .i64 ar]] rfl qM ?_;(with_reducible refine(group_Cost.calls a5 B J L Y Z ε γ θ ζ η O X δ κ ι μ ν ξ ψ ω _ _ σ _ _ τ _ _ φ am an ar ay au _ ?side1 ?side2 ?side3 ?side4 ?side5 ?side6 nd.out).mono ?_);(case side1=>exact(Kd.Qp b8.out HB.out));(case side2=>exact bn.out);(case side3=>exact(Kd.Qp bw.out HB.out));(case side4=>exact bz.out);(case side5=>exact(Kd.Qp cy.out HB.out));(case side6=>exact cz.out);rintro e dl ⟨rfl,hb⟩;refine⟨_,rfl, ?_⟩;replace a0:=sBk a0 hb;replace a1:=sBk a1 hb;replace a7:=sBk a7 hb;replace HB:=sHb hb;(try clear hb);(try clear a4);(try clear hk);(try clear hi);obtain⟨ks,kt,ku,ma,mb,mc,me,nl,nm,nn,kv,kw,kx,mf,mg,mh,mi,no,np,nq⟩:=Q5 a0.out;obtain⟨h6,ir,kf,kg,lm,ln,lp,lq,lr,ls,it,iu,lu,lv,lx,ly,lz,m0,m1,m2⟩:=Q5 a1.out;obtain⟨nr,ns,nt,nu,nv,nw,nx,ny,nz,o0,o1,o2⟩:=qD6 a7.out)|((with_reducible refine Qd (f:=11) rfl ?_);refine Qn (some 45) rfl rfl Try.func11 kr rfl #[.agg #[.int .i64 B,.int .i64 J,.int .i64 L,.int .i64 Y,.int .i64 Z,.int .i64 ε,.int .i64 γ,.int .i64 θ,.int .i64 ζ,.int .i64 η],.agg #[.int .i64 O,.int .i64 X,.int .i64 δ,.int .i64 κ,.int .i64 ι,.int .i64 μ,.int .i64 ν,.int .i64 ξ,.bool ψ,.bool ω],.agg #[.slice a9 σ.length aa,.slice ab τ.length ac,.slice ai φ.length aj],.agg #[.int .i64 am,.int .i64 an,.int .i64 ar]] rfl qM ?_;(with_reducible refine(newelref21_Costs.calls a5 B J L Y Z ε γ θ ζ η O X δ κ ι μ ν ξ ψ ω _ _ σ _ _ τ _ _ φ am an ar false _ ?side1 ?side2 ?side3 ?side4 ?side5 ?side6 na.out).mono ?_);(case side1=>exact(Kd.Qp b8.out HB.out));(case side2=>exact bn.out);(case side3=>exact(Kd.Qp bw.out HB.out));(case side4=>exact bz.out);(case side5=>exact(Kd.Qp cy.out HB.out));(case side6=>exact cz.out);rintro e nk ⟨rfl,hb⟩;refine⟨_,rfl, ?_⟩;replace a0:=sBk a0 hb;replace a1:=sBk a1 hb;replace a7:=sBk a7 hb;replace HB:=sHb hb;(try clear hb);(try clear a4);(try clear hk);(try clear hi)))
     (try simp only[Act.put,qS])
     go_cut [6] (fun v6 wc=>∃ (kq:Nat) (n2:Bool),v6 = .bool n2∧Aside0 (newellaw21_GroupCosts.j1 kq n2=some r)∧Aside0 (kq≤a5)∧Aside0 (wc.heap[da]?=some (.cells #[.int .i64 B,.int .i64 J,.int .i64 L,.int .i64 Y,.int .i64 Z,.int .i64 ε,.int .i64 γ,.int .i64 θ,.int .i64 ζ,.int .i64 η] 25 (0,0)))∧Aside0 (wc.heap[db]?=some (.cells #[.int .i64 O,.int .i64 X,.int .i64 δ,.int .i64 κ,.int .i64 ι,.int .i64 μ,.int .i64 ν,.int .i64 ξ,.bool ψ,.bool ω] 31 (0,0)))∧Aside0 (wc.heap[dc]?=some (.cells #[(.slice a9 σ.length aa),(.slice ab τ.length ac),(.slice ai φ.length aj),.int .i64 am,.int .i64 an,.int .i64 ar] 38 (0,0)))∧Aside0 (Below w.heap.size w wc))
     case first=>
      have H:=nc.out
      clear nc
      replace H:=Option.bind_eq_some_iff.mp H
      obtain⟨ba,o7,H⟩:=H
      replace H:(if ba=true then (if au=210 then (newellaw21_GroupCosts.j1 a5 (ay==0)) else (none)) else (none))=some r:=H
      have oc:=Aside0.mk o7
      clear o7
      by_cases gq:ba=true
      ·subst gq
       have H1:(if au=210 then (newellaw21_GroupCosts.j1 a5 (ay==0)) else (none))=some r:=by rw[if_pos rfl] at H;exact H
       clear H
       have H:=H1
       clear H1
       by_cases jw:au=210
       ·rw[if_pos jw] at H
        have c63b0:(au==210)=true:=beq_iff_eq.mpr jw
        have c63b1:(au != 210)=false:=bne_eq_false_iff_eq.mpr jw
        clear jw
        (first|rw[c63b0]|(simp only[Za,Zb];rw[c63b0])|skip)
        have H':=Aside0.mk H
        clear H
        go_wp2_with (first|((with_reducible refine Qd (f:=9) rfl ?_);refine Qn (some 47) rfl rfl Try.func9 kr rfl #[] rfl qM ?_;(with_reducible refine(newellaw21_awake.calls a5  true _ oc.out).mono ?_);rintro e w64 ⟨rfl,hb⟩;refine⟨_,rfl, ?_⟩;replace a0:=sBk a0 hb;replace a1:=sBk a1 hb;replace a7:=sBk a7 hb;replace HB:=sHb hb;(try clear hb);(try clear a4);(try clear hk);(try clear hi)))
        go_meet
        case rel=>exact⟨_,((ay==0)),rfl,H',⟨by have:=dv.out;omega⟩,a0,a1,a7,HB⟩
       ·rw[if_neg jw] at H
        exact absurd H (by simp)
      ·replace gq:=Bool.eq_false_iff.mpr gq
       subst gq
       have H1:(none)=some r:=by rw[if_neg (show ¬ (false=true) by decide)] at H;exact H
       clear H
       have H:=H1
       clear H1
       exact absurd H (by simp)
     case rest=>
      clear nc
      try clear c1
      try clear c2
      try clear p2
      try clear c3
      try clear c4
      try clear c5
      try clear c6
      try clear c8
      try clear c8b0
      try clear c8b1
      try clear c9
      try clear c10
      try clear al
      try clear ae
      try clear c12b0
      try clear c12b1
      try clear a2
      try clear ag
      try clear a6
      try clear af
      try clear ci
      try clear bo
      try clear bp
      try clear ey
      try clear ca
      try clear fc
      try clear di
      try clear c39b0
      try clear c39b1
      try clear ob
      try clear gt
      try clear gw
      try clear o9
      try clear i3
      try clear fa
      try clear gq
      try clear jw
      try clear c63b0
      try clear c63b1
      try clear ah
      try clear ak
      try clear aw
      try clear b6
      try clear bd
      try clear be
      try clear b1
      try clear b2
      try clear cd
      try clear bg
      try clear bh
      try clear bi
      try clear br
      try clear bs
      try clear dj
      try clear e5
      try clear fr
      try clear fw
      try clear eh
      try clear fi
      try clear fj
      try clear ie
      try clear ig
      try clear ih
      try clear ii
      try clear jn
      try clear jo
      try clear jp
      try clear cf
      try clear dd
      try clear dz
      try clear ej
      try clear ek
      try clear el
      try clear em
      try clear g0
      try clear g1
      try clear g2
      try clear ea
      try clear eb
      try clear ec
      try clear gf
      try clear gg
      try clear gh
      try clear e6
      try clear e7
      try clear ev
      try clear fg
      try clear fh
      try clear ft
      try clear fu
      try clear cm
      try clear dm
      try clear dn
      try clear et
      try clear fm
      try clear fn
      try clear ha
      try clear he
      try clear hh
      try clear hj
      try clear iv
      try clear iw
      try clear ix
      try clear d1
      try clear d2
      try clear i6
      try clear l3
      try clear l4
      try clear m4
      try clear d8
      try clear fq
      try clear h9
      try clear kh
      try clear ki
      try clear kj
      try clear kk
      try clear cn
      try clear co
      try clear dq
      try clear gl
      try clear gm
      try clear i1
      try clear ic
      try clear j4
      try clear j5
      try clear j6
      try clear du
      try clear i9
      try clear ia
      try clear cu
      try clear cv
      try clear gr
      try clear dw
      try clear f8
      try clear fe
      try clear d5
      try clear d6
      try clear l7
      try clear l9
      try clear lb
      try clear lc
      try clear lf
      try clear lg
      try clear lw
      try clear m3
      try clear jd
      try clear je
      try clear jf
      try clear jg
      try clear jh
      try clear ji
      try clear k1
      try clear jx
      try clear jy
      try clear jz
      try clear g9
      try clear ga
      try clear hy
      try clear k9
      try clear ka
      try clear kb
      try clear ks
      try clear kt
      try clear ku
      try clear ma
      try clear mb
      try clear mc
      try clear me
      try clear nl
      try clear nm
      try clear nn
      try clear h6
      try clear ir
      try clear kf
      try clear kg
      try clear lm
      try clear ln
      try clear lp
      try clear lq
      try clear lr
      try clear ls
      try clear nr
      try clear ns
      try clear nt
      try clear nu
      try clear nv
      try clear nw
      try clear ao
      try clear ap
      try clear ax
      try clear bk
      try clear bl
      try clear bm
      try clear b3
      try clear b4
      try clear ce
      try clear bj
      try clear bq
      try clear d0
      try clear bu
      try clear bv
      try clear dk
      try clear fx
      try clear fy
      try clear fz
      try clear ei
      try clear fk
      try clear fl
      try clear ij
      try clear ik
      try clear il
      try clear im
      try clear jq
      try clear jr
      try clear js
      try clear de
      try clear df
      try clear e0
      try clear en
      try clear eo
      try clear ep
      try clear er
      try clear g3
      try clear g4
      try clear g5
      try clear ed
      try clear ee
      try clear ef
      try clear gi
      try clear gj
      try clear gk
      try clear e8
      try clear e9
      try clear ew
      try clear fv
      try clear g6
      try clear g7
      try clear g8
      try clear dp
      try clear gu
      try clear gv
      try clear eu
      try clear fo
      try clear fp
      try clear hl
      try clear ho
      try clear hu
      try clear hx
      try clear iy
      try clear iz
      try clear j3
      try clear d3
      try clear d4
      try clear i7
      try clear m5
      try clear m6
      try clear m7
      try clear gz
      try clear h0
      try clear kl
      try clear km
      try clear kn
      try clear ko
      try clear kp
      try clear dr
      try clear dt
      try clear io
      try clear gn
      try clear gp
      try clear i2
      try clear j7
      try clear j8
      try clear j9
      try clear ja
      try clear ib
      try clear l5
      try clear l6
      try clear cw
      try clear eg
      try clear gs
      try clear ff
      try clear gx
      try clear gy
      try clear d7
      try clear ez
      try clear l8
      try clear mj
      try clear ml
      try clear mm
      try clear mo
      try clear mq
      try clear mr
      try clear ms
      try clear k2
      try clear k3
      try clear k4
      try clear k5
      try clear k6
      try clear k7
      try clear k8
      try clear k0
      try clear kz
      try clear l2
      try clear gb
      try clear ge
      try clear i0
      try clear kc
      try clear kd
      try clear ke
      try clear kv
      try clear kw
      try clear kx
      try clear mf
      try clear mg
      try clear mh
      try clear mi
      try clear no
      try clear np
      try clear nq
      try clear it
      try clear iu
      try clear lu
      try clear lv
      try clear lx
      try clear ly
      try clear lz
      try clear m0
      try clear m1
      try clear m2
      try clear nx
      try clear ny
      try clear nz
      try clear o0
      try clear o1
      try clear o2
      try clear p2
      obtain⟨kq,n2,rfl,HA,ot,a0,a1,a7,HB⟩:=hcut
      cases kq with
      |zero=>exact absurd HA.out (by simp[newellaw21_GroupCosts.j1])
      |succ ou=>
       have H:=HA.out
       clear HA
       simp only[newellaw21_GroupCosts.j1] at H
       obtain rfl:=Option.some.inj H
       go_wp2
       go_ret
       exact⟨rfl,HB.out⟩
end Go.Proofs.Ytmfffemidlhcpaa.C
namespace Go.Proofs.Ytmfffemidlhcpaa.GrpPure
open Go.RowKit Go.Proofs.YtmfffemidlhcpaaW.PrintWords Go.Proofs.YtmfffemidlhcpaaW.PrintLast Go.Proofs.YtmfffemidlhcpaaW.PrintMore Go.Proofs.Ytmfffemidlhcpaa.C Go.Proofs.Ytmfffemidlhcpaa.DoorPure
set_option linter.unusedVariables false
set_option linter.unusedSimpArgs false
open Go.Proofs.Ytmfffemidlhcpaa.Call (i64 okB Us)
theorem Lq {g0 g1 g2 Y g4 g5 Z g7 X g9 c0 c1 c2 c3 c4 c5 c6 l7:Int} (B J O:Int) (hd:i64 J) (l8 l9:Bool) (a b c:List Int) (hv:ColPure.Few a b c) (f:Nat) (hf:1600≤f):newellaw21_GroupCosts.j0 f false g0 g1 g2 Y g4 g5 Z g7 X g9 c0 c1 c2 c3 c4 c5 c6 l7 l8 l9 a b c B J O=some true:=by
  obtain⟨f,rfl⟩:∃ m,f=m+2:=⟨f-2,by omega⟩
  simp only[newellaw21_GroupCosts.j0]
  rw[if_neg (by decide),Ej B J O hd l8 l9 a b c hv _ (by omega),M9 B J O l8 l9 a b c hv _ (by omega),Uy _ (by omega)]
  simp only[Option.bind_some,if_true]
  cases h:Up g0 (Kb g0 g1 g2 Y g4 g5 Z g7 X g9 c0 c1 c2 c3 c4 c5 c6 l7) a b c B J O
  · simp[newellaw21_GroupCosts.j1]
  · unfold Up at h
    simp only[Bool.and_eq_true,decide_eq_true_eq] at h
    rw[Me J O l8 l9 a b c _ (by omega) h.1 (Wr h.1.1.1.2.1 (by omega) h.2.2)]
    simp[newellaw21_GroupCosts.j2]
theorem Lp (g0 g1 g2 Y g4 g5 Z g7 X g9 c0 c1 c2 c3 c4 c5 c6 l7:Int) (B J O:Int) (hd:i64 J) (l8 l9:Bool) (a b c:List Int) (f:Nat) (hf:1600≤f):newellaw21_GroupCosts.f f g0 g1 g2 Y g4 g5 Z g7 X g9 c0 c1 c2 c3 c4 c5 c6 l7 l8 l9 a b c B J O=some true:=by
  have ht:newellaw21_GroupCosts.j0 f true g0 g1 g2 Y g4 g5 Z g7 X g9 c0 c1 c2 c3 c4 c5 c6 l7 l8 l9 a b c B J O=some true:=by
    obtain⟨f,rfl⟩:∃ m,f=m+1:=⟨f-1,by omega⟩
    simp only[newellaw21_GroupCosts.j0,if_true]
    rw[Uy _ (by omega)]
    rfl
  unfold newellaw21_GroupCosts.f
  by_cases h1:(a.length:Int)>80
  · rw[if_pos h1,ht]
  rw[if_neg h1]
  by_cases L:(b.length:Int)>80
  · rw[if_pos L,ht]
  rw[if_neg L]
  by_cases h3:(c.length:Int)>80
  · rw[decide_eq_true h3,ht]
  rw[decide_eq_false h3]
  exact Lq B J O hd l8 l9 a b c ⟨by omega,by omega,by omega⟩ f hf
end Go.Proofs.Ytmfffemidlhcpaa.GrpPure
