/- Texts of this claim, one behind the other: what the law's functions come to, walked (printed by a program, with the words that the print uses), and what that is, in plain Lean. No conditions of their own. -/
import Derived.Test.YtmfffemidlhcpaaQGroupBounds8
namespace Go.Proofs.Ytmfffemidlhcpaa.C
open Go.RowKit Go.Proofs.YtmfffemidlhcpaaW.PrintWords Go.Proofs.YtmfffemidlhcpaaW.PrintLast Go.Proofs.YtmfffemidlhcpaaW.PrintMore
attribute [local go_sem] Zx Zv Z8 Z7 Zl Zk Zw Zu
set_option linter.unusedVariables false
set_option linter.unusedSimpArgs false
def newellaw21_awake.f (k:Nat):Option (Bool):=(newellaw17_Plain.f).bind fun J=>((some (([(⟨(⟨0,0,0,0,(⟨0,0,0⟩:S27)⟩:S29),0,false,false⟩:S31),(⟨(⟨3,0,0,0,(⟨0,0,0⟩:S27)⟩:S29),0,false,false⟩:S31)]:List (S31)):List (S31))).bind fun B=>((some (([(⟨2,1,(-1)⟩:S36)]:List (S36)):List (S36))).bind fun δ =>(if 0<(B.length:Int) then ((group_Cost.f k J.1 J.2.1 J.2.2.1 J.2.2.2.1 J.2.2.2.2.1 J.2.2.2.2.2.1 J.2.2.2.2.2.2.1 J.2.2.2.2.2.2.2.1 J.2.2.2.2.2.2.2.2.1 J.2.2.2.2.2.2.2.2.2 ((Qb B 0).f0.f0) ((Qb B 0).f0.f1) ((Qb B 0).f0.f2) ((Qb B 0).f0.f3) ((Qb B 0).f0.f4.f0) ((Qb B 0).f0.f4.f1) ((Qb B 0).f0.f4.f2) ((Qb B 0).f1) ((Qb B 0).f2) ((Qb B 0).f3) ([]:List Int) ([]:List Int) ([]:List Int) 2 1 (-1)).bind fun a8=>(if 1<(B.length:Int) then ((group_Cost.f k J.1 J.2.1 J.2.2.1 J.2.2.2.1 J.2.2.2.2.1 J.2.2.2.2.2.1 J.2.2.2.2.2.2.1 J.2.2.2.2.2.2.2.1 J.2.2.2.2.2.2.2.2.1 J.2.2.2.2.2.2.2.2.2 ((Qb B 1).f0.f0) ((Qb B 1).f0.f1) ((Qb B 1).f0.f2) ((Qb B 1).f0.f3) ((Qb B 1).f0.f4.f0) ((Qb B 1).f0.f4.f1) ((Qb B 1).f0.f4.f2) ((Qb B 1).f1) ((Qb B 1).f2) ((Qb B 1).f3) ([]:List Int) ([]:List Int) ([]:List Int) 2 1 (-1)).bind fun a1=>((group_Pick.f k J.1 J.2.1 J.2.2.1 J.2.2.2.1 J.2.2.2.2.1 J.2.2.2.2.2.1 J.2.2.2.2.2.2.1 J.2.2.2.2.2.2.2.1 J.2.2.2.2.2.2.2.2.1 J.2.2.2.2.2.2.2.2.2 B 0 δ ([]:List (S86)) 2 1 (-1)).bind fun a0=>((group_Spread.f k J.1 J.2.1 J.2.2.1 J.2.2.2.1 J.2.2.2.2.1 J.2.2.2.2.2.1 J.2.2.2.2.2.2.1 J.2.2.2.2.2.2.2.1 J.2.2.2.2.2.2.2.2.1 J.2.2.2.2.2.2.2.2.2 B 0 δ ([]:List (S86))).bind fun O=>(if a8.1=4 then (if a8.2=0 then (if a1.1=2 then (if a1.2=0 then (if a0.1=1 then (if a0.2=0 then (if O.2.2=0 then (if (O.1.length:Int)=1 then (if 0<(O.1.length:Int) then (if ((Qc O.1 0).f2)=1 then ((group_Check.f k J.1 J.2.1 J.2.2.1 J.2.2.2.1 J.2.2.2.2.1 J.2.2.2.2.2.1 J.2.2.2.2.2.2.1 J.2.2.2.2.2.2.2.1 J.2.2.2.2.2.2.2.2.1 J.2.2.2.2.2.2.2.2.2 B δ ([]:List (S86))).bind fun a3=>(some (a3==0))) else (none)) else (none)) else (none)) else (none)) else (none)) else (none)) else (none)) else (none)) else (none)) else (none))))) else (none))) else (none))))
theorem newellaw21_awake.mono:∀ k,LeO (newellaw21_awake.f k) (newellaw21_awake.f (k+1)):=by
 intro  k
 unfold newellaw21_awake.f
 repeat' first
   |(with_reducible exact group_Check.mono _ _ _ _ _ _ _ _ _ _ _ _ _ _)
   |(with_reducible exact group_Cost.mono _ _ _ _ _ _ _ _ _ _ _ _ _ _ _ _ _ _ _ _ _ _ _ _ _ _ _)
   |(with_reducible exact group_Pick.mono _ _ _ _ _ _ _ _ _ _ _ _ _ _ _ _ _ _)
   |(with_reducible exact group_Spread.mono _ _ _ _ _ _ _ _ _ _ _ _ _ _ _)
   |(with_reducible exact LeO.refl _)
   |(with_reducible exact LeO.none _)
   |(with_reducible refine LeO.ite ?_ ?_)
   |(with_reducible refine LeO.bind ?_ (fun _=>?_))
   |exact group_Check.mono _ _ _ _ _ _ _ _ _ _ _ _ _ _
   |exact group_Cost.mono _ _ _ _ _ _ _ _ _ _ _ _ _ _ _ _ _ _ _ _ _ _ _ _ _ _ _
   |exact group_Pick.mono _ _ _ _ _ _ _ _ _ _ _ _ _ _ _ _ _ _
   |exact group_Spread.mono _ _ _ _ _ _ _ _ _ _ _ _ _ _ _
   |exact LeO.none _
   |refine LeO.ite ?_ ?_
   |refine LeO.bind ?_ (fun _=>?_)
def newellaw21_awake.T5:Bool×List (List Nat×List Nat):=(true,[([],[]),([],[]),([1],[1]),([2],[2]),([],[]),([],[]),([0,3,4,5],[0,3,4,5]),([6],[6]),([7],[7]),([7],[7]),([8,6,0,1,2,3,4,5,6,7,8],[8]),([9,10,0,1,2,3,4,5,6,7,8,9,10],[9])])
def newellaw21_awake.B5:List Nat:=[0,0,2,6,0,0,63,127,255,255,511,2047]
theorem newellaw21_awake.Mr:rtab .any (opsOf Try.f9 5)=newellaw21_awake.T5:=by kernel_rfl
theorem newellaw21_awake.Wj:Zs newellaw21_awake.T5.2 newellaw21_awake.B5=true:=by kernel_rfl
def newellaw21_awake.T6:Bool×List (List Nat×List Nat):=(true,[([],[]),([],[]),([1],[1]),([2],[2]),([],[]),([],[]),([0,3,4,5],[0,3,4,5]),([6],[6]),([7],[7]),([7],[7]),([8,6,0,1,2,3,4,5,6,7,8],[8]),([9,10,0,1,2,3,4,5,6,7,8,9,10],[9])])
def newellaw21_awake.B6:List Nat:=[0,0,2,6,0,0,63,127,255,255,511,2047]
theorem newellaw21_awake.N1:rtab .any (opsOf Try.f9 6)=newellaw21_awake.T6:=by kernel_rfl
theorem newellaw21_awake.Me:Zs newellaw21_awake.T6.2 newellaw21_awake.B6=true:=by kernel_rfl
set_option maxHeartbeats 8000000 in
set_option maxRecDepth 100000 in
theorem newellaw21_awake.calls (k:Nat)  (r:Bool) (w:World) (h:newellaw21_awake.f k=some r):
  Calls Try.prog 9 #[] w fun e w'=>e = .returned (.bool r)∧Below w.heap.size w w':=by
 have db:=Try.underlying25
 have fc:=Try.underlying31
 have fz:=Try.underlying29
 have d9:=Try.underlying36
 have fe:=Try.underlying50
 have dt:=Try.underlying34
 have HB:=Aside0.mk (Below.refl w.heap.size w)
 have H:((newellaw17_Plain.f).bind fun J=>((some (([(⟨(⟨0,0,0,0,(⟨0,0,0⟩:S27)⟩:S29),0,false,false⟩:S31),(⟨(⟨3,0,0,0,(⟨0,0,0⟩:S27)⟩:S29),0,false,false⟩:S31)]:List (S31)):List (S31))).bind fun B=>((some (([(⟨2,1,(-1)⟩:S36)]:List (S36)):List (S36))).bind fun δ =>(if 0<(B.length:Int) then ((group_Cost.f k J.1 J.2.1 J.2.2.1 J.2.2.2.1 J.2.2.2.2.1 J.2.2.2.2.2.1 J.2.2.2.2.2.2.1 J.2.2.2.2.2.2.2.1 J.2.2.2.2.2.2.2.2.1 J.2.2.2.2.2.2.2.2.2 ((Qb B 0).f0.f0) ((Qb B 0).f0.f1) ((Qb B 0).f0.f2) ((Qb B 0).f0.f3) ((Qb B 0).f0.f4.f0) ((Qb B 0).f0.f4.f1) ((Qb B 0).f0.f4.f2) ((Qb B 0).f1) ((Qb B 0).f2) ((Qb B 0).f3) ([]:List Int) ([]:List Int) ([]:List Int) 2 1 (-1)).bind fun a8=>(if 1<(B.length:Int) then ((group_Cost.f k J.1 J.2.1 J.2.2.1 J.2.2.2.1 J.2.2.2.2.1 J.2.2.2.2.2.1 J.2.2.2.2.2.2.1 J.2.2.2.2.2.2.2.1 J.2.2.2.2.2.2.2.2.1 J.2.2.2.2.2.2.2.2.2 ((Qb B 1).f0.f0) ((Qb B 1).f0.f1) ((Qb B 1).f0.f2) ((Qb B 1).f0.f3) ((Qb B 1).f0.f4.f0) ((Qb B 1).f0.f4.f1) ((Qb B 1).f0.f4.f2) ((Qb B 1).f1) ((Qb B 1).f2) ((Qb B 1).f3) ([]:List Int) ([]:List Int) ([]:List Int) 2 1 (-1)).bind fun a1=>((group_Pick.f k J.1 J.2.1 J.2.2.1 J.2.2.2.1 J.2.2.2.2.1 J.2.2.2.2.2.1 J.2.2.2.2.2.2.1 J.2.2.2.2.2.2.2.1 J.2.2.2.2.2.2.2.2.1 J.2.2.2.2.2.2.2.2.2 B 0 δ ([]:List (S86)) 2 1 (-1)).bind fun a0=>((group_Spread.f k J.1 J.2.1 J.2.2.1 J.2.2.2.1 J.2.2.2.2.1 J.2.2.2.2.2.1 J.2.2.2.2.2.2.1 J.2.2.2.2.2.2.2.1 J.2.2.2.2.2.2.2.2.1 J.2.2.2.2.2.2.2.2.2 B 0 δ ([]:List (S86))).bind fun O=>(if a8.1=4 then (if a8.2=0 then (if a1.1=2 then (if a1.2=0 then (if a0.1=1 then (if a0.2=0 then (if O.2.2=0 then (if (O.1.length:Int)=1 then (if 0<(O.1.length:Int) then (if ((Qc O.1 0).f2)=1 then ((group_Check.f k J.1 J.2.1 J.2.2.1 J.2.2.2.1 J.2.2.2.2.1 J.2.2.2.2.2.1 J.2.2.2.2.2.2.1 J.2.2.2.2.2.2.2.1 J.2.2.2.2.2.2.2.2.1 J.2.2.2.2.2.2.2.2.2 B δ ([]:List (S86))).bind fun a3=>(some (a3==0))) else (none)) else (none)) else (none)) else (none)) else (none)) else (none)) else (none)) else (none)) else (none)) else (none))))) else (none))) else (none)))))=some r:=h
 clear h
 replace H:=Option.bind_eq_some_iff.mp H
 obtain⟨⟨X,Z,aj,ε,ζ,η,θ,ι,μ,ρ⟩,dl,H⟩:=H
 replace H:((some (([(⟨(⟨0,0,0,0,(⟨0,0,0⟩:S27)⟩:S29),0,false,false⟩:S31),(⟨(⟨3,0,0,0,(⟨0,0,0⟩:S27)⟩:S29),0,false,false⟩:S31)]:List (S31)):List (S31))).bind fun B=>((some (([(⟨2,1,(-1)⟩:S36)]:List (S36)):List (S36))).bind fun δ =>(if 0<(B.length:Int) then ((group_Cost.f k X Z aj ε ζ η θ ι μ ρ ((Qb B 0).f0.f0) ((Qb B 0).f0.f1) ((Qb B 0).f0.f2) ((Qb B 0).f0.f3) ((Qb B 0).f0.f4.f0) ((Qb B 0).f0.f4.f1) ((Qb B 0).f0.f4.f2) ((Qb B 0).f1) ((Qb B 0).f2) ((Qb B 0).f3) ([]:List Int) ([]:List Int) ([]:List Int) 2 1 (-1)).bind fun a8=>(if 1<(B.length:Int) then ((group_Cost.f k X Z aj ε ζ η θ ι μ ρ ((Qb B 1).f0.f0) ((Qb B 1).f0.f1) ((Qb B 1).f0.f2) ((Qb B 1).f0.f3) ((Qb B 1).f0.f4.f0) ((Qb B 1).f0.f4.f1) ((Qb B 1).f0.f4.f2) ((Qb B 1).f1) ((Qb B 1).f2) ((Qb B 1).f3) ([]:List Int) ([]:List Int) ([]:List Int) 2 1 (-1)).bind fun a1=>((group_Pick.f k X Z aj ε ζ η θ ι μ ρ B 0 δ ([]:List (S86)) 2 1 (-1)).bind fun a0=>((group_Spread.f k X Z aj ε ζ η θ ι μ ρ B 0 δ ([]:List (S86))).bind fun O=>(if a8.1=4 then (if a8.2=0 then (if a1.1=2 then (if a1.2=0 then (if a0.1=1 then (if a0.2=0 then (if O.2.2=0 then (if (O.1.length:Int)=1 then (if 0<(O.1.length:Int) then (if ((Qc O.1 0).f2)=1 then ((group_Check.f k X Z aj ε ζ η θ ι μ ρ B δ ([]:List (S86))).bind fun a3=>(some (a3==0))) else (none)) else (none)) else (none)) else (none)) else (none)) else (none)) else (none)) else (none)) else (none)) else (none))))) else (none))) else (none))))=some r:=H
 have A1:=Aside0.mk dl
 clear dl
 obtain⟨B,ce⟩:∃ y_:List (S31),y_=(([(⟨(⟨0,0,0,0,(⟨0,0,0⟩:S27)⟩:S29),0,false,false⟩:S31),(⟨(⟨3,0,0,0,(⟨0,0,0⟩:S27)⟩:S29),0,false,false⟩:S31)]:List (S31))):=⟨_,rfl⟩
 replace H:((some (([(⟨2,1,(-1)⟩:S36)]:List (S36)):List (S36))).bind fun δ =>(if 0<(B.length:Int) then ((group_Cost.f k X Z aj ε ζ η θ ι μ ρ ((Qb B 0).f0.f0) ((Qb B 0).f0.f1) ((Qb B 0).f0.f2) ((Qb B 0).f0.f3) ((Qb B 0).f0.f4.f0) ((Qb B 0).f0.f4.f1) ((Qb B 0).f0.f4.f2) ((Qb B 0).f1) ((Qb B 0).f2) ((Qb B 0).f3) ([]:List Int) ([]:List Int) ([]:List Int) 2 1 (-1)).bind fun a8=>(if 1<(B.length:Int) then ((group_Cost.f k X Z aj ε ζ η θ ι μ ρ ((Qb B 1).f0.f0) ((Qb B 1).f0.f1) ((Qb B 1).f0.f2) ((Qb B 1).f0.f3) ((Qb B 1).f0.f4.f0) ((Qb B 1).f0.f4.f1) ((Qb B 1).f0.f4.f2) ((Qb B 1).f1) ((Qb B 1).f2) ((Qb B 1).f3) ([]:List Int) ([]:List Int) ([]:List Int) 2 1 (-1)).bind fun a1=>((group_Pick.f k X Z aj ε ζ η θ ι μ ρ B 0 δ ([]:List (S86)) 2 1 (-1)).bind fun a0=>((group_Spread.f k X Z aj ε ζ η θ ι μ ρ B 0 δ ([]:List (S86))).bind fun O=>(if a8.1=4 then (if a8.2=0 then (if a1.1=2 then (if a1.2=0 then (if a0.1=1 then (if a0.2=0 then (if O.2.2=0 then (if (O.1.length:Int)=1 then (if 0<(O.1.length:Int) then (if ((Qc O.1 0).f2)=1 then ((group_Check.f k X Z aj ε ζ η θ ι μ ρ B δ ([]:List (S86))).bind fun a3=>(some (a3==0))) else (none)) else (none)) else (none)) else (none)) else (none)) else (none)) else (none)) else (none)) else (none)) else (none))))) else (none))) else (none)))=some r:=by first|(rw[ce];with_reducible exact H)|(have am:=(Option.bind_some _ _).symm.trans H;rw[ce];with_reducible exact am)|(have am:=(Option.bind_some _ _).symm.trans H;with_reducible exact am)|with_reducible exact H|(rw[ce];exact H)|exact H
 have fk:=Aside0.mk ce
 clear ce
 obtain⟨δ,cg⟩:∃ y_:List (S36),y_=(([(⟨2,1,(-1)⟩:S36)]:List (S36))):=⟨_,rfl⟩
 replace H:(if 0<(B.length:Int) then ((group_Cost.f k X Z aj ε ζ η θ ι μ ρ ((Qb B 0).f0.f0) ((Qb B 0).f0.f1) ((Qb B 0).f0.f2) ((Qb B 0).f0.f3) ((Qb B 0).f0.f4.f0) ((Qb B 0).f0.f4.f1) ((Qb B 0).f0.f4.f2) ((Qb B 0).f1) ((Qb B 0).f2) ((Qb B 0).f3) ([]:List Int) ([]:List Int) ([]:List Int) 2 1 (-1)).bind fun a8=>(if 1<(B.length:Int) then ((group_Cost.f k X Z aj ε ζ η θ ι μ ρ ((Qb B 1).f0.f0) ((Qb B 1).f0.f1) ((Qb B 1).f0.f2) ((Qb B 1).f0.f3) ((Qb B 1).f0.f4.f0) ((Qb B 1).f0.f4.f1) ((Qb B 1).f0.f4.f2) ((Qb B 1).f1) ((Qb B 1).f2) ((Qb B 1).f3) ([]:List Int) ([]:List Int) ([]:List Int) 2 1 (-1)).bind fun a1=>((group_Pick.f k X Z aj ε ζ η θ ι μ ρ B 0 δ ([]:List (S86)) 2 1 (-1)).bind fun a0=>((group_Spread.f k X Z aj ε ζ η θ ι μ ρ B 0 δ ([]:List (S86))).bind fun O=>(if a8.1=4 then (if a8.2=0 then (if a1.1=2 then (if a1.2=0 then (if a0.1=1 then (if a0.2=0 then (if O.2.2=0 then (if (O.1.length:Int)=1 then (if 0<(O.1.length:Int) then (if ((Qc O.1 0).f2)=1 then ((group_Check.f k X Z aj ε ζ η θ ι μ ρ B δ ([]:List (S86))).bind fun a3=>(some (a3==0))) else (none)) else (none)) else (none)) else (none)) else (none)) else (none)) else (none)) else (none)) else (none)) else (none))))) else (none))) else (none))=some r:=by first|(rw[cg];with_reducible exact H)|(have am:=(Option.bind_some _ _).symm.trans H;rw[cg];with_reducible exact am)|(have am:=(Option.bind_some _ _).symm.trans H;with_reducible exact am)|with_reducible exact H|(rw[cg];exact H)|exact H
 have fq:=Aside0.mk cg
 clear cg
 by_cases c2:0<(B.length:Int)
 ·rw[if_pos c2] at H
  have c2b0:decide (0<(B.length:Int))=true:=decide_eq_true c2
  have c2b1:decide (0<B.length)=true:=decide_eq_true (by omega)
  clear c2
  replace H:=Option.bind_eq_some_iff.mp H
  obtain⟨⟨bv,cn⟩,ap,H⟩:=H
  replace H:(if 1<(B.length:Int) then ((group_Cost.f k X Z aj ε ζ η θ ι μ ρ ((Qb B 1).f0.f0) ((Qb B 1).f0.f1) ((Qb B 1).f0.f2) ((Qb B 1).f0.f3) ((Qb B 1).f0.f4.f0) ((Qb B 1).f0.f4.f1) ((Qb B 1).f0.f4.f2) ((Qb B 1).f1) ((Qb B 1).f2) ((Qb B 1).f3) ([]:List Int) ([]:List Int) ([]:List Int) 2 1 (-1)).bind fun a1=>((group_Pick.f k X Z aj ε ζ η θ ι μ ρ B 0 δ ([]:List (S86)) 2 1 (-1)).bind fun a0=>((group_Spread.f k X Z aj ε ζ η θ ι μ ρ B 0 δ ([]:List (S86))).bind fun O=>(if bv=4 then (if cn=0 then (if a1.1=2 then (if a1.2=0 then (if a0.1=1 then (if a0.2=0 then (if O.2.2=0 then (if (O.1.length:Int)=1 then (if 0<(O.1.length:Int) then (if ((Qc O.1 0).f2)=1 then ((group_Check.f k X Z aj ε ζ η θ ι μ ρ B δ ([]:List (S86))).bind fun a3=>(some (a3==0))) else (none)) else (none)) else (none)) else (none)) else (none)) else (none)) else (none)) else (none)) else (none)) else (none))))) else (none))=some r:=H
  have A3:=Aside0.mk ap
  clear ap
  by_cases c4:1<(B.length:Int)
  ·rw[if_pos c4] at H
   have c4b0:decide (1<(B.length:Int))=true:=decide_eq_true c4
   have c4b1:decide (1<B.length)=true:=decide_eq_true (by omega)
   clear c4
   replace H:=Option.bind_eq_some_iff.mp H
   obtain⟨⟨bz,cd⟩,bm,H⟩:=H
   replace H:((group_Pick.f k X Z aj ε ζ η θ ι μ ρ B 0 δ ([]:List (S86)) 2 1 (-1)).bind fun a0=>((group_Spread.f k X Z aj ε ζ η θ ι μ ρ B 0 δ ([]:List (S86))).bind fun O=>(if bv=4 then (if cn=0 then (if bz=2 then (if cd=0 then (if a0.1=1 then (if a0.2=0 then (if O.2.2=0 then (if (O.1.length:Int)=1 then (if 0<(O.1.length:Int) then (if ((Qc O.1 0).f2)=1 then ((group_Check.f k X Z aj ε ζ η θ ι μ ρ B δ ([]:List (S86))).bind fun a3=>(some (a3==0))) else (none)) else (none)) else (none)) else (none)) else (none)) else (none)) else (none)) else (none)) else (none)) else (none))))=some r:=H
   have A5:=Aside0.mk bm
   clear bm
   replace H:=Option.bind_eq_some_iff.mp H
   obtain⟨⟨ch,ci⟩,ao,H⟩:=H
   replace H:((group_Spread.f k X Z aj ε ζ η θ ι μ ρ B 0 δ ([]:List (S86))).bind fun O=>(if bv=4 then (if cn=0 then (if bz=2 then (if cd=0 then (if ch=1 then (if ci=0 then (if O.2.2=0 then (if (O.1.length:Int)=1 then (if 0<(O.1.length:Int) then (if ((Qc O.1 0).f2)=1 then ((group_Check.f k X Z aj ε ζ η θ ι μ ρ B δ ([]:List (S86))).bind fun a3=>(some (a3==0))) else (none)) else (none)) else (none)) else (none)) else (none)) else (none)) else (none)) else (none)) else (none)) else (none)))=some r:=H
   have A6:=Aside0.mk ao
   clear ao
   replace H:=Option.bind_eq_some_iff.mp H
   obtain⟨⟨ψ,ck,cm⟩,cw,H⟩:=H
   replace H:(if bv=4 then (if cn=0 then (if bz=2 then (if cd=0 then (if ch=1 then (if ci=0 then (if cm=0 then (if (ψ.length:Int)=1 then (if 0<(ψ.length:Int) then (if ((Qc ψ 0).f2)=1 then ((group_Check.f k X Z aj ε ζ η θ ι μ ρ B δ ([]:List (S86))).bind fun a3=>(some (a3==0))) else (none)) else (none)) else (none)) else (none)) else (none)) else (none)) else (none)) else (none)) else (none)) else (none))=some r:=H
   have A7:=Aside0.mk cw
   clear cw
   by_cases c8:bv=4
   ·rw[if_pos c8] at H
    have c8b0:(bv==4)=true:=beq_iff_eq.mpr c8
    have c8b1:(bv != 4)=false:=bne_eq_false_iff_eq.mpr c8
    clear c8
    by_cases c9:cn=0
    ·rw[if_pos c9] at H
     have c9b0:(cn==0)=true:=beq_iff_eq.mpr c9
     have c9b1:(cn != 0)=false:=bne_eq_false_iff_eq.mpr c9
     clear c9
     by_cases c10:bz=2
     ·rw[if_pos c10] at H
      have c10b0:(bz==2)=true:=beq_iff_eq.mpr c10
      have c10b1:(bz != 2)=false:=bne_eq_false_iff_eq.mpr c10
      clear c10
      by_cases ae:cd=0
      ·rw[if_pos ae] at H
       have c11b0:(cd==0)=true:=beq_iff_eq.mpr ae
       have c11b1:(cd != 0)=false:=bne_eq_false_iff_eq.mpr ae
       clear ae
       by_cases al:ch=1
       ·rw[if_pos al] at H
        have c12b0:(ch==1)=true:=beq_iff_eq.mpr al
        have c12b1:(ch != 1)=false:=bne_eq_false_iff_eq.mpr al
        clear al
        by_cases a6:ci=0
        ·rw[if_pos a6] at H
         have c13b0:(ci==0)=true:=beq_iff_eq.mpr a6
         have c13b1:(ci != 0)=false:=bne_eq_false_iff_eq.mpr a6
         clear a6
         by_cases ac:cm=0
         ·rw[if_pos ac] at H
          have c14b0:(cm==0)=true:=beq_iff_eq.mpr ac
          have c14b1:(cm != 0)=false:=bne_eq_false_iff_eq.mpr ac
          clear ac
          by_cases af:(ψ.length:Int)=1
          ·rw[if_pos af] at H
           have c15b0:((ψ.length:Int)==1)=true:=beq_iff_eq.mpr af
           have c15b1:((ψ.length:Int) != 1)=false:=bne_eq_false_iff_eq.mpr af
           clear af
           by_cases χ :0<(ψ.length:Int)
           ·rw[if_pos χ] at H
            have c16b0:decide (0<(ψ.length:Int))=true:=decide_eq_true χ
            have c16b1:decide (0 < ψ.length)=true:=decide_eq_true (by omega)
            clear χ
            by_cases σ:((Qc ψ 0).f2)=1
            ·rw[if_pos σ] at H
             have c17b0:(((Qc ψ 0).f2)==1)=true:=beq_iff_eq.mpr σ
             have c17b1:(((Qc ψ 0).f2) != 1)=false:=bne_eq_false_iff_eq.mpr σ
             clear σ
             replace H:=Option.bind_eq_some_iff.mp H
             obtain⟨a3,b4,H⟩:=H
             replace H:(some (a3==0))=some r:=H
             have cj:=Aside0.mk b4
             clear b4
             obtain rfl:=Option.some.inj H
             go_enter Try.func9,Try.ntmps9
             try go_wp2_with (first|((with_reducible refine Ql (f:=27) rfl ?_);refine Q2 (some 13) rfl rfl Try.func27 kr rfl #[] rfl qM ?_;(with_reducible refine(newellaw17_Plain.calls  X Z aj ε ζ η θ ι μ ρ _ A1.out).mono ?_);rintro e az ⟨rfl,hb⟩;refine⟨_,rfl, ?_⟩;replace HB:=sHb hb;(try clear hb);(try clear a9);(try clear hk);(try clear hi))|((with_reducible refine Qe (N:=1) rfl ?_);(try(refine Zy (by rfl) ?_;dsimp only));refine qE 1 #[.int .i64 0,.int .i64 0,.int .i64 0,.int .i64 0,.int .i64 0,.int .i64 0,.int .i64 0,.int .i64 0,.int .i64 0,.int .i64 0] 25 ?_;intro κ hg dv hbox hb;have Y:=Aside0.mk hbox;have h0:=sGe hg;have h4:=sGe hg;replace HB:=sHb hb;clear hb hbox hg;obtain⟨jj,jk,jl,jm,jn,jp,jq,ha,he,hh,jr,js,jt,ju,jv,jw,jx,hj,hl,ho⟩:=Za Y.out)|((with_reducible refine Qe (N:=17) rfl ?_);(try(refine Zy (by rfl) ?_;dsimp only));refine Kd.G6 k31 _ 31 ?hg (N:=17) ?hd (xs:=([(⟨(⟨0,0,0,0,(⟨0,0,0⟩:S27)⟩:S29),0,false,false⟩:S31),(⟨(⟨3,0,0,0,(⟨0,0,0⟩:S27)⟩:S29),0,false,false⟩:S31)]:List (S31))) (inner:=[.int .i64 0,.int .i64 0,.int .i64 0,.int .i64 0,.int .i64 0,.int .i64 0,.int .i64 0,.int .i64 0,.bool false,.bool false,.int .i64 3,.int .i64 0,.int .i64 0,.int .i64 0,.int .i64 0,.int .i64 0,.int .i64 0,.int .i64 0,.bool false,.bool false]) (ok:=fun _=>True) (okp:=fun _=>True) ?hr ?hp (fun _ hk=>hk) trivial (Below.refl _ _) (Nat.le_refl _) (by simp) ?_;(case hd=>rfl);(case hg=>rfl);(case hr=>go_simp <;> rfl);(case hp=>exact(Reps.c10 (show Kd.M k31 _ _ _ (⟨(⟨0,0,0,0,(⟨0,0,0⟩:S27)⟩:S29),0,false,false⟩:S31) [.int .i64 0,.int .i64 0,.int .i64 0,.int .i64 0,.int .i64 0,.int .i64 0,.int .i64 0,.int .i64 0,.bool false,.bool false] from(Wc _ _ _ (⟨(⟨0,0,0,0,(⟨0,0,0⟩:S27)⟩:S29),0,false,false⟩:S31))) (Reps.c10 (show Kd.M k31 _ _ _ (⟨(⟨3,0,0,0,(⟨0,0,0⟩:S27)⟩:S29),0,false,false⟩:S31) [.int .i64 3,.int .i64 0,.int .i64 0,.int .i64 0,.int .i64 0,.int .i64 0,.int .i64 0,.int .i64 0,.bool false,.bool false] from(Wc _ _ _ (⟨(⟨3,0,0,0,(⟨0,0,0⟩:S27)⟩:S29),0,false,false⟩:S31))) (Reps.none _ _))));intro h5 bd cv hb hg_ hnew_;clear hg_ hnew_;(first|rw[← fk.out] at cv|(simp only[Int.reduceToNat] at cv;rw[← fk.out] at cv));have γ:=Aside0.mk (Kd.Q9 cv (Qr bel));replace Y:=Aside0.mk (Qs (g:= κ) (o:=.cells #[.int .i64 X,.int .i64 Z,.int .i64 aj,.int .i64 ε,.int .i64 ζ,.int .i64 η,.int .i64 θ,.int .i64 ι,.int .i64 μ,.int .i64 ρ] 25 (0,0)) (by(with_reducible repeat first|refine Qj ?_ _|refine Qd ?_|refine Qk ?_ _);refine Qm (cs:=#[.int .i64 X,.int .i64 Z,.int .i64 aj,.int .i64 ε,.int .i64 ζ,.int .i64 η,.int .i64 θ,.int .i64 ι,.int .i64 μ,.int .i64 0]) ?_ 9 _ rfl;(with_reducible repeat first|refine Qj ?_ _|refine Qd ?_|refine Qk ?_ _);refine Qm (cs:=#[.int .i64 X,.int .i64 Z,.int .i64 aj,.int .i64 ε,.int .i64 ζ,.int .i64 η,.int .i64 θ,.int .i64 ι,.int .i64 0,.int .i64 0]) ?_ 8 _ rfl;(with_reducible repeat first|refine Qj ?_ _|refine Qd ?_|refine Qk ?_ _);refine Qm (cs:=#[.int .i64 X,.int .i64 Z,.int .i64 aj,.int .i64 ε,.int .i64 ζ,.int .i64 η,.int .i64 θ,.int .i64 0,.int .i64 0,.int .i64 0]) ?_ 7 _ rfl;(with_reducible repeat first|refine Qj ?_ _|refine Qd ?_|refine Qk ?_ _);refine Qm (cs:=#[.int .i64 X,.int .i64 Z,.int .i64 aj,.int .i64 ε,.int .i64 ζ,.int .i64 η,.int .i64 0,.int .i64 0,.int .i64 0,.int .i64 0]) ?_ 6 _ rfl;(with_reducible repeat first|refine Qj ?_ _|refine Qd ?_|refine Qk ?_ _);refine Qm (cs:=#[.int .i64 X,.int .i64 Z,.int .i64 aj,.int .i64 ε,.int .i64 ζ,.int .i64 0,.int .i64 0,.int .i64 0,.int .i64 0,.int .i64 0]) ?_ 5 _ rfl;(with_reducible repeat first|refine Qj ?_ _|refine Qd ?_|refine Qk ?_ _);refine Qm (cs:=#[.int .i64 X,.int .i64 Z,.int .i64 aj,.int .i64 ε,.int .i64 0,.int .i64 0,.int .i64 0,.int .i64 0,.int .i64 0,.int .i64 0]) ?_ 4 _ rfl;(with_reducible repeat first|refine Qj ?_ _|refine Qd ?_|refine Qk ?_ _);refine Qm (cs:=#[.int .i64 X,.int .i64 Z,.int .i64 aj,.int .i64 0,.int .i64 0,.int .i64 0,.int .i64 0,.int .i64 0,.int .i64 0,.int .i64 0]) ?_ 3 _ rfl;(with_reducible repeat first|refine Qj ?_ _|refine Qd ?_|refine Qk ?_ _);refine Qm (cs:=#[.int .i64 X,.int .i64 Z,.int .i64 0,.int .i64 0,.int .i64 0,.int .i64 0,.int .i64 0,.int .i64 0,.int .i64 0,.int .i64 0]) ?_ 2 _ rfl;(with_reducible repeat first|refine Qj ?_ _|refine Qd ?_|refine Qk ?_ _);refine Qm (cs:=#[.int .i64 X,.int .i64 0,.int .i64 0,.int .i64 0,.int .i64 0,.int .i64 0,.int .i64 0,.int .i64 0,.int .i64 0,.int .i64 0]) ?_ 1 _ rfl;(with_reducible repeat first|refine Qj ?_ _|refine Qd ?_|refine Qk ?_ _);refine Qm (cs:=#[.int .i64 0,.int .i64 0,.int .i64 0,.int .i64 0,.int .i64 0,.int .i64 0,.int .i64 0,.int .i64 0,.int .i64 0,.int .i64 0]) ?_ 0 _ rfl;(with_reducible repeat first|refine Qj ?_ _|refine Qd ?_|refine Qk ?_ _);exact Y.out) hb);replace HB:=sHb hb;clear hb cv)|((with_reducible refine Qe (N:=3) rfl ?_);(try(refine Zy (by rfl) ?_;dsimp only));refine qE 3 #[.int .i64 0,.int .i64 0,.int .i64 0] 36 ?_;intro ab hg ca hbox hb;have L:=Aside0.mk hbox;have i3:=sGe hg;have i4:=sGe hg;have d8:=sNl Y hg;have da:=sNg Y hg;replace γ:=sRb γ hb;replace Y:=sBk Y hb;replace HB:=sHb hb;clear hb hbox hg;have en:=da.out;have et:=d8.out;obtain⟨eg,eh,el,ei,ej,em⟩:=qD3 L.out)|((with_reducible refine Qe (N:=20) rfl ?_);(try(refine Zy (by rfl) ?_;dsimp only));refine Kd.G6 k36 _ 36 ?hg (N:=20) ?hd (xs:=([(⟨2,1,(-1)⟩:S36)]:List (S36))) (inner:=[.int .i64 2,.int .i64 1,.int .i64 (-1)]) (ok:=fun _=>True) (okp:=fun _=>True) ?hr ?hp (fun _ hk=>hk) trivial (Below.refl _ _) (Nat.le_refl _) (by simp) ?_;(case hd=>rfl);(case hg=>rfl);(case hr=>go_simp <;> rfl);(case hp=>exact(Reps.c3 (show Kd.M k36 _ _ _ (⟨2,1,(-1)⟩:S36) [.int .i64 2,.int .i64 1,.int .i64 (-1)] from(J9 _ _ _ (⟨2,1,(-1)⟩:S36))) (Reps.none _ _)));intro ig dm co hb hg_ hnew_;clear hg_ hnew_;(first|rw[← fq.out] at co|(simp only[Int.reduceToNat] at co;rw[← fq.out] at co));have ν :=Aside0.mk (Kd.Q9 (Kd.Jz co (g:=ab) (o:=.cells #[.int .i64 2,.int .i64 1,.int .i64 (-1)] 36 (0,0)) (by(with_reducible repeat first|refine Qj ?_ _|refine Qd ?_|refine Qk ?_ _);refine Qm (cs:=#[.int .i64 2,.int .i64 1,.int .i64 0]) ?_ 2 _ rfl;(with_reducible repeat first|refine Qj ?_ _|refine Qd ?_|refine Qk ?_ _);refine Qm (cs:=#[.int .i64 2,.int .i64 0,.int .i64 0]) ?_ 1 _ rfl;(with_reducible repeat first|refine Qj ?_ _|refine Qd ?_|refine Qk ?_ _);refine Qm (cs:=#[.int .i64 0,.int .i64 0,.int .i64 0]) ?_ 0 _ rfl;(with_reducible repeat first|refine Qj ?_ _|refine Qd ?_|refine Qk ?_ _);exact L.out)) (Qr bel));replace γ:=Aside0.mk (Kd.Z2 (by(with_reducible repeat first|apply Kd.Qw|apply Kd.Qv|apply Kd.Q1);exact(Kd.Qz (Kd.Qu (Kd.Qu (Kd.Qu (Kd.Q6 γ.out L.out (by decide)) (fun _ hk=>hk.2) (.int .i64 2)) (fun _ hk=>hk.2) (.int .i64 1)) (fun _ hk=>hk.2) (.int .i64 (-1))) (fun _ h_=>h_.1))) hb);replace Y:=sBk Y hb;replace L:=Aside0.mk (Qs (g:=ab) (o:=.cells #[.int .i64 2,.int .i64 1,.int .i64 (-1)] 36 (0,0)) (by(with_reducible repeat first|refine Qj ?_ _|refine Qd ?_|refine Qk ?_ _);refine Qm (cs:=#[.int .i64 2,.int .i64 1,.int .i64 0]) ?_ 2 _ rfl;(with_reducible repeat first|refine Qj ?_ _|refine Qd ?_|refine Qk ?_ _);refine Qm (cs:=#[.int .i64 2,.int .i64 0,.int .i64 0]) ?_ 1 _ rfl;(with_reducible repeat first|refine Qj ?_ _|refine Qd ?_|refine Qk ?_ _);refine Qm (cs:=#[.int .i64 0,.int .i64 0,.int .i64 0]) ?_ 0 _ rfl;(with_reducible repeat first|refine Qj ?_ _|refine Qd ?_|refine Qk ?_ _);exact L.out) hb);replace HB:=sHb hb;clear hb co;obtain⟨be,bc,g9⟩:=Kd.Q7 ν.out;subst g9)|((with_reducible refine Qe (N:=4) rfl ?_);(try(refine Zy (by rfl) ?_;dsimp only));refine qE 4 #[.slice none 0 0,.slice none 0 0] 50 ?_;intro a2 hg eo hbox hb;have τ :=Aside0.mk hbox;have i5:=sGe hg;have i6:=sGe hg;have de:=sNl Y hg;have df:=sNg Y hg;have dn:=sNl L hg;have e3:=sNg L hg;replace γ:=sRb γ hb;replace ν :=sRb ν hb;replace Y:=sBk Y hb;replace L:=sBk L hb;replace HB:=sHb hb;clear hb hbox hg;have gh:=df.out;have gq:=de.out;have ff:=e3.out;have fg:=dn.out;obtain⟨dc,dd,du,dx⟩:=qD2 τ.out))
             have ξ :Aside0 (Kd.R k31 31 ((eo.setCell ⟨a2,0,none⟩ (.slice be δ.length bc)).setCell ⟨a2,1,none⟩ (.slice none 0 0)) w.heap.size (fun _=>True) h5 B):=⟨by(with_reducible repeat first|apply Kd.Qw|apply Kd.Qv|apply Kd.Q1);exact Kd.Qz (Kd.Qu (Kd.Qu (Kd.Q6 γ.out τ.out (by decide)) (fun _ hk=>hk.2) _) (fun _ hk=>hk.2) (.slice none 0 0)) (fun _ hk=>trivial)⟩
             have φ :Aside0 (Kd.R k36 36 ((eo.setCell ⟨a2,0,none⟩ (.slice be δ.length bc)).setCell ⟨a2,1,none⟩ (.slice none 0 0)) w.heap.size (fun k_=>k_≠ab) (.slice be δ.length bc) δ):=⟨by(with_reducible repeat first|apply Kd.Qw|apply Kd.Qv|apply Kd.Q1);exact Kd.Qz (Kd.Qu (Kd.Qu (Kd.Q6 ν.out τ.out (by decide)) (fun _ hk=>hk.2) _) (fun _ hk=>hk.2) (.slice none 0 0)) (fun _ hk=>hk.1.2)⟩
             have ω :Aside0 (((eo.setCell ⟨a2,0,none⟩ (.slice be δ.length bc)).setCell ⟨a2,1,none⟩ (.slice none 0 0)).heap[κ]?=some (.cells #[.int .i64 X,.int .i64 Z,.int .i64 aj,.int .i64 ε,.int .i64 ζ,.int .i64 η,.int .i64 θ,.int .i64 ι,.int .i64 μ,.int .i64 ρ] 25 (0,0))):=⟨bka Y⟩
             have a7:Aside0 (((eo.setCell ⟨a2,0,none⟩ (.slice be δ.length bc)).setCell ⟨a2,1,none⟩ (.slice none 0 0)).heap[ab]?=some (.cells #[.int .i64 2,.int .i64 1,.int .i64 (-1)] 36 (0,0))):=⟨bka L⟩
             have ah:Aside0 (((eo.setCell ⟨a2,0,none⟩ (.slice be δ.length bc)).setCell ⟨a2,1,none⟩ (.slice none 0 0)).heap[a2]?=some (.cells #[.slice be δ.length bc,.slice none 0 0] 50 (0,0))):=⟨by refine Qm (cs:=#[.slice be δ.length bc,.slice none 0 0]) ?_ 1 _ rfl;refine Qm (cs:=#[.slice none 0 0,.slice none 0 0]) ?_ 0 _ rfl;exact τ.out⟩
             have ar:Aside0 (Below w.heap.size w ((eo.setCell ⟨a2,0,none⟩ (.slice be δ.length bc)).setCell ⟨a2,1,none⟩ (.slice none 0 0))):=⟨bel⟩
             (try clear γ)
             (try clear ν)
             (try clear Y)
             (try clear L)
             (try clear τ)
             (try clear HB)
             generalize((eo.setCell ⟨a2,0,none⟩ (.slice be δ.length bc)).setCell ⟨a2,1,none⟩ (.slice none 0 0))=jg at ξ φ ω a7 ah ar ⊢
             have γ:= ξ
             have ν := φ
             have Y:= ω
             have L:=a7
             have τ :=ah
             have HB:=ar
             clear ξ φ ω a7 ah ar
             replace γ:=Aside0.mk (Kd.Q1 γ.out)
             replace ν :=Aside0.mk (Kd.Q1 ν.out)
             replace Y:=Aside0.mk (Qd Y.out)
             replace L:=Aside0.mk (Qd L.out)
             replace τ :=Aside0.mk (Qd τ.out)
             replace HB:=Aside0.mk (Qf HB.out)
             obtain⟨ih,ek,gf⟩:=Kd.Q7 γ.out
             (first|subst gf|(injection gf with aw bh ax;have bi:=aw.symm;have bj:=ax.symm;clear aw bh ax;subst bi;subst bj))
             have ew:0≤(0:Int):=(by omega)
             have ey:0<(B.length:Int):=of_decide_eq_true (by assumption)
             obtain⟨ak,ie,di,dj,dk,b5,b6,b7,b8,b9,ba,bb⟩:=Gh (Kd.Qy γ.out).2.2 0 ew ey
             cases ie
             have i7:(0<B.length)=True:=eq_true (by omega)
             (try rw[show((0:Int)).toNat=0 from rfl] at di)
             (try rw[show 0 * 10=0 from rfl] at di)
             (try rw[Addr.add_zero'] at di)
             (try rw[show((0:Int)).toNat=0 from rfl] at dj)
             (try rw[show 0 * 10=0 from rfl] at dj)
             (try rw[Addr.add_zero'] at dj)
             (try rw[show((0:Int)).toNat=0 from rfl] at dk)
             (try rw[show 0 * 10=0 from rfl] at dk)
             (try rw[Addr.add_zero'] at dk)
             (try rw[show((0:Int)).toNat=0 from rfl] at b5)
             (try rw[show 0 * 10=0 from rfl] at b5)
             (try rw[Addr.add_zero'] at b5)
             (try rw[show((0:Int)).toNat=0 from rfl] at b6)
             (try rw[show 0 * 10=0 from rfl] at b6)
             (try rw[Addr.add_zero'] at b6)
             (try rw[show((0:Int)).toNat=0 from rfl] at b7)
             (try rw[show 0 * 10=0 from rfl] at b7)
             (try rw[Addr.add_zero'] at b7)
             (try rw[show((0:Int)).toNat=0 from rfl] at b8)
             (try rw[show 0 * 10=0 from rfl] at b8)
             (try rw[Addr.add_zero'] at b8)
             (try rw[show((0:Int)).toNat=0 from rfl] at b9)
             (try rw[show 0 * 10=0 from rfl] at b9)
             (try rw[Addr.add_zero'] at b9)
             (try rw[show((0:Int)).toNat=0 from rfl] at ba)
             (try rw[show 0 * 10=0 from rfl] at ba)
             (try rw[Addr.add_zero'] at ba)
             (try rw[show((0:Int)).toNat=0 from rfl] at bb)
             (try rw[show 0 * 10=0 from rfl] at bb)
             (try rw[Addr.add_zero'] at bb)
             replace ew:=eq_true ew
             replace ey:=eq_true ey
             refine Zn (n:=12) (S:=fun w'=>w'.cell? ⟨κ,0,none⟩=some (.int .i64 X)∧w'.cell? ⟨κ,1,none⟩=some (.int .i64 Z)∧w'.cell? ⟨κ,2,none⟩=some (.int .i64 aj)∧w'.cell? ⟨κ,3,none⟩=some (.int .i64 ε)∧w'.cell? ⟨κ,4,none⟩=some (.int .i64 ζ)∧w'.cell? ⟨κ,5,none⟩=some (.int .i64 η)∧w'.cell? ⟨κ,6,none⟩=some (.int .i64 θ)∧w'.cell? ⟨κ,7,none⟩=some (.int .i64 ι)∧w'.cell? ⟨κ,8,none⟩=some (.int .i64 μ)∧w'.cell? ⟨κ,9,none⟩=some (.int .i64 ρ)∧w'.cell? ⟨ab,0,none⟩=some (.int .i64 2)∧w'.cell? ⟨ab,1,none⟩=some (.int .i64 1)∧w'.cell? ⟨ab,2,none⟩=some (.int .i64 (-1))∧w'.cell? ak=some (.int .i64 ((Qb B 0).f0.f0))∧w'.cell? ⟨ak.block,ak.off+1,none⟩=some (.int .i64 ((Qb B 0).f0.f1))∧w'.cell? ⟨ak.block,ak.off+2,none⟩=some (.int .i64 ((Qb B 0).f0.f2))∧w'.cell? ⟨ak.block,ak.off+3,none⟩=some (.int .i64 ((Qb B 0).f0.f3))∧w'.cell? ⟨ak.block,ak.off+4,none⟩=some (.int .i64 ((Qb B 0).f0.f4.f0))∧w'.cell? ⟨ak.block,ak.off+5,none⟩=some (.int .i64 ((Qb B 0).f0.f4.f1))∧w'.cell? ⟨ak.block,ak.off+6,none⟩=some (.int .i64 ((Qb B 0).f0.f4.f2))∧w'.cell? ⟨ak.block,ak.off+7,none⟩=some (.int .i64 ((Qb B 0).f1))∧w'.cell? ⟨ak.block,ak.off+8,none⟩=some (.bool ((Qb B 0).f2))∧w'.cell? ⟨ak.block,ak.off+9,none⟩=some (.bool ((Qb B 0).f3))) (ds:=[]) #[false,false,false,false,false,false,false,false,false,false,false,false] kr rfl rfl ⟨(Qa Y.out 0).trans rfl,(Qa Y.out 1).trans rfl,(Qa Y.out 2).trans rfl,(Qa Y.out 3).trans rfl,(Qa Y.out 4).trans rfl,(Qa Y.out 5).trans rfl,(Qa Y.out 6).trans rfl,(Qa Y.out 7).trans rfl,(Qa Y.out 8).trans rfl,(Qa Y.out 9).trans rfl,(Qa L.out 0).trans rfl,(Qa L.out 1).trans rfl,(Qa L.out 2).trans rfl,di,dj,dk,b5,b6,b7,b8,b9,ba,bb⟩ (fun hHeld=>?_);refine Q8 newellaw21_awake.Mr newellaw21_awake.Wj (fun HT_ HW_=>?_)
             generalize jg.drew=l8 at γ ν Y L τ HB di dj dk b5 b6 b7 b8 b9 ba bb hHeld ⊢
             refine qP 1 (some 24) (bN 12 2) HT_ ?_
             refine qP 2 (some 25) (bN 12 6) HT_ ?_
             refine qP 4 (some 27) (bN 12 22) HT_ ?_
             refine qT 0 (some 23) (bN 12 23) HT_ HW_ hHeld ?_
             refine qT 3 (some 26) (bN 12 31) HT_ HW_ hHeld ?_
             refine qT 5 (some 28) (bN 12 63) HT_ HW_ hHeld ?_
             refine Ze (i:=6) (N:=some 29) (bN 12 127) rfl rfl (Q5 HT_.out kr) (by decide) (fun K hK=>?_)
             refine Zd Try.func10 kr rfl #[.agg #[.int .i64 X,.int .i64 Z,.int .i64 aj,.int .i64 ε,.int .i64 ζ,.int .i64 η,.int .i64 θ,.int .i64 ι,.int .i64 μ,.int .i64 ρ],.agg #[.int .i64 ((Qb B 0).f0.f0),.int .i64 ((Qb B 0).f0.f1),.int .i64 ((Qb B 0).f0.f2),.int .i64 ((Qb B 0).f0.f3),.int .i64 ((Qb B 0).f0.f4.f0),.int .i64 ((Qb B 0).f0.f4.f1),.int .i64 ((Qb B 0).f0.f4.f2),.int .i64 ((Qb B 0).f1),.bool ((Qb B 0).f2),.bool ((Qb B 0).f3)],.agg #[.slice none 0 0,.slice none 0 0,.slice none 0 0],.agg #[.int .i64 2,.int .i64 1,.int .i64 (-1)]] (by rfl) rfl rfl qM ?_
             refine(group_Cost.calls k X Z aj ε ζ η θ ι μ ρ ((Qb B 0).f0.f0) ((Qb B 0).f0.f1) ((Qb B 0).f0.f2) ((Qb B 0).f0.f3) ((Qb B 0).f0.f4.f0) ((Qb B 0).f0.f4.f1) ((Qb B 0).f0.f4.f2) ((Qb B 0).f1) ((Qb B 0).f2) ((Qb B 0).f3) _ _ ([]:List Int) _ _ ([]:List Int) _ _ ([]:List Int) 2 1 (-1) bv cn _ ?side1 ?side2 ?side3 ?side4 ?side5 ?side6 A3.out).mono ?_
             (case side1=>exact Kd.Yn _ _)
             (case side2=>exact Nat.le_refl _)
             (case side3=>exact Kd.Yn _ _)
             (case side4=>exact Nat.le_refl _)
             (case side5=>exact Kd.Yn _ _)
             (case side6=>exact Nat.le_refl _)
             rintro e eu ⟨rfl,hb⟩
             have cp:=(hb.cell (World.block_lt_of_cell? _ _ (hHeld.2.2.2.2.2.2.2.2.2.2.2.2.2.1))).trans (hHeld.2.2.2.2.2.2.2.2.2.2.2.2.2.1)
             have cq:=(hb.cell (World.block_lt_of_cell? _ _ (hHeld.2.2.2.2.2.2.2.2.2.2.2.2.2.2.1))).trans (hHeld.2.2.2.2.2.2.2.2.2.2.2.2.2.2.1)
             have cr:=(hb.cell (World.block_lt_of_cell? _ _ (hHeld.2.2.2.2.2.2.2.2.2.2.2.2.2.2.2.1))).trans (hHeld.2.2.2.2.2.2.2.2.2.2.2.2.2.2.2.1)
             have ct:=(hb.cell (World.block_lt_of_cell? _ _ (hHeld.2.2.2.2.2.2.2.2.2.2.2.2.2.2.2.2.1))).trans (hHeld.2.2.2.2.2.2.2.2.2.2.2.2.2.2.2.2.1)
             have cu:=(hb.cell (World.block_lt_of_cell? _ _ (hHeld.2.2.2.2.2.2.2.2.2.2.2.2.2.2.2.2.2.1))).trans (hHeld.2.2.2.2.2.2.2.2.2.2.2.2.2.2.2.2.2.1)
             have d1:=(hb.cell (World.block_lt_of_cell? _ _ (hHeld.2.2.2.2.2.2.2.2.2.2.2.2.2.2.2.2.2.2.1))).trans (hHeld.2.2.2.2.2.2.2.2.2.2.2.2.2.2.2.2.2.2.1)
             have d2:=(hb.cell (World.block_lt_of_cell? _ _ (hHeld.2.2.2.2.2.2.2.2.2.2.2.2.2.2.2.2.2.2.2.1))).trans (hHeld.2.2.2.2.2.2.2.2.2.2.2.2.2.2.2.2.2.2.2.1)
             have d3:=(hb.cell (World.block_lt_of_cell? _ _ (hHeld.2.2.2.2.2.2.2.2.2.2.2.2.2.2.2.2.2.2.2.2.1))).trans (hHeld.2.2.2.2.2.2.2.2.2.2.2.2.2.2.2.2.2.2.2.2.1)
             have d4:=(hb.cell (World.block_lt_of_cell? _ _ (hHeld.2.2.2.2.2.2.2.2.2.2.2.2.2.2.2.2.2.2.2.2.2.1))).trans (hHeld.2.2.2.2.2.2.2.2.2.2.2.2.2.2.2.2.2.2.2.2.2.1)
             have d5:=(hb.cell (World.block_lt_of_cell? _ _ (hHeld.2.2.2.2.2.2.2.2.2.2.2.2.2.2.2.2.2.2.2.2.2.2))).trans (hHeld.2.2.2.2.2.2.2.2.2.2.2.2.2.2.2.2.2.2.2.2.2.2)
             refine⟨_,rfl, ?_⟩
             replace γ:=sRb γ hb
             replace ν :=sRb ν hb
             replace Y:=sBk Y hb
             replace L:=sBk L hb
             replace τ :=sBk τ hb
             replace HB:=sHb hb
             (try clear hb)
             (try clear a9)
             (try clear hk)
             (try clear hi)
             refine hK.out _ _ ⟨qc Y,qc Y,qc Y,qc Y,qc Y,qc Y,qc Y,qc Y,qc Y,qc Y,qc L,qc L,qc L,cp,cq,cr,ct,cu,d1,d2,d3,d4,d5⟩ (fun hHeld=>?_)
             clear hK K
             refine qN (some 29) ?_
             refine qP 7 (some 22) (bN 12 255) HT_ ?_
             refine qP 8 (some 30) (bN 12 511) HT_ ?_
             refine qP 9 (some 31) (bN 12 1023) HT_ ?_
             refine qP 10 (some 5) (bN 12 2047) HT_ ?_
             refine qP 11 (some 6) (bN 12 4095) HT_ ?_
             refine Z5 (Zm HT_.out kr) ?_
             try go_wp2
             replace γ:=Aside0.mk (Kd.Q1 γ.out)
             replace ν :=Aside0.mk (Kd.Q1 ν.out)
             replace Y:=Aside0.mk (Qd Y.out)
             replace L:=Aside0.mk (Qd L.out)
             replace τ :=Aside0.mk (Qd τ.out)
             replace HB:=Aside0.mk (Qf HB.out)
             have ev:0≤(1:Int):=(by omega)
             have fh:1<(B.length:Int):=of_decide_eq_true (by assumption)
             obtain⟨gg,h6,bg,bk,bl,bn,bo,bp,bq,br,bs,bu⟩:=Gh (Kd.Qy γ.out).2.2 1 ev fh
             obtain rfl:ak=gg:=(by injection h6)
             (try simp only[show(1:Int).toNat=1 from rfl,Nat.reduceMul,Nat.reduceEqDiff,Go.Addr.add,↓reduceIte] at bg)
             (try simp only[show(1:Int).toNat=1 from rfl,Nat.reduceMul,Nat.reduceEqDiff,Go.Addr.add,↓reduceIte] at bk)
             (try simp only[show(1:Int).toNat=1 from rfl,Nat.reduceMul,Nat.reduceEqDiff,Go.Addr.add,↓reduceIte] at bl)
             (try simp only[show(1:Int).toNat=1 from rfl,Nat.reduceMul,Nat.reduceEqDiff,Go.Addr.add,↓reduceIte] at bn)
             (try simp only[show(1:Int).toNat=1 from rfl,Nat.reduceMul,Nat.reduceEqDiff,Go.Addr.add,↓reduceIte] at bo)
             (try simp only[show(1:Int).toNat=1 from rfl,Nat.reduceMul,Nat.reduceEqDiff,Go.Addr.add,↓reduceIte] at bp)
             (try simp only[show(1:Int).toNat=1 from rfl,Nat.reduceMul,Nat.reduceEqDiff,Go.Addr.add,↓reduceIte] at bq)
             (try simp only[show(1:Int).toNat=1 from rfl,Nat.reduceMul,Nat.reduceEqDiff,Go.Addr.add,↓reduceIte] at br)
             (try simp only[show(1:Int).toNat=1 from rfl,Nat.reduceMul,Nat.reduceEqDiff,Go.Addr.add,↓reduceIte] at bs)
             (try simp only[show(1:Int).toNat=1 from rfl,Nat.reduceMul,Nat.reduceEqDiff,Go.Addr.add,↓reduceIte] at bu)
             have i9:(1<B.length)=True:=eq_true (by omega)
             (try rw[show((1:Int)).toNat=1 from rfl] at bg)
             (try rw[show 1 * 10=10 from rfl] at bg)
             (try rw[show((1:Int)).toNat=1 from rfl] at bk)
             (try rw[show 1 * 10=10 from rfl] at bk)
             (try rw[show((1:Int)).toNat=1 from rfl] at bl)
             (try rw[show 1 * 10=10 from rfl] at bl)
             (try rw[show((1:Int)).toNat=1 from rfl] at bn)
             (try rw[show 1 * 10=10 from rfl] at bn)
             (try rw[show((1:Int)).toNat=1 from rfl] at bo)
             (try rw[show 1 * 10=10 from rfl] at bo)
             (try rw[show((1:Int)).toNat=1 from rfl] at bp)
             (try rw[show 1 * 10=10 from rfl] at bp)
             (try rw[show((1:Int)).toNat=1 from rfl] at bq)
             (try rw[show 1 * 10=10 from rfl] at bq)
             (try rw[show((1:Int)).toNat=1 from rfl] at br)
             (try rw[show 1 * 10=10 from rfl] at br)
             (try rw[show((1:Int)).toNat=1 from rfl] at bs)
             (try rw[show 1 * 10=10 from rfl] at bs)
             (try rw[show((1:Int)).toNat=1 from rfl] at bu)
             (try rw[show 1 * 10=10 from rfl] at bu)
             replace ev:=eq_true ev
             replace fh:=eq_true fh
             refine Zn (n:=12) (S:=fun w'=>w'.cell? ⟨κ,0,none⟩=some (.int .i64 X)∧w'.cell? ⟨κ,1,none⟩=some (.int .i64 Z)∧w'.cell? ⟨κ,2,none⟩=some (.int .i64 aj)∧w'.cell? ⟨κ,3,none⟩=some (.int .i64 ε)∧w'.cell? ⟨κ,4,none⟩=some (.int .i64 ζ)∧w'.cell? ⟨κ,5,none⟩=some (.int .i64 η)∧w'.cell? ⟨κ,6,none⟩=some (.int .i64 θ)∧w'.cell? ⟨κ,7,none⟩=some (.int .i64 ι)∧w'.cell? ⟨κ,8,none⟩=some (.int .i64 μ)∧w'.cell? ⟨κ,9,none⟩=some (.int .i64 ρ)∧w'.cell? ⟨ab,0,none⟩=some (.int .i64 2)∧w'.cell? ⟨ab,1,none⟩=some (.int .i64 1)∧w'.cell? ⟨ab,2,none⟩=some (.int .i64 (-1))∧w'.cell? ⟨ak.block,ak.off+10,none⟩=some (.int .i64 ((Qb B 1).f0.f0))∧w'.cell? ⟨ak.block,ak.off+10+1,none⟩=some (.int .i64 ((Qb B 1).f0.f1))∧w'.cell? ⟨ak.block,ak.off+10+2,none⟩=some (.int .i64 ((Qb B 1).f0.f2))∧w'.cell? ⟨ak.block,ak.off+10+3,none⟩=some (.int .i64 ((Qb B 1).f0.f3))∧w'.cell? ⟨ak.block,ak.off+10+4,none⟩=some (.int .i64 ((Qb B 1).f0.f4.f0))∧w'.cell? ⟨ak.block,ak.off+10+5,none⟩=some (.int .i64 ((Qb B 1).f0.f4.f1))∧w'.cell? ⟨ak.block,ak.off+10+6,none⟩=some (.int .i64 ((Qb B 1).f0.f4.f2))∧w'.cell? ⟨ak.block,ak.off+10+7,none⟩=some (.int .i64 ((Qb B 1).f1))∧w'.cell? ⟨ak.block,ak.off+10+8,none⟩=some (.bool ((Qb B 1).f2))∧w'.cell? ⟨ak.block,ak.off+10+9,none⟩=some (.bool ((Qb B 1).f3))) (ds:=[]) #[false,false,false,false,false,false,false,false,false,false,false,false] kr rfl rfl ⟨(Qa Y.out 0).trans rfl,(Qa Y.out 1).trans rfl,(Qa Y.out 2).trans rfl,(Qa Y.out 3).trans rfl,(Qa Y.out 4).trans rfl,(Qa Y.out 5).trans rfl,(Qa Y.out 6).trans rfl,(Qa Y.out 7).trans rfl,(Qa Y.out 8).trans rfl,(Qa Y.out 9).trans rfl,(Qa L.out 0).trans rfl,(Qa L.out 1).trans rfl,(Qa L.out 2).trans rfl,bg,bk,bl,bn,bo,bp,bq,br,bs,bu⟩ (fun hHeld=>?_);refine Q8 newellaw21_awake.N1 newellaw21_awake.Me (fun HT_ HW_=>?_)
             generalize eu.drew=kq at γ ν Y L τ HB bg bk bl bn bo bp bq br bs bu hHeld ⊢
             refine qP 1 (some 34) (bN 12 2) HT_ ?_
             refine qP 2 (some 35) (bN 12 6) HT_ ?_
             refine qP 4 (some 37) (bN 12 22) HT_ ?_
             refine qT 0 (some 33) (bN 12 23) HT_ HW_ hHeld ?_
             refine qT 3 (some 36) (bN 12 31) HT_ HW_ hHeld ?_
             refine qT 5 (some 38) (bN 12 63) HT_ HW_ hHeld ?_
             refine Ze (i:=6) (N:=some 39) (bN 12 127) rfl rfl (Q5 HT_.out kr) (by decide) (fun K hK=>?_)
             refine Zd Try.func10 kr rfl #[.agg #[.int .i64 X,.int .i64 Z,.int .i64 aj,.int .i64 ε,.int .i64 ζ,.int .i64 η,.int .i64 θ,.int .i64 ι,.int .i64 μ,.int .i64 ρ],.agg #[.int .i64 ((Qb B 1).f0.f0),.int .i64 ((Qb B 1).f0.f1),.int .i64 ((Qb B 1).f0.f2),.int .i64 ((Qb B 1).f0.f3),.int .i64 ((Qb B 1).f0.f4.f0),.int .i64 ((Qb B 1).f0.f4.f1),.int .i64 ((Qb B 1).f0.f4.f2),.int .i64 ((Qb B 1).f1),.bool ((Qb B 1).f2),.bool ((Qb B 1).f3)],.agg #[.slice none 0 0,.slice none 0 0,.slice none 0 0],.agg #[.int .i64 2,.int .i64 1,.int .i64 (-1)]] (by rfl) rfl rfl qM ?_
             refine(group_Cost.calls k X Z aj ε ζ η θ ι μ ρ ((Qb B 1).f0.f0) ((Qb B 1).f0.f1) ((Qb B 1).f0.f2) ((Qb B 1).f0.f3) ((Qb B 1).f0.f4.f0) ((Qb B 1).f0.f4.f1) ((Qb B 1).f0.f4.f2) ((Qb B 1).f1) ((Qb B 1).f2) ((Qb B 1).f3) _ _ ([]:List Int) _ _ ([]:List Int) _ _ ([]:List Int) 2 1 (-1) bz cd _ ?side1 ?side2 ?side3 ?side4 ?side5 ?side6 A5.out).mono ?_
             (case side1=>exact Kd.Yn _ _)
             (case side2=>exact Nat.le_refl _)
             (case side3=>exact Kd.Yn _ _)
             (case side4=>exact Nat.le_refl _)
             (case side5=>exact Kd.Yn _ _)
             (case side6=>exact Nat.le_refl _)
             rintro e j8 ⟨rfl,hb⟩
             have cp:=(hb.cell (World.block_lt_of_cell? _ _ (hHeld.2.2.2.2.2.2.2.2.2.2.2.2.2.1))).trans (hHeld.2.2.2.2.2.2.2.2.2.2.2.2.2.1)
             have cq:=(hb.cell (World.block_lt_of_cell? _ _ (hHeld.2.2.2.2.2.2.2.2.2.2.2.2.2.2.1))).trans (hHeld.2.2.2.2.2.2.2.2.2.2.2.2.2.2.1)
             have cr:=(hb.cell (World.block_lt_of_cell? _ _ (hHeld.2.2.2.2.2.2.2.2.2.2.2.2.2.2.2.1))).trans (hHeld.2.2.2.2.2.2.2.2.2.2.2.2.2.2.2.1)
             have ct:=(hb.cell (World.block_lt_of_cell? _ _ (hHeld.2.2.2.2.2.2.2.2.2.2.2.2.2.2.2.2.1))).trans (hHeld.2.2.2.2.2.2.2.2.2.2.2.2.2.2.2.2.1)
             have cu:=(hb.cell (World.block_lt_of_cell? _ _ (hHeld.2.2.2.2.2.2.2.2.2.2.2.2.2.2.2.2.2.1))).trans (hHeld.2.2.2.2.2.2.2.2.2.2.2.2.2.2.2.2.2.1)
             have d1:=(hb.cell (World.block_lt_of_cell? _ _ (hHeld.2.2.2.2.2.2.2.2.2.2.2.2.2.2.2.2.2.2.1))).trans (hHeld.2.2.2.2.2.2.2.2.2.2.2.2.2.2.2.2.2.2.1)
             have d2:=(hb.cell (World.block_lt_of_cell? _ _ (hHeld.2.2.2.2.2.2.2.2.2.2.2.2.2.2.2.2.2.2.2.1))).trans (hHeld.2.2.2.2.2.2.2.2.2.2.2.2.2.2.2.2.2.2.2.1)
             have d3:=(hb.cell (World.block_lt_of_cell? _ _ (hHeld.2.2.2.2.2.2.2.2.2.2.2.2.2.2.2.2.2.2.2.2.1))).trans (hHeld.2.2.2.2.2.2.2.2.2.2.2.2.2.2.2.2.2.2.2.2.1)
             have d4:=(hb.cell (World.block_lt_of_cell? _ _ (hHeld.2.2.2.2.2.2.2.2.2.2.2.2.2.2.2.2.2.2.2.2.2.1))).trans (hHeld.2.2.2.2.2.2.2.2.2.2.2.2.2.2.2.2.2.2.2.2.2.1)
             have d5:=(hb.cell (World.block_lt_of_cell? _ _ (hHeld.2.2.2.2.2.2.2.2.2.2.2.2.2.2.2.2.2.2.2.2.2.2))).trans (hHeld.2.2.2.2.2.2.2.2.2.2.2.2.2.2.2.2.2.2.2.2.2.2)
             refine⟨_,rfl, ?_⟩
             replace γ:=sRb γ hb
             replace ν :=sRb ν hb
             replace Y:=sBk Y hb
             replace L:=sBk L hb
             replace τ :=sBk τ hb
             replace HB:=sHb hb
             (try clear hb)
             (try clear a9)
             (try clear hk)
             (try clear hi)
             refine hK.out _ _ ⟨qc Y,qc Y,qc Y,qc Y,qc Y,qc Y,qc Y,qc Y,qc Y,qc Y,qc L,qc L,qc L,cp,cq,cr,ct,cu,d1,d2,d3,d4,d5⟩ (fun hHeld=>?_)
             clear hK K
             refine qN (some 39) ?_
             refine qP 7 (some 32) (bN 12 255) HT_ ?_
             refine qP 8 (some 40) (bN 12 511) HT_ ?_
             refine qP 9 (some 41) (bN 12 1023) HT_ ?_
             refine qP 10 (some 7) (bN 12 2047) HT_ ?_
             refine qP 11 (some 8) (bN 12 4095) HT_ ?_
             refine Z5 (Zm HT_.out kr) ?_
             obtain⟨fu,fv,fw,g2,g3,g4,g6,g7,gi,gj,gk,gl,gm,gn,gp,gr,gw,gx,gy,gz⟩:=Za Y.out
             obtain⟨ep,er,ez,f8⟩:=qD2 τ.out
             obtain⟨e0,e7,e9,eb,ec,ed⟩:=qD3 L.out
             try go_wp2_with (first|((with_reducible refine Ql (f:=14) rfl ?_);refine Q2 (some 47) rfl rfl Try.func14 kr rfl #[.agg #[.int .i64 X,.int .i64 Z,.int .i64 aj,.int .i64 ε,.int .i64 ζ,.int .i64 η,.int .i64 θ,.int .i64 ι,.int .i64 μ,.int .i64 ρ],.slice (some ak) B.length ek,.int .i64 0,.agg #[.slice be δ.length bc,.slice none 0 0],.agg #[.int .i64 2,.int .i64 1,.int .i64 (-1)]] rfl qM ?_;(refine(group_Pick.calls k X Z aj ε ζ η θ ι μ ρ _ _ B 0 _ _ δ _ _ ([]:List (S86)) 2 1 (-1) ch ci _ ?side1 ?side2 ?side3 ?side4 ?side5 ?side6 A6.out).mono ?_);(case side1=>repeat(first|exact(Kd.Qy γ.out).2.2|(with_reducible refine Kd.Jl ?_ _)|(with_reducible refine Kd.Jk ?_ _)|(with_reducible refine Kd.Kl ?_)));(case side2=>exact(Kd.Qy γ.out).2.1);(case side3=>repeat(first|exact(Kd.Qy ν.out).2.2|(with_reducible refine Kd.Jl ?_ _)|(with_reducible refine Kd.Jk ?_ _)|(with_reducible refine Kd.Kl ?_)));(case side4=>exact(Kd.Qy ν.out).2.1);(case side5=>exact Kd.Yn _ _);(case side6=>exact Nat.le_refl _);rintro e ka ⟨rfl,hb⟩;refine⟨_,rfl, ?_⟩;replace γ:=sRb γ hb;replace ν :=sRb ν hb;replace Y:=sBk Y hb;replace L:=sBk L hb;replace τ :=sBk τ hb;replace HB:=sHb hb;(try clear hb);(try clear a9);(try clear hk);(try clear hi);obtain⟨cf,fa,fl,fm,fn,fo,fr,dp,dq,dr,e8,fb,g0,g1,g5,g8,ga,dw,dy,dz⟩:=Za Y.out;obtain⟨fx,fy,gb,ge⟩:=qD2 τ.out)|((with_reducible refine Ql (f:=21) rfl ?_);refine Q2 (some 54) rfl rfl Try.func21 kr rfl #[.agg #[.int .i64 X,.int .i64 Z,.int .i64 aj,.int .i64 ε,.int .i64 ζ,.int .i64 η,.int .i64 θ,.int .i64 ι,.int .i64 μ,.int .i64 ρ],.slice (some ak) B.length ek,.int .i64 0,.agg #[.slice be δ.length bc,.slice none 0 0]] rfl qM ?_;(refine(group_Spread.calls k X Z aj ε ζ η θ ι μ ρ _ _ B 0 _ _ δ _ _ ([]:List (S86)) ψ ck cm _ ?side1 ?side2 ?side3 ?side4 ?side5 ?side6 A7.out).mono ?_);(case side1=>repeat(first|exact(Kd.Qy γ.out).2.2|(with_reducible refine Kd.Jl ?_ _)|(with_reducible refine Kd.Jk ?_ _)|(with_reducible refine Kd.Kl ?_)));(case side2=>exact(Kd.Qy γ.out).2.1);(case side3=>repeat(first|exact(Kd.Qy ν.out).2.2|(with_reducible refine Kd.Jl ?_ _)|(with_reducible refine Kd.Jk ?_ _)|(with_reducible refine Kd.Kl ?_)));(case side4=>exact(Kd.Qy ν.out).2.1);(case side5=>exact Kd.Yn _ _);(case side6=>exact Nat.le_refl _);rintro e il ⟨ii,ij,rfl,ai,b3,hb⟩;refine⟨_,rfl, ?_⟩;have b0:=Aside0.mk (Kd.Q9 (Kd.Jz (Kd.Ec ai (Kd.Mh (kra ν))) (g:=ab) (o:=.cells #[.int .i64 2,.int .i64 1,.int .i64 (-1)] 36 (0,0)) (bka L)) (Qr bel));have bw:=Aside0.mk (Kd.Q9 b3 (Qr bel));replace γ:=sRb γ hb;replace ν :=Aside0.mk (Kd.Mi (kra ν) (Kd.Mj ai) hb);replace Y:=sBk Y hb;replace L:=sBk L hb;replace τ :=sBk τ hb;replace HB:=sHb hb;(try clear hb);(try clear a9);(try clear hk);(try clear hi);(try clear ai);(try clear b3))|((with_reducible refine Qe (N:=11) rfl ?_);(try(refine Zy (by rfl) ?_;dsimp only));refine qE 11 #[.slice none 0 0,.slice none 0 0] 50 ?_;intro b1 hg l9 hbox hb;have ag:=Aside0.mk hbox;have ia:=sGe hg;have ib:=sGe hg;have e4:=sNl Y hg;have e5:=sNg Y hg;have e6:=sNl L hg;have ea:=sNg L hg;have ee:=sNl τ hg;have ef:=sNg τ hg;replace γ:=sRb γ hb;replace ν :=sRb ν hb;replace b0:=sRb b0 hb;replace bw:=sRb bw hb;replace Y:=sBk Y hb;replace L:=sBk L hb;replace τ :=sBk τ hb;replace HB:=sHb hb;clear hb hbox hg;obtain⟨ik,ay,h7⟩:=Kd.Q7 b0.out;subst h7;have iv:=e5.out;have j9:=e4.out;have fp:=ea.out;have ft:=e6.out;have j6:=ef.out;have j7:=ee.out;obtain⟨cx,cy,cz,d0⟩:=qD2 ag.out;obtain⟨d6,d7,h8⟩:=Kd.Q7 bw.out;subst h8;have fi:0≤(0:Int):=(by omega);have fj:0<(ψ.length:Int):=of_decide_eq_true (by assumption);obtain⟨aa,h9,an,au,av⟩:=Xv (Kd.Qy b0.out).2.2 0 fi fj;cases h9;have ic:(0 < ψ.length)=True:=eq_true (by omega);(try rw[show((0:Int)).toNat=0 from rfl] at an);(try rw[show 0 * 3=0 from rfl] at an);(try rw[Addr.add_zero'] at an);(try rw[show((0:Int)).toNat=0 from rfl] at au);(try rw[show 0 * 3=0 from rfl] at au);(try rw[Addr.add_zero'] at au);(try rw[show((0:Int)).toNat=0 from rfl] at av);(try rw[show 0 * 3=0 from rfl] at av);(try rw[Addr.add_zero'] at av);have a4:aa.block≠b1:=Kd.Vh (Kd.Xb b0.out ag.out (by decide));have a5:aa.block≠b1:=Kd.Vh (Kd.Xb b0.out ag.out (by decide));replace an:=(cell_far (p:=⟨b1,0,none⟩) (by first|(rw[add_block];exact a4)|(show(Addr.add _ _).block≠_;rw[add_block];exact a4)|exact a4) (.slice (some aa) ψ.length ay)).trans an;replace au:=(cell_far (p:=⟨b1,0,none⟩) (by first|(rw[add_block];exact a4)|(show(Addr.add _ _).block≠_;rw[add_block];exact a4)|exact a4) (.slice (some aa) ψ.length ay)).trans au;replace av:=(cell_far (p:=⟨b1,0,none⟩) (by first|(rw[add_block];exact a4)|(show(Addr.add _ _).block≠_;rw[add_block];exact a4)|exact a4) (.slice (some aa) ψ.length ay)).trans av;replace an:=(cell_far (p:=⟨b1,1,none⟩) (by first|(rw[add_block];exact a5)|(show(Addr.add _ _).block≠_;rw[add_block];exact a5)|exact a5) (.slice d6 ck.length d7)).trans an;replace au:=(cell_far (p:=⟨b1,1,none⟩) (by first|(rw[add_block];exact a5)|(show(Addr.add _ _).block≠_;rw[add_block];exact a5)|exact a5) (.slice d6 ck.length d7)).trans au;replace av:=(cell_far (p:=⟨b1,1,none⟩) (by first|(rw[add_block];exact a5)|(show(Addr.add _ _).block≠_;rw[add_block];exact a5)|exact a5) (.slice d6 ck.length d7)).trans av;clear a4;clear a5;replace fi:=eq_true fi;replace fj:=eq_true fj;obtain⟨kn,ko,kp,ks,kt,ku,ky,hu,hx,hy,kz,l2,l3,l4,l5,l6,l7,i0,i1,i2⟩:=Za Y.out;obtain⟨gs,gt,gu,gv⟩:=qD2 τ.out)|(go_at_call 17;(refine(group_Check.calls k X Z aj ε ζ η θ ι μ ρ _ _ B _ _ δ _ _ ([]:List (S86)) a3 _ ?side1 ?side2 ?side3 ?side4 ?side5 ?side6 cj.out).mono ?_);(case side1=>refine(Kd.Qy (e:=31) (base:=w.heap.size) (ok:=fun k_=>True) (n:=B.length) (c:=ek) ?_).2.2;exact(by(with_reducible repeat first|apply Kd.Qw|apply Kd.Qv|apply Kd.Q1);exact(Kd.Qz (Kd.Qu (Kd.Qu (Kd.Q6 γ.out ag.out (by decide)) (fun _ hk=>hk.2) (.slice (some aa) ψ.length ay)) (fun _ hk=>hk.2) _) (fun _ h_=>h_.1))));(case side2=>exact(Kd.Qy γ.out).2.1);(case side3=>refine(Kd.Qy (e:=36) (base:=w.heap.size) (ok:=fun k_=>(k_≠ab∧some k_≠(.slice (some aa) ψ.length ay:Value).ownBlock)) (n:= δ.length) (c:=bc) ?_).2.2;exact(by(with_reducible repeat first|apply Kd.Qw|apply Kd.Qv|apply Kd.Q1);exact(Kd.Qz (Kd.Qu (Kd.Qu (Kd.Q6 ν.out ag.out (by decide)) (fun _ hk=>hk.2) (.slice (some aa) ψ.length ay)) (fun _ hk=>hk.2) _) (fun _ h_=>h_.1))));(case side4=>exact(Kd.Qy ν.out).2.1);(case side5=>exact Kd.Yn _ _);(case side6=>exact Nat.le_refl _);rintro e dh ⟨rfl,hb⟩;have ξ :=Aside0.mk (Kd.Z2 (by(with_reducible repeat first|apply Kd.Qw|apply Kd.Qv|apply Kd.Q1);exact(Kd.Qz (Kd.Qu (Kd.Qu (Kd.Q6 γ.out ag.out (by decide)) (fun _ hk=>hk.2) (.slice (some aa) ψ.length ay)) (fun _ hk=>hk.2) _) (fun _ h_=>h_.1))) hb);have φ :=Aside0.mk (Kd.Z2 (by(with_reducible repeat first|apply Kd.Qw|apply Kd.Qv|apply Kd.Q1);exact(Kd.Qz (Kd.Qu (Kd.Qu (Kd.Q6 ν.out ag.out (by decide)) (fun _ hk=>hk.2) (.slice (some aa) ψ.length ay)) (fun _ hk=>hk.2) _) (fun _ h_=>h_.1))) hb);have ω :=Aside0.mk (Kd.Z2 (by(with_reducible repeat first|apply Kd.Qw|apply Kd.Qv|apply Kd.Q1);exact(Kd.Qz (Kd.Qu (Kd.Qu (Kd.Q6 b0.out ag.out (by decide)) (fun _ hk=>hk.2) (.slice (some aa) ψ.length ay)) (fun _ hk=>hk.2) _) (fun _ h_=>h_.1))) hb);have a7:=Aside0.mk (Kd.Z2 (by(with_reducible repeat first|apply Kd.Qw|apply Kd.Qv|apply Kd.Q1);exact(Kd.Qz (Kd.Qu (Kd.Qu (Kd.Q6 bw.out ag.out (by decide)) (fun _ hk=>hk.2) (.slice (some aa) ψ.length ay)) (fun _ hk=>hk.2) _) (fun _ h_=>h_.1))) hb);have ah:=Aside0.mk (Qs (g:= κ) (o:=.cells #[.int .i64 X,.int .i64 Z,.int .i64 aj,.int .i64 ε,.int .i64 ζ,.int .i64 η,.int .i64 θ,.int .i64 ι,.int .i64 μ,.int .i64 ρ] 25 (0,0)) (bka Y) hb);have ar:=Aside0.mk (Qs (g:=ab) (o:=.cells #[.int .i64 2,.int .i64 1,.int .i64 (-1)] 36 (0,0)) (bka L) hb);have b2:=Aside0.mk (Qs (g:=a2) (o:=.cells #[.slice be δ.length bc,.slice none 0 0] 50 (0,0)) (bka τ) hb);have bf:=Aside0.mk (Qs (g:=b1) (o:=.cells #[.slice (some aa) ψ.length ay,.slice d6 ck.length d7] 50 (0,0)) (by(with_reducible repeat first|refine Qj ?_ _|refine Qd ?_|refine Qk ?_ _);refine Qm (cs:=#[.slice (some aa) ψ.length ay,.slice none 0 0]) ?_ 1 _ rfl;(with_reducible repeat first|refine Qj ?_ _|refine Qd ?_|refine Qk ?_ _);refine Qm (cs:=#[.slice none 0 0,.slice none 0 0]) ?_ 0 _ rfl;(with_reducible repeat first|refine Qj ?_ _|refine Qd ?_|refine Qk ?_ _);exact ag.out) hb);have cb:=Aside0.mk (Qx bel hb);clear γ;clear ν;clear b0;clear bw;clear Y;clear L;clear τ;clear ag;clear HB;have γ:= ξ;have ν := φ;have b0:= ω;have bw:=a7;have Y:=ah;have L:=ar;have τ :=b2;have ag:=bf;have HB:=cb;clear ξ φ ω a7 ah ar b2 bf cb;(try clear hb);(try clear a9);(try clear hk);(try clear hi)))
             go_ret
             exact⟨rfl,HB.out⟩
            ·rw[if_neg σ] at H
             exact absurd H (by simp)
           ·rw[if_neg χ] at H
            exact absurd H (by simp)
          ·rw[if_neg af] at H
           exact absurd H (by simp)
         ·rw[if_neg ac] at H
          exact absurd H (by simp)
        ·rw[if_neg a6] at H
         exact absurd H (by simp)
       ·rw[if_neg al] at H
        exact absurd H (by simp)
      ·rw[if_neg ae] at H
       exact absurd H (by simp)
     ·rw[if_neg c10] at H
      exact absurd H (by simp)
    ·rw[if_neg c9] at H
     exact absurd H (by simp)
   ·rw[if_neg c8] at H
    exact absurd H (by simp)
  ·rw[if_neg c4] at H
   exact absurd H (by simp)
 ·rw[if_neg c2] at H
  exact absurd H (by simp)
end Go.Proofs.Ytmfffemidlhcpaa.C
namespace Go.Proofs.Ytmfffemidlhcpaa.GrpPure
open Go.RowKit Go.Proofs.YtmfffemidlhcpaaW.PrintWords Go.Proofs.YtmfffemidlhcpaaW.PrintLast Go.Proofs.YtmfffemidlhcpaaW.PrintMore Go.Proofs.Ytmfffemidlhcpaa.C Go.Proofs.Ytmfffemidlhcpaa.DoorPure
set_option linter.unusedVariables false
set_option linter.unusedSimpArgs false
open Go.Proofs.Ytmfffemidlhcpaa.Call (i64 okB Ui)
theorem N4 {F C:Int} (hF:2≤F∧F≤64) (hC:1≤C∧C≤8):okB F C [] []=true:=by
  rw[Call.K7]
  exact⟨hF,hC,⟨by simp,by simp⟩,⟨by simp,by simp⟩⟩
theorem M9 {F C:Int} (hF:2≤F∧F≤64) (hC:1≤C∧C≤8) (B J Y:Int) (hd:i64 J) (k:Nat) (hk:0<k):group_hall.f k F C B J Y=some (Xk F C B J Y):=by
  obtain⟨k,rfl⟩:∃ m,k=m+1:=⟨k-1,by omega⟩
  unfold group_hall.f
  rw[Call.Na k F C [] [] B J Y (by simp) (by simp) (by unfold Call.i64;omega) hd]
  unfold Ui
  rw[if_pos (N4 hF hC)]
  cases Xk F C B J Y <;> rfl
theorem We {F C:Int} (hF:2≤F∧F≤64) (hC:1≤C∧C≤8) {B J Y:Int} (h:Xk F C B J Y=true):0≤B∧B<F:=by
  have:=(Call.L6 hF hC).1 h
  omega
def U7 (F:Int) (a b c:List Int):Bool:=ColPure.Y9 F (-1) a&&(ColPure.Y9 F (-1) b&&ColPure.Y9 F (-1) c)
def Lz (g0:Int) (p:Prop) [Decidable p] (a b c:List Int) (B J Y:Int):Bool:=decide p&&(U7 g0 a b c&&Xk g0 8 B J Y)
theorem Nt {g0 Z g2 g3 g4 g5 g6 g7 g8 g9 c0 c1 c2 c3 c4 c5 c6 l7:Int} (B J Y:Int) (hd:i64 J) (l8 l9:Bool) (a b c:List Int) (hv:ColPure.Few a b c) (f:Nat) (hf:1500≤f):
    group_Cost.f f g0 Z g2 g3 g4 g5 g6 g7 g8 g9 c0 c1 c2 c3 c4 c5 c6 l7 l8 l9 a b c B J Y=some (if Lz g0 (G3 g0 Z g2 g3 g4 g5 g6 g7 g8 g9 c0 c1 c2 c3 c4 c5 c6 l7) a b c B J Y=true then (Wg g0 Z g2 g3 g6 g8 g9 c0 c1 c2 c3 c4 c5 c6 l7 (Kz a b c) B J,0) else (0,210)):=by
  unfold group_Cost.f
  rw[M1 _ _ _ _ _ _ _ _ _ _ _ _ _ _ _ _ _ _ _ _ f (by omega),ColPure.Yg hv g0 0 0 false false f hf]
  simp only[Option.bind_some]
  by_cases h1:G3 g0 Z g2 g3 g4 g5 g6 g7 g8 g9 c0 c1 c2 c3 c4 c5 c6 l7
  · have hF:2≤g0∧g0≤64:=h1.1.1.2.1
    have em:ColPure.Gu g0 0 0 a b c=U7 g0 a b c:=by
      unfold ColPure.Gu U7
      rw[decide_eq_true (by omega),Bool.and_true,Bool.and_assoc]
    rw[decide_eq_true h1,if_pos rfl,em,M9 hF (by omega) B J Y hd f (by omega)]
    unfold Lz
    rw[decide_eq_true h1,Bool.true_and]
    simp only[Option.bind_some]
    cases L:U7 g0 a b c
    · rfl
    · cases O:Xk g0 8 B J Y
      · rfl
      · rw[Nf J Y l8 l9 a b c f (by omega) h1 (We hF (by omega) O)]
        rfl
  · unfold Lz
    rw[decide_eq_false h1,if_neg (by decide),Bool.false_and,if_neg (by decide)]
theorem Mf:newellaw21_awake.f 60=some true:=by kernel_rfl
theorem Un (k:Nat) (hk:60≤k):newellaw21_awake.f k=some true:=Lm (g:=newellaw21_awake.f) newellaw21_awake.mono hk Mf
end Go.Proofs.Ytmfffemidlhcpaa.GrpPure
namespace Go.Proofs.Ytmfffemidlhcpaa.C
open Go.RowKit Go.Proofs.YtmfffemidlhcpaaW.PrintWords Go.Proofs.YtmfffemidlhcpaaW.PrintLast Go.Proofs.YtmfffemidlhcpaaW.PrintMore
attribute [local go_sem] Zx Zv Z8 Z7 Zl Zk Zw Zu
set_option linter.unusedVariables false
set_option linter.unusedSimpArgs false
mutual
def newellaw21_GroupBounds.j0:Nat→Int→Int→Bool→Int→Int→Int→Int→Int→Int→Int→Int→Int→Int→Int→Int→Int→Int→Int→Int→Int→Int→Bool→Bool→Int→Int→Int→Option (Bool)
 |0,_,_,_,_,_,_,_,_,_,_,_,_,_,_,_,_,_,_,_,_,_,_,_,_,_,_=>none
 |k+1,L,O,δ,Z,B,ε,ζ,η,θ,ι,κ,μ,ν,J,X,ξ,ρ,σ,τ,φ,γ,χ,ψ,Y,ω,a0=>if δ = true then ((newellaw21_awake.f k).bind fun bl=>(if bl=true then (some (L==0)) else (none))) else ((newellaw21_awake.f k).bind fun bi=>(if bi=true then (if (wrap64 (L-O))≥(wrap64 (B * (mx (wrap64 ((wrap64 (J+X))-Y)) (wrap64 (Y - (wrap64 (J+X))))))) then (if (wrap64 (L-O))≤(wrap64 ((wrap64 (3 * B)) * (wrap64 (Z-1)))) then (if B=0 then (none) else (if (Int.tmod (wrap64 (L-O)) B)=0 then (if γ=0 then (newellaw21_GroupBounds.j1 k ((wrap64 (L-O))==(wrap64 (B * (mx (wrap64 ((wrap64 (J+X))-Y)) (wrap64 (Y - (wrap64 (J+X))))))))) else (newellaw21_GroupBounds.j1 k true)) else (none))) else (none)) else (none)) else (none)))
def newellaw21_GroupBounds.j1:Nat→Bool→Option (Bool)
 |0,_=>none
 |k+1,O=>some O
end
def newellaw21_GroupBounds.f (k:Nat) (J:Int) (B:Int) (L:Int) (O:Int) (X:Int) (δ :Int) (γ:Int) (θ :Int) (η :Int) (ζ :Int) (Z:Int) (Y:Int) (ε :Int) (κ :Int) (ι :Int) (μ :Int) (ν :Int) (χ :Int) (ψ :Bool) (a1:Bool) (ξ :Int) (ρ:Int) (σ:Int):Option (Bool):=(group_Cost.f k J B L O X δ γ θ η ζ Z Y ε κ ι μ ν χ ψ a1 ([]:List Int) ([]:List Int) ([]:List Int) ξ ρ σ).bind fun bh=>((car_Rest.f k J B L O X δ γ θ η ζ Z Y ε κ ι μ ν).bind fun ac=>(if bh.2=0 then (newellaw21_GroupBounds.j0 k bh.1 ac.1 (ac.2 != 0) J B L O X δ γ θ η ζ Z Y ε κ ι μ ν χ ψ a1 ξ ρ σ) else (newellaw21_GroupBounds.j0 k bh.1 ac.1 true J B L O X δ γ θ η ζ Z Y ε κ ι μ ν χ ψ a1 ξ ρ σ)))
set_option maxHeartbeats 8000000 in
set_option maxRecDepth 100000 in
theorem newellaw21_GroupBounds.calls (k:Nat) (J:Int) (B:Int) (L:Int) (O:Int) (X:Int) (δ :Int) (γ:Int) (θ :Int) (η :Int) (ζ :Int) (Z:Int) (Y:Int) (ε :Int) (κ :Int) (ι :Int) (μ :Int) (ν :Int) (χ :Int) (ψ :Bool) (a1:Bool) (ξ :Int) (ρ:Int) (σ:Int) (r:Bool) (w:World) (h:newellaw21_GroupBounds.f k J B L O X δ γ θ η ζ Z Y ε κ ι μ ν χ ψ a1 ξ ρ σ=some r):
  Calls Try.prog 7 #[.agg #[.int .i64 J,.int .i64 B,.int .i64 L,.int .i64 O,.int .i64 X,.int .i64 δ,.int .i64 γ,.int .i64 θ,.int .i64 η,.int .i64 ζ],.agg #[.int .i64 Z,.int .i64 Y,.int .i64 ε,.int .i64 κ,.int .i64 ι,.int .i64 μ,.int .i64 ν,.int .i64 χ,.bool ψ,.bool a1],.agg #[.int .i64 ξ,.int .i64 ρ,.int .i64 σ]] w fun e w'=>e = .returned (.bool r)∧Below w.heap.size w w':=by
 have db:=Try.underlying25
 have fc:=Try.underlying31
 have d9:=Try.underlying36
 have dt:=Try.underlying34
 have fz:=Try.underlying29
 have HB:=Aside0.mk (Below.refl w.heap.size w)
 have H:((group_Cost.f k J B L O X δ γ θ η ζ Z Y ε κ ι μ ν χ ψ a1 ([]:List Int) ([]:List Int) ([]:List Int) ξ ρ σ).bind fun bh=>((car_Rest.f k J B L O X δ γ θ η ζ Z Y ε κ ι μ ν).bind fun ac=>(if bh.2=0 then (newellaw21_GroupBounds.j0 k bh.1 ac.1 (ac.2 != 0) J B L O X δ γ θ η ζ Z Y ε κ ι μ ν χ ψ a1 ξ ρ σ) else (newellaw21_GroupBounds.j0 k bh.1 ac.1 true J B L O X δ γ θ η ζ Z Y ε κ ι μ ν χ ψ a1 ξ ρ σ))))=some r:=h
 clear h
 replace H:=Option.bind_eq_some_iff.mp H
 obtain⟨⟨φ,bj⟩,ay,H⟩:=H
 replace H:((car_Rest.f k J B L O X δ γ θ η ζ Z Y ε κ ι μ ν).bind fun ac=>(if bj=0 then (newellaw21_GroupBounds.j0 k φ ac.1 (ac.2 != 0) J B L O X δ γ θ η ζ Z Y ε κ ι μ ν χ ψ a1 ξ ρ σ) else (newellaw21_GroupBounds.j0 k φ ac.1 true J B L O X δ γ θ η ζ Z Y ε κ ι μ ν χ ψ a1 ξ ρ σ)))=some r:=H
 have A4:=Aside0.mk ay
 clear ay
 replace H:=Option.bind_eq_some_iff.mp H
 obtain⟨⟨a0,dl⟩,bm,H⟩:=H
 replace H:(if bj=0 then (newellaw21_GroupBounds.j0 k φ a0 (dl != 0) J B L O X δ γ θ η ζ Z Y ε κ ι μ ν χ ψ a1 ξ ρ σ) else (newellaw21_GroupBounds.j0 k φ a0 true J B L O X δ γ θ η ζ Z Y ε κ ι μ ν χ ψ a1 ξ ρ σ))=some r:=H
 have A5:=Aside0.mk bm
 clear bm
 have jg:=Aside0.mk H
 clear H
 go_enter Try.func7,Try.ntmps7
 go_upto_region 3 with(first|((with_reducible refine Qe (N:=3) rfl ?_);refine qE 3 #[.int .i64 J,.int .i64 B,.int .i64 L,.int .i64 O,.int .i64 X,.int .i64 δ,.int .i64 γ,.int .i64 θ,.int .i64 η,.int .i64 ζ] 25 ?_;intro dx hg w7 hbox hb;have τ :=Aside0.mk hbox;have jp:=sGe hg;have jq:=sGe hg;replace HB:=sHb hb;clear hb hbox hg)|((with_reducible refine Qe (N:=4) rfl ?_);refine qE 4 #[.int .i64 Z,.int .i64 Y,.int .i64 ε,.int .i64 κ,.int .i64 ι,.int .i64 μ,.int .i64 ν,.int .i64 χ,.bool ψ,.bool a1] 31 ?_;intro fe hg w8 hbox hb;have ω :=Aside0.mk hbox;have jr:=sGe hg;have js:=sGe hg;have an:=sNl τ hg;have ao:=sNg τ hg;replace τ :=sBk τ hb;replace HB:=sHb hb;clear hb hbox hg)|((with_reducible refine Qe (N:=5) rfl ?_);refine qE 5 #[.int .i64 ξ,.int .i64 ρ,.int .i64 σ] 36 ?_;intro g3 hg w9 hbox hb;have a7:=Aside0.mk hbox;have jt:=sGe hg;have ju:=sGe hg;have au:=sNl τ hg;have av:=sNg τ hg;have b5:=sNl ω hg;have b6:=sNg ω hg;replace τ :=sBk τ hb;replace ω :=sBk ω hb;replace HB:=sHb hb;clear hb hbox hg;have el:=an.out;have fj:=ao.out;have dm:=au.out;have fk:=av.out;obtain⟨a2,a3,a8,al,ar,aw,ax,eg,eh,ei,a4,a5,aa,b0,b1,b2,b3,ej,eo,er⟩:=Za τ.out;have j2:=b5.out;have j3:=b6.out;obtain⟨cg,ch,cx,cy,cz,d0,d1,dc,ff,fg,ci,cj,d2,d3,d4,d5,d6,dd,fh,fi⟩:=Za ω.out;obtain⟨bb,bg,af,bq,br,ap⟩:=qD3 a7.out)|((with_reducible refine Ql (f:=10) rfl ?_);refine Q2 (some 19) rfl rfl Try.func10 kr rfl #[.agg #[.int .i64 J,.int .i64 B,.int .i64 L,.int .i64 O,.int .i64 X,.int .i64 δ,.int .i64 γ,.int .i64 θ,.int .i64 η,.int .i64 ζ],.agg #[.int .i64 Z,.int .i64 Y,.int .i64 ε,.int .i64 κ,.int .i64 ι,.int .i64 μ,.int .i64 ν,.int .i64 χ,.bool ψ,.bool a1],.agg #[.slice none 0 0,.slice none 0 0,.slice none 0 0],.agg #[.int .i64 ξ,.int .i64 ρ,.int .i64 σ]] rfl qM ?_;(refine(group_Cost.calls k J B L O X δ γ θ η ζ Z Y ε κ ι μ ν χ ψ a1 _ _ ([]:List Int) _ _ ([]:List Int) _ _ ([]:List Int) ξ ρ σ φ bj _ ?side1 ?side2 ?side3 ?side4 ?side5 ?side6 A4.out).mono ?_);(case side1=>exact Kd.Yn _ _);(case side2=>exact Nat.le_refl _);(case side3=>exact Kd.Yn _ _);(case side4=>exact Nat.le_refl _);(case side5=>exact Kd.Yn _ _);(case side6=>exact Nat.le_refl _);rintro e de ⟨rfl,hb⟩;refine⟨_,rfl, ?_⟩;replace τ :=sBk τ hb;replace ω :=sBk ω hb;replace a7:=sBk a7 hb;replace HB:=sHb hb;(try clear hb);(try clear a9);(try clear hk);(try clear hi);obtain⟨ah,ai,ba,bs,bu,bv,bw,cb,cr,ct,aj,ak,bf,cu,cv,cw,d7,d8,da,dh⟩:=Za τ.out;obtain⟨b9,bc,ce,ee,ef,em,et,bn,bo,bp,bd,be,di,eu,ev,ew,ey,ez,f8,fp⟩:=Za ω.out)|((with_reducible refine Ql (f:=25) rfl ?_);refine Q2 (some 26) rfl rfl Try.func25 kr rfl #[.agg #[.int .i64 J,.int .i64 B,.int .i64 L,.int .i64 O,.int .i64 X,.int .i64 δ,.int .i64 γ,.int .i64 θ,.int .i64 η,.int .i64 ζ],.agg #[.int .i64 Z,.int .i64 Y,.int .i64 ε,.int .i64 κ,.int .i64 ι,.int .i64 μ,.int .i64 ν]] rfl qM ?_;(with_reducible refine(car_Rest.calls k J B L O X δ γ θ η ζ Z Y ε κ ι μ ν a0 dl _ A5.out).mono ?_);rintro e az ⟨rfl,hb⟩;refine⟨_,rfl, ?_⟩;replace τ :=sBk τ hb;replace ω :=sBk ω hb;replace a7:=sBk a7 hb;replace HB:=sHb hb;(try clear hb);(try clear a9);(try clear hk);(try clear hi)))
 (try simp only[Act.put,qS])
 go_cut [34] (fun jf wc=>∃ (kq:Nat) (bz:Bool),jf = .bool bz∧Aside0 (newellaw21_GroupBounds.j0 kq φ a0 bz J B L O X δ γ θ η ζ Z Y ε κ ι μ ν χ ψ a1 ξ ρ σ=some r)∧Aside0 (kq≤k)∧Aside0 (wc.heap[dx]?=some (.cells #[.int .i64 J,.int .i64 B,.int .i64 L,.int .i64 O,.int .i64 X,.int .i64 δ,.int .i64 γ,.int .i64 θ,.int .i64 η,.int .i64 ζ] 25 (0,0)))∧Aside0 (wc.heap[fe]?=some (.cells #[.int .i64 Z,.int .i64 Y,.int .i64 ε,.int .i64 κ,.int .i64 ι,.int .i64 μ,.int .i64 ν,.int .i64 χ,.bool ψ,.bool a1] 31 (0,0)))∧Aside0 (wc.heap[g3]?=some (.cells #[.int .i64 ξ,.int .i64 ρ,.int .i64 σ] 36 (0,0)))∧Aside0 (Below w.heap.size w wc))
 case first=>
  have H:=jg.out
  clear jg
  by_cases b4:bj=0
  ·rw[if_pos b4] at H
   have c20b0:(bj==0)=true:=beq_iff_eq.mpr b4
   have c20b1:(bj != 0)=false:=bne_eq_false_iff_eq.mpr b4
   clear b4
   (first|rw[c20b0]|(simp only[Zb,Zj];rw[c20b0])|skip)
   have H':=Aside0.mk H
   clear H
   go_wp2
   go_meet
   case rel=>exact⟨_,((dl != 0)),rfl,H',⟨by first|omega|exact Nat.le_refl _⟩,τ,ω,a7,HB⟩
  ·rw[if_neg b4] at H
   have c20b0:(bj==0)=false:=beq_eq_false_iff_ne.mpr b4
   have c20b1:(bj != 0)=true:=bne_iff_ne.mpr b4
   (first|rw[c20b0]|(simp only[Zb,Zj];rw[c20b0])|skip)
   have H':=Aside0.mk H
   clear H
   go_wp2
   go_meet
   case rel=>exact⟨_,(true),rfl,H',⟨by first|omega|exact Nat.le_refl _⟩,τ,ω,a7,HB⟩
 case rest=>
  clear jg
  try clear c1
  try clear c2
  try clear p2
  try clear c7
  try clear c10
  try clear ae
  try clear a6
  try clear b4
  try clear c20b0
  try clear c20b1
  try clear a2
  try clear a3
  try clear a8
  try clear al
  try clear ar
  try clear aw
  try clear ax
  try clear eg
  try clear eh
  try clear ei
  try clear cg
  try clear ch
  try clear cx
  try clear cy
  try clear cz
  try clear d0
  try clear d1
  try clear dc
  try clear ff
  try clear fg
  try clear bb
  try clear bg
  try clear af
  try clear ah
  try clear ai
  try clear ba
  try clear bs
  try clear bu
  try clear bv
  try clear bw
  try clear cb
  try clear cr
  try clear ct
  try clear b9
  try clear bc
  try clear ce
  try clear ee
  try clear ef
  try clear em
  try clear et
  try clear bn
  try clear bo
  try clear bp
  try clear a4
  try clear a5
  try clear aa
  try clear b0
  try clear b1
  try clear b2
  try clear b3
  try clear ej
  try clear eo
  try clear er
  try clear ci
  try clear cj
  try clear d2
  try clear d3
  try clear d4
  try clear d5
  try clear d6
  try clear dd
  try clear fh
  try clear fi
  try clear bq
  try clear br
  try clear ap
  try clear aj
  try clear ak
  try clear bf
  try clear cu
  try clear cv
  try clear cw
  try clear d7
  try clear d8
  try clear da
  try clear dh
  try clear bd
  try clear be
  try clear di
  try clear eu
  try clear ev
  try clear ew
  try clear ey
  try clear ez
  try clear f8
  try clear fp
  obtain⟨kq,bz,rfl,HA,jm,τ,ω,a7,HB⟩:=hcut
  cases kq with
  |zero=>exact absurd HA.out (by simp[newellaw21_GroupBounds.j0])
  |succ am=>
   have H:=HA.out
   clear HA
   simp only[newellaw21_GroupBounds.j0] at H
   by_cases ag:bz=true
   ·subst ag
    have H1:((newellaw21_awake.f am).bind fun bl=>(if bl=true then (some (φ == 0)) else (none)))=some r:=by rw[if_pos rfl] at H;exact H
    clear H
    have H:=H1
    clear H1
    replace H:=Option.bind_eq_some_iff.mp H
    obtain⟨bl,dk,H⟩:=H
    replace H:(if bl=true then (some (φ == 0)) else (none))=some r:=H
    have je:=Aside0.mk dk
    clear dk
    by_cases b8:bl=true
    ·subst b8
     have H1:(some (φ == 0))=some r:=by rw[if_pos rfl] at H;exact H
     clear H
     have H:=H1
     clear H1
     obtain rfl:=Option.some.inj H
     go_wp2_with (first|((with_reducible refine Ql (f:=9) rfl ?_);refine Q2 (some 35) rfl rfl Try.func9 kr rfl #[] rfl qM ?_;(with_reducible refine(newellaw21_awake.calls am  true _ je.out).mono ?_);rintro e ca ⟨rfl,hb⟩;refine⟨_,rfl, ?_⟩;replace τ :=sBk τ hb;replace ω :=sBk ω hb;replace a7:=sBk a7 hb;replace HB:=sHb hb;(try clear hb);(try clear a9);(try clear hk);(try clear hi)))
     go_ret
     exact⟨rfl,HB.out⟩
    ·replace b8:=Bool.eq_false_iff.mpr b8
     subst b8
     have H1:(none)=some r:=by rw[if_neg (show ¬ (false=true) by decide)] at H;exact H
     clear H
     have H:=H1
     clear H1
     exact absurd H (by simp)
   ·replace ag:=Bool.eq_false_iff.mpr ag
    subst ag
    have H1:((newellaw21_awake.f am).bind fun bi=>(if bi=true then (if (wrap64 (φ - a0))≥(wrap64 (B * (mx (wrap64 ((wrap64 (Z+Y)) - ξ)) (wrap64 (ξ - (wrap64 (Z+Y))))))) then (if (wrap64 (φ - a0))≤(wrap64 ((wrap64 (3 * B)) * (wrap64 (J-1)))) then (if B=0 then (none) else (if (Int.tmod (wrap64 (φ - a0)) B)=0 then (if χ = 0 then (newellaw21_GroupBounds.j1 am ((wrap64 (φ - a0))==(wrap64 (B * (mx (wrap64 ((wrap64 (Z+Y)) - ξ)) (wrap64 (ξ - (wrap64 (Z+Y))))))))) else (newellaw21_GroupBounds.j1 am true)) else (none))) else (none)) else (none)) else (none)))=some r:=by rw[if_neg (show ¬ (false=true) by decide)] at H;exact H
    clear H
    have H:=H1
    clear H1
    obtain⟨b7,bk⟩:∃ j_:Int,(mx (wrap64 ((wrap64 (Z+Y)) - ξ)) (wrap64 (ξ - (wrap64 (Z+Y)))))=j_:=⟨_,rfl⟩
    replace H:((newellaw21_awake.f am).bind fun bi=>(if bi=true then (if (wrap64 (φ - a0))≥(wrap64 (B * (b7))) then (if (wrap64 (φ - a0))≤(wrap64 ((wrap64 (3 * B)) * (wrap64 (J-1)))) then (if B=0 then (none) else (if (Int.tmod (wrap64 (φ - a0)) B)=0 then (if χ = 0 then (newellaw21_GroupBounds.j1 am ((wrap64 (φ - a0))==(wrap64 (B * (b7))))) else (newellaw21_GroupBounds.j1 am true)) else (none))) else (none)) else (none)) else (none)))=some r:=by first|(rw[bk] at H;exact H)|(simp only[bk] at H ⊢;exact H)
    have jo:(if (wrap64 ((wrap64 (Z+Y)) - ξ))<(wrap64 (ξ - (wrap64 (Z+Y)))) then (wrap64 (ξ - (wrap64 (Z+Y)))) else (wrap64 ((wrap64 (Z+Y)) - ξ)))=b7:=bk
    have du:=Aside0.mk H
    clear H
    have gj:=ao.out
    have gl:=an.out
    have jk:=b5.out
    have jl:=b6.out
    obtain⟨ft,fu,fv,g4,g6,g9,gf,gg,gh,gm,fw,fx,fy,gp,gs,h0,h7,ha,hl,ho⟩:=Za ω.out
    have ji:=av.out
    have jj:=au.out
    obtain⟨ck,cm,cn,co,cp,cq⟩:=qD3 a7.out
    go_upto_region 8 with(fail)
    go_cut [6] (fun v6 wc=>∃ (kq:Nat) (cd:Bool),v6 = .bool cd∧Aside0 (newellaw21_GroupBounds.j1 kq cd=some r)∧Aside0 (kq≤am)∧Aside0 (wc.heap[dx]?=some (.cells #[.int .i64 J,.int .i64 B,.int .i64 L,.int .i64 O,.int .i64 X,.int .i64 δ,.int .i64 γ,.int .i64 θ,.int .i64 η,.int .i64 ζ] 25 (0,0)))∧Aside0 (wc.heap[fe]?=some (.cells #[.int .i64 Z,.int .i64 Y,.int .i64 ε,.int .i64 κ,.int .i64 ι,.int .i64 μ,.int .i64 ν,.int .i64 χ,.bool ψ,.bool a1] 31 (0,0)))∧Aside0 (wc.heap[g3]?=some (.cells #[.int .i64 ξ,.int .i64 ρ,.int .i64 σ] 36 (0,0)))∧Aside0 (Below w.heap.size w wc))
    case first=>
     have H:=du.out
     clear du
     replace H:=Option.bind_eq_some_iff.mp H
     obtain⟨bi,jh,H⟩:=H
     replace H:(if bi=true then (if (wrap64 (φ - a0))≥(wrap64 (B * (b7))) then (if (wrap64 (φ - a0))≤(wrap64 ((wrap64 (3 * B)) * (wrap64 (J-1)))) then (if B=0 then (none) else (if (Int.tmod (wrap64 (φ - a0)) B)=0 then (if χ = 0 then (newellaw21_GroupBounds.j1 am ((wrap64 (φ - a0))==(wrap64 (B * (b7))))) else (newellaw21_GroupBounds.j1 am true)) else (none))) else (none)) else (none)) else (none))=some r:=H
     have jn:=Aside0.mk jh
     clear jh
     by_cases h8:bi=true
     ·subst h8
      have H1:(if (wrap64 (φ - a0))≥(wrap64 (B * (b7))) then (if (wrap64 (φ - a0))≤(wrap64 ((wrap64 (3 * B)) * (wrap64 (J-1)))) then (if B=0 then (none) else (if (Int.tmod (wrap64 (φ - a0)) B)=0 then (if χ = 0 then (newellaw21_GroupBounds.j1 am ((wrap64 (φ - a0))==(wrap64 (B * (b7))))) else (newellaw21_GroupBounds.j1 am true)) else (none))) else (none)) else (none))=some r:=by rw[if_pos rfl] at H;exact H
      clear H
      have H:=H1
      clear H1
      by_cases h9:(wrap64 (φ - a0))≥(wrap64 (B * (b7)))
      ·rw[if_pos h9] at H
       have c34b0:decide ((wrap64 (B * (b7)))≤(wrap64 (φ - a0)))=true:=decide_eq_true h9
       clear h9
       (first|rw[c34b0]|(simp only[Zb,Zj];rw[c34b0])|skip)
       by_cases en:(wrap64 (φ - a0))≤(wrap64 ((wrap64 (3 * B)) * (wrap64 (J-1))))
       ·rw[if_pos en] at H
        have c35b0:decide ((wrap64 (φ - a0))≤(wrap64 ((wrap64 (3 * B)) * (wrap64 (J-1)))))=true:=decide_eq_true en
        clear en
        by_cases dn:B=0
        ·rw[if_pos dn] at H
         exact absurd H (by simp)
        ·rw[if_neg dn] at H
         have c36b0:(B==0)=false:=beq_eq_false_iff_ne.mpr dn
         have c36b1:(B != 0)=true:=bne_iff_ne.mpr dn
         by_cases df:(Int.tmod (wrap64 (φ - a0)) B)=0
         ·rw[if_pos df] at H
          have c37b0:((Int.tmod (wrap64 (φ - a0)) B)==0)=true:=beq_iff_eq.mpr df
          have c37b1:((Int.tmod (wrap64 (φ - a0)) B) != 0)=false:=bne_eq_false_iff_eq.mpr df
          clear df
          by_cases ep: χ = 0
          ·rw[if_pos ep] at H
           have c38b0:(χ == 0)=true:=beq_iff_eq.mpr ep
           have c38b1:(χ != 0)=false:=bne_eq_false_iff_eq.mpr ep
           clear ep
           have H':=Aside0.mk H
           clear H
           go_wp2_with (first|((with_reducible refine Ql (f:=9) rfl ?_);refine Q2 (some 59) rfl rfl Try.func9 kr rfl #[] rfl qM ?_;(with_reducible refine(newellaw21_awake.calls am  true _ jn.out).mono ?_);rintro e j8 ⟨rfl,hb⟩;refine⟨_,rfl, ?_⟩;replace τ :=sBk τ hb;replace ω :=sBk ω hb;replace a7:=sBk a7 hb;replace HB:=sHb hb;(try clear hb);(try clear a9);(try clear hk);(try clear hi);have ik:=an.out;have il:=ao.out;have im:=au.out;have io:=av.out;obtain⟨e0,e7,e9,he,ib,ic,ie,hu,hx,hy,eb,ec,ed,ig,ih,ii,ij,i0,i1,ip⟩:=Za τ.out;have fq:=b5.out;have g2:=b6.out;obtain⟨cf,fa,fl,fm,fn,fo,fr,dp,dq,dr,e8,fb,g0,g1,g5,g8,ga,dw,dy,dz⟩:=Za ω.out))
           go_meet
           case rel=>exact⟨_,(((wrap64 (φ - a0))==(wrap64 (B * (b7))))),(by first|rfl|(simp;done)|(simp only[← bk] <;> (first|rfl|simp))|(simp[*];done)),H',⟨by have:=jm.out;omega⟩,τ,ω,a7,HB⟩
          ·rw[if_neg ep] at H
           have c38b0:(χ == 0)=false:=beq_eq_false_iff_ne.mpr ep
           have c38b1:(χ != 0)=true:=bne_iff_ne.mpr ep
           have H':=Aside0.mk H
           clear H
           go_wp2_with (first|((with_reducible refine Ql (f:=9) rfl ?_);refine Q2 (some 59) rfl rfl Try.func9 kr rfl #[] rfl qM ?_;(with_reducible refine(newellaw21_awake.calls am  true _ jn.out).mono ?_);rintro e jx ⟨rfl,hb⟩;refine⟨_,rfl, ?_⟩;replace τ :=sBk τ hb;replace ω :=sBk ω hb;replace a7:=sBk a7 hb;replace HB:=sHb hb;(try clear hb);(try clear a9);(try clear hk);(try clear hi);have hh:=an.out;have hj:=ao.out;have j4:=au.out;have j5:=av.out;obtain⟨e3,e4,gb,ge,gk,gt,gu,gv,gw,gx,e5,e6,gy,gz,h4,h5,h6,i2,i3,i4⟩:=Za τ.out;have iv:=b5.out;have j9:=b6.out;obtain⟨gq,i5,i6,iq,ir,it,iu,iw,ix,iy,gr,i7,ia,iz,j6,j7,ja,jb,jc,jd⟩:=Za ω.out))
           go_meet
           case rel=>exact⟨_,(true),rfl,H',⟨by have:=jm.out;omega⟩,τ,ω,a7,HB⟩
         ·rw[if_neg df] at H
          exact absurd H (by simp)
       ·rw[if_neg en] at H
        exact absurd H (by simp)
      ·rw[if_neg h9] at H
       exact absurd H (by simp)
     ·replace h8:=Bool.eq_false_iff.mpr h8
      subst h8
      have H1:(none)=some r:=by rw[if_neg (show ¬ (false=true) by decide)] at H;exact H
      clear H
      have H:=H1
      clear H1
      exact absurd H (by simp)
    case rest=>
     clear du
     try clear c1
     try clear c2
     try clear p2
     try clear c3
     try clear c4
     try clear p6
     try clear c7
     try clear c9
     try clear c10
     try clear ae
     try clear a6
     try clear b4
     try clear c20b0
     try clear c20b1
     try clear ag
     try clear b8
     try clear ab
     try clear dv
     try clear dj
     try clear gi
     try clear h8
     try clear h9
     try clear c34b0
     try clear en
     try clear c35b0
     try clear dn
     try clear c36b0
     try clear c36b1
     try clear df
     try clear c37b0
     try clear c37b1
     try clear ep
     try clear c38b0
     try clear c38b1
     try clear ea
     try clear i9
     try clear gn
     try clear nv
     try clear g7
     try clear ek
     try clear a2
     try clear a3
     try clear a8
     try clear al
     try clear ar
     try clear aw
     try clear ax
     try clear eg
     try clear eh
     try clear ei
     try clear cg
     try clear ch
     try clear cx
     try clear cy
     try clear cz
     try clear d0
     try clear d1
     try clear dc
     try clear ff
     try clear fg
     try clear bb
     try clear bg
     try clear af
     try clear ah
     try clear ai
     try clear ba
     try clear bs
     try clear bu
     try clear bv
     try clear bw
     try clear cb
     try clear cr
     try clear ct
     try clear b9
     try clear bc
     try clear ce
     try clear ee
     try clear ef
     try clear em
     try clear et
     try clear bn
     try clear bo
     try clear bp
     try clear ft
     try clear fu
     try clear fv
     try clear g4
     try clear g6
     try clear g9
     try clear gf
     try clear gg
     try clear gh
     try clear gm
     try clear ck
     try clear cm
     try clear cn
     try clear e0
     try clear e7
     try clear e9
     try clear he
     try clear ib
     try clear ic
     try clear ie
     try clear hu
     try clear hx
     try clear hy
     try clear cf
     try clear fa
     try clear fl
     try clear fm
     try clear fn
     try clear fo
     try clear fr
     try clear dp
     try clear dq
     try clear dr
     try clear e3
     try clear e4
     try clear gb
     try clear ge
     try clear gk
     try clear gt
     try clear gu
     try clear gv
     try clear gw
     try clear gx
     try clear gq
     try clear i5
     try clear i6
     try clear iq
     try clear ir
     try clear it
     try clear iu
     try clear iw
     try clear ix
     try clear iy
     try clear a4
     try clear a5
     try clear aa
     try clear b0
     try clear b1
     try clear b2
     try clear b3
     try clear ej
     try clear eo
     try clear er
     try clear ci
     try clear cj
     try clear d2
     try clear d3
     try clear d4
     try clear d5
     try clear d6
     try clear dd
     try clear fh
     try clear fi
     try clear bq
     try clear br
     try clear ap
     try clear aj
     try clear ak
     try clear bf
     try clear cu
     try clear cv
     try clear cw
     try clear d7
     try clear d8
     try clear da
     try clear dh
     try clear bd
     try clear be
     try clear di
     try clear eu
     try clear ev
     try clear ew
     try clear ey
     try clear ez
     try clear f8
     try clear fp
     try clear fw
     try clear fx
     try clear fy
     try clear gp
     try clear gs
     try clear h0
     try clear h7
     try clear ha
     try clear hl
     try clear ho
     try clear co
     try clear cp
     try clear cq
     try clear eb
     try clear ec
     try clear ed
     try clear ig
     try clear ih
     try clear ii
     try clear ij
     try clear i0
     try clear i1
     try clear ip
     try clear e8
     try clear fb
     try clear g0
     try clear g1
     try clear g5
     try clear g8
     try clear ga
     try clear dw
     try clear dy
     try clear dz
     try clear e5
     try clear e6
     try clear gy
     try clear gz
     try clear h4
     try clear h5
     try clear h6
     try clear i2
     try clear i3
     try clear i4
     try clear gr
     try clear i7
     try clear ia
     try clear iz
     try clear j6
     try clear j7
     try clear ja
     try clear jb
     try clear jc
     try clear jd
     try clear p2
     obtain⟨kq,cd,rfl,HA,jv,τ,ω,a7,HB⟩:=hcut
     cases kq with
     |zero=>exact absurd HA.out (by simp[newellaw21_GroupBounds.j1])
     |succ jw=>
      have H:=HA.out
      clear HA
      simp only[newellaw21_GroupBounds.j1] at H
      obtain rfl:=Option.some.inj H
      go_wp2
      go_ret
      exact⟨by first|rfl|(simp[Qh,Qg] <;> rfl)|(simp only[← bk];first|rfl|(simp[Qh,Qg] <;> rfl))|(simp[*,Qh,Qg] <;> rfl),HB.out⟩
end Go.Proofs.Ytmfffemidlhcpaa.C
namespace Go.Proofs.Ytmfffemidlhcpaa.GrpPure
open Go.RowKit Go.Proofs.YtmfffemidlhcpaaW.PrintWords Go.Proofs.YtmfffemidlhcpaaW.PrintLast Go.Proofs.YtmfffemidlhcpaaW.PrintMore Go.Proofs.Ytmfffemidlhcpaa.C Go.Proofs.Ytmfffemidlhcpaa.DoorPure
set_option linter.unusedVariables false
set_option linter.unusedSimpArgs false
open Go.Proofs.Ytmfffemidlhcpaa.Call (i64 okB Ui)
theorem Md {g0 Z g2 g3 g4 g5 g6 g7 g8 g9 c0 c1 c2 c3 c4 c5 c6 l7:Int} {B:Int} (J:Int) (h:G3 g0 Z g2 g3 g4 g5 g6 g7 g8 g9 c0 c1 c2 c3 c4 c5 c6 l7) (hx:0≤B∧B<g0):
    Wg g0 Z g2 g3 g6 g8 g9 c0 c1 c2 c3 c4 c5 c6 l7 (Kz [] [] []) B J=Xz g3 g6 g8 g9 c2 c3 c4 c5 c6+Z * J1 g0 (c0+c1) l7 B J∧0≤Z * J1 g0 (c0+c1) l7 B J∧Z * J1 g0 (c0+c1) l7 B J≤12000:=by
  have O:1≤Z∧Z≤60:=h.1.1.1.1.1
  have hF:2≤g0∧g0≤64:=h.1.1.2.1
  have q:=Gx g0 (c0+c1) l7 B J (Wk h.1.2).1 hx
  have q0:0≤Xp (c0+c1) B:=(Ya (Wk h.1.2).1 hx).1
  have r:=Jd _ _ _ _ _ _ _ _ _ _ _ _ _ _ _ _ _ h.1.1 h.1.2
  generalize hw:J1 g0 (c0+c1) l7 B J=w at *
  have p0:0≤Z * w:=Int.mul_nonneg (by omega) (by omega)
  have p1:Z * w≤60 * w:=Int.mul_le_mul_of_nonneg_right O.2 (by omega)
  refine⟨?_,p0,by omega⟩
  unfold Wg
  rw[hw,show Kz [] [] []=0 from by simp[Kz,wrap64],Int.mul_zero,w64 (n:=Z * w) (by omega),w64 (n:=Xz g3 g6 g8 g9 c2 c3 c4 c5 c6+Z * w) (by omega),w64 (n:=0) (by omega),Int.add_zero,w64 (by omega)]
theorem Uz (g0 Z g2 g3 g4 g5 g6 g7 g8 g9 c0 c1 c2 c3 c4 c5 c6 l7:Int) (B J Y:Int) (hd:i64 J) (l8 l9:Bool) (f:Nat) (hf:1600≤f):newellaw21_GroupBounds.f f g0 Z g2 g3 g4 g5 g6 g7 g8 g9 c0 c1 c2 c3 c4 c5 c6 l7 l8 l9 B J Y=some true:=by
  unfold newellaw21_GroupBounds.f
  rw[Nt B J Y hd l8 l9 [] [] [] ⟨by simp,by simp,by simp⟩ f (by omega),Jy _ _ _ _ _ _ _ _ _ _ _ _ _ _ _ _ _ f (by omega)]
  simp only[Option.bind_some]
  obtain⟨f,rfl⟩:∃ m,f=m+2:=⟨f-2,by omega⟩
  cases h:Lz g0 (G3 g0 Z g2 g3 g4 g5 g6 g7 g8 g9 c0 c1 c2 c3 c4 c5 c6 l7) [] [] [] B J Y
  · simp only[Bool.false_eq_true,if_false]
    rw[if_neg (by decide)]
    simp only[newellaw21_GroupBounds.j0,if_true]
    rw[Un _ (by omega)]
    rfl
  · unfold Lz at h
    simp only[Bool.and_eq_true,decide_eq_true_eq] at h
    have hx:=We h.1.1.1.2.1 (by omega) h.2.2
    have O:1≤Z∧Z≤60:=h.1.1.1.1.1.1
    have hF:2≤g0∧g0≤64:=h.1.1.1.2.1
    have hp:=(Wk h.1.1.2).1
    obtain⟨e,p0,p1⟩:=Md J h.1 hx
    have r:=Jd _ _ _ _ _ _ _ _ _ _ _ _ _ _ _ _ _ h.1.1.1 h.1.1.2
    have q:=Gx g0 (c0+c1) l7 B J hp hx
    rw[if_pos rfl,if_pos h.1.1,e]
    simp only[newellaw21_GroupBounds.j0,if_true]
    have em:mx (wrap64 (wrap64 (c0+c1)-B)) (wrap64 (B-wrap64 (c0+c1)))=Xp (c0+c1) B:=by
      rw[w64 (n:=c0+c1) (by omega),w64 (n:=c0+c1-B) (by omega),w64 (n:=B - (c0+c1)) (by omega)]
      unfold mx Xp
      split <;> split <;> omega
    have q0:0≤Xp (c0+c1) B∧Xp (c0+c1) B≤g0-1:=Ya hp hx
    rw[em]
    clear em h
    generalize J1 g0 (c0+c1) l7 B J=w at *
    generalize Xp (c0+c1) B=u at *
    generalize Xz g3 g6 g8 g9 c2 c3 c4 c5 c6=s at *
    have m1:Z * u≤Z * w:=Int.mul_le_mul_of_nonneg_left q.1 (by omega)
    have m2:Z * w≤Z * (3 * (g0-1)):=Int.mul_le_mul_of_nonneg_left q.2.1 (by omega)
    have m3:0≤Z * u:=Int.mul_nonneg (by omega) q0.1
    have m4:Z * (3 * (g0-1))≤60 * (3 * (g0-1)):=Int.mul_le_mul_of_nonneg_right O.2 (by omega)
    have L:3 * Z * (g0-1)=Z * (3 * (g0-1)):=by rw[Int.mul_comm 3 Z,Int.mul_assoc]
    rw[w64 (n:=s+Z * w-s) (by omega),show s+Z * w-s=Z * w by omega,w64 (n:=3 * Z) (by omega),w64 (n:=g0-1) (by omega),L,w64 (n:=Z * u) (by omega),w64 (n:=Z * (3 * (g0-1))) (by omega)]
    have z:((0:Int) != 0)=false:=by decide
    rw[z,if_neg (by decide),Un _ (by omega)]
    simp only[Option.bind_some,if_true]
    rw[if_pos m1,if_pos m2,if_neg (by omega),if_pos (Int.mul_tmod_right Z w)]
    by_cases X:l7=0
    · rw[if_pos X,q.2.2 X]
      simp[newellaw21_GroupBounds.j1]
    · rw[if_neg X]
      rfl
end Go.Proofs.Ytmfffemidlhcpaa.GrpPure
