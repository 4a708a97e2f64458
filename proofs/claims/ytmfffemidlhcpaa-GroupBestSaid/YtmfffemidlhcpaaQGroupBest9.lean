/- Texts of this claim, one behind the other: what the law's functions come to, walked (printed by a program, with the words that the print uses), and what that is, in plain Lean. No conditions of their own. -/
import Derived.Test.YtmfffemidlhcpaaQGroupBest8
namespace Go.Proofs.Ytmfffemidlhcpaa.C
open Go.RowKit Go.Proofs.YtmfffemidlhcpaaW.PrintWords Go.Proofs.YtmfffemidlhcpaaW.PrintLast Go.Proofs.YtmfffemidlhcpaaW.PrintMore
attribute [local go_sem] Z3 Z1 Xg Xf Zt Zs Z2 Z0
set_option linter.unusedVariables false
set_option linter.unusedSimpArgs false
def newellaw21_awake.f (k:Nat):Option (Bool):=(newellaw17_Plain.f).bind fun J=>((some (([(⟨(⟨0,0,0,0,(⟨0,0,0⟩:S27)⟩:S29),0,false,false⟩:S31),(⟨(⟨3,0,0,0,(⟨0,0,0⟩:S27)⟩:S29),0,false,false⟩:S31)]:List (S31)):List (S31))).bind fun B=>((some (([(⟨2,1,(-1)⟩:S36)]:List (S36)):List (S36))).bind fun δ =>(if 0<(B.length:Int) then ((group_Cost.f k J.1 J.2.1 J.2.2.1 J.2.2.2.1 J.2.2.2.2.1 J.2.2.2.2.2.1 J.2.2.2.2.2.2.1 J.2.2.2.2.2.2.2.1 J.2.2.2.2.2.2.2.2.1 J.2.2.2.2.2.2.2.2.2 ((Qb B 0).f0.f0) ((Qb B 0).f0.f1) ((Qb B 0).f0.f2) ((Qb B 0).f0.f3) ((Qb B 0).f0.f4.f0) ((Qb B 0).f0.f4.f1) ((Qb B 0).f0.f4.f2) ((Qb B 0).f1) ((Qb B 0).f2) ((Qb B 0).f3) ([]:List Int) ([]:List Int) ([]:List Int) 2 1 (-1)).bind fun a8=>(if 1<(B.length:Int) then ((group_Cost.f k J.1 J.2.1 J.2.2.1 J.2.2.2.1 J.2.2.2.2.1 J.2.2.2.2.2.1 J.2.2.2.2.2.2.1 J.2.2.2.2.2.2.2.1 J.2.2.2.2.2.2.2.2.1 J.2.2.2.2.2.2.2.2.2 ((Qb B 1).f0.f0) ((Qb B 1).f0.f1) ((Qb B 1).f0.f2) ((Qb B 1).f0.f3) ((Qb B 1).f0.f4.f0) ((Qb B 1).f0.f4.f1) ((Qb B 1).f0.f4.f2) ((Qb B 1).f1) ((Qb B 1).f2) ((Qb B 1).f3) ([]:List Int) ([]:List Int) ([]:List Int) 2 1 (-1)).bind fun a1=>((group_Pick.f k J.1 J.2.1 J.2.2.1 J.2.2.2.1 J.2.2.2.2.1 J.2.2.2.2.2.1 J.2.2.2.2.2.2.1 J.2.2.2.2.2.2.2.1 J.2.2.2.2.2.2.2.2.1 J.2.2.2.2.2.2.2.2.2 B 0 δ ([]:List (S86)) 2 1 (-1)).bind fun a0=>((group_Spread.f k J.1 J.2.1 J.2.2.1 J.2.2.2.1 J.2.2.2.2.1 J.2.2.2.2.2.1 J.2.2.2.2.2.2.1 J.2.2.2.2.2.2.2.1 J.2.2.2.2.2.2.2.2.1 J.2.2.2.2.2.2.2.2.2 B 0 δ ([]:List (S86))).bind fun X=>(if a8.1=4 then (if a8.2=0 then (if a1.1=2 then (if a1.2=0 then (if a0.1=1 then (if a0.2=0 then (if X.2.2=0 then (if (X.1.length:Int)=1 then (if 0<(X.1.length:Int) then (if ((Qd X.1 0).f2)=1 then ((group_Check.f k J.1 J.2.1 J.2.2.1 J.2.2.2.1 J.2.2.2.2.1 J.2.2.2.2.2.1 J.2.2.2.2.2.2.1 J.2.2.2.2.2.2.2.1 J.2.2.2.2.2.2.2.2.1 J.2.2.2.2.2.2.2.2.2 B δ ([]:List (S86))).bind fun a4=>(some (a4==0))) else (none)) else (none)) else (none)) else (none)) else (none)) else (none)) else (none)) else (none)) else (none)) else (none))))) else (none))) else (none))))
theorem newellaw21_awake.mono:∀ k,LeO (newellaw21_awake.f k) (newellaw21_awake.f (k+1)):=by
 intro  k
 unfold newellaw21_awake.f
 repeat' first
   |(with_reducible exact group_Check.mono _ _ _ _ _ _ _ _ _ _ _ _ _ _)
   |(with_reducible exact group_Cost.mono _ _ _ _ _ _ _ _ _ _ _ _ _ _ _ _ _ _ _ _ _ _ _ _ _ _ _)
   |(with_reducible exact group_Pick.mono _ _ _ _ _ _ _ _ _ _ _ _ _ _ _ _ _ _)
   |(with_reducible exact group_Spread.mono _ _ _ _ _ _ _ _ _ _ _ _ _ _ _)
   |(with_reducible exact LeO.refl _)
   |(with_reducible exact LeO.none _)
   |(with_reducible refine LeO.ite ?_ ?_)
   |(with_reducible refine LeO.bind ?_ (fun _=>?_))
   |exact group_Check.mono _ _ _ _ _ _ _ _ _ _ _ _ _ _
   |exact group_Cost.mono _ _ _ _ _ _ _ _ _ _ _ _ _ _ _ _ _ _ _ _ _ _ _ _ _ _ _
   |exact group_Pick.mono _ _ _ _ _ _ _ _ _ _ _ _ _ _ _ _ _ _
   |exact group_Spread.mono _ _ _ _ _ _ _ _ _ _ _ _ _ _ _
   |exact LeO.none _
   |refine LeO.ite ?_ ?_
   |refine LeO.bind ?_ (fun _=>?_)
def newellaw21_awake.T5:Bool×List (List Nat×List Nat):=(true,[([],[]),([],[]),([1],[1]),([2],[2]),([],[]),([],[]),([0,3,4,5],[0,3,4,5]),([6],[6]),([7],[7]),([7],[7]),([8,6,0,1,2,3,4,5,6,7,8],[8]),([9,10,0,1,2,3,4,5,6,7,8,9,10],[9])])
def newellaw21_awake.B5:List Nat:=[0,0,2,6,0,0,63,127,255,255,511,2047]
theorem newellaw21_awake.N7:rtab .any (opsOf Try.f9 5)=newellaw21_awake.T5:=by kernel_rfl
theorem newellaw21_awake.Li:Zk newellaw21_awake.T5.2 newellaw21_awake.B5=true:=by kernel_rfl
def newellaw21_awake.T6:Bool×List (List Nat×List Nat):=(true,[([],[]),([],[]),([1],[1]),([2],[2]),([],[]),([],[]),([0,3,4,5],[0,3,4,5]),([6],[6]),([7],[7]),([7],[7]),([8,6,0,1,2,3,4,5,6,7,8],[8]),([9,10,0,1,2,3,4,5,6,7,8,9,10],[9])])
def newellaw21_awake.B6:List Nat:=[0,0,2,6,0,0,63,127,255,255,511,2047]
theorem newellaw21_awake.Dc:rtab .any (opsOf Try.f9 6)=newellaw21_awake.T6:=by kernel_rfl
theorem newellaw21_awake.Nr:Zk newellaw21_awake.T6.2 newellaw21_awake.B6=true:=by kernel_rfl
set_option maxHeartbeats 8000000 in
set_option maxRecDepth 100000 in
theorem newellaw21_awake.calls (k:Nat)  (r:Bool) (w:World) (h:newellaw21_awake.f k=some r):
  Calls Try.prog 9 #[] w fun e w'=>e = .returned (.bool r)∧Below w.heap.size w w':=by
 have e5:=Try.underlying25
 have jc:=Try.underlying31
 have fy:=Try.underlying29
 have e4:=Try.underlying36
 have ed:=Try.underlying50
 have ki:=Try.underlying34
 have HB:=Aside0.mk (Below.refl w.heap.size w)
 have H:((newellaw17_Plain.f).bind fun J=>((some (([(⟨(⟨0,0,0,0,(⟨0,0,0⟩:S27)⟩:S29),0,false,false⟩:S31),(⟨(⟨3,0,0,0,(⟨0,0,0⟩:S27)⟩:S29),0,false,false⟩:S31)]:List (S31)):List (S31))).bind fun B=>((some (([(⟨2,1,(-1)⟩:S36)]:List (S36)):List (S36))).bind fun δ =>(if 0<(B.length:Int) then ((group_Cost.f k J.1 J.2.1 J.2.2.1 J.2.2.2.1 J.2.2.2.2.1 J.2.2.2.2.2.1 J.2.2.2.2.2.2.1 J.2.2.2.2.2.2.2.1 J.2.2.2.2.2.2.2.2.1 J.2.2.2.2.2.2.2.2.2 ((Qb B 0).f0.f0) ((Qb B 0).f0.f1) ((Qb B 0).f0.f2) ((Qb B 0).f0.f3) ((Qb B 0).f0.f4.f0) ((Qb B 0).f0.f4.f1) ((Qb B 0).f0.f4.f2) ((Qb B 0).f1) ((Qb B 0).f2) ((Qb B 0).f3) ([]:List Int) ([]:List Int) ([]:List Int) 2 1 (-1)).bind fun a8=>(if 1<(B.length:Int) then ((group_Cost.f k J.1 J.2.1 J.2.2.1 J.2.2.2.1 J.2.2.2.2.1 J.2.2.2.2.2.1 J.2.2.2.2.2.2.1 J.2.2.2.2.2.2.2.1 J.2.2.2.2.2.2.2.2.1 J.2.2.2.2.2.2.2.2.2 ((Qb B 1).f0.f0) ((Qb B 1).f0.f1) ((Qb B 1).f0.f2) ((Qb B 1).f0.f3) ((Qb B 1).f0.f4.f0) ((Qb B 1).f0.f4.f1) ((Qb B 1).f0.f4.f2) ((Qb B 1).f1) ((Qb B 1).f2) ((Qb B 1).f3) ([]:List Int) ([]:List Int) ([]:List Int) 2 1 (-1)).bind fun a1=>((group_Pick.f k J.1 J.2.1 J.2.2.1 J.2.2.2.1 J.2.2.2.2.1 J.2.2.2.2.2.1 J.2.2.2.2.2.2.1 J.2.2.2.2.2.2.2.1 J.2.2.2.2.2.2.2.2.1 J.2.2.2.2.2.2.2.2.2 B 0 δ ([]:List (S86)) 2 1 (-1)).bind fun a0=>((group_Spread.f k J.1 J.2.1 J.2.2.1 J.2.2.2.1 J.2.2.2.2.1 J.2.2.2.2.2.1 J.2.2.2.2.2.2.1 J.2.2.2.2.2.2.2.1 J.2.2.2.2.2.2.2.2.1 J.2.2.2.2.2.2.2.2.2 B 0 δ ([]:List (S86))).bind fun X=>(if a8.1=4 then (if a8.2=0 then (if a1.1=2 then (if a1.2=0 then (if a0.1=1 then (if a0.2=0 then (if X.2.2=0 then (if (X.1.length:Int)=1 then (if 0<(X.1.length:Int) then (if ((Qd X.1 0).f2)=1 then ((group_Check.f k J.1 J.2.1 J.2.2.1 J.2.2.2.1 J.2.2.2.2.1 J.2.2.2.2.2.1 J.2.2.2.2.2.2.1 J.2.2.2.2.2.2.2.1 J.2.2.2.2.2.2.2.2.1 J.2.2.2.2.2.2.2.2.2 B δ ([]:List (S86))).bind fun a4=>(some (a4==0))) else (none)) else (none)) else (none)) else (none)) else (none)) else (none)) else (none)) else (none)) else (none)) else (none))))) else (none))) else (none)))))=some r:=h
 clear h
 replace H:=Option.bind_eq_some_iff.mp H
 obtain⟨⟨Y,Z,ar,ζ,η,θ,ι,κ,ν,φ⟩,bq,H⟩:=H
 replace H:((some (([(⟨(⟨0,0,0,0,(⟨0,0,0⟩:S27)⟩:S29),0,false,false⟩:S31),(⟨(⟨3,0,0,0,(⟨0,0,0⟩:S27)⟩:S29),0,false,false⟩:S31)]:List (S31)):List (S31))).bind fun B=>((some (([(⟨2,1,(-1)⟩:S36)]:List (S36)):List (S36))).bind fun δ =>(if 0<(B.length:Int) then ((group_Cost.f k Y Z ar ζ η θ ι κ ν φ ((Qb B 0).f0.f0) ((Qb B 0).f0.f1) ((Qb B 0).f0.f2) ((Qb B 0).f0.f3) ((Qb B 0).f0.f4.f0) ((Qb B 0).f0.f4.f1) ((Qb B 0).f0.f4.f2) ((Qb B 0).f1) ((Qb B 0).f2) ((Qb B 0).f3) ([]:List Int) ([]:List Int) ([]:List Int) 2 1 (-1)).bind fun a8=>(if 1<(B.length:Int) then ((group_Cost.f k Y Z ar ζ η θ ι κ ν φ ((Qb B 1).f0.f0) ((Qb B 1).f0.f1) ((Qb B 1).f0.f2) ((Qb B 1).f0.f3) ((Qb B 1).f0.f4.f0) ((Qb B 1).f0.f4.f1) ((Qb B 1).f0.f4.f2) ((Qb B 1).f1) ((Qb B 1).f2) ((Qb B 1).f3) ([]:List Int) ([]:List Int) ([]:List Int) 2 1 (-1)).bind fun a1=>((group_Pick.f k Y Z ar ζ η θ ι κ ν φ B 0 δ ([]:List (S86)) 2 1 (-1)).bind fun a0=>((group_Spread.f k Y Z ar ζ η θ ι κ ν φ B 0 δ ([]:List (S86))).bind fun X=>(if a8.1=4 then (if a8.2=0 then (if a1.1=2 then (if a1.2=0 then (if a0.1=1 then (if a0.2=0 then (if X.2.2=0 then (if (X.1.length:Int)=1 then (if 0<(X.1.length:Int) then (if ((Qd X.1 0).f2)=1 then ((group_Check.f k Y Z ar ζ η θ ι κ ν φ B δ ([]:List (S86))).bind fun a4=>(some (a4==0))) else (none)) else (none)) else (none)) else (none)) else (none)) else (none)) else (none)) else (none)) else (none)) else (none))))) else (none))) else (none))))=some r:=H
 have A1:=Aside0.mk bq
 clear bq
 obtain⟨B,cm⟩:∃ y_:List (S31),y_=(([(⟨(⟨0,0,0,0,(⟨0,0,0⟩:S27)⟩:S29),0,false,false⟩:S31),(⟨(⟨3,0,0,0,(⟨0,0,0⟩:S27)⟩:S29),0,false,false⟩:S31)]:List (S31))):=⟨_,rfl⟩
 replace H:((some (([(⟨2,1,(-1)⟩:S36)]:List (S36)):List (S36))).bind fun δ =>(if 0<(B.length:Int) then ((group_Cost.f k Y Z ar ζ η θ ι κ ν φ ((Qb B 0).f0.f0) ((Qb B 0).f0.f1) ((Qb B 0).f0.f2) ((Qb B 0).f0.f3) ((Qb B 0).f0.f4.f0) ((Qb B 0).f0.f4.f1) ((Qb B 0).f0.f4.f2) ((Qb B 0).f1) ((Qb B 0).f2) ((Qb B 0).f3) ([]:List Int) ([]:List Int) ([]:List Int) 2 1 (-1)).bind fun a8=>(if 1<(B.length:Int) then ((group_Cost.f k Y Z ar ζ η θ ι κ ν φ ((Qb B 1).f0.f0) ((Qb B 1).f0.f1) ((Qb B 1).f0.f2) ((Qb B 1).f0.f3) ((Qb B 1).f0.f4.f0) ((Qb B 1).f0.f4.f1) ((Qb B 1).f0.f4.f2) ((Qb B 1).f1) ((Qb B 1).f2) ((Qb B 1).f3) ([]:List Int) ([]:List Int) ([]:List Int) 2 1 (-1)).bind fun a1=>((group_Pick.f k Y Z ar ζ η θ ι κ ν φ B 0 δ ([]:List (S86)) 2 1 (-1)).bind fun a0=>((group_Spread.f k Y Z ar ζ η θ ι κ ν φ B 0 δ ([]:List (S86))).bind fun X=>(if a8.1=4 then (if a8.2=0 then (if a1.1=2 then (if a1.2=0 then (if a0.1=1 then (if a0.2=0 then (if X.2.2=0 then (if (X.1.length:Int)=1 then (if 0<(X.1.length:Int) then (if ((Qd X.1 0).f2)=1 then ((group_Check.f k Y Z ar ζ η θ ι κ ν φ B δ ([]:List (S86))).bind fun a4=>(some (a4==0))) else (none)) else (none)) else (none)) else (none)) else (none)) else (none)) else (none)) else (none)) else (none)) else (none))))) else (none))) else (none)))=some r:=by first|(rw[cm];with_reducible exact H)|(have an:=(Option.bind_some _ _).symm.trans H;rw[cm];with_reducible exact an)|(have an:=(Option.bind_some _ _).symm.trans H;with_reducible exact an)|with_reducible exact H|(rw[cm];exact H)|exact H
 have fa:=Aside0.mk cm
 clear cm
 obtain⟨δ,cn⟩:∃ y_:List (S36),y_=(([(⟨2,1,(-1)⟩:S36)]:List (S36))):=⟨_,rfl⟩
 replace H:(if 0<(B.length:Int) then ((group_Cost.f k Y Z ar ζ η θ ι κ ν φ ((Qb B 0).f0.f0) ((Qb B 0).f0.f1) ((Qb B 0).f0.f2) ((Qb B 0).f0.f3) ((Qb B 0).f0.f4.f0) ((Qb B 0).f0.f4.f1) ((Qb B 0).f0.f4.f2) ((Qb B 0).f1) ((Qb B 0).f2) ((Qb B 0).f3) ([]:List Int) ([]:List Int) ([]:List Int) 2 1 (-1)).bind fun a8=>(if 1<(B.length:Int) then ((group_Cost.f k Y Z ar ζ η θ ι κ ν φ ((Qb B 1).f0.f0) ((Qb B 1).f0.f1) ((Qb B 1).f0.f2) ((Qb B 1).f0.f3) ((Qb B 1).f0.f4.f0) ((Qb B 1).f0.f4.f1) ((Qb B 1).f0.f4.f2) ((Qb B 1).f1) ((Qb B 1).f2) ((Qb B 1).f3) ([]:List Int) ([]:List Int) ([]:List Int) 2 1 (-1)).bind fun a1=>((group_Pick.f k Y Z ar ζ η θ ι κ ν φ B 0 δ ([]:List (S86)) 2 1 (-1)).bind fun a0=>((group_Spread.f k Y Z ar ζ η θ ι κ ν φ B 0 δ ([]:List (S86))).bind fun X=>(if a8.1=4 then (if a8.2=0 then (if a1.1=2 then (if a1.2=0 then (if a0.1=1 then (if a0.2=0 then (if X.2.2=0 then (if (X.1.length:Int)=1 then (if 0<(X.1.length:Int) then (if ((Qd X.1 0).f2)=1 then ((group_Check.f k Y Z ar ζ η θ ι κ ν φ B δ ([]:List (S86))).bind fun a4=>(some (a4==0))) else (none)) else (none)) else (none)) else (none)) else (none)) else (none)) else (none)) else (none)) else (none)) else (none))))) else (none))) else (none))=some r:=by first|(rw[cn];with_reducible exact H)|(have an:=(Option.bind_some _ _).symm.trans H;rw[cn];with_reducible exact an)|(have an:=(Option.bind_some _ _).symm.trans H;with_reducible exact an)|with_reducible exact H|(rw[cn];exact H)|exact H
 have fc:=Aside0.mk cn
 clear cn
 by_cases c2:0<(B.length:Int)
 ·rw[if_pos c2] at H
  have c2b0:decide (0<(B.length:Int))=true:=decide_eq_true c2
  have c2b1:decide (0<B.length)=true:=decide_eq_true (by omega)
  clear c2
  replace H:=Option.bind_eq_some_iff.mp H
  obtain⟨⟨bv,cd⟩,d1,H⟩:=H
  replace H:(if 1<(B.length:Int) then ((group_Cost.f k Y Z ar ζ η θ ι κ ν φ ((Qb B 1).f0.f0) ((Qb B 1).f0.f1) ((Qb B 1).f0.f2) ((Qb B 1).f0.f3) ((Qb B 1).f0.f4.f0) ((Qb B 1).f0.f4.f1) ((Qb B 1).f0.f4.f2) ((Qb B 1).f1) ((Qb B 1).f2) ((Qb B 1).f3) ([]:List Int) ([]:List Int) ([]:List Int) 2 1 (-1)).bind fun a1=>((group_Pick.f k Y Z ar ζ η θ ι κ ν φ B 0 δ ([]:List (S86)) 2 1 (-1)).bind fun a0=>((group_Spread.f k Y Z ar ζ η θ ι κ ν φ B 0 δ ([]:List (S86))).bind fun X=>(if bv=4 then (if cd=0 then (if a1.1=2 then (if a1.2=0 then (if a0.1=1 then (if a0.2=0 then (if X.2.2=0 then (if (X.1.length:Int)=1 then (if 0<(X.1.length:Int) then (if ((Qd X.1 0).f2)=1 then ((group_Check.f k Y Z ar ζ η θ ι κ ν φ B δ ([]:List (S86))).bind fun a4=>(some (a4==0))) else (none)) else (none)) else (none)) else (none)) else (none)) else (none)) else (none)) else (none)) else (none)) else (none))))) else (none))=some r:=H
  have A3:=Aside0.mk d1
  clear d1
  by_cases c4:1<(B.length:Int)
  ·rw[if_pos c4] at H
   have c4b0:decide (1<(B.length:Int))=true:=decide_eq_true c4
   have c4b1:decide (1<B.length)=true:=decide_eq_true (by omega)
   clear c4
   replace H:=Option.bind_eq_some_iff.mp H
   obtain⟨⟨cj,ck⟩,d7,H⟩:=H
   replace H:((group_Pick.f k Y Z ar ζ η θ ι κ ν φ B 0 δ ([]:List (S86)) 2 1 (-1)).bind fun a0=>((group_Spread.f k Y Z ar ζ η θ ι κ ν φ B 0 δ ([]:List (S86))).bind fun X=>(if bv=4 then (if cd=0 then (if cj=2 then (if ck=0 then (if a0.1=1 then (if a0.2=0 then (if X.2.2=0 then (if (X.1.length:Int)=1 then (if 0<(X.1.length:Int) then (if ((Qd X.1 0).f2)=1 then ((group_Check.f k Y Z ar ζ η θ ι κ ν φ B δ ([]:List (S86))).bind fun a4=>(some (a4==0))) else (none)) else (none)) else (none)) else (none)) else (none)) else (none)) else (none)) else (none)) else (none)) else (none))))=some r:=H
   have A5:=Aside0.mk d7
   clear d7
   replace H:=Option.bind_eq_some_iff.mp H
   obtain⟨⟨cq,ct⟩,d0,H⟩:=H
   replace H:((group_Spread.f k Y Z ar ζ η θ ι κ ν φ B 0 δ ([]:List (S86))).bind fun X=>(if bv=4 then (if cd=0 then (if cj=2 then (if ck=0 then (if cq=1 then (if ct=0 then (if X.2.2=0 then (if (X.1.length:Int)=1 then (if 0<(X.1.length:Int) then (if ((Qd X.1 0).f2)=1 then ((group_Check.f k Y Z ar ζ η θ ι κ ν φ B δ ([]:List (S86))).bind fun a4=>(some (a4==0))) else (none)) else (none)) else (none)) else (none)) else (none)) else (none)) else (none)) else (none)) else (none)) else (none)))=some r:=H
   have A6:=Aside0.mk d0
   clear d0
   replace H:=Option.bind_eq_some_iff.mp H
   obtain⟨⟨ω,d9,da⟩,bo,H⟩:=H
   replace H:(if bv=4 then (if cd=0 then (if cj=2 then (if ck=0 then (if cq=1 then (if ct=0 then (if da=0 then (if (ω.length:Int)=1 then (if 0<(ω.length:Int) then (if ((Qd ω 0).f2)=1 then ((group_Check.f k Y Z ar ζ η θ ι κ ν φ B δ ([]:List (S86))).bind fun a4=>(some (a4==0))) else (none)) else (none)) else (none)) else (none)) else (none)) else (none)) else (none)) else (none)) else (none)) else (none))=some r:=H
   have A7:=Aside0.mk bo
   clear bo
   by_cases c8:bv=4
   ·rw[if_pos c8] at H
    have c8b0:(bv==4)=true:=beq_iff_eq.mpr c8
    have c8b1:(bv != 4)=false:=bne_eq_false_iff_eq.mpr c8
    clear c8
    by_cases c9:cd=0
    ·rw[if_pos c9] at H
     have c9b0:(cd==0)=true:=beq_iff_eq.mpr c9
     have c9b1:(cd != 0)=false:=bne_eq_false_iff_eq.mpr c9
     clear c9
     by_cases c10:cj=2
     ·rw[if_pos c10] at H
      have c10b0:(cj==2)=true:=beq_iff_eq.mpr c10
      have c10b1:(cj != 2)=false:=bne_eq_false_iff_eq.mpr c10
      clear c10
      by_cases ag:ck=0
      ·rw[if_pos ag] at H
       have c11b0:(ck==0)=true:=beq_iff_eq.mpr ag
       have c11b1:(ck != 0)=false:=bne_eq_false_iff_eq.mpr ag
       clear ag
       by_cases ah:cq=1
       ·rw[if_pos ah] at H
        have c12b0:(cq==1)=true:=beq_iff_eq.mpr ah
        have c12b1:(cq != 1)=false:=bne_eq_false_iff_eq.mpr ah
        clear ah
        by_cases cy:ct=0
        ·rw[if_pos cy] at H
         have c13b0:(ct==0)=true:=beq_iff_eq.mpr cy
         have c13b1:(ct != 0)=false:=bne_eq_false_iff_eq.mpr cy
         clear cy
         by_cases bp:da=0
         ·rw[if_pos bp] at H
          have c14b0:(da==0)=true:=beq_iff_eq.mpr bp
          have c14b1:(da != 0)=false:=bne_eq_false_iff_eq.mpr bp
          clear bp
          by_cases ci:(ω.length:Int)=1
          ·rw[if_pos ci] at H
           have c15b0:((ω.length:Int)==1)=true:=beq_iff_eq.mpr ci
           have c15b1:((ω.length:Int) != 1)=false:=bne_eq_false_iff_eq.mpr ci
           clear ci
           by_cases ψ :0<(ω.length:Int)
           ·rw[if_pos ψ] at H
            have c16b0:decide (0<(ω.length:Int))=true:=decide_eq_true ψ
            have c16b1:decide (0 < ω.length)=true:=decide_eq_true (by omega)
            clear ψ
            by_cases σ:((Qd ω 0).f2)=1
            ·rw[if_pos σ] at H
             have c17b0:(((Qd ω 0).f2)==1)=true:=beq_iff_eq.mpr σ
             have c17b1:(((Qd ω 0).f2) != 1)=false:=bne_eq_false_iff_eq.mpr σ
             clear σ
             replace H:=Option.bind_eq_some_iff.mp H
             obtain⟨a4,az,H⟩:=H
             replace H:(some (a4==0))=some r:=H
             have d2:=Aside0.mk az
             clear az
             obtain rfl:=Option.some.inj H
             go_enter Try.func9,Try.ntmps9
             try go_wp2_with (first|((with_reducible refine Qo (f:=27) rfl ?_);refine Q6 (some 13) rfl rfl Try.func27 kr rfl #[] rfl qM ?_;(with_reducible refine(newellaw17_Plain.calls  Y Z ar ζ η θ ι κ ν φ _ A1.out).mono ?_);rintro e b6 ⟨rfl,hb⟩;refine⟨_,rfl, ?_⟩;replace HB:=sHb hb;(try clear hb);(try clear ac);(try clear hk);(try clear hi))|((with_reducible refine Qf (N:=1) rfl ?_);(try(refine Zr (by rfl) ?_;dsimp only));refine qE 1 #[.int .i64 0,.int .i64 0,.int .i64 0,.int .i64 0,.int .i64 0,.int .i64 0,.int .i64 0,.int .i64 0,.int .i64 0,.int .i64 0] 25 ?_;intro μ hg dj hbox hb;have ε :=Aside0.mk hbox;have h0:=sGe hg;have h4:=sGe hg;replace HB:=sHb hb;clear hb hbox hg;obtain⟨fe,gq,gr,i6,i7,jb,jd,gw,gx,gy,je,jf,jg,jh,ji,jj,jk,gz,h5,h6⟩:=Zn ε.out)|((with_reducible refine Qf (N:=17) rfl ?_);(try(refine Zr (by rfl) ?_;dsimp only));refine Kd.Vr k31 _ 31 ?hg (N:=17) ?hd (xs:=([(⟨(⟨0,0,0,0,(⟨0,0,0⟩:S27)⟩:S29),0,false,false⟩:S31),(⟨(⟨3,0,0,0,(⟨0,0,0⟩:S27)⟩:S29),0,false,false⟩:S31)]:List (S31))) (inner:=[.int .i64 0,.int .i64 0,.int .i64 0,.int .i64 0,.int .i64 0,.int .i64 0,.int .i64 0,.int .i64 0,.bool false,.bool false,.int .i64 3,.int .i64 0,.int .i64 0,.int .i64 0,.int .i64 0,.int .i64 0,.int .i64 0,.int .i64 0,.bool false,.bool false]) (ok:=fun _=>True) (okp:=fun _=>True) ?hr ?hp (fun _ hk=>hk) trivial (Below.refl _ _) (Nat.le_refl _) (by simp) ?_;(case hd=>rfl);(case hg=>rfl);(case hr=>go_simp <;> rfl);(case hp=>exact(Reps.c10 (show Kd.M k31 _ _ _ (⟨(⟨0,0,0,0,(⟨0,0,0⟩:S27)⟩:S29),0,false,false⟩:S31) [.int .i64 0,.int .i64 0,.int .i64 0,.int .i64 0,.int .i64 0,.int .i64 0,.int .i64 0,.int .i64 0,.bool false,.bool false] from(W9 _ _ _ (⟨(⟨0,0,0,0,(⟨0,0,0⟩:S27)⟩:S29),0,false,false⟩:S31))) (Reps.c10 (show Kd.M k31 _ _ _ (⟨(⟨3,0,0,0,(⟨0,0,0⟩:S27)⟩:S29),0,false,false⟩:S31) [.int .i64 3,.int .i64 0,.int .i64 0,.int .i64 0,.int .i64 0,.int .i64 0,.int .i64 0,.int .i64 0,.bool false,.bool false] from(W9 _ _ _ (⟨(⟨3,0,0,0,(⟨0,0,0⟩:S27)⟩:S29),0,false,false⟩:S31))) (Reps.none _ _))));intro fu bf cg hb hg_ hnew_;clear hg_ hnew_;(first|rw[← fa.out] at cg|(simp only[Int.reduceToNat] at cg;rw[← fa.out] at cg));have γ:=Aside0.mk (Kd.Q3 cg (Qi bel));replace ε :=Aside0.mk (Qz (g:= μ) (o:=.cells #[.int .i64 Y,.int .i64 Z,.int .i64 ar,.int .i64 ζ,.int .i64 η,.int .i64 θ,.int .i64 ι,.int .i64 κ,.int .i64 ν,.int .i64 φ] 25 (0,0)) (by(with_reducible repeat first|refine Qm ?_ _|refine Qe ?_|refine Qn ?_ _);refine Ql (cs:=#[.int .i64 Y,.int .i64 Z,.int .i64 ar,.int .i64 ζ,.int .i64 η,.int .i64 θ,.int .i64 ι,.int .i64 κ,.int .i64 ν,.int .i64 0]) ?_ 9 _ rfl;(with_reducible repeat first|refine Qm ?_ _|refine Qe ?_|refine Qn ?_ _);refine Ql (cs:=#[.int .i64 Y,.int .i64 Z,.int .i64 ar,.int .i64 ζ,.int .i64 η,.int .i64 θ,.int .i64 ι,.int .i64 κ,.int .i64 0,.int .i64 0]) ?_ 8 _ rfl;(with_reducible repeat first|refine Qm ?_ _|refine Qe ?_|refine Qn ?_ _);refine Ql (cs:=#[.int .i64 Y,.int .i64 Z,.int .i64 ar,.int .i64 ζ,.int .i64 η,.int .i64 θ,.int .i64 ι,.int .i64 0,.int .i64 0,.int .i64 0]) ?_ 7 _ rfl;(with_reducible repeat first|refine Qm ?_ _|refine Qe ?_|refine Qn ?_ _);refine Ql (cs:=#[.int .i64 Y,.int .i64 Z,.int .i64 ar,.int .i64 ζ,.int .i64 η,.int .i64 θ,.int .i64 0,.int .i64 0,.int .i64 0,.int .i64 0]) ?_ 6 _ rfl;(with_reducible repeat first|refine Qm ?_ _|refine Qe ?_|refine Qn ?_ _);refine Ql (cs:=#[.int .i64 Y,.int .i64 Z,.int .i64 ar,.int .i64 ζ,.int .i64 η,.int .i64 0,.int .i64 0,.int .i64 0,.int .i64 0,.int .i64 0]) ?_ 5 _ rfl;(with_reducible repeat first|refine Qm ?_ _|refine Qe ?_|refine Qn ?_ _);refine Ql (cs:=#[.int .i64 Y,.int .i64 Z,.int .i64 ar,.int .i64 ζ,.int .i64 0,.int .i64 0,.int .i64 0,.int .i64 0,.int .i64 0,.int .i64 0]) ?_ 4 _ rfl;(with_reducible repeat first|refine Qm ?_ _|refine Qe ?_|refine Qn ?_ _);refine Ql (cs:=#[.int .i64 Y,.int .i64 Z,.int .i64 ar,.int .i64 0,.int .i64 0,.int .i64 0,.int .i64 0,.int .i64 0,.int .i64 0,.int .i64 0]) ?_ 3 _ rfl;(with_reducible repeat first|refine Qm ?_ _|refine Qe ?_|refine Qn ?_ _);refine Ql (cs:=#[.int .i64 Y,.int .i64 Z,.int .i64 0,.int .i64 0,.int .i64 0,.int .i64 0,.int .i64 0,.int .i64 0,.int .i64 0,.int .i64 0]) ?_ 2 _ rfl;(with_reducible repeat first|refine Qm ?_ _|refine Qe ?_|refine Qn ?_ _);refine Ql (cs:=#[.int .i64 Y,.int .i64 0,.int .i64 0,.int .i64 0,.int .i64 0,.int .i64 0,.int .i64 0,.int .i64 0,.int .i64 0,.int .i64 0]) ?_ 1 _ rfl;(with_reducible repeat first|refine Qm ?_ _|refine Qe ?_|refine Qn ?_ _);refine Ql (cs:=#[.int .i64 0,.int .i64 0,.int .i64 0,.int .i64 0,.int .i64 0,.int .i64 0,.int .i64 0,.int .i64 0,.int .i64 0,.int .i64 0]) ?_ 0 _ rfl;(with_reducible repeat first|refine Qm ?_ _|refine Qe ?_|refine Qn ?_ _);exact ε.out) hb);replace HB:=sHb hb;clear hb cg)|((with_reducible refine Qf (N:=3) rfl ?_);(try(refine Zr (by rfl) ?_;dsimp only));refine qE 3 #[.int .i64 0,.int .i64 0,.int .i64 0] 36 ?_;intro aa hg bs hbox hb;have O:=Aside0.mk hbox;have i4:=sGe hg;have i5:=sGe hg;have e8:=sNl ε hg;have ec:=sNg ε hg;replace γ:=sRb γ hb;replace ε :=sBk ε hb;replace HB:=sHb hb;clear hb hbox hg;have f7:=ec.out;have fb:=e8.out;obtain⟨co,cp,di,cr,cx,e9⟩:=qD3 O.out)|((with_reducible refine Qf (N:=20) rfl ?_);(try(refine Zr (by rfl) ?_;dsimp only));refine Kd.Vr k36 _ 36 ?hg (N:=20) ?hd (xs:=([(⟨2,1,(-1)⟩:S36)]:List (S36))) (inner:=[.int .i64 2,.int .i64 1,.int .i64 (-1)]) (ok:=fun _=>True) (okp:=fun _=>True) ?hr ?hp (fun _ hk=>hk) trivial (Below.refl _ _) (Nat.le_refl _) (by simp) ?_;(case hd=>rfl);(case hg=>rfl);(case hr=>go_simp <;> rfl);(case hp=>exact(Reps.c3 (show Kd.M k36 _ _ _ (⟨2,1,(-1)⟩:S36) [.int .i64 2,.int .i64 1,.int .i64 (-1)] from(Kt _ _ _ (⟨2,1,(-1)⟩:S36))) (Reps.none _ _)));intro ij d8 db hb hg_ hnew_;clear hg_ hnew_;(first|rw[← fc.out] at db|(simp only[Int.reduceToNat] at db;rw[← fc.out] at db));have τ :=Aside0.mk (Kd.Q3 (Kd.Yn db (g:=aa) (o:=.cells #[.int .i64 2,.int .i64 1,.int .i64 (-1)] 36 (0,0)) (by(with_reducible repeat first|refine Qm ?_ _|refine Qe ?_|refine Qn ?_ _);refine Ql (cs:=#[.int .i64 2,.int .i64 1,.int .i64 0]) ?_ 2 _ rfl;(with_reducible repeat first|refine Qm ?_ _|refine Qe ?_|refine Qn ?_ _);refine Ql (cs:=#[.int .i64 2,.int .i64 0,.int .i64 0]) ?_ 1 _ rfl;(with_reducible repeat first|refine Qm ?_ _|refine Qe ?_|refine Qn ?_ _);refine Ql (cs:=#[.int .i64 0,.int .i64 0,.int .i64 0]) ?_ 0 _ rfl;(with_reducible repeat first|refine Qm ?_ _|refine Qe ?_|refine Qn ?_ _);exact O.out)) (Qi bel));replace γ:=Aside0.mk (Kd.Z7 (by(with_reducible repeat first|apply Kd.Qq|apply Kd.Qp|apply Kd.Qr);exact(Kd.Qw (Kd.Qx (Kd.Qx (Kd.Qx (Kd.Q5 γ.out O.out (by decide)) (fun _ hk=>hk.2) (.int .i64 2)) (fun _ hk=>hk.2) (.int .i64 1)) (fun _ hk=>hk.2) (.int .i64 (-1))) (fun _ h_=>h_.1))) hb);replace ε :=sBk ε hb;replace O:=Aside0.mk (Qz (g:=aa) (o:=.cells #[.int .i64 2,.int .i64 1,.int .i64 (-1)] 36 (0,0)) (by(with_reducible repeat first|refine Qm ?_ _|refine Qe ?_|refine Qn ?_ _);refine Ql (cs:=#[.int .i64 2,.int .i64 1,.int .i64 0]) ?_ 2 _ rfl;(with_reducible repeat first|refine Qm ?_ _|refine Qe ?_|refine Qn ?_ _);refine Ql (cs:=#[.int .i64 2,.int .i64 0,.int .i64 0]) ?_ 1 _ rfl;(with_reducible repeat first|refine Qm ?_ _|refine Qe ?_|refine Qn ?_ _);refine Ql (cs:=#[.int .i64 0,.int .i64 0,.int .i64 0]) ?_ 0 _ rfl;(with_reducible repeat first|refine Qm ?_ _|refine Qe ?_|refine Qn ?_ _);exact O.out) hb);replace HB:=sHb hb;clear hb db;obtain⟨bg,be,gm⟩:=Kd.Q7 τ.out;subst gm)|((with_reducible refine Qf (N:=4) rfl ?_);(try(refine Zr (by rfl) ?_;dsimp only));refine qE 4 #[.slice none 0 0,.slice none 0 0] 50 ?_;intro a2 hg eo hbox hb;have χ :=Aside0.mk hbox;have i9:=sGe hg;have ia:=sGe hg;have ee:=sNl ε hg;have ef:=sNg ε hg;have eg:=sNl O hg;have eh:=sNg O hg;replace γ:=sRb γ hb;replace τ :=sRb τ hb;replace ε :=sBk ε hb;replace O:=sBk O hb;replace HB:=sHb hb;clear hb hbox hg;have fm:=ef.out;have fn:=ee.out;have jn:=eh.out;have jo:=eg.out;obtain⟨bw,bz,ca,cb⟩:=qD2 χ.out))
             have ξ :Aside0 (Kd.R k31 31 ((eo.setCell ⟨a2,0,none⟩ (.slice bg δ.length be)).setCell ⟨a2,1,none⟩ (.slice none 0 0)) w.heap.size (fun _=>True) fu B):=⟨by(with_reducible repeat first|apply Kd.Qq|apply Kd.Qp|apply Kd.Qr);exact Kd.Qw (Kd.Qx (Kd.Qx (Kd.Q5 γ.out χ.out (by decide)) (fun _ hk=>hk.2) _) (fun _ hk=>hk.2) (.slice none 0 0)) (fun _ hk=>trivial)⟩
             have ρ:Aside0 (Kd.R k36 36 ((eo.setCell ⟨a2,0,none⟩ (.slice bg δ.length be)).setCell ⟨a2,1,none⟩ (.slice none 0 0)) w.heap.size (fun k_=>k_≠aa) (.slice bg δ.length be) δ):=⟨by(with_reducible repeat first|apply Kd.Qq|apply Kd.Qp|apply Kd.Qr);exact Kd.Qw (Kd.Qx (Kd.Qx (Kd.Q5 τ.out χ.out (by decide)) (fun _ hk=>hk.2) _) (fun _ hk=>hk.2) (.slice none 0 0)) (fun _ hk=>hk.1.2)⟩
             have a3:Aside0 (((eo.setCell ⟨a2,0,none⟩ (.slice bg δ.length be)).setCell ⟨a2,1,none⟩ (.slice none 0 0)).heap[μ]?=some (.cells #[.int .i64 Y,.int .i64 Z,.int .i64 ar,.int .i64 ζ,.int .i64 η,.int .i64 θ,.int .i64 ι,.int .i64 κ,.int .i64 ν,.int .i64 φ] 25 (0,0))):=⟨bka ε⟩
             have a7:Aside0 (((eo.setCell ⟨a2,0,none⟩ (.slice bg δ.length be)).setCell ⟨a2,1,none⟩ (.slice none 0 0)).heap[aa]?=some (.cells #[.int .i64 2,.int .i64 1,.int .i64 (-1)] 36 (0,0))):=⟨bka O⟩
             have al:Aside0 (((eo.setCell ⟨a2,0,none⟩ (.slice bg δ.length be)).setCell ⟨a2,1,none⟩ (.slice none 0 0)).heap[a2]?=some (.cells #[.slice bg δ.length be,.slice none 0 0] 50 (0,0))):=⟨by refine Ql (cs:=#[.slice bg δ.length be,.slice none 0 0]) ?_ 1 _ rfl;refine Ql (cs:=#[.slice none 0 0,.slice none 0 0]) ?_ 0 _ rfl;exact χ.out⟩
             have b1:Aside0 (Below w.heap.size w ((eo.setCell ⟨a2,0,none⟩ (.slice bg δ.length be)).setCell ⟨a2,1,none⟩ (.slice none 0 0))):=⟨bel⟩
             (try clear γ)
             (try clear τ)
             (try clear ε)
             (try clear O)
             (try clear χ)
             (try clear HB)
             generalize((eo.setCell ⟨a2,0,none⟩ (.slice bg δ.length be)).setCell ⟨a2,1,none⟩ (.slice none 0 0))=jm at ξ ρ a3 a7 al b1 ⊢
             have γ:= ξ
             have τ :=ρ
             have ε :=a3
             have O:=a7
             have χ :=al
             have HB:=b1
             clear ξ ρ a3 a7 al b1
             replace γ:=Aside0.mk (Kd.Qr γ.out)
             replace τ :=Aside0.mk (Kd.Qr τ.out)
             replace ε :=Aside0.mk (Qe ε.out)
             replace O:=Aside0.mk (Qe O.out)
             replace χ :=Aside0.mk (Qe χ.out)
             replace HB:=Aside0.mk (Qg HB.out)
             obtain⟨ik,ev,fo⟩:=Kd.Q7 γ.out
             (first|subst fo|(injection fo with ae av af;have aw:=ae.symm;have ax:=af.symm;clear ae av af;subst aw;subst ax))
             have et:0≤(0:Int):=(by omega)
             have eu:0<(B.length:Int):=of_decide_eq_true (by assumption)
             obtain⟨au,ip,d4,d5,d6,b0,b3,b4,b5,b9,ba,bb⟩:=Kh (Kd.Qu γ.out).2.2 0 et eu
             cases ip
             have ib:(0<B.length)=True:=eq_true (by omega)
             (try rw[show((0:Int)).toNat=0 from rfl] at d4)
             (try rw[show 0 * 10=0 from rfl] at d4)
             (try rw[Addr.add_zero'] at d4)
             (try rw[show((0:Int)).toNat=0 from rfl] at d5)
             (try rw[show 0 * 10=0 from rfl] at d5)
             (try rw[Addr.add_zero'] at d5)
             (try rw[show((0:Int)).toNat=0 from rfl] at d6)
             (try rw[show 0 * 10=0 from rfl] at d6)
             (try rw[Addr.add_zero'] at d6)
             (try rw[show((0:Int)).toNat=0 from rfl] at b0)
             (try rw[show 0 * 10=0 from rfl] at b0)
             (try rw[Addr.add_zero'] at b0)
             (try rw[show((0:Int)).toNat=0 from rfl] at b3)
             (try rw[show 0 * 10=0 from rfl] at b3)
             (try rw[Addr.add_zero'] at b3)
             (try rw[show((0:Int)).toNat=0 from rfl] at b4)
             (try rw[show 0 * 10=0 from rfl] at b4)
             (try rw[Addr.add_zero'] at b4)
             (try rw[show((0:Int)).toNat=0 from rfl] at b5)
             (try rw[show 0 * 10=0 from rfl] at b5)
             (try rw[Addr.add_zero'] at b5)
             (try rw[show((0:Int)).toNat=0 from rfl] at b9)
             (try rw[show 0 * 10=0 from rfl] at b9)
             (try rw[Addr.add_zero'] at b9)
             (try rw[show((0:Int)).toNat=0 from rfl] at ba)
             (try rw[show 0 * 10=0 from rfl] at ba)
             (try rw[Addr.add_zero'] at ba)
             (try rw[show((0:Int)).toNat=0 from rfl] at bb)
             (try rw[show 0 * 10=0 from rfl] at bb)
             (try rw[Addr.add_zero'] at bb)
             replace et:=eq_true et
             replace eu:=eq_true eu
             refine Zi (n:=12) (S:=fun w'=>w'.cell? ⟨μ,0,none⟩=some (.int .i64 Y)∧w'.cell? ⟨μ,1,none⟩=some (.int .i64 Z)∧w'.cell? ⟨μ,2,none⟩=some (.int .i64 ar)∧w'.cell? ⟨μ,3,none⟩=some (.int .i64 ζ)∧w'.cell? ⟨μ,4,none⟩=some (.int .i64 η)∧w'.cell? ⟨μ,5,none⟩=some (.int .i64 θ)∧w'.cell? ⟨μ,6,none⟩=some (.int .i64 ι)∧w'.cell? ⟨μ,7,none⟩=some (.int .i64 κ)∧w'.cell? ⟨μ,8,none⟩=some (.int .i64 ν)∧w'.cell? ⟨μ,9,none⟩=some (.int .i64 φ)∧w'.cell? ⟨aa,0,none⟩=some (.int .i64 2)∧w'.cell? ⟨aa,1,none⟩=some (.int .i64 1)∧w'.cell? ⟨aa,2,none⟩=some (.int .i64 (-1))∧w'.cell? au=some (.int .i64 ((Qb B 0).f0.f0))∧w'.cell? ⟨au.block,au.off+1,none⟩=some (.int .i64 ((Qb B 0).f0.f1))∧w'.cell? ⟨au.block,au.off+2,none⟩=some (.int .i64 ((Qb B 0).f0.f2))∧w'.cell? ⟨au.block,au.off+3,none⟩=some (.int .i64 ((Qb B 0).f0.f3))∧w'.cell? ⟨au.block,au.off+4,none⟩=some (.int .i64 ((Qb B 0).f0.f4.f0))∧w'.cell? ⟨au.block,au.off+5,none⟩=some (.int .i64 ((Qb B 0).f0.f4.f1))∧w'.cell? ⟨au.block,au.off+6,none⟩=some (.int .i64 ((Qb B 0).f0.f4.f2))∧w'.cell? ⟨au.block,au.off+7,none⟩=some (.int .i64 ((Qb B 0).f1))∧w'.cell? ⟨au.block,au.off+8,none⟩=some (.bool ((Qb B 0).f2))∧w'.cell? ⟨au.block,au.off+9,none⟩=some (.bool ((Qb B 0).f3))) (ds:=[]) #[false,false,false,false,false,false,false,false,false,false,false,false] kr rfl rfl ⟨(Qa ε.out 0).trans rfl,(Qa ε.out 1).trans rfl,(Qa ε.out 2).trans rfl,(Qa ε.out 3).trans rfl,(Qa ε.out 4).trans rfl,(Qa ε.out 5).trans rfl,(Qa ε.out 6).trans rfl,(Qa ε.out 7).trans rfl,(Qa ε.out 8).trans rfl,(Qa ε.out 9).trans rfl,(Qa O.out 0).trans rfl,(Qa O.out 1).trans rfl,(Qa O.out 2).trans rfl,d4,d5,d6,b0,b3,b4,b5,b9,ba,bb⟩ (fun hHeld=>?_);refine Q9 newellaw21_awake.N7 newellaw21_awake.Li (fun HT_ HW_=>?_)
             generalize jm.drew=ih at γ τ ε O χ HB d4 d5 d6 b0 b3 b4 b5 b9 ba bb hHeld ⊢
             refine qP 1 (some 24) (bN 12 2) HT_ ?_
             refine qP 2 (some 25) (bN 12 6) HT_ ?_
             refine qP 4 (some 27) (bN 12 22) HT_ ?_
             refine qT 0 (some 23) (bN 12 23) HT_ HW_ hHeld ?_
             refine qT 3 (some 26) (bN 12 31) HT_ HW_ hHeld ?_
             refine qT 5 (some 28) (bN 12 63) HT_ HW_ hHeld ?_
             refine Zb (i:=6) (N:=some 29) (bN 12 127) rfl rfl (Q4 HT_.out kr) (by decide) (fun K hK=>?_)
             refine Za Try.func10 kr rfl #[.agg #[.int .i64 Y,.int .i64 Z,.int .i64 ar,.int .i64 ζ,.int .i64 η,.int .i64 θ,.int .i64 ι,.int .i64 κ,.int .i64 ν,.int .i64 φ],.agg #[.int .i64 ((Qb B 0).f0.f0),.int .i64 ((Qb B 0).f0.f1),.int .i64 ((Qb B 0).f0.f2),.int .i64 ((Qb B 0).f0.f3),.int .i64 ((Qb B 0).f0.f4.f0),.int .i64 ((Qb B 0).f0.f4.f1),.int .i64 ((Qb B 0).f0.f4.f2),.int .i64 ((Qb B 0).f1),.bool ((Qb B 0).f2),.bool ((Qb B 0).f3)],.agg #[.slice none 0 0,.slice none 0 0,.slice none 0 0],.agg #[.int .i64 2,.int .i64 1,.int .i64 (-1)]] (by rfl) rfl rfl qM ?_
             refine(group_Cost.calls k Y Z ar ζ η θ ι κ ν φ ((Qb B 0).f0.f0) ((Qb B 0).f0.f1) ((Qb B 0).f0.f2) ((Qb B 0).f0.f3) ((Qb B 0).f0.f4.f0) ((Qb B 0).f0.f4.f1) ((Qb B 0).f0.f4.f2) ((Qb B 0).f1) ((Qb B 0).f2) ((Qb B 0).f3) _ _ ([]:List Int) _ _ ([]:List Int) _ _ ([]:List Int) 2 1 (-1) bv cd _ ?side1 ?side2 ?side3 ?side4 ?side5 ?side6 A3.out).mono ?_
             (case side1=>exact Kd.Jn _ _)
             (case side2=>exact Nat.le_refl _)
             (case side3=>exact Kd.Jn _ _)
             (case side4=>exact Nat.le_refl _)
             (case side5=>exact Kd.Jn _ _)
             (case side6=>exact Nat.le_refl _)
             rintro e lw ⟨rfl,hb⟩
             have dd:=(hb.cell (World.block_lt_of_cell? _ _ (hHeld.2.2.2.2.2.2.2.2.2.2.2.2.2.1))).trans (hHeld.2.2.2.2.2.2.2.2.2.2.2.2.2.1)
             have df:=(hb.cell (World.block_lt_of_cell? _ _ (hHeld.2.2.2.2.2.2.2.2.2.2.2.2.2.2.1))).trans (hHeld.2.2.2.2.2.2.2.2.2.2.2.2.2.2.1)
             have dh:=(hb.cell (World.block_lt_of_cell? _ _ (hHeld.2.2.2.2.2.2.2.2.2.2.2.2.2.2.2.1))).trans (hHeld.2.2.2.2.2.2.2.2.2.2.2.2.2.2.2.1)
             have dk:=(hb.cell (World.block_lt_of_cell? _ _ (hHeld.2.2.2.2.2.2.2.2.2.2.2.2.2.2.2.2.1))).trans (hHeld.2.2.2.2.2.2.2.2.2.2.2.2.2.2.2.2.1)
             have dl:=(hb.cell (World.block_lt_of_cell? _ _ (hHeld.2.2.2.2.2.2.2.2.2.2.2.2.2.2.2.2.2.1))).trans (hHeld.2.2.2.2.2.2.2.2.2.2.2.2.2.2.2.2.2.1)
             have dm:=(hb.cell (World.block_lt_of_cell? _ _ (hHeld.2.2.2.2.2.2.2.2.2.2.2.2.2.2.2.2.2.2.1))).trans (hHeld.2.2.2.2.2.2.2.2.2.2.2.2.2.2.2.2.2.2.1)
             have dw:=(hb.cell (World.block_lt_of_cell? _ _ (hHeld.2.2.2.2.2.2.2.2.2.2.2.2.2.2.2.2.2.2.2.1))).trans (hHeld.2.2.2.2.2.2.2.2.2.2.2.2.2.2.2.2.2.2.2.1)
             have dx:=(hb.cell (World.block_lt_of_cell? _ _ (hHeld.2.2.2.2.2.2.2.2.2.2.2.2.2.2.2.2.2.2.2.2.1))).trans (hHeld.2.2.2.2.2.2.2.2.2.2.2.2.2.2.2.2.2.2.2.2.1)
             have dy:=(hb.cell (World.block_lt_of_cell? _ _ (hHeld.2.2.2.2.2.2.2.2.2.2.2.2.2.2.2.2.2.2.2.2.2.1))).trans (hHeld.2.2.2.2.2.2.2.2.2.2.2.2.2.2.2.2.2.2.2.2.2.1)
             have dz:=(hb.cell (World.block_lt_of_cell? _ _ (hHeld.2.2.2.2.2.2.2.2.2.2.2.2.2.2.2.2.2.2.2.2.2.2))).trans (hHeld.2.2.2.2.2.2.2.2.2.2.2.2.2.2.2.2.2.2.2.2.2.2)
             refine⟨_,rfl, ?_⟩
             replace γ:=sRb γ hb
             replace τ :=sRb τ hb
             replace ε :=sBk ε hb
             replace O:=sBk O hb
             replace χ :=sBk χ hb
             replace HB:=sHb hb
             (try clear hb)
             (try clear ac)
             (try clear hk)
             (try clear hi)
             refine hK.out _ _ ⟨qc ε,qc ε,qc ε,qc ε,qc ε,qc ε,qc ε,qc ε,qc ε,qc ε,qc O,qc O,qc O,dd,df,dh,dk,dl,dm,dw,dx,dy,dz⟩ (fun hHeld=>?_)
             clear hK K
             refine qN (some 29) ?_
             refine qP 7 (some 22) (bN 12 255) HT_ ?_
             refine qP 8 (some 30) (bN 12 511) HT_ ?_
             refine qP 9 (some 31) (bN 12 1023) HT_ ?_
             refine qP 10 (some 5) (bN 12 2047) HT_ ?_
             refine qP 11 (some 6) (bN 12 4095) HT_ ?_
             refine Zx (Ze HT_.out kr) ?_
             try go_wp2
             replace γ:=Aside0.mk (Kd.Qr γ.out)
             replace τ :=Aside0.mk (Kd.Qr τ.out)
             replace ε :=Aside0.mk (Qe ε.out)
             replace O:=Aside0.mk (Qe O.out)
             replace χ :=Aside0.mk (Qe χ.out)
             replace HB:=Aside0.mk (Qg HB.out)
             have ew:0≤(1:Int):=(by omega)
             have ey:1<(B.length:Int):=of_decide_eq_true (by assumption)
             obtain⟨fp,fz,bc,bd,bh,bj,bk,bl,bm,bn,br,bu⟩:=Kh (Kd.Qu γ.out).2.2 1 ew ey
             obtain rfl:au=fp:=(by injection fz)
             (try simp only[show(1:Int).toNat=1 from rfl,Nat.reduceMul,Nat.reduceEqDiff,Go.Addr.add,↓reduceIte] at bc)
             (try simp only[show(1:Int).toNat=1 from rfl,Nat.reduceMul,Nat.reduceEqDiff,Go.Addr.add,↓reduceIte] at bd)
             (try simp only[show(1:Int).toNat=1 from rfl,Nat.reduceMul,Nat.reduceEqDiff,Go.Addr.add,↓reduceIte] at bh)
             (try simp only[show(1:Int).toNat=1 from rfl,Nat.reduceMul,Nat.reduceEqDiff,Go.Addr.add,↓reduceIte] at bj)
             (try simp only[show(1:Int).toNat=1 from rfl,Nat.reduceMul,Nat.reduceEqDiff,Go.Addr.add,↓reduceIte] at bk)
             (try simp only[show(1:Int).toNat=1 from rfl,Nat.reduceMul,Nat.reduceEqDiff,Go.Addr.add,↓reduceIte] at bl)
             (try simp only[show(1:Int).toNat=1 from rfl,Nat.reduceMul,Nat.reduceEqDiff,Go.Addr.add,↓reduceIte] at bm)
             (try simp only[show(1:Int).toNat=1 from rfl,Nat.reduceMul,Nat.reduceEqDiff,Go.Addr.add,↓reduceIte] at bn)
             (try simp only[show(1:Int).toNat=1 from rfl,Nat.reduceMul,Nat.reduceEqDiff,Go.Addr.add,↓reduceIte] at br)
             (try simp only[show(1:Int).toNat=1 from rfl,Nat.reduceMul,Nat.reduceEqDiff,Go.Addr.add,↓reduceIte] at bu)
             have ic:(1<B.length)=True:=eq_true (by omega)
             (try rw[show((1:Int)).toNat=1 from rfl] at bc)
             (try rw[show 1 * 10=10 from rfl] at bc)
             (try rw[show((1:Int)).toNat=1 from rfl] at bd)
             (try rw[show 1 * 10=10 from rfl] at bd)
             (try rw[show((1:Int)).toNat=1 from rfl] at bh)
             (try rw[show 1 * 10=10 from rfl] at bh)
             (try rw[show((1:Int)).toNat=1 from rfl] at bj)
             (try rw[show 1 * 10=10 from rfl] at bj)
             (try rw[show((1:Int)).toNat=1 from rfl] at bk)
             (try rw[show 1 * 10=10 from rfl] at bk)
             (try rw[show((1:Int)).toNat=1 from rfl] at bl)
             (try rw[show 1 * 10=10 from rfl] at bl)
             (try rw[show((1:Int)).toNat=1 from rfl] at bm)
             (try rw[show 1 * 10=10 from rfl] at bm)
             (try rw[show((1:Int)).toNat=1 from rfl] at bn)
             (try rw[show 1 * 10=10 from rfl] at bn)
             (try rw[show((1:Int)).toNat=1 from rfl] at br)
             (try rw[show 1 * 10=10 from rfl] at br)
             (try rw[show((1:Int)).toNat=1 from rfl] at bu)
             (try rw[show 1 * 10=10 from rfl] at bu)
             replace ew:=eq_true ew
             replace ey:=eq_true ey
             refine Zi (n:=12) (S:=fun w'=>w'.cell? ⟨μ,0,none⟩=some (.int .i64 Y)∧w'.cell? ⟨μ,1,none⟩=some (.int .i64 Z)∧w'.cell? ⟨μ,2,none⟩=some (.int .i64 ar)∧w'.cell? ⟨μ,3,none⟩=some (.int .i64 ζ)∧w'.cell? ⟨μ,4,none⟩=some (.int .i64 η)∧w'.cell? ⟨μ,5,none⟩=some (.int .i64 θ)∧w'.cell? ⟨μ,6,none⟩=some (.int .i64 ι)∧w'.cell? ⟨μ,7,none⟩=some (.int .i64 κ)∧w'.cell? ⟨μ,8,none⟩=some (.int .i64 ν)∧w'.cell? ⟨μ,9,none⟩=some (.int .i64 φ)∧w'.cell? ⟨aa,0,none⟩=some (.int .i64 2)∧w'.cell? ⟨aa,1,none⟩=some (.int .i64 1)∧w'.cell? ⟨aa,2,none⟩=some (.int .i64 (-1))∧w'.cell? ⟨au.block,au.off+10,none⟩=some (.int .i64 ((Qb B 1).f0.f0))∧w'.cell? ⟨au.block,au.off+10+1,none⟩=some (.int .i64 ((Qb B 1).f0.f1))∧w'.cell? ⟨au.block,au.off+10+2,none⟩=some (.int .i64 ((Qb B 1).f0.f2))∧w'.cell? ⟨au.block,au.off+10+3,none⟩=some (.int .i64 ((Qb B 1).f0.f3))∧w'.cell? ⟨au.block,au.off+10+4,none⟩=some (.int .i64 ((Qb B 1).f0.f4.f0))∧w'.cell? ⟨au.block,au.off+10+5,none⟩=some (.int .i64 ((Qb B 1).f0.f4.f1))∧w'.cell? ⟨au.block,au.off+10+6,none⟩=some (.int .i64 ((Qb B 1).f0.f4.f2))∧w'.cell? ⟨au.block,au.off+10+7,none⟩=some (.int .i64 ((Qb B 1).f1))∧w'.cell? ⟨au.block,au.off+10+8,none⟩=some (.bool ((Qb B 1).f2))∧w'.cell? ⟨au.block,au.off+10+9,none⟩=some (.bool ((Qb B 1).f3))) (ds:=[]) #[false,false,false,false,false,false,false,false,false,false,false,false] kr rfl rfl ⟨(Qa ε.out 0).trans rfl,(Qa ε.out 1).trans rfl,(Qa ε.out 2).trans rfl,(Qa ε.out 3).trans rfl,(Qa ε.out 4).trans rfl,(Qa ε.out 5).trans rfl,(Qa ε.out 6).trans rfl,(Qa ε.out 7).trans rfl,(Qa ε.out 8).trans rfl,(Qa ε.out 9).trans rfl,(Qa O.out 0).trans rfl,(Qa O.out 1).trans rfl,(Qa O.out 2).trans rfl,bc,bd,bh,bj,bk,bl,bm,bn,br,bu⟩ (fun hHeld=>?_);refine Q9 newellaw21_awake.Dc newellaw21_awake.Nr (fun HT_ HW_=>?_)
             generalize lw.drew=nn at γ τ ε O χ HB bc bd bh bj bk bl bm bn br bu hHeld ⊢
             refine qP 1 (some 34) (bN 12 2) HT_ ?_
             refine qP 2 (some 35) (bN 12 6) HT_ ?_
             refine qP 4 (some 37) (bN 12 22) HT_ ?_
             refine qT 0 (some 33) (bN 12 23) HT_ HW_ hHeld ?_
             refine qT 3 (some 36) (bN 12 31) HT_ HW_ hHeld ?_
             refine qT 5 (some 38) (bN 12 63) HT_ HW_ hHeld ?_
             refine Zb (i:=6) (N:=some 39) (bN 12 127) rfl rfl (Q4 HT_.out kr) (by decide) (fun K hK=>?_)
             refine Za Try.func10 kr rfl #[.agg #[.int .i64 Y,.int .i64 Z,.int .i64 ar,.int .i64 ζ,.int .i64 η,.int .i64 θ,.int .i64 ι,.int .i64 κ,.int .i64 ν,.int .i64 φ],.agg #[.int .i64 ((Qb B 1).f0.f0),.int .i64 ((Qb B 1).f0.f1),.int .i64 ((Qb B 1).f0.f2),.int .i64 ((Qb B 1).f0.f3),.int .i64 ((Qb B 1).f0.f4.f0),.int .i64 ((Qb B 1).f0.f4.f1),.int .i64 ((Qb B 1).f0.f4.f2),.int .i64 ((Qb B 1).f1),.bool ((Qb B 1).f2),.bool ((Qb B 1).f3)],.agg #[.slice none 0 0,.slice none 0 0,.slice none 0 0],.agg #[.int .i64 2,.int .i64 1,.int .i64 (-1)]] (by rfl) rfl rfl qM ?_
             refine(group_Cost.calls k Y Z ar ζ η θ ι κ ν φ ((Qb B 1).f0.f0) ((Qb B 1).f0.f1) ((Qb B 1).f0.f2) ((Qb B 1).f0.f3) ((Qb B 1).f0.f4.f0) ((Qb B 1).f0.f4.f1) ((Qb B 1).f0.f4.f2) ((Qb B 1).f1) ((Qb B 1).f2) ((Qb B 1).f3) _ _ ([]:List Int) _ _ ([]:List Int) _ _ ([]:List Int) 2 1 (-1) cj ck _ ?side1 ?side2 ?side3 ?side4 ?side5 ?side6 A5.out).mono ?_
             (case side1=>exact Kd.Jn _ _)
             (case side2=>exact Nat.le_refl _)
             (case side3=>exact Kd.Jn _ _)
             (case side4=>exact Nat.le_refl _)
             (case side5=>exact Kd.Jn _ _)
             (case side6=>exact Nat.le_refl _)
             rintro e np ⟨rfl,hb⟩
             have dd:=(hb.cell (World.block_lt_of_cell? _ _ (hHeld.2.2.2.2.2.2.2.2.2.2.2.2.2.1))).trans (hHeld.2.2.2.2.2.2.2.2.2.2.2.2.2.1)
             have df:=(hb.cell (World.block_lt_of_cell? _ _ (hHeld.2.2.2.2.2.2.2.2.2.2.2.2.2.2.1))).trans (hHeld.2.2.2.2.2.2.2.2.2.2.2.2.2.2.1)
             have dh:=(hb.cell (World.block_lt_of_cell? _ _ (hHeld.2.2.2.2.2.2.2.2.2.2.2.2.2.2.2.1))).trans (hHeld.2.2.2.2.2.2.2.2.2.2.2.2.2.2.2.1)
             have dk:=(hb.cell (World.block_lt_of_cell? _ _ (hHeld.2.2.2.2.2.2.2.2.2.2.2.2.2.2.2.2.1))).trans (hHeld.2.2.2.2.2.2.2.2.2.2.2.2.2.2.2.2.1)
             have dl:=(hb.cell (World.block_lt_of_cell? _ _ (hHeld.2.2.2.2.2.2.2.2.2.2.2.2.2.2.2.2.2.1))).trans (hHeld.2.2.2.2.2.2.2.2.2.2.2.2.2.2.2.2.2.1)
             have dm:=(hb.cell (World.block_lt_of_cell? _ _ (hHeld.2.2.2.2.2.2.2.2.2.2.2.2.2.2.2.2.2.2.1))).trans (hHeld.2.2.2.2.2.2.2.2.2.2.2.2.2.2.2.2.2.2.1)
             have dw:=(hb.cell (World.block_lt_of_cell? _ _ (hHeld.2.2.2.2.2.2.2.2.2.2.2.2.2.2.2.2.2.2.2.1))).trans (hHeld.2.2.2.2.2.2.2.2.2.2.2.2.2.2.2.2.2.2.2.1)
             have dx:=(hb.cell (World.block_lt_of_cell? _ _ (hHeld.2.2.2.2.2.2.2.2.2.2.2.2.2.2.2.2.2.2.2.2.1))).trans (hHeld.2.2.2.2.2.2.2.2.2.2.2.2.2.2.2.2.2.2.2.2.1)
             have dy:=(hb.cell (World.block_lt_of_cell? _ _ (hHeld.2.2.2.2.2.2.2.2.2.2.2.2.2.2.2.2.2.2.2.2.2.1))).trans (hHeld.2.2.2.2.2.2.2.2.2.2.2.2.2.2.2.2.2.2.2.2.2.1)
             have dz:=(hb.cell (World.block_lt_of_cell? _ _ (hHeld.2.2.2.2.2.2.2.2.2.2.2.2.2.2.2.2.2.2.2.2.2.2))).trans (hHeld.2.2.2.2.2.2.2.2.2.2.2.2.2.2.2.2.2.2.2.2.2.2)
             refine⟨_,rfl, ?_⟩
             replace γ:=sRb γ hb
             replace τ :=sRb τ hb
             replace ε :=sBk ε hb
             replace O:=sBk O hb
             replace χ :=sBk χ hb
             replace HB:=sHb hb
             (try clear hb)
             (try clear ac)
             (try clear hk)
             (try clear hi)
             refine hK.out _ _ ⟨qc ε,qc ε,qc ε,qc ε,qc ε,qc ε,qc ε,qc ε,qc ε,qc ε,qc O,qc O,qc O,dd,df,dh,dk,dl,dm,dw,dx,dy,dz⟩ (fun hHeld=>?_)
             clear hK K
             refine qN (some 39) ?_
             refine qP 7 (some 32) (bN 12 255) HT_ ?_
             refine qP 8 (some 40) (bN 12 511) HT_ ?_
             refine qP 9 (some 41) (bN 12 1023) HT_ ?_
             refine qP 10 (some 7) (bN 12 2047) HT_ ?_
             refine qP 11 (some 8) (bN 12 4095) HT_ ?_
             refine Zx (Ze HT_.out kr) ?_
             obtain⟨ff,fg,fj,fk,fl,fq,fr,ft,fx,gb,ge,gf,gg,gh,gl,gn,gs,gt,gu,gv⟩:=Zn ε.out
             obtain⟨ea,eb,ep,er⟩:=qD2 χ.out
             obtain⟨dn,dq,dr,dt,du,dv⟩:=qD3 O.out
             try go_wp2_with (first|((with_reducible refine Qo (f:=14) rfl ?_);refine Q6 (some 47) rfl rfl Try.func14 kr rfl #[.agg #[.int .i64 Y,.int .i64 Z,.int .i64 ar,.int .i64 ζ,.int .i64 η,.int .i64 θ,.int .i64 ι,.int .i64 κ,.int .i64 ν,.int .i64 φ],.slice (some au) B.length ev,.int .i64 0,.agg #[.slice bg δ.length be,.slice none 0 0],.agg #[.int .i64 2,.int .i64 1,.int .i64 (-1)]] rfl qM ?_;(refine(group_Pick.calls k Y Z ar ζ η θ ι κ ν φ _ _ B 0 _ _ δ _ _ ([]:List (S86)) 2 1 (-1) cq ct _ ?side1 ?side2 ?side3 ?side4 ?side5 ?side6 A6.out).mono ?_);(case side1=>repeat(first|exact(Kd.Qu γ.out).2.2|(with_reducible refine Kd.J3 ?_ _)|(with_reducible refine Kd.J2 ?_ _)|(with_reducible refine Kd.K6 ?_)));(case side2=>exact(Kd.Qu γ.out).2.1);(case side3=>repeat(first|exact(Kd.Qu τ.out).2.2|(with_reducible refine Kd.J3 ?_ _)|(with_reducible refine Kd.J2 ?_ _)|(with_reducible refine Kd.K6 ?_)));(case side4=>exact(Kd.Qu τ.out).2.1);(case side5=>exact Kd.Jn _ _);(case side6=>exact Nat.le_refl _);rintro e ce ⟨rfl,hb⟩;refine⟨_,rfl, ?_⟩;replace γ:=sRb γ hb;replace τ :=sRb τ hb;replace ε :=sBk ε hb;replace O:=sBk O hb;replace χ :=sBk χ hb;replace HB:=sHb hb;(try clear hb);(try clear ac);(try clear hk);(try clear hi);obtain⟨e0,dc,ju,jv,jw,jx,kc,h7,hh,hj,e3,de,kd,ke,kf,kg,kj,hl,ho,hu⟩:=Zn ε.out;obtain⟨dp,fv,fw,ga⟩:=qD2 χ.out)|((with_reducible refine Qo (f:=21) rfl ?_);refine Q6 (some 54) rfl rfl Try.func21 kr rfl #[.agg #[.int .i64 Y,.int .i64 Z,.int .i64 ar,.int .i64 ζ,.int .i64 η,.int .i64 θ,.int .i64 ι,.int .i64 κ,.int .i64 ν,.int .i64 φ],.slice (some au) B.length ev,.int .i64 0,.agg #[.slice bg δ.length be,.slice none 0 0]] rfl qM ?_;(refine(group_Spread.calls k Y Z ar ζ η θ ι κ ν φ _ _ B 0 _ _ δ _ _ ([]:List (S86)) ω d9 da _ ?side1 ?side2 ?side3 ?side4 ?side5 ?side6 A7.out).mono ?_);(case side1=>repeat(first|exact(Kd.Qu γ.out).2.2|(with_reducible refine Kd.J3 ?_ _)|(with_reducible refine Kd.J2 ?_ _)|(with_reducible refine Kd.K6 ?_)));(case side2=>exact(Kd.Qu γ.out).2.1);(case side3=>repeat(first|exact(Kd.Qu τ.out).2.2|(with_reducible refine Kd.J3 ?_ _)|(with_reducible refine Kd.J2 ?_ _)|(with_reducible refine Kd.K6 ?_)));(case side4=>exact(Kd.Qu τ.out).2.1);(case side5=>exact Kd.Jn _ _);(case side6=>exact Nat.le_refl _);rintro e io ⟨il,im,rfl,ay,b7,hb⟩;refine⟨_,rfl, ?_⟩;have am:=Aside0.mk (Kd.Q3 (Kd.Yn (Kd.Zz ay (Kd.X1 (kra τ))) (g:=aa) (o:=.cells #[.int .i64 2,.int .i64 1,.int .i64 (-1)] 36 (0,0)) (bka O)) (Qi bel));have ch:=Aside0.mk (Kd.Q3 b7 (Qi bel));replace γ:=sRb γ hb;replace τ :=Aside0.mk (Kd.Nw (kra τ) (Kd.Zy ay) hb);replace ε :=sBk ε hb;replace O:=sBk O hb;replace χ :=sBk χ hb;replace HB:=sHb hb;(try clear hb);(try clear ac);(try clear hk);(try clear hi);(try clear ay);(try clear b7))|((with_reducible refine Qf (N:=11) rfl ?_);(try(refine Zr (by rfl) ?_;dsimp only));refine qE 11 #[.slice none 0 0,.slice none 0 0] 50 ?_;intro ao hg jp hbox hb;have ab:=Aside0.mk hbox;have ie:=sGe hg;have ig:=sGe hg;have ei:=sNl ε hg;have ej:=sNg ε hg;have ek:=sNl O hg;have el:=sNg O hg;have em:=sNl χ hg;have en:=sNg χ hg;replace γ:=sRb γ hb;replace τ :=sRb τ hb;replace am:=sRb am hb;replace ch:=sRb ch hb;replace ε :=sBk ε hb;replace O:=sBk O hb;replace χ :=sBk χ hb;replace HB:=sHb hb;clear hb hbox hg;obtain⟨b2,ap,n1⟩:=Kd.Q7 am.out;subst n1;have gi:=ej.out;have gj:=ei.out;have fh:=el.out;have fi:=ek.out;have js:=en.out;have jt:=em.out;obtain⟨cu,cv,cw,cz⟩:=qD2 ab.out;obtain⟨e6,e7,gk⟩:=Kd.Q7 ch.out;subst gk;have ez:0≤(0:Int):=(by omega);have f8:0<(ω.length:Int):=of_decide_eq_true (by assumption);obtain⟨a9,gp,ai,aj,ak⟩:=X3 (Kd.Qu am.out).2.2 0 ez f8;cases gp;have ii:(0 < ω.length)=True:=eq_true (by omega);(try rw[show((0:Int)).toNat=0 from rfl] at ai);(try rw[show 0 * 3=0 from rfl] at ai);(try rw[Addr.add_zero'] at ai);(try rw[show((0:Int)).toNat=0 from rfl] at aj);(try rw[show 0 * 3=0 from rfl] at aj);(try rw[Addr.add_zero'] at aj);(try rw[show((0:Int)).toNat=0 from rfl] at ak);(try rw[show 0 * 3=0 from rfl] at ak);(try rw[Addr.add_zero'] at ak);have a5:a9.block≠ao:=Kd.Vz (Kd.Z6 am.out ab.out (by decide));have a6:a9.block≠ao:=Kd.Vz (Kd.Z6 am.out ab.out (by decide));replace ai:=(cell_far (p:=⟨ao,0,none⟩) (by first|(rw[add_block];exact a5)|(show(Addr.add _ _).block≠_;rw[add_block];exact a5)|exact a5) (.slice (some a9) ω.length ap)).trans ai;replace aj:=(cell_far (p:=⟨ao,0,none⟩) (by first|(rw[add_block];exact a5)|(show(Addr.add _ _).block≠_;rw[add_block];exact a5)|exact a5) (.slice (some a9) ω.length ap)).trans aj;replace ak:=(cell_far (p:=⟨ao,0,none⟩) (by first|(rw[add_block];exact a5)|(show(Addr.add _ _).block≠_;rw[add_block];exact a5)|exact a5) (.slice (some a9) ω.length ap)).trans ak;replace ai:=(cell_far (p:=⟨ao,1,none⟩) (by first|(rw[add_block];exact a6)|(show(Addr.add _ _).block≠_;rw[add_block];exact a6)|exact a6) (.slice e6 d9.length e7)).trans ai;replace aj:=(cell_far (p:=⟨ao,1,none⟩) (by first|(rw[add_block];exact a6)|(show(Addr.add _ _).block≠_;rw[add_block];exact a6)|exact a6) (.slice e6 d9.length e7)).trans aj;replace ak:=(cell_far (p:=⟨ao,1,none⟩) (by first|(rw[add_block];exact a6)|(show(Addr.add _ _).block≠_;rw[add_block];exact a6)|exact a6) (.slice e6 d9.length e7)).trans ak;clear a5;clear a6;replace ez:=eq_true ez;replace f8:=eq_true f8;obtain⟨ks,kt,ku,kv,kw,kx,ky,hx,hy,i0,kz,l2,l3,l4,l5,l6,l7,i1,i2,i3⟩:=Zn ε.out;obtain⟨h8,h9,ha,he⟩:=qD2 χ.out)|(go_at_call 17;(refine(group_Check.calls k Y Z ar ζ η θ ι κ ν φ _ _ B _ _ δ _ _ ([]:List (S86)) a4 _ ?side1 ?side2 ?side3 ?side4 ?side5 ?side6 d2.out).mono ?_);(case side1=>refine(Kd.Qu (e:=31) (base:=w.heap.size) (ok:=fun k_=>True) (n:=B.length) (c:=ev) ?_).2.2;exact(by(with_reducible repeat first|apply Kd.Qq|apply Kd.Qp|apply Kd.Qr);exact(Kd.Qw (Kd.Qx (Kd.Qx (Kd.Q5 γ.out ab.out (by decide)) (fun _ hk=>hk.2) (.slice (some a9) ω.length ap)) (fun _ hk=>hk.2) _) (fun _ h_=>h_.1))));(case side2=>exact(Kd.Qu γ.out).2.1);(case side3=>refine(Kd.Qu (e:=36) (base:=w.heap.size) (ok:=fun k_=>(k_≠aa∧some k_≠(.slice (some a9) ω.length ap:Value).ownBlock)) (n:= δ.length) (c:=be) ?_).2.2;exact(by(with_reducible repeat first|apply Kd.Qq|apply Kd.Qp|apply Kd.Qr);exact(Kd.Qw (Kd.Qx (Kd.Qx (Kd.Q5 τ.out ab.out (by decide)) (fun _ hk=>hk.2) (.slice (some a9) ω.length ap)) (fun _ hk=>hk.2) _) (fun _ h_=>h_.1))));(case side4=>exact(Kd.Qu τ.out).2.1);(case side5=>exact Kd.Jn _ _);(case side6=>exact Nat.le_refl _);rintro e d3 ⟨rfl,hb⟩;have ξ :=Aside0.mk (Kd.Z7 (by(with_reducible repeat first|apply Kd.Qq|apply Kd.Qp|apply Kd.Qr);exact(Kd.Qw (Kd.Qx (Kd.Qx (Kd.Q5 γ.out ab.out (by decide)) (fun _ hk=>hk.2) (.slice (some a9) ω.length ap)) (fun _ hk=>hk.2) _) (fun _ h_=>h_.1))) hb);have ρ:=Aside0.mk (Kd.Z7 (by(with_reducible repeat first|apply Kd.Qq|apply Kd.Qp|apply Kd.Qr);exact(Kd.Qw (Kd.Qx (Kd.Qx (Kd.Q5 τ.out ab.out (by decide)) (fun _ hk=>hk.2) (.slice (some a9) ω.length ap)) (fun _ hk=>hk.2) _) (fun _ h_=>h_.1))) hb);have a3:=Aside0.mk (Kd.Z7 (by(with_reducible repeat first|apply Kd.Qq|apply Kd.Qp|apply Kd.Qr);exact(Kd.Qw (Kd.Qx (Kd.Qx (Kd.Q5 am.out ab.out (by decide)) (fun _ hk=>hk.2) (.slice (some a9) ω.length ap)) (fun _ hk=>hk.2) _) (fun _ h_=>h_.1))) hb);have a7:=Aside0.mk (Kd.Z7 (by(with_reducible repeat first|apply Kd.Qq|apply Kd.Qp|apply Kd.Qr);exact(Kd.Qw (Kd.Qx (Kd.Qx (Kd.Q5 ch.out ab.out (by decide)) (fun _ hk=>hk.2) (.slice (some a9) ω.length ap)) (fun _ hk=>hk.2) _) (fun _ h_=>h_.1))) hb);have al:=Aside0.mk (Qz (g:= μ) (o:=.cells #[.int .i64 Y,.int .i64 Z,.int .i64 ar,.int .i64 ζ,.int .i64 η,.int .i64 θ,.int .i64 ι,.int .i64 κ,.int .i64 ν,.int .i64 φ] 25 (0,0)) (bka ε) hb);have b1:=Aside0.mk (Qz (g:=aa) (o:=.cells #[.int .i64 2,.int .i64 1,.int .i64 (-1)] 36 (0,0)) (bka O) hb);have b8:=Aside0.mk (Qz (g:=a2) (o:=.cells #[.slice bg δ.length be,.slice none 0 0] 50 (0,0)) (bka χ) hb);have bi:=Aside0.mk (Qz (g:=ao) (o:=.cells #[.slice (some a9) ω.length ap,.slice e6 d9.length e7] 50 (0,0)) (by(with_reducible repeat first|refine Qm ?_ _|refine Qe ?_|refine Qn ?_ _);refine Ql (cs:=#[.slice (some a9) ω.length ap,.slice none 0 0]) ?_ 1 _ rfl;(with_reducible repeat first|refine Qm ?_ _|refine Qe ?_|refine Qn ?_ _);refine Ql (cs:=#[.slice none 0 0,.slice none 0 0]) ?_ 0 _ rfl;(with_reducible repeat first|refine Qm ?_ _|refine Qe ?_|refine Qn ?_ _);exact ab.out) hb);have cf:=Aside0.mk (Q0 bel hb);clear γ;clear τ;clear am;clear ch;clear ε;clear O;clear χ;clear ab;clear HB;have γ:= ξ;have τ :=ρ;have am:=a3;have ch:=a7;have ε :=al;have O:=b1;have χ :=b8;have ab:=bi;have HB:=cf;clear ξ ρ a3 a7 al b1 b8 bi cf;(try clear hb);(try clear ac);(try clear hk);(try clear hi)))
             go_ret
             exact⟨rfl,HB.out⟩
            ·rw[if_neg σ] at H
             exact absurd H (by simp)
           ·rw[if_neg ψ] at H
            exact absurd H (by simp)
          ·rw[if_neg ci] at H
           exact absurd H (by simp)
         ·rw[if_neg bp] at H
          exact absurd H (by simp)
        ·rw[if_neg cy] at H
         exact absurd H (by simp)
       ·rw[if_neg ah] at H
        exact absurd H (by simp)
      ·rw[if_neg ag] at H
       exact absurd H (by simp)
     ·rw[if_neg c10] at H
      exact absurd H (by simp)
    ·rw[if_neg c9] at H
     exact absurd H (by simp)
   ·rw[if_neg c8] at H
    exact absurd H (by simp)
  ·rw[if_neg c4] at H
   exact absurd H (by simp)
 ·rw[if_neg c2] at H
  exact absurd H (by simp)
end Go.Proofs.Ytmfffemidlhcpaa.C
namespace Go.Proofs.Ytmfffemidlhcpaa.GrpPure
open Go.RowKit Go.Proofs.YtmfffemidlhcpaaW.PrintWords Go.Proofs.YtmfffemidlhcpaaW.PrintLast Go.Proofs.YtmfffemidlhcpaaW.PrintMore Go.Proofs.Ytmfffemidlhcpaa.C Go.Proofs.Ytmfffemidlhcpaa.DoorPure
set_option linter.unusedVariables false
set_option linter.unusedSimpArgs false
open Go.Proofs.Ytmfffemidlhcpaa.Call (i64 okB Le)
theorem Dg {F C:Int} (hF:2≤F∧F≤64) (hC:1≤C∧C≤8):okB F C [] []=true:=by
  rw[Call.Yh]
  exact⟨hF,hC,⟨by simp,by simp⟩,⟨by simp,by simp⟩⟩
theorem Ld {F C:Int} (hF:2≤F∧F≤64) (hC:1≤C∧C≤8) (B J Y:Int) (hd:i64 J) (k:Nat) (hk:0<k):group_hall.f k F C B J Y=some (Xi F C B J Y):=by
  obtain⟨k,rfl⟩:∃ m,k=m+1:=⟨k-1,by omega⟩
  unfold group_hall.f
  rw[Call.Ep k F C [] [] B J Y (by simp) (by simp) (by unfold Call.i64;omega) hd]
  unfold Le
  rw[if_pos (Dg hF hC)]
  cases Xi F C B J Y <;> rfl
theorem Lc {F C:Int} (hF:2≤F∧F≤64) (hC:1≤C∧C≤8) {B J Y:Int} (h:Xi F C B J Y=true):0≤B∧B<F:=by
  have:=(Call.Jb hF hC).1 h
  omega
def Vk (F:Int) (a b c:List Int):Bool:=ColPure.Xw F (-1) a&&(ColPure.Xw F (-1) b&&ColPure.Xw F (-1) c)
def M4 (g0:Int) (p:Prop) [Decidable p] (a b c:List Int) (B J Y:Int):Bool:=decide p&&(Vk g0 a b c&&Xi g0 8 B J Y)
theorem E3 {g0 g1 g2 g3 g4 g5 g6 g7 g8 g9 c0 c1 c2 c3 c4 c5 c6 l7:Int} (B J Y:Int) (hd:i64 J) (l8 l9:Bool) (a b c:List Int) (hv:ColPure.Few a b c) (f:Nat) (hf:1500≤f):
    group_Cost.f f g0 g1 g2 g3 g4 g5 g6 g7 g8 g9 c0 c1 c2 c3 c4 c5 c6 l7 l8 l9 a b c B J Y=some (if M4 g0 (Gc g0 g1 g2 g3 g4 g5 g6 g7 g8 g9 c0 c1 c2 c3 c4 c5 c6 l7) a b c B J Y=true then (Np g0 g1 g2 g3 g6 g8 g9 c0 c1 c2 c3 c4 c5 c6 l7 (U9 a b c) B J,0) else (0,210)):=by
  unfold group_Cost.f
  rw[W5 _ _ _ _ _ _ _ _ _ _ _ _ _ _ _ _ _ _ _ _ f (by omega),ColPure.X9 hv g0 0 0 false false f hf]
  simp only[Option.bind_some]
  by_cases h1:Gc g0 g1 g2 g3 g4 g5 g6 g7 g8 g9 c0 c1 c2 c3 c4 c5 c6 l7
  · have hF:2≤g0∧g0≤64:=h1.1.1.2.1
    have em:ColPure.Vg g0 0 0 a b c=Vk g0 a b c:=by
      unfold ColPure.Vg Vk
      rw[decide_eq_true (by omega),Bool.and_true,Bool.and_assoc]
    rw[decide_eq_true h1,if_pos rfl,em,Ld hF (by omega) B J Y hd f (by omega)]
    unfold M4
    rw[decide_eq_true h1,Bool.true_and]
    simp only[Option.bind_some]
    cases O:Vk g0 a b c
    · rfl
    · cases Z:Xi g0 8 B J Y
      · rfl
      · rw[Lf J Y l8 l9 a b c f (by omega) h1 (Lc hF (by omega) Z)]
        rfl
  · unfold M4
    rw[decide_eq_false h1,if_neg (by decide),Bool.false_and,if_neg (by decide)]
theorem Nu:newellaw21_awake.f 60=some true:=by kernel_rfl
theorem G2 (k:Nat) (hk:60≤k):newellaw21_awake.f k=some true:=Mo (g:=newellaw21_awake.f) newellaw21_awake.mono hk Nu
end Go.Proofs.Ytmfffemidlhcpaa.GrpPure
namespace Go.Proofs.Ytmfffemidlhcpaa.GrpPure
open Go.RowKit Go.Proofs.YtmfffemidlhcpaaW.PrintWords Go.Proofs.YtmfffemidlhcpaaW.PrintLast Go.Proofs.YtmfffemidlhcpaaW.PrintMore Go.Proofs.Ytmfffemidlhcpaa.C Go.Proofs.Ytmfffemidlhcpaa.DoorPure
set_option linter.unusedVariables false
set_option linter.unusedSimpArgs false
open Go.Proofs.Ytmfffemidlhcpaa.Call (i64 okB Xx Xu Xv Hall Ins)
def Gb (g0 g1 g2 g3 g4 g5 g6 g7 g8 g9:Int) (y:S31):Prop:=Gc g0 g1 g2 g3 g4 g5 g6 g7 g8 g9 y.f0.f0 y.f0.f1 y.f0.f2 y.f0.f3 y.f0.f4.f0 y.f0.f4.f1 y.f0.f4.f2 y.f1
instance (g0 g1 g2 g3 g4 g5 g6 g7 g8 g9:Int) (y:S31):Decidable (Gb g0 g1 g2 g3 g4 g5 g6 g7 g8 g9 y):=by unfold Gb;exact inferInstance
def U1 (g0 g1 g2 g3 g4 g5 g6 g7 g8 g9:Int) (y:S31):Bool:=decide (Gb g0 g1 g2 g3 g4 g5 g6 g7 g8 g9 y)
def Jt (g0 g1 g2 g3 g4 g5 g6 g7 g8 g9:Int) (L:List S31) (H:List Hall) (I:List Ins):Int:=
  if 1≤L.length∧L.length≤8 then (if L.all (U1 g0 g1 g2 g3 g4 g5 g6 g7 g8 g9)=true then (if okB g0 L.length H I=true then 0 else 190) else 210) else 210
theorem rdL (l:List S31) (i:Nat) (h:i<l.length):Qb l (i:Int)=l[i]:=by
  unfold Qb
  rw[Int.toNat_natCast,List.getD_eq_getElem?_getD,List.getElem?_eq_getElem h]
  rfl
theorem up1 {i:Nat} (h:i≤1000000000):wrap64 ((i:Int)+1)=((i+1:Nat):Int):=by unfold wrap64;omega
theorem W6 {n:Nat} (h:n≤1000000000):i64 (n:Int):=by unfold Call.i64;omega
theorem Wp (g0 g1 g2 g3 g4 g5 g6 g7 g8 g9:Int) (L:List S31) (H:List Hall) (I:List Ins) (hL:L.length≤100) (hH:H.length<900000000) (hI:I.length<900000000) (j:Nat):∀ (f i:Nat),i+j=L.length→j+20<f →
    group_Check.l0 f L L (L.length:Int) (i:Int) g0 g1 g2 g3 g4 g5 g6 g7 g8 g9 H I=some (if (L.drop i).all (U1 g0 g1 g2 g3 g4 g5 g6 g7 g8 g9)=true then (if okB g0 L.length H I=true then 0 else 190) else 210):=by
  induction j with
  |zero=>
    intro f i h hf
    obtain⟨f,rfl⟩:∃ m,f=m+2:=⟨f-2,by omega⟩
    simp only[group_Check.l0]
    rw[if_neg (by omega),List.drop_of_length_le (by omega)]
    unfold group_house.f
    simp only[Option.bind_some]
    rw[Call.X9 f g0 L.length H I hH hI (W6 (by omega))]
    simp
  |succ j ih=>
    intro f i h hf
    obtain⟨f,rfl⟩:∃ m,f=m+1:=⟨f-1,by omega⟩
    have hlt:i<L.length:=by omega
    simp only[group_Check.l0]
    rw[if_pos (by omega),if_pos (by omega),if_pos (by omega),rdL L i hlt,W5 _ _ _ _ _ _ _ _ _ _ _ _ _ _ _ _ _ _ _ _ f (by omega),up1 (by omega),ih f (i+1) (by omega) (by omega),List.drop_eq_getElem_cons hlt,List.all_cons]
    simp only[Option.bind_some]
    generalize hy:L[i]=y
    by_cases hc:Gb g0 g1 g2 g3 g4 g5 g6 g7 g8 g9 y
    · have hb:U1 g0 g1 g2 g3 g4 g5 g6 g7 g8 g9 y=true:=decide_eq_true hc
      rw[hb,Bool.true_and]
      rw[show decide (Gc g0 g1 g2 g3 g4 g5 g6 g7 g8 g9 y.f0.f0 y.f0.f1 y.f0.f2 y.f0.f3 y.f0.f4.f0 y.f0.f4.f1 y.f0.f4.f2 y.f1)=true from hb,if_pos rfl]
    · have hb:U1 g0 g1 g2 g3 g4 g5 g6 g7 g8 g9 y=false:=decide_eq_false hc
      rw[hb,Bool.false_and]
      rw[show decide (Gc g0 g1 g2 g3 g4 g5 g6 g7 g8 g9 y.f0.f0 y.f0.f1 y.f0.f2 y.f0.f3 y.f0.f4.f0 y.f0.f4.f1 y.f0.f4.f2 y.f1)=false from hb,if_neg (by decide),if_neg (by decide)]
theorem Mc (g0 g1 g2 g3 g4 g5 g6 g7 g8 g9:Int) (L:List S31) (H:List Hall) (I:List Ins) (hH:H.length<900000000) (hI:I.length<900000000) (f:Nat) (hf:200<f):
    group_Check.f f g0 g1 g2 g3 g4 g5 g6 g7 g8 g9 L H I=some (Jt g0 g1 g2 g3 g4 g5 g6 g7 g8 g9 L H I):=by
  obtain⟨f,rfl⟩:∃ m,f=m+1:=⟨f-1,by omega⟩
  unfold group_Check.f Jt
  by_cases h1:(L.length:Int)<1
  · rw[if_pos h1,if_neg (by omega)]
    simp[group_Check.j0]
  rw[if_neg h1]
  by_cases O:(L.length:Int)>8
  · rw[decide_eq_true O,if_neg (by omega)]
    simp[group_Check.j0]
  rw[decide_eq_false O,if_pos (by omega)]
  simp only[group_Check.j0]
  rw[if_neg (by decide)]
  have:=Wp g0 g1 g2 g3 g4 g5 g6 g7 g8 g9 L H I (by omega) hH hI L.length f 0 (by omega) (by omega)
  rw[List.drop_zero] at this
  exact this
structure Ok (g0 g1 g2 g3 g4 g5 g6 g7 g8 g9:Int) (L:List S31) (H:List Hall) (I:List Ins):Prop where
  n:1≤L.length∧L.length≤8
  l:∀ y ∈ L,Gb g0 g1 g2 g3 g4 g5 g6 g7 g8 g9 y
  c:okB g0 L.length H I=true
theorem E5 {g0 g1 g2 g3 g4 g5 g6 g7 g8 g9:Int} {L:List S31} {H:List Hall} {I:List Ins} (h:Jt g0 g1 g2 g3 g4 g5 g6 g7 g8 g9 L H I=0):Ok g0 g1 g2 g3 g4 g5 g6 g7 g8 g9 L H I:=by
  unfold Jt at h
  by_cases h1:1≤L.length∧L.length≤8
  · rw[if_pos h1] at h
    by_cases O:L.all (U1 g0 g1 g2 g3 g4 g5 g6 g7 g8 g9)=true
    · rw[if_pos O] at h
      by_cases Z:okB g0 L.length H I=true
      · exact⟨h1,fun y hy=>of_decide_eq_true (List.all_eq_true.1 O y hy),Z⟩
      · rw[if_neg Z] at h;exact absurd h (by decide)
    · rw[if_neg O] at h;exact absurd h (by decide)
  · rw[if_neg h1] at h;exact absurd h (by decide)
theorem Ok.f {g0 g1 g2 g3 g4 g5 g6 g7 g8 g9:Int} {L:List S31} {H:List Hall} {I:List Ins} (h:Ok g0 g1 g2 g3 g4 g5 g6 g7 g8 g9 L H I):2≤g0∧g0≤64:=(Call.Yh.1 h.c).1
abbrev costX (g0 g1 g2 g3 g4 g5 g6 g7 g8 g9:Int) (y:S31) (n B J:Int):Int:=Np g0 g1 g2 g3 g6 g8 g9 y.f0.f0 y.f0.f1 y.f0.f2 y.f0.f3 y.f0.f4.f0 y.f0.f4.f1 y.f0.f4.f2 y.f1 n B J
def Xr (g0 g1 g2 g3 g4 g5 g6 g7 g8 g9:Int) (L:List S31) (H:List Hall) (I:List Ins) (B J i:Int):Int:=costX g0 g1 g2 g3 g4 g5 g6 g7 g8 g9 (Qb L i) (U9 (Xx i I) (Xu i H) (Xv i H)) B J
theorem Uz {g0 g1 g2 g3 g4 g5 g6 g7 g8 g9:Int} {L:List S31} {H:List Hall} {I:List Ins} (h:Ok g0 g1 g2 g3 g4 g5 g6 g7 g8 g9 L H I) (hH:H.length≤1000) (hI:I.length≤1000) {B:Int} (J Y:Int) (hx:0≤B∧B<g0) (i:Nat) (hi:i<L.length) (f:Nat) (hf:3000<f):
    group_pick_1.f f (i:Int) g0 g1 g2 g3 g4 g5 g6 g7 g8 g9 L H I B J Y=some (Xr g0 g1 g2 g3 g4 g5 g6 g7 g8 g9 L H I B J i):=by
  have hn:=h.n
  unfold group_pick_1.f group_house.f Xr
  simp only[Option.bind_some]
  rw[Call.Gf f g0 L.length H I i (by omega) (by omega) (W6 (by omega)) (by omega),if_pos h.c,if_pos (show(0:Int)≤(i:Int)∧(i:Int)≤(L.length:Int)-1 by omega)]
  simp only[Option.bind_some]
  rw[if_pos (by omega),if_pos (by omega),rdL L i hi]
  have hl:Gb g0 g1 g2 g3 g4 g5 g6 g7 g8 g9 L[i]:=h.l _ (List.getElem_mem hi)
  generalize L[i]=y at hl ⊢
  rw[Lf J Y _ _ _ _ _ f (by omega) hl hx]
  rfl
def V9 (a2 i:Int):Bool:=decide ((Go.bits .and .i64 (shr .i64 a2 i) 1)=1)
def Vn (bad:Int→Bool) (cost:Int→Int):Nat→Int→Int→Int
  |0,_,b=>b
  |j+1,i,b=>Vn bad cost j (i+1) (if bad i=true then b else if b<0 then i else if cost i<cost b then i else b)
abbrev In (L:List S31) (b:Int):Prop:=b = -1 ∨ ∃ m:Nat,b=(m:Int)∧m<L.length
theorem Lx {g0 g1 g2 g3 g4 g5 g6 g7 g8 g9:Int} {L:List S31} {H:List Hall} {I:List Ins} (h:Ok g0 g1 g2 g3 g4 g5 g6 g7 g8 g9 L H I) (hH:H.length≤1000) (hI:I.length≤1000) {B:Int} (J Y a2:Int) (hx:0≤B∧B<g0) (j:Nat):∀ (f i:Nat) (b:Int),i+j=L.length→j+3001<f→In L b →
    group_pick.l0 f a2 b (L.length:Int) (i:Int) g0 g1 g2 g3 g4 g5 g6 g7 g8 g9 L H I B J Y=some (Vn (V9 a2) (Xr g0 g1 g2 g3 g4 g5 g6 g7 g8 g9 L H I B J) j i b):=by
  have hn:=h.n
  induction j with
  |zero=>
    intro f i b hi hf hb
    obtain⟨f,rfl⟩:∃ m,f=m+1:=⟨f-1,by omega⟩
    simp only[group_pick.l0]
    rw[if_neg (by omega)]
    rfl
  |succ j ih=>
    intro f i b hi hf hb
    obtain⟨f,rfl⟩:∃ m,f=m+1:=⟨f-1,by omega⟩
    have hlt:i<L.length:=by omega
    simp only[group_pick.l0]
    rw[if_pos (by omega),if_pos (by omega),up1 (by omega),Vn]
    have O:=ih f (i+1) b (by omega) (by omega) hb
    have δ :=ih f (i+1) (i:Int) (by omega) (by omega) (Or.inr ⟨i,rfl,hlt⟩)
    rw[show(((i+1:Nat):Int))=(i:Int)+1 by omega] at O δ ⊢
    by_cases hc:(Go.bits .and .i64 (shr .i64 a2 (i:Int)) 1)=1
    · rw[if_pos hc,show V9 a2 (i:Int)=true from decide_eq_true hc,if_pos rfl]
      exact O
    · rw[if_neg hc,show V9 a2 (i:Int)=false from decide_eq_false hc]
      simp only[Bool.false_eq_true,if_false]
      by_cases X:b<0
      · rw[if_pos X,if_pos X]
        exact δ
      · rw[if_neg X,if_neg X]
        obtain⟨m,rfl,hm⟩:∃ m:Nat,b=(m:Int)∧m<L.length:=hb.resolve_left (by omega)
        rw[Uz h hH hI J Y hx i hlt f (by omega),Uz h hH hI J Y hx m hm f (by omega)]
        simp only[Option.bind_some]
        by_cases hl:Xr g0 g1 g2 g3 g4 g5 g6 g7 g8 g9 L H I B J (i:Int)<Xr g0 g1 g2 g3 g4 g5 g6 g7 g8 g9 L H I B J (m:Int)
        · rw[if_pos hl,if_pos hl]
          exact δ
        · rw[if_neg hl,if_neg hl]
          exact O
abbrev M0 (g0 g1 g2 g3 g4 g5 g6 g7 g8 g9:Int) (L:List S31) (a2:Int) (H:List Hall) (I:List Ins) (B J:Int):Int:=Vn (V9 a2) (Xr g0 g1 g2 g3 g4 g5 g6 g7 g8 g9 L H I B J) L.length 0 (-1)
theorem N9 {g0 g1 g2 g3 g4 g5 g6 g7 g8 g9:Int} {L:List S31} {H:List Hall} {I:List Ins} (h:Ok g0 g1 g2 g3 g4 g5 g6 g7 g8 g9 L H I) (hH:H.length≤1000) (hI:I.length≤1000) {B:Int} (J Y a2:Int) (hx:0≤B∧B<g0) (f:Nat) (hf:3100<f):
    group_pick.f f g0 g1 g2 g3 g4 g5 g6 g7 g8 g9 L a2 H I B J Y=some (M0 g0 g1 g2 g3 g4 g5 g6 g7 g8 g9 L a2 H I B J):=by
  have hn:=h.n
  unfold group_pick.f
  exact Lx h hH hI J Y a2 hx L.length f 0 (-1) (by omega) (by omega) (Or.inl rfl)
theorem Nh (g0 g1 g2 g3 g4 g5 g6 g7 g8 g9:Int) (L:List S31) (a2:Int) (H:List Hall) (I:List Ins) (B J Y:Int) (hd:i64 J) (hH:H.length≤1000) (hI:I.length≤1000) (f:Nat) (hf:3200<f):
    group_Pick.f f g0 g1 g2 g3 g4 g5 g6 g7 g8 g9 L a2 H I B J Y=some (if Jt g0 g1 g2 g3 g4 g5 g6 g7 g8 g9 L H I=0 then (if Xi g0 L.length B J Y=true then (M0 g0 g1 g2 g3 g4 g5 g6 g7 g8 g9 L a2 H I B J,0) else (0,210)) else (0,Jt g0 g1 g2 g3 g4 g5 g6 g7 g8 g9 L H I)):=by
  unfold group_Pick.f
  rw[Mc _ _ _ _ _ _ _ _ _ _ L H I (by omega) (by omega) f (by omega)]
  simp only[Option.bind_some]
  by_cases h:Jt g0 g1 g2 g3 g4 g5 g6 g7 g8 g9 L H I=0
  · have ok:=E5 h
    have hn:=ok.n
    rw[if_pos h,if_pos h]
    unfold group_house.f
    simp only[Option.bind_some]
    rw[Ld ok.f (by omega) B J Y hd f (by omega)]
    simp only[Option.bind_some]
    cases hb:Xi g0 L.length B J Y
    · rfl
    · rw[N9 ok hH hI J Y a2 (Lc ok.f (by omega) hb) f (by omega)]
      rfl
  · rw[if_neg h,if_neg h]
theorem Wl (g0 g1 g2 g3 g4 g5 g6 g7 g8 g9:Int) (L:List S31) (a2:Int) (H:List Hall) (I:List Ins):newellaw21_few.f g0 g1 g2 g3 g4 g5 g6 g7 g8 g9 L a2 H I=some false∨(newellaw21_few.f g0 g1 g2 g3 g4 g5 g6 g7 g8 g9 L a2 H I=some true∧L.length≤10∧H.length≤130∧I.length≤520):=by
  unfold newellaw21_few.f
  by_cases h:(L.length:Int)≤10
  · rw[if_pos h]
    rcases Call.Wl H I with e|⟨e,a,b⟩
    · rw[e];exact Or.inl rfl
    · rw[e];exact Or.inr ⟨rfl,by omega,a,b⟩
  · rw[if_neg h];exact Or.inl rfl
end Go.Proofs.Ytmfffemidlhcpaa.GrpPure
