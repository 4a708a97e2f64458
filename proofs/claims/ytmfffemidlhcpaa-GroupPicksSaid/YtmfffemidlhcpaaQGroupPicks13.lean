/- Texts of this claim, one behind the other: what the law's functions come to, walked (printed by a program, with the words that the print uses), and what that is, in plain Lean. No conditions of their own. -/
import Derived.Test.YtmfffemidlhcpaaQGroupPicks12
namespace Go.Proofs.Ytmfffemidlhcpaa.C
open Go.RowKit Go.Proofs.YtmfffemidlhcpaaW.PrintWords Go.Proofs.YtmfffemidlhcpaaW.PrintLast Go.Proofs.YtmfffemidlhcpaaW.PrintMore
attribute [local go_sem] Z0 Zy Z6 Z5 Zr Zq Zz Zx
set_option linter.unusedVariables false
set_option linter.unusedSimpArgs false
def newellaw21_awake.f (k:Nat):Option (Bool):=(newellaw17_Plain.f).bind fun J=>((some (([(⟨(⟨0,0,0,0,(⟨0,0,0⟩:S27)⟩:S29),0,false,false⟩:S31),(⟨(⟨3,0,0,0,(⟨0,0,0⟩:S27)⟩:S29),0,false,false⟩:S31)]:List (S31)):List (S31))).bind fun B=>((some (([(⟨2,1,(-1)⟩:S36)]:List (S36)):List (S36))).bind fun ε =>(if 0<(B.length:Int) then ((group_Cost.f k J.1 J.2.1 J.2.2.1 J.2.2.2.1 J.2.2.2.2.1 J.2.2.2.2.2.1 J.2.2.2.2.2.2.1 J.2.2.2.2.2.2.2.1 J.2.2.2.2.2.2.2.2.1 J.2.2.2.2.2.2.2.2.2 ((Qb B 0).f0.f0) ((Qb B 0).f0.f1) ((Qb B 0).f0.f2) ((Qb B 0).f0.f3) ((Qb B 0).f0.f4.f0) ((Qb B 0).f0.f4.f1) ((Qb B 0).f0.f4.f2) ((Qb B 0).f1) ((Qb B 0).f2) ((Qb B 0).f3) ([]:List Int) ([]:List Int) ([]:List Int) 2 1 (-1)).bind fun ai=>(if 1<(B.length:Int) then ((group_Cost.f k J.1 J.2.1 J.2.2.1 J.2.2.2.1 J.2.2.2.2.1 J.2.2.2.2.2.1 J.2.2.2.2.2.2.1 J.2.2.2.2.2.2.2.1 J.2.2.2.2.2.2.2.2.1 J.2.2.2.2.2.2.2.2.2 ((Qb B 1).f0.f0) ((Qb B 1).f0.f1) ((Qb B 1).f0.f2) ((Qb B 1).f0.f3) ((Qb B 1).f0.f4.f0) ((Qb B 1).f0.f4.f1) ((Qb B 1).f0.f4.f2) ((Qb B 1).f1) ((Qb B 1).f2) ((Qb B 1).f3) ([]:List Int) ([]:List Int) ([]:List Int) 2 1 (-1)).bind fun a9=>((group_Pick.f k J.1 J.2.1 J.2.2.1 J.2.2.2.1 J.2.2.2.2.1 J.2.2.2.2.2.1 J.2.2.2.2.2.2.1 J.2.2.2.2.2.2.2.1 J.2.2.2.2.2.2.2.2.1 J.2.2.2.2.2.2.2.2.2 B 0 ε ([]:List (S86)) 2 1 (-1)).bind fun a8=>((group_Spread.f k J.1 J.2.1 J.2.2.1 J.2.2.2.1 J.2.2.2.2.1 J.2.2.2.2.2.1 J.2.2.2.2.2.2.1 J.2.2.2.2.2.2.2.1 J.2.2.2.2.2.2.2.2.1 J.2.2.2.2.2.2.2.2.2 B 0 ε ([]:List (S86))).bind fun X=>(if ai.1=4 then (if ai.2=0 then (if a9.1=2 then (if a9.2=0 then (if a8.1=1 then (if a8.2=0 then (if X.2.2=0 then (if (X.1.length:Int)=1 then (if 0<(X.1.length:Int) then (if ((Qc X.1 0).f2)=1 then ((group_Check.f k J.1 J.2.1 J.2.2.1 J.2.2.2.1 J.2.2.2.2.1 J.2.2.2.2.2.1 J.2.2.2.2.2.2.1 J.2.2.2.2.2.2.2.1 J.2.2.2.2.2.2.2.2.1 J.2.2.2.2.2.2.2.2.2 B ε ([]:List (S86))).bind fun ab=>(some (ab==0))) else (none)) else (none)) else (none)) else (none)) else (none)) else (none)) else (none)) else (none)) else (none)) else (none))))) else (none))) else (none))))
theorem newellaw21_awake.mono:∀ k,LeO (newellaw21_awake.f k) (newellaw21_awake.f (k+1)):=by
 intro  k
 unfold newellaw21_awake.f
 repeat' first|(with_reducible first|apply group_Check.mono|apply group_Cost.mono|apply group_Pick.mono|apply group_Spread.mono|exact LeO.refl _|exact LeO.none _|refine LeO.ite ?_ ?_|refine LeO.bind ?_ (fun _=>?_))|apply group_Check.mono|apply group_Cost.mono|apply group_Pick.mono|apply group_Spread.mono|exact LeO.none _|refine LeO.ite ?_ ?_|refine LeO.bind ?_ (fun _=>?_)
def newellaw21_awake.T5:Bool×List (List Nat×List Nat):=(true,[([],[]),([],[]),([1],[1]),([2],[2]),([],[]),([],[]),([0,3,4,5],[0,3,4,5]),([6],[6]),([7],[7]),([7],[7]),([8,6,0,1,2,3,4,5,6,7,8],[8]),([9,10,0,1,2,3,4,5,6,7,8,9,10],[9])])
def newellaw21_awake.B5:List Nat:=[0,0,2,6,0,0,63,127,255,255,511,2047]
theorem newellaw21_awake.L4:rtab .any (opsOf Try.f9 5)=newellaw21_awake.T5:=by kernel_rfl
theorem newellaw21_awake.Vz:Zk newellaw21_awake.T5.2 newellaw21_awake.B5=true:=by kernel_rfl
def newellaw21_awake.T6:Bool×List (List Nat×List Nat):=(true,[([],[]),([],[]),([1],[1]),([2],[2]),([],[]),([],[]),([0,3,4,5],[0,3,4,5]),([6],[6]),([7],[7]),([7],[7]),([8,6,0,1,2,3,4,5,6,7,8],[8]),([9,10,0,1,2,3,4,5,6,7,8,9,10],[9])])
def newellaw21_awake.B6:List Nat:=[0,0,2,6,0,0,63,127,255,255,511,2047]
theorem newellaw21_awake.Vp:rtab .any (opsOf Try.f9 6)=newellaw21_awake.T6:=by kernel_rfl
theorem newellaw21_awake.Kg:Zk newellaw21_awake.T6.2 newellaw21_awake.B6=true:=by kernel_rfl
set_option maxHeartbeats 8000000 in
set_option maxRecDepth 100000 in
theorem newellaw21_awake.calls (k:Nat)  (r:Bool) (w:World) (h:newellaw21_awake.f k=some r):
 Calls Try.prog 9 #[] w fun e w'=>e = .returned (.bool r)∧Below w.heap.size w w':=by
 have cg:=Try.underlying25
 have er:=Try.underlying31
 have gk:=Try.underlying29
 have ch:=Try.underlying36
 have dc:=Try.underlying50
 have e9:=Try.underlying34
 have HB:=aK (Below.refl w.heap.size w)
 have H:((newellaw17_Plain.f).bind fun J=>((some (([(⟨(⟨0,0,0,0,(⟨0,0,0⟩:S27)⟩:S29),0,false,false⟩:S31),(⟨(⟨3,0,0,0,(⟨0,0,0⟩:S27)⟩:S29),0,false,false⟩:S31)]:List (S31)):List (S31))).bind fun B=>((some (([(⟨2,1,(-1)⟩:S36)]:List (S36)):List (S36))).bind fun ε =>(if 0<(B.length:Int) then ((group_Cost.f k J.1 J.2.1 J.2.2.1 J.2.2.2.1 J.2.2.2.2.1 J.2.2.2.2.2.1 J.2.2.2.2.2.2.1 J.2.2.2.2.2.2.2.1 J.2.2.2.2.2.2.2.2.1 J.2.2.2.2.2.2.2.2.2 ((Qb B 0).f0.f0) ((Qb B 0).f0.f1) ((Qb B 0).f0.f2) ((Qb B 0).f0.f3) ((Qb B 0).f0.f4.f0) ((Qb B 0).f0.f4.f1) ((Qb B 0).f0.f4.f2) ((Qb B 0).f1) ((Qb B 0).f2) ((Qb B 0).f3) ([]:List Int) ([]:List Int) ([]:List Int) 2 1 (-1)).bind fun ai=>(if 1<(B.length:Int) then ((group_Cost.f k J.1 J.2.1 J.2.2.1 J.2.2.2.1 J.2.2.2.2.1 J.2.2.2.2.2.1 J.2.2.2.2.2.2.1 J.2.2.2.2.2.2.2.1 J.2.2.2.2.2.2.2.2.1 J.2.2.2.2.2.2.2.2.2 ((Qb B 1).f0.f0) ((Qb B 1).f0.f1) ((Qb B 1).f0.f2) ((Qb B 1).f0.f3) ((Qb B 1).f0.f4.f0) ((Qb B 1).f0.f4.f1) ((Qb B 1).f0.f4.f2) ((Qb B 1).f1) ((Qb B 1).f2) ((Qb B 1).f3) ([]:List Int) ([]:List Int) ([]:List Int) 2 1 (-1)).bind fun a9=>((group_Pick.f k J.1 J.2.1 J.2.2.1 J.2.2.2.1 J.2.2.2.2.1 J.2.2.2.2.2.1 J.2.2.2.2.2.2.1 J.2.2.2.2.2.2.2.1 J.2.2.2.2.2.2.2.2.1 J.2.2.2.2.2.2.2.2.2 B 0 ε ([]:List (S86)) 2 1 (-1)).bind fun a8=>((group_Spread.f k J.1 J.2.1 J.2.2.1 J.2.2.2.1 J.2.2.2.2.1 J.2.2.2.2.2.1 J.2.2.2.2.2.2.1 J.2.2.2.2.2.2.2.1 J.2.2.2.2.2.2.2.2.1 J.2.2.2.2.2.2.2.2.2 B 0 ε ([]:List (S86))).bind fun X=>(if ai.1=4 then (if ai.2=0 then (if a9.1=2 then (if a9.2=0 then (if a8.1=1 then (if a8.2=0 then (if X.2.2=0 then (if (X.1.length:Int)=1 then (if 0<(X.1.length:Int) then (if ((Qc X.1 0).f2)=1 then ((group_Check.f k J.1 J.2.1 J.2.2.1 J.2.2.2.1 J.2.2.2.2.1 J.2.2.2.2.2.1 J.2.2.2.2.2.2.1 J.2.2.2.2.2.2.2.1 J.2.2.2.2.2.2.2.2.1 J.2.2.2.2.2.2.2.2.2 B ε ([]:List (S86))).bind fun ab=>(some (ab==0))) else (none)) else (none)) else (none)) else (none)) else (none)) else (none)) else (none)) else (none)) else (none)) else (none))))) else (none))) else (none)))))=some r:=h
 clear h
 obtain⟨⟨Y,Z,au,ζ,η,θ,ι,κ,ν,φ⟩,bn,H⟩:=qO H
 replace H:((some (([(⟨(⟨0,0,0,0,(⟨0,0,0⟩:S27)⟩:S29),0,false,false⟩:S31),(⟨(⟨3,0,0,0,(⟨0,0,0⟩:S27)⟩:S29),0,false,false⟩:S31)]:List (S31)):List (S31))).bind fun B=>((some (([(⟨2,1,(-1)⟩:S36)]:List (S36)):List (S36))).bind fun ε =>(if 0<(B.length:Int) then ((group_Cost.f k Y Z au ζ η θ ι κ ν φ ((Qb B 0).f0.f0) ((Qb B 0).f0.f1) ((Qb B 0).f0.f2) ((Qb B 0).f0.f3) ((Qb B 0).f0.f4.f0) ((Qb B 0).f0.f4.f1) ((Qb B 0).f0.f4.f2) ((Qb B 0).f1) ((Qb B 0).f2) ((Qb B 0).f3) ([]:List Int) ([]:List Int) ([]:List Int) 2 1 (-1)).bind fun ai=>(if 1<(B.length:Int) then ((group_Cost.f k Y Z au ζ η θ ι κ ν φ ((Qb B 1).f0.f0) ((Qb B 1).f0.f1) ((Qb B 1).f0.f2) ((Qb B 1).f0.f3) ((Qb B 1).f0.f4.f0) ((Qb B 1).f0.f4.f1) ((Qb B 1).f0.f4.f2) ((Qb B 1).f1) ((Qb B 1).f2) ((Qb B 1).f3) ([]:List Int) ([]:List Int) ([]:List Int) 2 1 (-1)).bind fun a9=>((group_Pick.f k Y Z au ζ η θ ι κ ν φ B 0 ε ([]:List (S86)) 2 1 (-1)).bind fun a8=>((group_Spread.f k Y Z au ζ η θ ι κ ν φ B 0 ε ([]:List (S86))).bind fun X=>(if ai.1=4 then (if ai.2=0 then (if a9.1=2 then (if a9.2=0 then (if a8.1=1 then (if a8.2=0 then (if X.2.2=0 then (if (X.1.length:Int)=1 then (if 0<(X.1.length:Int) then (if ((Qc X.1 0).f2)=1 then ((group_Check.f k Y Z au ζ η θ ι κ ν φ B ε ([]:List (S86))).bind fun ab=>(some (ab==0))) else (none)) else (none)) else (none)) else (none)) else (none)) else (none)) else (none)) else (none)) else (none)) else (none))))) else (none))) else (none))))=some r:=H
 have A1:=aK bn
 clear bn
 obtain⟨B,cp⟩:∃ y_:List (S31),y_=(([(⟨(⟨0,0,0,0,(⟨0,0,0⟩:S27)⟩:S29),0,false,false⟩:S31),(⟨(⟨3,0,0,0,(⟨0,0,0⟩:S27)⟩:S29),0,false,false⟩:S31)]:List (S31))):=⟨_,rfl⟩
 replace H:((some (([(⟨2,1,(-1)⟩:S36)]:List (S36)):List (S36))).bind fun ε =>(if 0<(B.length:Int) then ((group_Cost.f k Y Z au ζ η θ ι κ ν φ ((Qb B 0).f0.f0) ((Qb B 0).f0.f1) ((Qb B 0).f0.f2) ((Qb B 0).f0.f3) ((Qb B 0).f0.f4.f0) ((Qb B 0).f0.f4.f1) ((Qb B 0).f0.f4.f2) ((Qb B 0).f1) ((Qb B 0).f2) ((Qb B 0).f3) ([]:List Int) ([]:List Int) ([]:List Int) 2 1 (-1)).bind fun ai=>(if 1<(B.length:Int) then ((group_Cost.f k Y Z au ζ η θ ι κ ν φ ((Qb B 1).f0.f0) ((Qb B 1).f0.f1) ((Qb B 1).f0.f2) ((Qb B 1).f0.f3) ((Qb B 1).f0.f4.f0) ((Qb B 1).f0.f4.f1) ((Qb B 1).f0.f4.f2) ((Qb B 1).f1) ((Qb B 1).f2) ((Qb B 1).f3) ([]:List Int) ([]:List Int) ([]:List Int) 2 1 (-1)).bind fun a9=>((group_Pick.f k Y Z au ζ η θ ι κ ν φ B 0 ε ([]:List (S86)) 2 1 (-1)).bind fun a8=>((group_Spread.f k Y Z au ζ η θ ι κ ν φ B 0 ε ([]:List (S86))).bind fun X=>(if ai.1=4 then (if ai.2=0 then (if a9.1=2 then (if a9.2=0 then (if a8.1=1 then (if a8.2=0 then (if X.2.2=0 then (if (X.1.length:Int)=1 then (if 0<(X.1.length:Int) then (if ((Qc X.1 0).f2)=1 then ((group_Check.f k Y Z au ζ η θ ι κ ν φ B ε ([]:List (S86))).bind fun ab=>(some (ab==0))) else (none)) else (none)) else (none)) else (none)) else (none)) else (none)) else (none)) else (none)) else (none)) else (none))))) else (none))) else (none)))=some r:=by first|(rw[cp];with_reducible exact H)|(have al:=(Option.bind_some _ _).symm.trans H;rw[cp];with_reducible exact al)|(have al:=(Option.bind_some _ _).symm.trans H;with_reducible exact al)|with_reducible exact H|(rw[cp];exact H)|exact H
 have fq:=aK cp
 clear cp
 obtain⟨ε,cq⟩:∃ y_:List (S36),y_=(([(⟨2,1,(-1)⟩:S36)]:List (S36))):=⟨_,rfl⟩
 replace H:(if 0<(B.length:Int) then ((group_Cost.f k Y Z au ζ η θ ι κ ν φ ((Qb B 0).f0.f0) ((Qb B 0).f0.f1) ((Qb B 0).f0.f2) ((Qb B 0).f0.f3) ((Qb B 0).f0.f4.f0) ((Qb B 0).f0.f4.f1) ((Qb B 0).f0.f4.f2) ((Qb B 0).f1) ((Qb B 0).f2) ((Qb B 0).f3) ([]:List Int) ([]:List Int) ([]:List Int) 2 1 (-1)).bind fun ai=>(if 1<(B.length:Int) then ((group_Cost.f k Y Z au ζ η θ ι κ ν φ ((Qb B 1).f0.f0) ((Qb B 1).f0.f1) ((Qb B 1).f0.f2) ((Qb B 1).f0.f3) ((Qb B 1).f0.f4.f0) ((Qb B 1).f0.f4.f1) ((Qb B 1).f0.f4.f2) ((Qb B 1).f1) ((Qb B 1).f2) ((Qb B 1).f3) ([]:List Int) ([]:List Int) ([]:List Int) 2 1 (-1)).bind fun a9=>((group_Pick.f k Y Z au ζ η θ ι κ ν φ B 0 ε ([]:List (S86)) 2 1 (-1)).bind fun a8=>((group_Spread.f k Y Z au ζ η θ ι κ ν φ B 0 ε ([]:List (S86))).bind fun X=>(if ai.1=4 then (if ai.2=0 then (if a9.1=2 then (if a9.2=0 then (if a8.1=1 then (if a8.2=0 then (if X.2.2=0 then (if (X.1.length:Int)=1 then (if 0<(X.1.length:Int) then (if ((Qc X.1 0).f2)=1 then ((group_Check.f k Y Z au ζ η θ ι κ ν φ B ε ([]:List (S86))).bind fun ab=>(some (ab==0))) else (none)) else (none)) else (none)) else (none)) else (none)) else (none)) else (none)) else (none)) else (none)) else (none))))) else (none))) else (none))=some r:=by first|(rw[cq];with_reducible exact H)|(have al:=(Option.bind_some _ _).symm.trans H;rw[cq];with_reducible exact al)|(have al:=(Option.bind_some _ _).symm.trans H;with_reducible exact al)|with_reducible exact H|(rw[cq];exact H)|exact H
 have fr:=aK cq
 clear cq
 by_cases c2:0<(B.length:Int)
 ·rw[if_pos c2] at H
  have c2b0:=decide_eq_true c2
  have c2b1:decide (0<B.length)=true:=decide_eq_true (by omega)
  clear c2
  obtain⟨⟨ci,dm⟩,a7,H⟩:=qO H
  replace H:(if 1<(B.length:Int) then ((group_Cost.f k Y Z au ζ η θ ι κ ν φ ((Qb B 1).f0.f0) ((Qb B 1).f0.f1) ((Qb B 1).f0.f2) ((Qb B 1).f0.f3) ((Qb B 1).f0.f4.f0) ((Qb B 1).f0.f4.f1) ((Qb B 1).f0.f4.f2) ((Qb B 1).f1) ((Qb B 1).f2) ((Qb B 1).f3) ([]:List Int) ([]:List Int) ([]:List Int) 2 1 (-1)).bind fun a9=>((group_Pick.f k Y Z au ζ η θ ι κ ν φ B 0 ε ([]:List (S86)) 2 1 (-1)).bind fun a8=>((group_Spread.f k Y Z au ζ η θ ι κ ν φ B 0 ε ([]:List (S86))).bind fun X=>(if ci=4 then (if dm=0 then (if a9.1=2 then (if a9.2=0 then (if a8.1=1 then (if a8.2=0 then (if X.2.2=0 then (if (X.1.length:Int)=1 then (if 0<(X.1.length:Int) then (if ((Qc X.1 0).f2)=1 then ((group_Check.f k Y Z au ζ η θ ι κ ν φ B ε ([]:List (S86))).bind fun ab=>(some (ab==0))) else (none)) else (none)) else (none)) else (none)) else (none)) else (none)) else (none)) else (none)) else (none)) else (none))))) else (none))=some r:=H
  have A3:=aK a7
  clear a7
  by_cases c4:1<(B.length:Int)
  ·rw[if_pos c4] at H
   have c4b0:=decide_eq_true c4
   have c4b1:decide (1<B.length)=true:=decide_eq_true (by omega)
   clear c4
   obtain⟨⟨cn,co⟩,bc,H⟩:=qO H
   replace H:((group_Pick.f k Y Z au ζ η θ ι κ ν φ B 0 ε ([]:List (S86)) 2 1 (-1)).bind fun a8=>((group_Spread.f k Y Z au ζ η θ ι κ ν φ B 0 ε ([]:List (S86))).bind fun X=>(if ci=4 then (if dm=0 then (if cn=2 then (if co=0 then (if a8.1=1 then (if a8.2=0 then (if X.2.2=0 then (if (X.1.length:Int)=1 then (if 0<(X.1.length:Int) then (if ((Qc X.1 0).f2)=1 then ((group_Check.f k Y Z au ζ η θ ι κ ν φ B ε ([]:List (S86))).bind fun ab=>(some (ab==0))) else (none)) else (none)) else (none)) else (none)) else (none)) else (none)) else (none)) else (none)) else (none)) else (none))))=some r:=H
   have A5:=aK bc
   clear bc
   obtain⟨⟨cu,cv⟩,ao,H⟩:=qO H
   replace H:((group_Spread.f k Y Z au ζ η θ ι κ ν φ B 0 ε ([]:List (S86))).bind fun X=>(if ci=4 then (if dm=0 then (if cn=2 then (if co=0 then (if cu=1 then (if cv=0 then (if X.2.2=0 then (if (X.1.length:Int)=1 then (if 0<(X.1.length:Int) then (if ((Qc X.1 0).f2)=1 then ((group_Check.f k Y Z au ζ η θ ι κ ν φ B ε ([]:List (S86))).bind fun ab=>(some (ab==0))) else (none)) else (none)) else (none)) else (none)) else (none)) else (none)) else (none)) else (none)) else (none)) else (none)))=some r:=H
   have A6:=aK ao
   clear ao
   obtain⟨⟨a2,cw,cx⟩,cr,H⟩:=qO H
   replace H:(if ci=4 then (if dm=0 then (if cn=2 then (if co=0 then (if cu=1 then (if cv=0 then (if cx=0 then (if (a2.length:Int)=1 then (if 0<(a2.length:Int) then (if ((Qc a2 0).f2)=1 then ((group_Check.f k Y Z au ζ η θ ι κ ν φ B ε ([]:List (S86))).bind fun ab=>(some (ab==0))) else (none)) else (none)) else (none)) else (none)) else (none)) else (none)) else (none)) else (none)) else (none)) else (none))=some r:=H
   have A7:=aK cr
   clear cr
   by_cases c8:ci=4
   ·rw[if_pos c8] at H
    have c8b0:(ci==4)=true:=beq_iff_eq.mpr c8
    have c8b1:(ci != 4)=false:=bne_eq_false_iff_eq.mpr c8
    clear c8
    by_cases c9:dm=0
    ·rw[if_pos c9] at H
     have c9b0:(dm==0)=true:=beq_iff_eq.mpr c9
     have c9b1:(dm != 0)=false:=bne_eq_false_iff_eq.mpr c9
     clear c9
     by_cases c10:cn=2
     ·rw[if_pos c10] at H
      have c10b0:(cn==2)=true:=beq_iff_eq.mpr c10
      have c10b1:(cn != 2)=false:=bne_eq_false_iff_eq.mpr c10
      clear c10
      by_cases a6:co=0
      ·rw[if_pos a6] at H
       have c11b0:(co==0)=true:=beq_iff_eq.mpr a6
       have c11b1:(co != 0)=false:=bne_eq_false_iff_eq.mpr a6
       clear a6
       by_cases a5:cu=1
       ·rw[if_pos a5] at H
        have c12b0:(cu==1)=true:=beq_iff_eq.mpr a5
        have c12b1:(cu != 1)=false:=bne_eq_false_iff_eq.mpr a5
        clear a5
        by_cases ψ :cv=0
        ·rw[if_pos ψ] at H
         have c13b0:(cv==0)=true:=beq_iff_eq.mpr ψ
         have c13b1:(cv != 0)=false:=bne_eq_false_iff_eq.mpr ψ
         clear ψ
         by_cases ae:cx=0
         ·rw[if_pos ae] at H
          have c14b0:(cx==0)=true:=beq_iff_eq.mpr ae
          have c14b1:(cx != 0)=false:=bne_eq_false_iff_eq.mpr ae
          clear ae
          by_cases a1:(a2.length:Int)=1
          ·rw[if_pos a1] at H
           have c15b0:((a2.length:Int)==1)=true:=beq_iff_eq.mpr a1
           have c15b1:((a2.length:Int) != 1)=false:=bne_eq_false_iff_eq.mpr a1
           clear a1
           by_cases χ :0<(a2.length:Int)
           ·rw[if_pos χ] at H
            have c16b0:=decide_eq_true χ
            have c16b1:decide (0<a2.length)=true:=decide_eq_true (by omega)
            clear χ
            by_cases σ:((Qc a2 0).f2)=1
            ·rw[if_pos σ] at H
             have c17b0:(((Qc a2 0).f2)==1)=true:=beq_iff_eq.mpr σ
             have c17b1:(((Qc a2 0).f2) != 1)=false:=bne_eq_false_iff_eq.mpr σ
             clear σ
             obtain⟨ab,ap,H⟩:=qO H
             have bf:=aK ap
             clear ap
             obtain rfl:=Option.some.inj H
             go_enter Try.func9,Try.ntmps9
             try go_wp2_with (first|((with_reducible refine Qf (f:=27) rfl ?_);refine Qt (some 13) rfl rfl Try.func27 kr rfl #[] rfl qM ?_;(with_reducible refine(newellaw17_Plain.calls  Y Z au ζ η θ ι κ ν φ _ A1.out).mono ?_);rintro e b5 ⟨rfl,hb⟩;refine⟨_,rfl, ?_⟩;replace HB:=sHb hb;(try clear hb);(try clear a4);(try clear hk);(try clear hi))|((with_reducible refine Qe (N:=1) rfl ?_);(try(refine Zs (by rfl) ?_;dsimp only));refine qE 1 #[.int .i64 0,.int .i64 0,.int .i64 0,.int .i64 0,.int .i64 0,.int .i64 0,.int .i64 0,.int .i64 0,.int .i64 0,.int .i64 0] 25 ?_;intro μ hg dx hbox hb;have δ :=aK hbox;have gs:=sGe hg;have gt:=sGe hg;replace HB:=sHb hb;clear hb hbox hg;obtain⟨d6,de,dt,el,em,ep,fi,fz,gi,gj,df,dh,fk,fl,fm,fn,fo,gn,gp,gq⟩:=Zg δ.out)|((with_reducible refine Qe (N:=17) rfl ?_);(try(refine Zs (by rfl) ?_;dsimp only));refine Kd.V1 k31 _ 31 ?hg (N:=17) ?hd (xs:=([(⟨(⟨0,0,0,0,(⟨0,0,0⟩:S27)⟩:S29),0,false,false⟩:S31),(⟨(⟨3,0,0,0,(⟨0,0,0⟩:S27)⟩:S29),0,false,false⟩:S31)]:List (S31))) (inner:=[.int .i64 0,.int .i64 0,.int .i64 0,.int .i64 0,.int .i64 0,.int .i64 0,.int .i64 0,.int .i64 0,.bool false,.bool false,.int .i64 3,.int .i64 0,.int .i64 0,.int .i64 0,.int .i64 0,.int .i64 0,.int .i64 0,.int .i64 0,.bool false,.bool false]) (ok:=fun _=>True) (okp:=fun _=>True) ?hr ?hp (fun _ hk=>hk) trivial (Below.refl _ _) (Nat.le_refl _) (by simp) ?_;(case hd=>rfl);(case hg=>rfl);(case hr=>go_simp <;> rfl);(case hp=>exact(Reps.c10 (show Kd.M k31 _ _ _ (⟨(⟨0,0,0,0,(⟨0,0,0⟩:S27)⟩:S29),0,false,false⟩:S31) [.int .i64 0,.int .i64 0,.int .i64 0,.int .i64 0,.int .i64 0,.int .i64 0,.int .i64 0,.int .i64 0,.bool false,.bool false] from(Lq _ _ _ (⟨(⟨0,0,0,0,(⟨0,0,0⟩:S27)⟩:S29),0,false,false⟩:S31))) (Reps.c10 (show Kd.M k31 _ _ _ (⟨(⟨3,0,0,0,(⟨0,0,0⟩:S27)⟩:S29),0,false,false⟩:S31) [.int .i64 3,.int .i64 0,.int .i64 0,.int .i64 0,.int .i64 0,.int .i64 0,.int .i64 0,.int .i64 0,.bool false,.bool false] from(Lq _ _ _ (⟨(⟨3,0,0,0,(⟨0,0,0⟩:S27)⟩:S29),0,false,false⟩:S31))) (Reps.none _ _))));intro h9 bj dn hb hg_ hnew_;clear hg_ hnew_;(first|rw[← fq.out] at dn|(simp only[Int.reduceToNat] at dn;rw[← fq.out] at dn));have γ:=aK (Kd.Q8 dn (Qn bel));replace δ :=aK (Qz (g:= μ) (o:=.cells #[.int .i64 Y,.int .i64 Z,.int .i64 au,.int .i64 ζ,.int .i64 η,.int .i64 θ,.int .i64 ι,.int .i64 κ,.int .i64 ν,.int .i64 φ] 25 (0,0)) (by(with_reducible repeat first|refine Qm ?_ _|refine Qd ?_|refine Ql ?_ _);refine Qq (cs:=#[.int .i64 Y,.int .i64 Z,.int .i64 au,.int .i64 ζ,.int .i64 η,.int .i64 θ,.int .i64 ι,.int .i64 κ,.int .i64 ν,.int .i64 0]) ?_ 9 _ rfl;(with_reducible repeat first|refine Qm ?_ _|refine Qd ?_|refine Ql ?_ _);refine Qq (cs:=#[.int .i64 Y,.int .i64 Z,.int .i64 au,.int .i64 ζ,.int .i64 η,.int .i64 θ,.int .i64 ι,.int .i64 κ,.int .i64 0,.int .i64 0]) ?_ 8 _ rfl;(with_reducible repeat first|refine Qm ?_ _|refine Qd ?_|refine Ql ?_ _);refine Qq (cs:=#[.int .i64 Y,.int .i64 Z,.int .i64 au,.int .i64 ζ,.int .i64 η,.int .i64 θ,.int .i64 ι,.int .i64 0,.int .i64 0,.int .i64 0]) ?_ 7 _ rfl;(with_reducible repeat first|refine Qm ?_ _|refine Qd ?_|refine Ql ?_ _);refine Qq (cs:=#[.int .i64 Y,.int .i64 Z,.int .i64 au,.int .i64 ζ,.int .i64 η,.int .i64 θ,.int .i64 0,.int .i64 0,.int .i64 0,.int .i64 0]) ?_ 6 _ rfl;(with_reducible repeat first|refine Qm ?_ _|refine Qd ?_|refine Ql ?_ _);refine Qq (cs:=#[.int .i64 Y,.int .i64 Z,.int .i64 au,.int .i64 ζ,.int .i64 η,.int .i64 0,.int .i64 0,.int .i64 0,.int .i64 0,.int .i64 0]) ?_ 5 _ rfl;(with_reducible repeat first|refine Qm ?_ _|refine Qd ?_|refine Ql ?_ _);refine Qq (cs:=#[.int .i64 Y,.int .i64 Z,.int .i64 au,.int .i64 ζ,.int .i64 0,.int .i64 0,.int .i64 0,.int .i64 0,.int .i64 0,.int .i64 0]) ?_ 4 _ rfl;(with_reducible repeat first|refine Qm ?_ _|refine Qd ?_|refine Ql ?_ _);refine Qq (cs:=#[.int .i64 Y,.int .i64 Z,.int .i64 au,.int .i64 0,.int .i64 0,.int .i64 0,.int .i64 0,.int .i64 0,.int .i64 0,.int .i64 0]) ?_ 3 _ rfl;(with_reducible repeat first|refine Qm ?_ _|refine Qd ?_|refine Ql ?_ _);refine Qq (cs:=#[.int .i64 Y,.int .i64 Z,.int .i64 0,.int .i64 0,.int .i64 0,.int .i64 0,.int .i64 0,.int .i64 0,.int .i64 0,.int .i64 0]) ?_ 2 _ rfl;(with_reducible repeat first|refine Qm ?_ _|refine Qd ?_|refine Ql ?_ _);refine Qq (cs:=#[.int .i64 Y,.int .i64 0,.int .i64 0,.int .i64 0,.int .i64 0,.int .i64 0,.int .i64 0,.int .i64 0,.int .i64 0,.int .i64 0]) ?_ 1 _ rfl;(with_reducible repeat first|refine Qm ?_ _|refine Qd ?_|refine Ql ?_ _);refine Qq (cs:=#[.int .i64 0,.int .i64 0,.int .i64 0,.int .i64 0,.int .i64 0,.int .i64 0,.int .i64 0,.int .i64 0,.int .i64 0,.int .i64 0]) ?_ 0 _ rfl;(with_reducible repeat first|refine Qm ?_ _|refine Qd ?_|refine Ql ?_ _);exact δ.out) hb);replace HB:=sHb hb;clear hb dn)|((with_reducible refine Qe (N:=3) rfl ?_);(try(refine Zs (by rfl) ?_;dsimp only));refine qE 3 #[.int .i64 0,.int .i64 0,.int .i64 0] 36 ?_;intro av hg cd hbox hb;have O:=aK hbox;have iu:=sGe hg;have iv:=sGe hg;have dl:=sNl δ hg;have dp:=sNg δ hg;replace γ:=sRb γ hb;replace δ :=sBk δ hb;replace HB:=sHb hb;clear hb hbox hg;have en:=dp.out;have eo:=dl.out;obtain⟨b9,cf,dd,cj,ck,dk⟩:=qD3 O.out)|((with_reducible refine Qe (N:=20) rfl ?_);(try(refine Zs (by rfl) ?_;dsimp only));refine Kd.V1 k36 _ 36 ?hg (N:=20) ?hd (xs:=([(⟨2,1,(-1)⟩:S36)]:List (S36))) (inner:=[.int .i64 2,.int .i64 1,.int .i64 (-1)]) (ok:=fun _=>True) (okp:=fun _=>True) ?hr ?hp (fun _ hk=>hk) trivial (Below.refl _ _) (Nat.le_refl _) (by simp) ?_;(case hd=>rfl);(case hg=>rfl);(case hr=>go_simp <;> rfl);(case hp=>exact(Reps.c3 (show Kd.M k36 _ _ _ (⟨2,1,(-1)⟩:S36) [.int .i64 2,.int .i64 1,.int .i64 (-1)] from(K2 _ _ _ (⟨2,1,(-1)⟩:S36))) (Reps.none _ _)));intro jc di cy hb hg_ hnew_;clear hg_ hnew_;(first|rw[← fr.out] at cy|(simp only[Int.reduceToNat] at cy;rw[← fr.out] at cy));have ξ :=aK (Kd.Q8 (Kd.Jn cy (g:=av) (o:=.cells #[.int .i64 2,.int .i64 1,.int .i64 (-1)] 36 (0,0)) (by(with_reducible repeat first|refine Qm ?_ _|refine Qd ?_|refine Ql ?_ _);refine Qq (cs:=#[.int .i64 2,.int .i64 1,.int .i64 0]) ?_ 2 _ rfl;(with_reducible repeat first|refine Qm ?_ _|refine Qd ?_|refine Ql ?_ _);refine Qq (cs:=#[.int .i64 2,.int .i64 0,.int .i64 0]) ?_ 1 _ rfl;(with_reducible repeat first|refine Qm ?_ _|refine Qd ?_|refine Ql ?_ _);refine Qq (cs:=#[.int .i64 0,.int .i64 0,.int .i64 0]) ?_ 0 _ rfl;(with_reducible repeat first|refine Qm ?_ _|refine Qd ?_|refine Ql ?_ _);exact O.out)) (Qn bel));replace γ:=aK (Kd.Z8 (by(with_reducible repeat first|apply Kd.Qv|apply Kd.Qu|apply Kd.Qy);exact(Kd.Q1 (Kd.Qx (Kd.Qx (Kd.Qx (Kd.Q4 γ.out O.out (by decide)) (fun _ hk=>hk.2) (.int .i64 2)) (fun _ hk=>hk.2) (.int .i64 1)) (fun _ hk=>hk.2) (.int .i64 (-1))) (fun _ h_=>h_.1))) hb);replace δ :=sBk δ hb;replace O:=aK (Qz (g:=av) (o:=.cells #[.int .i64 2,.int .i64 1,.int .i64 (-1)] 36 (0,0)) (by(with_reducible repeat first|refine Qm ?_ _|refine Qd ?_|refine Ql ?_ _);refine Qq (cs:=#[.int .i64 2,.int .i64 1,.int .i64 0]) ?_ 2 _ rfl;(with_reducible repeat first|refine Qm ?_ _|refine Qd ?_|refine Ql ?_ _);refine Qq (cs:=#[.int .i64 2,.int .i64 0,.int .i64 0]) ?_ 1 _ rfl;(with_reducible repeat first|refine Qm ?_ _|refine Qd ?_|refine Ql ?_ _);refine Qq (cs:=#[.int .i64 0,.int .i64 0,.int .i64 0]) ?_ 0 _ rfl;(with_reducible repeat first|refine Qm ?_ _|refine Qd ?_|refine Ql ?_ _);exact O.out) hb);replace HB:=sHb hb;clear hb cy;obtain⟨bq,bp,gm⟩:=Kd.Q7 ξ.out;subst gm)|((with_reducible refine Qe (N:=4) rfl ?_);(try(refine Zs (by rfl) ?_;dsimp only));refine qE 4 #[.slice none 0 0,.slice none 0 0] 50 ?_;intro aa hg e8 hbox hb;have a0:=aK hbox;have iw:=sGe hg;have ix:=sGe hg;have dq:=sNl δ hg;have du:=sNg δ hg;have dv:=sNl O hg;have e7:=sNg O hg;replace γ:=sRb γ hb;replace ξ :=sRb ξ hb;replace δ :=sBk δ hb;replace O:=sBk O hb;replace HB:=sHb hb;clear hb hbox hg;have gb:=du.out;have ge:=dq.out;have dr:=e7.out;have ez:=dv.out;obtain⟨d0,eb,ec,ed⟩:=qD2 a0.out))
             have ρ:Aside0 (Kd.R k31 31 ((e8.setCell ⟨aa,0,none⟩ (.slice bq ε.length bp)).setCell ⟨aa,1,none⟩ (.slice none 0 0)) w.heap.size (fun _=>True) h9 B):=⟨by(with_reducible repeat first|apply Kd.Qv|apply Kd.Qu|apply Kd.Qy);exact Kd.Q1 (Kd.Qx (Kd.Qx (Kd.Q4 γ.out a0.out (by decide)) (fun _ hk=>hk.2) _) (fun _ hk=>hk.2) (.slice none 0 0)) (fun _ hk=>trivial)⟩
             have τ :Aside0 (Kd.R k36 36 ((e8.setCell ⟨aa,0,none⟩ (.slice bq ε.length bp)).setCell ⟨aa,1,none⟩ (.slice none 0 0)) w.heap.size (fun k_=>k_≠av) (.slice bq ε.length bp) ε):=⟨by(with_reducible repeat first|apply Kd.Qv|apply Kd.Qu|apply Kd.Qy);exact Kd.Q1 (Kd.Qx (Kd.Qx (Kd.Q4 ξ.out a0.out (by decide)) (fun _ hk=>hk.2) _) (fun _ hk=>hk.2) (.slice none 0 0)) (fun _ hk=>hk.1.2)⟩
             have ω :Aside0 (((e8.setCell ⟨aa,0,none⟩ (.slice bq ε.length bp)).setCell ⟨aa,1,none⟩ (.slice none 0 0)).heap[μ]?=some (.cells #[.int .i64 Y,.int .i64 Z,.int .i64 au,.int .i64 ζ,.int .i64 η,.int .i64 θ,.int .i64 ι,.int .i64 κ,.int .i64 ν,.int .i64 φ] 25 (0,0))):=⟨bka δ⟩
             have a3:Aside0 (((e8.setCell ⟨aa,0,none⟩ (.slice bq ε.length bp)).setCell ⟨aa,1,none⟩ (.slice none 0 0)).heap[av]?=some (.cells #[.int .i64 2,.int .i64 1,.int .i64 (-1)] 36 (0,0))):=⟨bka O⟩
             have an:Aside0 (((e8.setCell ⟨aa,0,none⟩ (.slice bq ε.length bp)).setCell ⟨aa,1,none⟩ (.slice none 0 0)).heap[aa]?=some (.cells #[.slice bq ε.length bp,.slice none 0 0] 50 (0,0))):=⟨by refine Qq (cs:=#[.slice bq ε.length bp,.slice none 0 0]) ?_ 1 _ rfl;refine Qq (cs:=#[.slice none 0 0,.slice none 0 0]) ?_ 0 _ rfl;exact a0.out⟩
             have b1:Aside0 (Below w.heap.size w ((e8.setCell ⟨aa,0,none⟩ (.slice bq ε.length bp)).setCell ⟨aa,1,none⟩ (.slice none 0 0))):=⟨bel⟩
             (try clear γ)
             (try clear ξ)
             (try clear δ)
             (try clear O)
             (try clear a0)
             (try clear HB)
             generalize((e8.setCell ⟨aa,0,none⟩ (.slice bq ε.length bp)).setCell ⟨aa,1,none⟩ (.slice none 0 0))=fp at ρ τ ω a3 an b1 ⊢
             have γ:=ρ
             have ξ := τ
             have δ := ω
             have O:=a3
             have a0:=an
             have HB:=b1
             clear ρ τ ω a3 an b1
             replace γ:=aK (Kd.Qy γ.out)
             replace ξ :=aK (Kd.Qy ξ.out)
             replace δ :=aK (Qd δ.out)
             replace O:=aK (Qd O.out)
             replace a0:=aK (Qd a0.out)
             replace HB:=aK (Qg HB.out)
             obtain⟨jd,f7,gr⟩:=Kd.Q7 γ.out
             (first|subst gr|(injection gr with aj aw ak;have ax:=aj.symm;have ay:=ak.symm;clear aj aw ak;subst ax;subst ay))
             have fa:0≤(0:Int):=(by omega)
             have fb:0<(B.length:Int):=of_decide_eq_true (by assumption)
             obtain⟨ar,j8,dy,e5,e6,ba,bb,bd,bg,bh,bi,bk⟩:=Yy (Kd.Qw γ.out).2.2 0 fa fb
             cases j8
             have iy:(0<B.length)=True:=eq_true (by omega)
             (try rw[show((0:Int)).toNat=0 from rfl] at dy)
             (try rw[show 0 * 10=0 from rfl] at dy)
             (try rw[Addr.add_zero'] at dy)
             (try rw[show((0:Int)).toNat=0 from rfl] at e5)
             (try rw[show 0 * 10=0 from rfl] at e5)
             (try rw[Addr.add_zero'] at e5)
             (try rw[show((0:Int)).toNat=0 from rfl] at e6)
             (try rw[show 0 * 10=0 from rfl] at e6)
             (try rw[Addr.add_zero'] at e6)
             (try rw[show((0:Int)).toNat=0 from rfl] at ba)
             (try rw[show 0 * 10=0 from rfl] at ba)
             (try rw[Addr.add_zero'] at ba)
             (try rw[show((0:Int)).toNat=0 from rfl] at bb)
             (try rw[show 0 * 10=0 from rfl] at bb)
             (try rw[Addr.add_zero'] at bb)
             (try rw[show((0:Int)).toNat=0 from rfl] at bd)
             (try rw[show 0 * 10=0 from rfl] at bd)
             (try rw[Addr.add_zero'] at bd)
             (try rw[show((0:Int)).toNat=0 from rfl] at bg)
             (try rw[show 0 * 10=0 from rfl] at bg)
             (try rw[Addr.add_zero'] at bg)
             (try rw[show((0:Int)).toNat=0 from rfl] at bh)
             (try rw[show 0 * 10=0 from rfl] at bh)
             (try rw[Addr.add_zero'] at bh)
             (try rw[show((0:Int)).toNat=0 from rfl] at bi)
             (try rw[show 0 * 10=0 from rfl] at bi)
             (try rw[Addr.add_zero'] at bi)
             (try rw[show((0:Int)).toNat=0 from rfl] at bk)
             (try rw[show 0 * 10=0 from rfl] at bk)
             (try rw[Addr.add_zero'] at bk)
             replace fa:=eq_true fa
             replace fb:=eq_true fb
             refine Ze (n:=12) (S:=fun w'=>w'.cell? ⟨μ,0,none⟩=some (.int .i64 Y)∧w'.cell? ⟨μ,1,none⟩=some (.int .i64 Z)∧w'.cell? ⟨μ,2,none⟩=some (.int .i64 au)∧w'.cell? ⟨μ,3,none⟩=some (.int .i64 ζ)∧w'.cell? ⟨μ,4,none⟩=some (.int .i64 η)∧w'.cell? ⟨μ,5,none⟩=some (.int .i64 θ)∧w'.cell? ⟨μ,6,none⟩=some (.int .i64 ι)∧w'.cell? ⟨μ,7,none⟩=some (.int .i64 κ)∧w'.cell? ⟨μ,8,none⟩=some (.int .i64 ν)∧w'.cell? ⟨μ,9,none⟩=some (.int .i64 φ)∧w'.cell? ⟨av,0,none⟩=some (.int .i64 2)∧w'.cell? ⟨av,1,none⟩=some (.int .i64 1)∧w'.cell? ⟨av,2,none⟩=some (.int .i64 (-1))∧w'.cell? ar=some (.int .i64 ((Qb B 0).f0.f0))∧w'.cell? ⟨ar.block,ar.off+1,none⟩=some (.int .i64 ((Qb B 0).f0.f1))∧w'.cell? ⟨ar.block,ar.off+2,none⟩=some (.int .i64 ((Qb B 0).f0.f2))∧w'.cell? ⟨ar.block,ar.off+3,none⟩=some (.int .i64 ((Qb B 0).f0.f3))∧w'.cell? ⟨ar.block,ar.off+4,none⟩=some (.int .i64 ((Qb B 0).f0.f4.f0))∧w'.cell? ⟨ar.block,ar.off+5,none⟩=some (.int .i64 ((Qb B 0).f0.f4.f1))∧w'.cell? ⟨ar.block,ar.off+6,none⟩=some (.int .i64 ((Qb B 0).f0.f4.f2))∧w'.cell? ⟨ar.block,ar.off+7,none⟩=some (.int .i64 ((Qb B 0).f1))∧w'.cell? ⟨ar.block,ar.off+8,none⟩=some (.bool ((Qb B 0).f2))∧w'.cell? ⟨ar.block,ar.off+9,none⟩=some (.bool ((Qb B 0).f3))) (ds:=[]) #[false,false,false,false,false,false,false,false,false,false,false,false] kr rfl rfl ⟨(Qa δ.out 0).trans rfl,(Qa δ.out 1).trans rfl,(Qa δ.out 2).trans rfl,(Qa δ.out 3).trans rfl,(Qa δ.out 4).trans rfl,(Qa δ.out 5).trans rfl,(Qa δ.out 6).trans rfl,(Qa δ.out 7).trans rfl,(Qa δ.out 8).trans rfl,(Qa δ.out 9).trans rfl,(Qa O.out 0).trans rfl,(Qa O.out 1).trans rfl,(Qa O.out 2).trans rfl,dy,e5,e6,ba,bb,bd,bg,bh,bi,bk⟩ (fun hHeld=>?_);refine Q5 newellaw21_awake.L4 newellaw21_awake.Vz (fun HT_ HW_=>?_)
             generalize fp.drew=jo at γ ξ δ O a0 HB dy e5 e6 ba bb bd bg bh bi bk hHeld ⊢
             refine qP 1 (some 24) (bN 12 2) HT_ ?_
             refine qP 2 (some 25) (bN 12 6) HT_ ?_
             refine qP 4 (some 27) (bN 12 22) HT_ ?_
             refine qT 0 (some 23) (bN 12 23) HT_ HW_ hHeld ?_
             refine qT 3 (some 26) (bN 12 31) HT_ HW_ hHeld ?_
             refine qT 5 (some 28) (bN 12 63) HT_ HW_ hHeld ?_
             refine Zf (i:=6) (N:=some 29) (bN 12 127) rfl rfl (Q3 HT_.out kr) (by decide) (fun K hK=>?_)
             refine Zd Try.func10 kr rfl #[.agg #[.int .i64 Y,.int .i64 Z,.int .i64 au,.int .i64 ζ,.int .i64 η,.int .i64 θ,.int .i64 ι,.int .i64 κ,.int .i64 ν,.int .i64 φ],.agg #[.int .i64 ((Qb B 0).f0.f0),.int .i64 ((Qb B 0).f0.f1),.int .i64 ((Qb B 0).f0.f2),.int .i64 ((Qb B 0).f0.f3),.int .i64 ((Qb B 0).f0.f4.f0),.int .i64 ((Qb B 0).f0.f4.f1),.int .i64 ((Qb B 0).f0.f4.f2),.int .i64 ((Qb B 0).f1),.bool ((Qb B 0).f2),.bool ((Qb B 0).f3)],.agg #[.slice none 0 0,.slice none 0 0,.slice none 0 0],.agg #[.int .i64 2,.int .i64 1,.int .i64 (-1)]] (by rfl) rfl rfl qM ?_
             refine(group_Cost.calls k Y Z au ζ η θ ι κ ν φ ((Qb B 0).f0.f0) ((Qb B 0).f0.f1) ((Qb B 0).f0.f2) ((Qb B 0).f0.f3) ((Qb B 0).f0.f4.f0) ((Qb B 0).f0.f4.f1) ((Qb B 0).f0.f4.f2) ((Qb B 0).f1) ((Qb B 0).f2) ((Qb B 0).f3) _ _ ([]:List Int) _ _ ([]:List Int) _ _ ([]:List Int) 2 1 (-1) ci dm _ ?side1 ?side2 ?side3 ?side4 ?side5 ?side6 A3.out).mono ?_
             (case side1=>exact Kd.Jp _ _)
             (case side2=>exact Nat.le_refl _)
             (case side3=>exact Kd.Jp _ _)
             (case side4=>exact Nat.le_refl _)
             (case side5=>exact Kd.Jp _ _)
             (case side6=>exact Nat.le_refl _)
             rintro e fc ⟨rfl,hb⟩
             have cz:=(hb.cell (World.block_lt_of_cell? _ _ (hHeld.2.2.2.2.2.2.2.2.2.2.2.2.2.1))).trans (hHeld.2.2.2.2.2.2.2.2.2.2.2.2.2.1)
             have d1:=(hb.cell (World.block_lt_of_cell? _ _ (hHeld.2.2.2.2.2.2.2.2.2.2.2.2.2.2.1))).trans (hHeld.2.2.2.2.2.2.2.2.2.2.2.2.2.2.1)
             have d2:=(hb.cell (World.block_lt_of_cell? _ _ (hHeld.2.2.2.2.2.2.2.2.2.2.2.2.2.2.2.1))).trans (hHeld.2.2.2.2.2.2.2.2.2.2.2.2.2.2.2.1)
             have d3:=(hb.cell (World.block_lt_of_cell? _ _ (hHeld.2.2.2.2.2.2.2.2.2.2.2.2.2.2.2.2.1))).trans (hHeld.2.2.2.2.2.2.2.2.2.2.2.2.2.2.2.2.1)
             have d4:=(hb.cell (World.block_lt_of_cell? _ _ (hHeld.2.2.2.2.2.2.2.2.2.2.2.2.2.2.2.2.2.1))).trans (hHeld.2.2.2.2.2.2.2.2.2.2.2.2.2.2.2.2.2.1)
             have d5:=(hb.cell (World.block_lt_of_cell? _ _ (hHeld.2.2.2.2.2.2.2.2.2.2.2.2.2.2.2.2.2.2.1))).trans (hHeld.2.2.2.2.2.2.2.2.2.2.2.2.2.2.2.2.2.2.1)
             have d7:=(hb.cell (World.block_lt_of_cell? _ _ (hHeld.2.2.2.2.2.2.2.2.2.2.2.2.2.2.2.2.2.2.2.1))).trans (hHeld.2.2.2.2.2.2.2.2.2.2.2.2.2.2.2.2.2.2.2.1)
             have d8:=(hb.cell (World.block_lt_of_cell? _ _ (hHeld.2.2.2.2.2.2.2.2.2.2.2.2.2.2.2.2.2.2.2.2.1))).trans (hHeld.2.2.2.2.2.2.2.2.2.2.2.2.2.2.2.2.2.2.2.2.1)
             have d9:=(hb.cell (World.block_lt_of_cell? _ _ (hHeld.2.2.2.2.2.2.2.2.2.2.2.2.2.2.2.2.2.2.2.2.2.1))).trans (hHeld.2.2.2.2.2.2.2.2.2.2.2.2.2.2.2.2.2.2.2.2.2.1)
             have da:=(hb.cell (World.block_lt_of_cell? _ _ (hHeld.2.2.2.2.2.2.2.2.2.2.2.2.2.2.2.2.2.2.2.2.2.2))).trans (hHeld.2.2.2.2.2.2.2.2.2.2.2.2.2.2.2.2.2.2.2.2.2.2)
             refine⟨_,rfl, ?_⟩
             replace γ:=sRb γ hb
             replace ξ :=sRb ξ hb
             replace δ :=sBk δ hb
             replace O:=sBk O hb
             replace a0:=sBk a0 hb
             replace HB:=sHb hb
             (try clear hb)
             (try clear a4)
             (try clear hk)
             (try clear hi)
             refine hK.out _ _ ⟨qc δ,qc δ,qc δ,qc δ,qc δ,qc δ,qc δ,qc δ,qc δ,qc δ,qc O,qc O,qc O,cz,d1,d2,d3,d4,d5,d7,d8,d9,da⟩ (fun hHeld=>?_)
             clear hK K
             refine qN (some 29) ?_
             refine qP 7 (some 22) (bN 12 255) HT_ ?_
             refine qP 8 (some 30) (bN 12 511) HT_ ?_
             refine qP 9 (some 31) (bN 12 1023) HT_ ?_
             refine qP 10 (some 5) (bN 12 2047) HT_ ?_
             refine qP 11 (some 6) (bN 12 4095) HT_ ?_
             refine Zi (Zc HT_.out kr) ?_
             try go_wp2
             replace γ:=aK (Kd.Qy γ.out)
             replace ξ :=aK (Kd.Qy ξ.out)
             replace δ :=aK (Qd δ.out)
             replace O:=aK (Qd O.out)
             replace a0:=aK (Qd a0.out)
             replace HB:=aK (Qg HB.out)
             have f8:0≤(1:Int):=(by omega)
             have fe:1<(B.length:Int):=of_decide_eq_true (by assumption)
             obtain⟨gu,ho,bl,bm,bo,bu,bv,bw,bz,ca,cb,ce⟩:=Yy (Kd.Qw γ.out).2.2 1 f8 fe
             obtain rfl:ar=gu:=(by injection ho)
             (try simp only[show(1:Int).toNat=1 from rfl,Nat.reduceMul,Nat.reduceEqDiff,Go.Addr.add,↓reduceIte] at bl)
             (try simp only[show(1:Int).toNat=1 from rfl,Nat.reduceMul,Nat.reduceEqDiff,Go.Addr.add,↓reduceIte] at bm)
             (try simp only[show(1:Int).toNat=1 from rfl,Nat.reduceMul,Nat.reduceEqDiff,Go.Addr.add,↓reduceIte] at bo)
             (try simp only[show(1:Int).toNat=1 from rfl,Nat.reduceMul,Nat.reduceEqDiff,Go.Addr.add,↓reduceIte] at bu)
             (try simp only[show(1:Int).toNat=1 from rfl,Nat.reduceMul,Nat.reduceEqDiff,Go.Addr.add,↓reduceIte] at bv)
             (try simp only[show(1:Int).toNat=1 from rfl,Nat.reduceMul,Nat.reduceEqDiff,Go.Addr.add,↓reduceIte] at bw)
             (try simp only[show(1:Int).toNat=1 from rfl,Nat.reduceMul,Nat.reduceEqDiff,Go.Addr.add,↓reduceIte] at bz)
             (try simp only[show(1:Int).toNat=1 from rfl,Nat.reduceMul,Nat.reduceEqDiff,Go.Addr.add,↓reduceIte] at ca)
             (try simp only[show(1:Int).toNat=1 from rfl,Nat.reduceMul,Nat.reduceEqDiff,Go.Addr.add,↓reduceIte] at cb)
             (try simp only[show(1:Int).toNat=1 from rfl,Nat.reduceMul,Nat.reduceEqDiff,Go.Addr.add,↓reduceIte] at ce)
             have j6:(1<B.length)=True:=eq_true (by omega)
             (try rw[show((1:Int)).toNat=1 from rfl] at bl)
             (try rw[show 1 * 10=10 from rfl] at bl)
             (try rw[show((1:Int)).toNat=1 from rfl] at bm)
             (try rw[show 1 * 10=10 from rfl] at bm)
             (try rw[show((1:Int)).toNat=1 from rfl] at bo)
             (try rw[show 1 * 10=10 from rfl] at bo)
             (try rw[show((1:Int)).toNat=1 from rfl] at bu)
             (try rw[show 1 * 10=10 from rfl] at bu)
             (try rw[show((1:Int)).toNat=1 from rfl] at bv)
             (try rw[show 1 * 10=10 from rfl] at bv)
             (try rw[show((1:Int)).toNat=1 from rfl] at bw)
             (try rw[show 1 * 10=10 from rfl] at bw)
             (try rw[show((1:Int)).toNat=1 from rfl] at bz)
             (try rw[show 1 * 10=10 from rfl] at bz)
             (try rw[show((1:Int)).toNat=1 from rfl] at ca)
             (try rw[show 1 * 10=10 from rfl] at ca)
             (try rw[show((1:Int)).toNat=1 from rfl] at cb)
             (try rw[show 1 * 10=10 from rfl] at cb)
             (try rw[show((1:Int)).toNat=1 from rfl] at ce)
             (try rw[show 1 * 10=10 from rfl] at ce)
             replace f8:=eq_true f8
             replace fe:=eq_true fe
             refine Ze (n:=12) (S:=fun w'=>w'.cell? ⟨μ,0,none⟩=some (.int .i64 Y)∧w'.cell? ⟨μ,1,none⟩=some (.int .i64 Z)∧w'.cell? ⟨μ,2,none⟩=some (.int .i64 au)∧w'.cell? ⟨μ,3,none⟩=some (.int .i64 ζ)∧w'.cell? ⟨μ,4,none⟩=some (.int .i64 η)∧w'.cell? ⟨μ,5,none⟩=some (.int .i64 θ)∧w'.cell? ⟨μ,6,none⟩=some (.int .i64 ι)∧w'.cell? ⟨μ,7,none⟩=some (.int .i64 κ)∧w'.cell? ⟨μ,8,none⟩=some (.int .i64 ν)∧w'.cell? ⟨μ,9,none⟩=some (.int .i64 φ)∧w'.cell? ⟨av,0,none⟩=some (.int .i64 2)∧w'.cell? ⟨av,1,none⟩=some (.int .i64 1)∧w'.cell? ⟨av,2,none⟩=some (.int .i64 (-1))∧w'.cell? ⟨ar.block,ar.off+10,none⟩=some (.int .i64 ((Qb B 1).f0.f0))∧w'.cell? ⟨ar.block,ar.off+10+1,none⟩=some (.int .i64 ((Qb B 1).f0.f1))∧w'.cell? ⟨ar.block,ar.off+10+2,none⟩=some (.int .i64 ((Qb B 1).f0.f2))∧w'.cell? ⟨ar.block,ar.off+10+3,none⟩=some (.int .i64 ((Qb B 1).f0.f3))∧w'.cell? ⟨ar.block,ar.off+10+4,none⟩=some (.int .i64 ((Qb B 1).f0.f4.f0))∧w'.cell? ⟨ar.block,ar.off+10+5,none⟩=some (.int .i64 ((Qb B 1).f0.f4.f1))∧w'.cell? ⟨ar.block,ar.off+10+6,none⟩=some (.int .i64 ((Qb B 1).f0.f4.f2))∧w'.cell? ⟨ar.block,ar.off+10+7,none⟩=some (.int .i64 ((Qb B 1).f1))∧w'.cell? ⟨ar.block,ar.off+10+8,none⟩=some (.bool ((Qb B 1).f2))∧w'.cell? ⟨ar.block,ar.off+10+9,none⟩=some (.bool ((Qb B 1).f3))) (ds:=[]) #[false,false,false,false,false,false,false,false,false,false,false,false] kr rfl rfl ⟨(Qa δ.out 0).trans rfl,(Qa δ.out 1).trans rfl,(Qa δ.out 2).trans rfl,(Qa δ.out 3).trans rfl,(Qa δ.out 4).trans rfl,(Qa δ.out 5).trans rfl,(Qa δ.out 6).trans rfl,(Qa δ.out 7).trans rfl,(Qa δ.out 8).trans rfl,(Qa δ.out 9).trans rfl,(Qa O.out 0).trans rfl,(Qa O.out 1).trans rfl,(Qa O.out 2).trans rfl,bl,bm,bo,bu,bv,bw,bz,ca,cb,ce⟩ (fun hHeld=>?_);refine Q5 newellaw21_awake.Vp newellaw21_awake.Kg (fun HT_ HW_=>?_)
             generalize fc.drew=ku at γ ξ δ O a0 HB bl bm bo bu bv bw bz ca cb ce hHeld ⊢
             refine qP 1 (some 34) (bN 12 2) HT_ ?_
             refine qP 2 (some 35) (bN 12 6) HT_ ?_
             refine qP 4 (some 37) (bN 12 22) HT_ ?_
             refine qT 0 (some 33) (bN 12 23) HT_ HW_ hHeld ?_
             refine qT 3 (some 36) (bN 12 31) HT_ HW_ hHeld ?_
             refine qT 5 (some 38) (bN 12 63) HT_ HW_ hHeld ?_
             refine Zf (i:=6) (N:=some 39) (bN 12 127) rfl rfl (Q3 HT_.out kr) (by decide) (fun K hK=>?_)
             refine Zd Try.func10 kr rfl #[.agg #[.int .i64 Y,.int .i64 Z,.int .i64 au,.int .i64 ζ,.int .i64 η,.int .i64 θ,.int .i64 ι,.int .i64 κ,.int .i64 ν,.int .i64 φ],.agg #[.int .i64 ((Qb B 1).f0.f0),.int .i64 ((Qb B 1).f0.f1),.int .i64 ((Qb B 1).f0.f2),.int .i64 ((Qb B 1).f0.f3),.int .i64 ((Qb B 1).f0.f4.f0),.int .i64 ((Qb B 1).f0.f4.f1),.int .i64 ((Qb B 1).f0.f4.f2),.int .i64 ((Qb B 1).f1),.bool ((Qb B 1).f2),.bool ((Qb B 1).f3)],.agg #[.slice none 0 0,.slice none 0 0,.slice none 0 0],.agg #[.int .i64 2,.int .i64 1,.int .i64 (-1)]] (by rfl) rfl rfl qM ?_
             refine(group_Cost.calls k Y Z au ζ η θ ι κ ν φ ((Qb B 1).f0.f0) ((Qb B 1).f0.f1) ((Qb B 1).f0.f2) ((Qb B 1).f0.f3) ((Qb B 1).f0.f4.f0) ((Qb B 1).f0.f4.f1) ((Qb B 1).f0.f4.f2) ((Qb B 1).f1) ((Qb B 1).f2) ((Qb B 1).f3) _ _ ([]:List Int) _ _ ([]:List Int) _ _ ([]:List Int) 2 1 (-1) cn co _ ?side1 ?side2 ?side3 ?side4 ?side5 ?side6 A5.out).mono ?_
             (case side1=>exact Kd.Jp _ _)
             (case side2=>exact Nat.le_refl _)
             (case side3=>exact Kd.Jp _ _)
             (case side4=>exact Nat.le_refl _)
             (case side5=>exact Kd.Jp _ _)
             (case side6=>exact Nat.le_refl _)
             rintro e gh ⟨rfl,hb⟩
             have cz:=(hb.cell (World.block_lt_of_cell? _ _ (hHeld.2.2.2.2.2.2.2.2.2.2.2.2.2.1))).trans (hHeld.2.2.2.2.2.2.2.2.2.2.2.2.2.1)
             have d1:=(hb.cell (World.block_lt_of_cell? _ _ (hHeld.2.2.2.2.2.2.2.2.2.2.2.2.2.2.1))).trans (hHeld.2.2.2.2.2.2.2.2.2.2.2.2.2.2.1)
             have d2:=(hb.cell (World.block_lt_of_cell? _ _ (hHeld.2.2.2.2.2.2.2.2.2.2.2.2.2.2.2.1))).trans (hHeld.2.2.2.2.2.2.2.2.2.2.2.2.2.2.2.1)
             have d3:=(hb.cell (World.block_lt_of_cell? _ _ (hHeld.2.2.2.2.2.2.2.2.2.2.2.2.2.2.2.2.1))).trans (hHeld.2.2.2.2.2.2.2.2.2.2.2.2.2.2.2.2.1)
             have d4:=(hb.cell (World.block_lt_of_cell? _ _ (hHeld.2.2.2.2.2.2.2.2.2.2.2.2.2.2.2.2.2.1))).trans (hHeld.2.2.2.2.2.2.2.2.2.2.2.2.2.2.2.2.2.1)
             have d5:=(hb.cell (World.block_lt_of_cell? _ _ (hHeld.2.2.2.2.2.2.2.2.2.2.2.2.2.2.2.2.2.2.1))).trans (hHeld.2.2.2.2.2.2.2.2.2.2.2.2.2.2.2.2.2.2.1)
             have d7:=(hb.cell (World.block_lt_of_cell? _ _ (hHeld.2.2.2.2.2.2.2.2.2.2.2.2.2.2.2.2.2.2.2.1))).trans (hHeld.2.2.2.2.2.2.2.2.2.2.2.2.2.2.2.2.2.2.2.1)
             have d8:=(hb.cell (World.block_lt_of_cell? _ _ (hHeld.2.2.2.2.2.2.2.2.2.2.2.2.2.2.2.2.2.2.2.2.1))).trans (hHeld.2.2.2.2.2.2.2.2.2.2.2.2.2.2.2.2.2.2.2.2.1)
             have d9:=(hb.cell (World.block_lt_of_cell? _ _ (hHeld.2.2.2.2.2.2.2.2.2.2.2.2.2.2.2.2.2.2.2.2.2.1))).trans (hHeld.2.2.2.2.2.2.2.2.2.2.2.2.2.2.2.2.2.2.2.2.2.1)
             have da:=(hb.cell (World.block_lt_of_cell? _ _ (hHeld.2.2.2.2.2.2.2.2.2.2.2.2.2.2.2.2.2.2.2.2.2.2))).trans (hHeld.2.2.2.2.2.2.2.2.2.2.2.2.2.2.2.2.2.2.2.2.2.2)
             refine⟨_,rfl, ?_⟩
             replace γ:=sRb γ hb
             replace ξ :=sRb ξ hb
             replace δ :=sBk δ hb
             replace O:=sBk O hb
             replace a0:=sBk a0 hb
             replace HB:=sHb hb
             (try clear hb)
             (try clear a4)
             (try clear hk)
             (try clear hi)
             refine hK.out _ _ ⟨qc δ,qc δ,qc δ,qc δ,qc δ,qc δ,qc δ,qc δ,qc δ,qc δ,qc O,qc O,qc O,cz,d1,d2,d3,d4,d5,d7,d8,d9,da⟩ (fun hHeld=>?_)
             clear hK K
             refine qN (some 39) ?_
             refine qP 7 (some 32) (bN 12 255) HT_ ?_
             refine qP 8 (some 40) (bN 12 511) HT_ ?_
             refine qP 9 (some 41) (bN 12 1023) HT_ ?_
             refine qP 10 (some 7) (bN 12 2047) HT_ ?_
             refine qP 11 (some 8) (bN 12 4095) HT_ ?_
             refine Zi (Zc HT_.out kr) ?_
             obtain⟨dw,gf,gg,gv,gw,gx,gy,gz,h6,h7,h0,h4,h5,h8,ha,he,hh,hj,hl,hu⟩:=Zg δ.out
             obtain⟨dz,e0,e3,e4⟩:=qD2 a0.out
             obtain⟨ft,fu,fv,fw,fx,fy⟩:=qD3 O.out
             try go_wp2_with (first|((with_reducible refine Qf (f:=14) rfl ?_);refine Qt (some 47) rfl rfl Try.func14 kr rfl #[.agg #[.int .i64 Y,.int .i64 Z,.int .i64 au,.int .i64 ζ,.int .i64 η,.int .i64 θ,.int .i64 ι,.int .i64 κ,.int .i64 ν,.int .i64 φ],.slice (some ar) B.length f7,.int .i64 0,.agg #[.slice bq ε.length bp,.slice none 0 0],.agg #[.int .i64 2,.int .i64 1,.int .i64 (-1)]] rfl qM ?_;(refine(group_Pick.calls k Y Z au ζ η θ ι κ ν φ _ _ B 0 _ _ ε _ _ ([]:List (S86)) 2 1 (-1) cu cv _ ?side1 ?side2 ?side3 ?side4 ?side5 ?side6 A6.out).mono ?_);(case side1=>repeat(first|exact(Kd.Qw γ.out).2.2|(with_reducible refine Kd.J9 ?_ _)|(with_reducible refine Kd.J8 ?_ _)|(with_reducible refine Kd.Ge ?_)));(case side2=>exact(Kd.Qw γ.out).2.1);(case side3=>repeat(first|exact(Kd.Qw ξ.out).2.2|(with_reducible refine Kd.J9 ?_ _)|(with_reducible refine Kd.J8 ?_ _)|(with_reducible refine Kd.Ge ?_)));(case side4=>exact(Kd.Qw ξ.out).2.1);(case side5=>exact Kd.Jp _ _);(case side6=>exact Nat.le_refl _);rintro e ko ⟨rfl,hb⟩;refine⟨_,rfl, ?_⟩;replace γ:=sRb γ hb;replace ξ :=sRb ξ hb;replace δ :=sBk δ hb;replace O:=sBk O hb;replace a0:=sBk a0 hb;replace HB:=sHb hb;(try clear hb);(try clear a4);(try clear hk);(try clear hi);obtain⟨ej,fj,lm,ln,lp,ly,lz,i1,i9,ia,ek,gl,m0,m1,m2,m3,m4,ii,ij,il⟩:=Zg δ.out;obtain⟨i2,iz,j4,j5⟩:=qD2 a0.out)|((with_reducible refine Qf (f:=21) rfl ?_);refine Qt (some 54) rfl rfl Try.func21 kr rfl #[.agg #[.int .i64 Y,.int .i64 Z,.int .i64 au,.int .i64 ζ,.int .i64 η,.int .i64 θ,.int .i64 ι,.int .i64 κ,.int .i64 ν,.int .i64 φ],.slice (some ar) B.length f7,.int .i64 0,.agg #[.slice bq ε.length bp,.slice none 0 0]] rfl qM ?_;(refine(group_Spread.calls k Y Z au ζ η θ ι κ ν φ _ _ B 0 _ _ ε _ _ ([]:List (S86)) a2 cw cx _ ?side1 ?side2 ?side3 ?side4 ?side5 ?side6 A7.out).mono ?_);(case side1=>repeat(first|exact(Kd.Qw γ.out).2.2|(with_reducible refine Kd.J9 ?_ _)|(with_reducible refine Kd.J8 ?_ _)|(with_reducible refine Kd.Ge ?_)));(case side2=>exact(Kd.Qw γ.out).2.1);(case side3=>repeat(first|exact(Kd.Qw ξ.out).2.2|(with_reducible refine Kd.J9 ?_ _)|(with_reducible refine Kd.J8 ?_ _)|(with_reducible refine Kd.Ge ?_)));(case side4=>exact(Kd.Qw ξ.out).2.1);(case side5=>exact Kd.Jp _ _);(case side6=>exact Nat.le_refl _);rintro e jh ⟨je,jf,rfl,af,ah,hb⟩;refine⟨_,rfl, ?_⟩;have b6:=aK (Kd.Q8 (Kd.Jn (Kd.Le af (Kd.J0 (kra ξ))) (g:=av) (o:=.cells #[.int .i64 2,.int .i64 1,.int .i64 (-1)] 36 (0,0)) (bka O)) (Qn bel));have cm:=aK (Kd.Q8 ah (Qn bel));replace γ:=sRb γ hb;replace ξ :=aK (Kd.Vi (kra ξ) (Kd.Uq af) hb);replace δ :=sBk δ hb;replace O:=sBk O hb;replace a0:=sBk a0 hb;replace HB:=sHb hb;(try clear hb);(try clear a4);(try clear hk);(try clear hi);(try clear af);(try clear ah))|((with_reducible refine Qe (N:=11) rfl ?_);(try(refine Zs (by rfl) ?_;dsimp only));refine qE 11 #[.slice none 0 0,.slice none 0 0] 50 ?_;intro b8 hg lq hbox hb;have az:=aK hbox;have j7:=sGe hg;have j9:=sGe hg;have ea:=sNl δ hg;have ee:=sNg δ hg;have et:=sNl O hg;have eu:=sNg O hg;have ew:=sNl a0 hg;have ey:=sNg a0 hg;replace γ:=sRb γ hb;replace ξ :=sRb ξ hb;replace b6:=sRb b6 hb;replace cm:=sRb cm hb;replace δ :=sBk δ hb;replace O:=sBk O hb;replace a0:=sBk a0 hb;replace HB:=sHb hb;clear hb hbox hg;obtain⟨jg,b4,hx⟩:=Kd.Q7 b6.out;subst hx;have l2:=ee.out;have l3:=ea.out;have fh:=eu.out;have ga:=et.out;have ib:=ey.out;have ik:=ew.out;obtain⟨ef,eg,eh,ei⟩:=qD2 az.out;obtain⟨db,dj,hy⟩:=Kd.Q7 cm.out;subst hy;have ff:0≤(0:Int):=(by omega);have fg:0<(a2.length:Int):=of_decide_eq_true (by assumption);obtain⟨am,i0,b0,b2,b3⟩:=Xc (Kd.Qw b6.out).2.2 0 ff fg;cases i0;have jb:(0<a2.length)=True:=eq_true (by omega);(try rw[show((0:Int)).toNat=0 from rfl] at b0);(try rw[show 0 * 3=0 from rfl] at b0);(try rw[Addr.add_zero'] at b0);(try rw[show((0:Int)).toNat=0 from rfl] at b2);(try rw[show 0 * 3=0 from rfl] at b2);(try rw[Addr.add_zero'] at b2);(try rw[show((0:Int)).toNat=0 from rfl] at b3);(try rw[show 0 * 3=0 from rfl] at b3);(try rw[Addr.add_zero'] at b3);have ac:am.block≠b8:=Kd.Ub (Kd.Zo b6.out az.out (by decide));have ag:am.block≠b8:=Kd.Ub (Kd.Zo b6.out az.out (by decide));replace b0:=(cell_far (p:=⟨b8,0,none⟩) (by first|(rw[add_block];exact ac)|(show(Addr.add _ _).block≠_;rw[add_block];exact ac)|exact ac) (.slice (some am) a2.length b4)).trans b0;replace b2:=(cell_far (p:=⟨b8,0,none⟩) (by first|(rw[add_block];exact ac)|(show(Addr.add _ _).block≠_;rw[add_block];exact ac)|exact ac) (.slice (some am) a2.length b4)).trans b2;replace b3:=(cell_far (p:=⟨b8,0,none⟩) (by first|(rw[add_block];exact ac)|(show(Addr.add _ _).block≠_;rw[add_block];exact ac)|exact ac) (.slice (some am) a2.length b4)).trans b3;replace b0:=(cell_far (p:=⟨b8,1,none⟩) (by first|(rw[add_block];exact ag)|(show(Addr.add _ _).block≠_;rw[add_block];exact ag)|exact ag) (.slice db cw.length dj)).trans b0;replace b2:=(cell_far (p:=⟨b8,1,none⟩) (by first|(rw[add_block];exact ag)|(show(Addr.add _ _).block≠_;rw[add_block];exact ag)|exact ag) (.slice db cw.length dj)).trans b2;replace b3:=(cell_far (p:=⟨b8,1,none⟩) (by first|(rw[add_block];exact ag)|(show(Addr.add _ _).block≠_;rw[add_block];exact ag)|exact ag) (.slice db cw.length dj)).trans b3;clear ac;clear ag;replace ff:=eq_true ff;replace fg:=eq_true fg;obtain⟨ev,i3,i4,ja,jj,jk,k7,im,io,ip,i5,i6,i7,k8,k9,ka,kb,iq,ir,it⟩:=Zg δ.out;obtain⟨ic,ie,ig,ih⟩:=qD2 a0.out)|(go_at_call 17;(refine(group_Check.calls k Y Z au ζ η θ ι κ ν φ _ _ B _ _ ε _ _ ([]:List (S86)) ab _ ?side1 ?side2 ?side3 ?side4 ?side5 ?side6 bf.out).mono ?_);(case side1=>refine(Kd.Qw (e:=31) (base:=w.heap.size) (ok:=fun k_=>True) (n:=B.length) (c:=f7) ?_).2.2;exact(by(with_reducible repeat first|apply Kd.Qv|apply Kd.Qu|apply Kd.Qy);exact(Kd.Q1 (Kd.Qx (Kd.Qx (Kd.Q4 γ.out az.out (by decide)) (fun _ hk=>hk.2) (.slice (some am) a2.length b4)) (fun _ hk=>hk.2) _) (fun _ h_=>h_.1))));(case side2=>exact(Kd.Qw γ.out).2.1);(case side3=>refine(Kd.Qw (e:=36) (base:=w.heap.size) (ok:=fun k_=>(k_≠av∧some k_≠(.slice (some am) a2.length b4:Value).ownBlock)) (n:= ε.length) (c:=bp) ?_).2.2;exact(by(with_reducible repeat first|apply Kd.Qv|apply Kd.Qu|apply Kd.Qy);exact(Kd.Q1 (Kd.Qx (Kd.Qx (Kd.Q4 ξ.out az.out (by decide)) (fun _ hk=>hk.2) (.slice (some am) a2.length b4)) (fun _ hk=>hk.2) _) (fun _ h_=>h_.1))));(case side4=>exact(Kd.Qw ξ.out).2.1);(case side5=>exact Kd.Jp _ _);(case side6=>exact Nat.le_refl _);rintro e bs ⟨rfl,hb⟩;have ρ:=aK (Kd.Z8 (by(with_reducible repeat first|apply Kd.Qv|apply Kd.Qu|apply Kd.Qy);exact(Kd.Q1 (Kd.Qx (Kd.Qx (Kd.Q4 γ.out az.out (by decide)) (fun _ hk=>hk.2) (.slice (some am) a2.length b4)) (fun _ hk=>hk.2) _) (fun _ h_=>h_.1))) hb);have τ :=aK (Kd.Z8 (by(with_reducible repeat first|apply Kd.Qv|apply Kd.Qu|apply Kd.Qy);exact(Kd.Q1 (Kd.Qx (Kd.Qx (Kd.Q4 ξ.out az.out (by decide)) (fun _ hk=>hk.2) (.slice (some am) a2.length b4)) (fun _ hk=>hk.2) _) (fun _ h_=>h_.1))) hb);have ω :=aK (Kd.Z8 (by(with_reducible repeat first|apply Kd.Qv|apply Kd.Qu|apply Kd.Qy);exact(Kd.Q1 (Kd.Qx (Kd.Qx (Kd.Q4 b6.out az.out (by decide)) (fun _ hk=>hk.2) (.slice (some am) a2.length b4)) (fun _ hk=>hk.2) _) (fun _ h_=>h_.1))) hb);have a3:=aK (Kd.Z8 (by(with_reducible repeat first|apply Kd.Qv|apply Kd.Qu|apply Kd.Qy);exact(Kd.Q1 (Kd.Qx (Kd.Qx (Kd.Q4 cm.out az.out (by decide)) (fun _ hk=>hk.2) (.slice (some am) a2.length b4)) (fun _ hk=>hk.2) _) (fun _ h_=>h_.1))) hb);have an:=aK (Qz (g:= μ) (o:=.cells #[.int .i64 Y,.int .i64 Z,.int .i64 au,.int .i64 ζ,.int .i64 η,.int .i64 θ,.int .i64 ι,.int .i64 κ,.int .i64 ν,.int .i64 φ] 25 (0,0)) (bka δ) hb);have b1:=aK (Qz (g:=av) (o:=.cells #[.int .i64 2,.int .i64 1,.int .i64 (-1)] 36 (0,0)) (bka O) hb);have b7:=aK (Qz (g:=aa) (o:=.cells #[.slice bq ε.length bp,.slice none 0 0] 50 (0,0)) (bka a0) hb);have br:=aK (Qz (g:=b8) (o:=.cells #[.slice (some am) a2.length b4,.slice db cw.length dj] 50 (0,0)) (by(with_reducible repeat first|refine Qm ?_ _|refine Qd ?_|refine Ql ?_ _);refine Qq (cs:=#[.slice (some am) a2.length b4,.slice none 0 0]) ?_ 1 _ rfl;(with_reducible repeat first|refine Qm ?_ _|refine Qd ?_|refine Ql ?_ _);refine Qq (cs:=#[.slice none 0 0,.slice none 0 0]) ?_ 0 _ rfl;(with_reducible repeat first|refine Qm ?_ _|refine Qd ?_|refine Ql ?_ _);exact az.out) hb);have ct:=aK (Q2 bel hb);clear γ;clear ξ;clear b6;clear cm;clear δ;clear O;clear a0;clear az;clear HB;have γ:=ρ;have ξ := τ;have b6:= ω;have cm:=a3;have δ :=an;have O:=b1;have a0:=b7;have az:=br;have HB:=ct;clear ρ τ ω a3 an b1 b7 br ct;(try clear hb);(try clear a4);(try clear hk);(try clear hi)))
             go_ret
             exact⟨rfl,HB.out⟩
            ·rw[if_neg σ] at H
             exact absurd H (by simp)
           ·rw[if_neg χ] at H
            exact absurd H (by simp)
          ·rw[if_neg a1] at H
           exact absurd H (by simp)
         ·rw[if_neg ae] at H
          exact absurd H (by simp)
        ·rw[if_neg ψ] at H
         exact absurd H (by simp)
       ·rw[if_neg a5] at H
        exact absurd H (by simp)
      ·rw[if_neg a6] at H
       exact absurd H (by simp)
     ·rw[if_neg c10] at H
      exact absurd H (by simp)
    ·rw[if_neg c9] at H
     exact absurd H (by simp)
   ·rw[if_neg c8] at H
    exact absurd H (by simp)
  ·rw[if_neg c4] at H
   exact absurd H (by simp)
 ·rw[if_neg c2] at H
  exact absurd H (by simp)
end Go.Proofs.Ytmfffemidlhcpaa.C
namespace Go.Proofs.Ytmfffemidlhcpaa.GrpPure
open Go.RowKit Go.Proofs.YtmfffemidlhcpaaW.PrintWords Go.Proofs.YtmfffemidlhcpaaW.PrintLast Go.Proofs.YtmfffemidlhcpaaW.PrintMore Go.Proofs.Ytmfffemidlhcpaa.C Go.Proofs.Ytmfffemidlhcpaa.DoorPure
set_option linter.unusedVariables false
set_option linter.unusedSimpArgs false
open Go.Proofs.Ytmfffemidlhcpaa.Call (i64 okB Lt)
theorem Cb {F C:Int} (hF:2≤F∧F≤64) (hC:1≤C∧C≤8):okB F C [] []=true:=by
 rw[Call.Yl]
 exact⟨hF,hC,⟨by simp,by simp⟩,⟨by simp,by simp⟩⟩
theorem Da {F C:Int} (hF:2≤F∧F≤64) (hC:1≤C∧C≤8) (B J X:Int) (hd:i64 J) (k:Nat) (hk:0<k):group_hall.f k F C B J X=some (Xf F C B J X):=by
 obtain⟨k,rfl⟩:∃ m,k=m+1:=⟨k-1,by omega⟩
 unfold group_hall.f
 rw[Call.Db k F C [] [] B J X (by simp) (by simp) (by unfold Call.i64;omega) hd]
 unfold Lt
 rw[if_pos (Cb hF hC)]
 cases Xf F C B J X <;> rfl
theorem Ls {F C:Int} (hF:2≤F∧F≤64) (hC:1≤C∧C≤8) {B J X:Int} (h:Xf F C B J X=true):0≤B∧B<F:=by
 have:=(Call.G4 hF hC).1 h
 omega
theorem Ec:newellaw21_awake.f 60=some true:=by kernel_rfl
theorem K7 (k:Nat) (hk:60≤k):newellaw21_awake.f k=some true:=M2 (g:=newellaw21_awake.f) newellaw21_awake.mono hk Ec
end Go.Proofs.Ytmfffemidlhcpaa.GrpPure
namespace Go.Proofs.Ytmfffemidlhcpaa.GrpPure
open Go.RowKit Go.Proofs.YtmfffemidlhcpaaW.PrintWords Go.Proofs.YtmfffemidlhcpaaW.PrintLast Go.Proofs.YtmfffemidlhcpaaW.PrintMore Go.Proofs.Ytmfffemidlhcpaa.C Go.Proofs.Ytmfffemidlhcpaa.DoorPure
set_option linter.unusedVariables false
set_option linter.unusedSimpArgs false
open Go.Proofs.Ytmfffemidlhcpaa.Call (i64 okB X3 Xp Xq Hall Ins)
def Gj (g0 g1 g2 g3 g4 g5 g6 g7 g8 g9:Int) (y:S31):Prop:=Kx g0 g1 g2 g3 g4 g5 g6 g7 g8 g9 y.f0.f0 y.f0.f1 y.f0.f2 y.f0.f3 y.f0.f4.f0 y.f0.f4.f1 y.f0.f4.f2 y.f1
instance (g0 g1 g2 g3 g4 g5 g6 g7 g8 g9:Int) (y:S31):Decidable (Gj g0 g1 g2 g3 g4 g5 g6 g7 g8 g9 y):=by unfold Gj;exact inferInstance
def Gk (g0 g1 g2 g3 g4 g5 g6 g7 g8 g9:Int) (y:S31):Bool:=decide (Gj g0 g1 g2 g3 g4 g5 g6 g7 g8 g9 y)
def Jc (g0 g1 g2 g3 g4 g5 g6 g7 g8 g9:Int) (L:List S31) (H:List Hall) (I:List Ins):Int:=
 if 1≤L.length∧L.length≤8 then (if L.all (Gk g0 g1 g2 g3 g4 g5 g6 g7 g8 g9)=true then (if okB g0 L.length H I=true then 0 else 190) else 210) else 210
theorem rdL (l:List S31) (i:Nat) (h:i<l.length):Qb l (i:Int)=l[i]:=by
 unfold Qb
 rw[Int.toNat_natCast,List.getD_eq_getElem?_getD,List.getElem?_eq_getElem h]
 rfl
theorem up1 {i:Nat} (h:i≤1000000000):wrap64 ((i:Int)+1)=((i+1:Nat):Int):=by unfold wrap64;omega
theorem Dt {n:Nat} (h:n≤1000000000):i64 (n:Int):=by unfold Call.i64;omega
theorem La (g0 g1 g2 g3 g4 g5 g6 g7 g8 g9:Int) (L:List S31) (H:List Hall) (I:List Ins) (hL:L.length≤100) (hH:H.length<900000000) (hI:I.length<900000000) (j:Nat):∀ (f i:Nat),i+j=L.length→j+20<f →
 group_Check.l0 f L L (L.length:Int) (i:Int) g0 g1 g2 g3 g4 g5 g6 g7 g8 g9 H I=some (if (L.drop i).all (Gk g0 g1 g2 g3 g4 g5 g6 g7 g8 g9)=true then (if okB g0 L.length H I=true then 0 else 190) else 210):=by
 induction j with
 |zero=>
  intro f i h hf
  obtain⟨f,rfl⟩:∃ m,f=m+2:=⟨f-2,by omega⟩
  simp only[group_Check.l0]
  rw[if_neg (by omega),List.drop_of_length_le (by omega)]
  unfold group_house.f
  simp only[Option.bind_some]
  rw[Call.Ym f g0 L.length H I hH hI (Dt (by omega))]
  simp
 |succ j ih=>
  intro f i h hf
  obtain⟨f,rfl⟩:∃ m,f=m+1:=⟨f-1,by omega⟩
  have hlt:i<L.length:=by omega
  simp only[group_Check.l0]
  rw[if_pos (by omega),if_pos (by omega),if_pos (by omega),rdL L i hlt,E3 _ _ _ _ _ _ _ _ _ _ _ _ _ _ _ _ _ _ _ _ f (by omega),up1 (by omega),ih f (i+1) (by omega) (by omega),List.drop_eq_getElem_cons hlt,List.all_cons]
  simp only[Option.bind_some]
  generalize hy:L[i]=y
  by_cases hc:Gj g0 g1 g2 g3 g4 g5 g6 g7 g8 g9 y
  ·have hb:Gk g0 g1 g2 g3 g4 g5 g6 g7 g8 g9 y=true:=decide_eq_true hc
   rw[hb,Bool.true_and]
   rw[show decide (Kx g0 g1 g2 g3 g4 g5 g6 g7 g8 g9 y.f0.f0 y.f0.f1 y.f0.f2 y.f0.f3 y.f0.f4.f0 y.f0.f4.f1 y.f0.f4.f2 y.f1)=true from hb,if_pos rfl]
  ·have hb:Gk g0 g1 g2 g3 g4 g5 g6 g7 g8 g9 y=false:=decide_eq_false hc
   rw[hb,Bool.false_and]
   rw[show decide (Kx g0 g1 g2 g3 g4 g5 g6 g7 g8 g9 y.f0.f0 y.f0.f1 y.f0.f2 y.f0.f3 y.f0.f4.f0 y.f0.f4.f1 y.f0.f4.f2 y.f1)=false from hb,if_neg (by decide),if_neg (by decide)]
theorem Vx (g0 g1 g2 g3 g4 g5 g6 g7 g8 g9:Int) (L:List S31) (H:List Hall) (I:List Ins) (hH:H.length<900000000) (hI:I.length<900000000) (f:Nat) (hf:200<f):
 group_Check.f f g0 g1 g2 g3 g4 g5 g6 g7 g8 g9 L H I=some (Jc g0 g1 g2 g3 g4 g5 g6 g7 g8 g9 L H I):=by
 obtain⟨f,rfl⟩:∃ m,f=m+1:=⟨f-1,by omega⟩
 unfold group_Check.f Jc
 by_cases h1:(L.length:Int)<1
 ·rw[if_pos h1,if_neg (by omega)]
  simp[group_Check.j0]
 rw[if_neg h1]
 by_cases O:(L.length:Int)>8
 ·rw[decide_eq_true O,if_neg (by omega)]
  simp[group_Check.j0]
 rw[decide_eq_false O,if_pos (by omega)]
 simp only[group_Check.j0]
 rw[if_neg (by decide)]
 have:=La g0 g1 g2 g3 g4 g5 g6 g7 g8 g9 L H I (by omega) hH hI L.length f 0 (by omega) (by omega)
 rw[List.drop_zero] at this
 exact this
theorem Wd (g0 g1 g2 g3 g4 g5 g6 g7 g8 g9:Int) (L:List S31) (H:List Hall) (I:List Ins) (hL:L.length≤100) (hH:H.length<900000000) (hI:I.length<900000000) (j:Nat):∀ (f i:Nat),i+j=L.length→j+H.length+I.length+20<f →
 newelref21_Check.l0 f L (i:Int) g0 g1 g2 g3 g4 g5 g6 g7 g8 g9 H I=some (if (L.drop i).all (Gk g0 g1 g2 g3 g4 g5 g6 g7 g8 g9)=true then (if okB g0 L.length H I=true then 0 else 190) else 210):=by
 induction j with
 |zero=>
  intro f i h hf
  obtain⟨f,rfl⟩:∃ m,f=m+2:=⟨f-2,by omega⟩
  simp only[newelref21_Check.l0]
  rw[if_neg (by omega),List.drop_of_length_le (by omega)]
  unfold newelref21_House.f
  simp only[Option.bind_some]
  rw[Call.Mc (f+1) g0 L.length H I (by omega) (by omega) (by omega)]
  cases okB g0 L.length H I <;> simp
 |succ j ih=>
  intro f i h hf
  obtain⟨f,rfl⟩:∃ m,f=m+1:=⟨f-1,by omega⟩
  have hlt:i<L.length:=by omega
  simp only[newelref21_Check.l0]
  rw[if_pos (by omega),if_pos (by omega),rdL L i hlt,Ng _ _ _ _ _ _ _ _ _ _ _ _ _ _ _ _ _ _ _ _ f (by omega),up1 (by omega),ih f (i+1) (by omega) (by omega),List.drop_eq_getElem_cons hlt,List.all_cons]
  simp only[Option.bind_some]
  generalize hy:L[i]=y
  by_cases hc:Gj g0 g1 g2 g3 g4 g5 g6 g7 g8 g9 y
  ·have hb:Gk g0 g1 g2 g3 g4 g5 g6 g7 g8 g9 y=true:=decide_eq_true hc
   rw[hb,Bool.true_and]
   rw[show decide (Kx g0 g1 g2 g3 g4 g5 g6 g7 g8 g9 y.f0.f0 y.f0.f1 y.f0.f2 y.f0.f3 y.f0.f4.f0 y.f0.f4.f1 y.f0.f4.f2 y.f1)=true from hb,if_pos rfl]
  ·have hb:Gk g0 g1 g2 g3 g4 g5 g6 g7 g8 g9 y=false:=decide_eq_false hc
   rw[hb,Bool.false_and]
   rw[show decide (Kx g0 g1 g2 g3 g4 g5 g6 g7 g8 g9 y.f0.f0 y.f0.f1 y.f0.f2 y.f0.f3 y.f0.f4.f0 y.f0.f4.f1 y.f0.f4.f2 y.f1)=false from hb,if_neg (by decide),if_neg (by decide)]
theorem Wu (g0 g1 g2 g3 g4 g5 g6 g7 g8 g9:Int) (L:List S31) (H:List Hall) (I:List Ins) (hH:H.length≤1000) (hI:I.length≤1000) (f:Nat) (hf:3000<f):
 newelref21_Check.f f g0 g1 g2 g3 g4 g5 g6 g7 g8 g9 L H I=some (Jc g0 g1 g2 g3 g4 g5 g6 g7 g8 g9 L H I):=by
 obtain⟨f,rfl⟩:∃ m,f=m+1:=⟨f-1,by omega⟩
 unfold newelref21_Check.f Jc
 by_cases h1:(L.length:Int)<1
 ·rw[if_pos h1,if_neg (by omega)]
  simp[newelref21_Check.j0]
 rw[if_neg h1]
 by_cases O:(L.length:Int)>8
 ·rw[decide_eq_true O,if_neg (by omega)]
  simp[newelref21_Check.j0]
 rw[decide_eq_false O,if_pos (by omega)]
 simp only[newelref21_Check.j0]
 rw[if_neg (by decide)]
 have:=Wd g0 g1 g2 g3 g4 g5 g6 g7 g8 g9 L H I (by omega) (by omega) (by omega) L.length f 0 (by omega) (by omega)
 rw[List.drop_zero] at this
 exact this
structure Ok (g0 g1 g2 g3 g4 g5 g6 g7 g8 g9:Int) (L:List S31) (H:List Hall) (I:List Ins):Prop where
 n:1≤L.length∧L.length≤8
 l:∀ y ∈ L,Gj g0 g1 g2 g3 g4 g5 g6 g7 g8 g9 y
 c:okB g0 L.length H I=true
theorem Ds {g0 g1 g2 g3 g4 g5 g6 g7 g8 g9:Int} {L:List S31} {H:List Hall} {I:List Ins} (h:Jc g0 g1 g2 g3 g4 g5 g6 g7 g8 g9 L H I=0):Ok g0 g1 g2 g3 g4 g5 g6 g7 g8 g9 L H I:=by
 unfold Jc at h
 by_cases h1:1≤L.length∧L.length≤8
 ·rw[if_pos h1] at h
  by_cases O:L.all (Gk g0 g1 g2 g3 g4 g5 g6 g7 g8 g9)=true
  ·rw[if_pos O] at h
   by_cases Z:okB g0 L.length H I=true
   ·exact⟨h1,fun y hy=>of_decide_eq_true (List.all_eq_true.1 O y hy),Z⟩
   ·rw[if_neg Z] at h;exact absurd h (by decide)
  ·rw[if_neg O] at h;exact absurd h (by decide)
 ·rw[if_neg h1] at h;exact absurd h (by decide)
theorem Ok.f {g0 g1 g2 g3 g4 g5 g6 g7 g8 g9:Int} {L:List S31} {H:List Hall} {I:List Ins} (h:Ok g0 g1 g2 g3 g4 g5 g6 g7 g8 g9 L H I):2≤g0∧g0≤64:=(Call.Yl.1 h.c).1
abbrev Dw (g0 g1 g2 g3 g4 g5 g6 g7 g8 g9:Int) (y:S31) (n B J:Int):Int:=Lu g0 g1 g2 g3 g6 g8 g9 y.f0.f0 y.f0.f1 y.f0.f2 y.f0.f3 y.f0.f4.f0 y.f0.f4.f1 y.f0.f4.f2 y.f1 n B J
def X7 (g0 g1 g2 g3 g4 g5 g6 g7 g8 g9:Int) (L:List S31) (H:List Hall) (I:List Ins) (B J i:Int):Int:=Dw g0 g1 g2 g3 g4 g5 g6 g7 g8 g9 (Qb L i) (Gw (X3 i I) (Xp i H) (Xq i H)) B J
theorem Wh {g0 g1 g2 g3 g4 g5 g6 g7 g8 g9:Int} {L:List S31} {H:List Hall} {I:List Ins} (h:Ok g0 g1 g2 g3 g4 g5 g6 g7 g8 g9 L H I) (hH:H.length≤1000) (hI:I.length≤1000) {B:Int} (J X:Int) (hx:0≤B∧B<g0) (i:Nat) (hi:i<L.length) (f:Nat) (hf:3000<f):
 group_pick_1.f f (i:Int) g0 g1 g2 g3 g4 g5 g6 g7 g8 g9 L H I B J X=some (X7 g0 g1 g2 g3 g4 g5 g6 g7 g8 g9 L H I B J i):=by
 have hn:=h.n
 unfold group_pick_1.f group_house.f X7
 simp only[Option.bind_some]
 rw[Call.Li f g0 L.length H I i (by omega) (by omega) (Dt (by omega)) (by omega),if_pos h.c,if_pos (show(0:Int)≤(i:Int)∧(i:Int)≤(L.length:Int)-1 by omega)]
 simp only[Option.bind_some]
 rw[if_pos (by omega),if_pos (by omega),rdL L i hi]
 have hl:Gj g0 g1 g2 g3 g4 g5 g6 g7 g8 g9 L[i]:=h.l _ (List.getElem_mem hi)
 generalize L[i]=y at hl ⊢
 rw[De J X _ _ _ _ _ f (by omega) hl hx]
 rfl
def Lc (a2 i:Int):Bool:=decide ((Go.bits .and .i64 (shr .i64 a2 i) 1)=1)
def Vv (bad:Int→Bool) (cost:Int→Int):Nat→Int→Int→Int
 |0,_,b=>b
 |j+1,i,b=>Vv bad cost j (i+1) (if bad i=true then b else if b<0 then i else if cost i<cost b then i else b)
abbrev In (L:List S31) (b:Int):Prop:=b = -1 ∨ ∃ m:Nat,b=(m:Int)∧m<L.length
theorem Mf {g0 g1 g2 g3 g4 g5 g6 g7 g8 g9:Int} {L:List S31} {H:List Hall} {I:List Ins} (h:Ok g0 g1 g2 g3 g4 g5 g6 g7 g8 g9 L H I) (hH:H.length≤1000) (hI:I.length≤1000) {B:Int} (J X a2:Int) (hx:0≤B∧B<g0) (j:Nat):∀ (f i:Nat) (b:Int),i+j=L.length→j+3001<f→In L b →
 group_pick.l0 f a2 b (L.length:Int) (i:Int) g0 g1 g2 g3 g4 g5 g6 g7 g8 g9 L H I B J X=some (Vv (Lc a2) (X7 g0 g1 g2 g3 g4 g5 g6 g7 g8 g9 L H I B J) j i b):=by
 have hn:=h.n
 induction j with
 |zero=>
  intro f i b hi hf hb
  obtain⟨f,rfl⟩:∃ m,f=m+1:=⟨f-1,by omega⟩
  simp only[group_pick.l0]
  rw[if_neg (by omega)]
  rfl
 |succ j ih=>
  intro f i b hi hf hb
  obtain⟨f,rfl⟩:∃ m,f=m+1:=⟨f-1,by omega⟩
  have hlt:i<L.length:=by omega
  simp only[group_pick.l0]
  rw[if_pos (by omega),if_pos (by omega),up1 (by omega),Vv]
  have O:=ih f (i+1) b (by omega) (by omega) hb
  have δ :=ih f (i+1) (i:Int) (by omega) (by omega) (Or.inr ⟨i,rfl,hlt⟩)
  rw[show(((i+1:Nat):Int))=(i:Int)+1 by omega] at O δ ⊢
  by_cases hc:(Go.bits .and .i64 (shr .i64 a2 (i:Int)) 1)=1
  ·rw[if_pos hc,show Lc a2 (i:Int)=true from decide_eq_true hc,if_pos rfl]
   exact O
  ·rw[if_neg hc,show Lc a2 (i:Int)=false from decide_eq_false hc]
   simp only[Bool.false_eq_true,if_false]
   by_cases Y:b<0
   ·rw[if_pos Y,if_pos Y]
    exact δ
   ·rw[if_neg Y,if_neg Y]
    obtain⟨m,rfl,hm⟩:∃ m:Nat,b=(m:Int)∧m<L.length:=hb.resolve_left (by omega)
    rw[Wh h hH hI J X hx i hlt f (by omega),Wh h hH hI J X hx m hm f (by omega)]
    simp only[Option.bind_some]
    by_cases hl:X7 g0 g1 g2 g3 g4 g5 g6 g7 g8 g9 L H I B J (i:Int)<X7 g0 g1 g2 g3 g4 g5 g6 g7 g8 g9 L H I B J (m:Int)
    ·rw[if_pos hl,if_pos hl]
     exact δ
    ·rw[if_neg hl,if_neg hl]
     exact O
abbrev Nn (g0 g1 g2 g3 g4 g5 g6 g7 g8 g9:Int) (L:List S31) (a2:Int) (H:List Hall) (I:List Ins) (B J:Int):Int:=Vv (Lc a2) (X7 g0 g1 g2 g3 g4 g5 g6 g7 g8 g9 L H I B J) L.length 0 (-1)
theorem Es {g0 g1 g2 g3 g4 g5 g6 g7 g8 g9:Int} {L:List S31} {H:List Hall} {I:List Ins} (h:Ok g0 g1 g2 g3 g4 g5 g6 g7 g8 g9 L H I) (hH:H.length≤1000) (hI:I.length≤1000) {B:Int} (J X a2:Int) (hx:0≤B∧B<g0) (f:Nat) (hf:3100<f):
 group_pick.f f g0 g1 g2 g3 g4 g5 g6 g7 g8 g9 L a2 H I B J X=some (Nn g0 g1 g2 g3 g4 g5 g6 g7 g8 g9 L a2 H I B J):=by
 have hn:=h.n
 unfold group_pick.f
 exact Mf h hH hI J X a2 hx L.length f 0 (-1) (by omega) (by omega) (Or.inl rfl)
theorem N3 (a2:Int) (i:Nat) (h:i≤1000):newelref21_Fault.f a2 (i:Int)=some (Lc a2 i):=by
 unfold newelref21_Fault.f
 have e:IntKind.u64.wrap (i:Int)=(i:Int):=by
  simp[IntKind.wrap,IntKind.bits,IntKind.signed]
  omega
 rw[e,if_pos (by omega)]
 congr 1
theorem Ws {g0 g1 g2 g3 g4 g5 g6 g7 g8 g9:Int} {L:List S31} {H:List Hall} {I:List Ins} (h:Ok g0 g1 g2 g3 g4 g5 g6 g7 g8 g9 L H I) (hH:H.length≤1000) (hI:I.length≤1000) {B:Int} (J X a2:Int) (hx:0≤B∧B<g0) (j:Nat):∀ (f i:Nat) (b c:Int),i+j=L.length→j+4001<f→(0≤b→c=X7 g0 g1 g2 g3 g4 g5 g6 g7 g8 g9 L H I B J b) →
 newelref21_Pick.l0 f L a2 b c (i:Int) g0 g1 g2 g3 g4 g5 g6 g7 g8 g9 H I B J X=some (Vv (Lc a2) (X7 g0 g1 g2 g3 g4 g5 g6 g7 g8 g9 L H I B J) j i b):=by
 have hn:=h.n
 induction j with
 |zero=>
  intro f i b c hi hf hb
  obtain⟨f,rfl⟩:∃ m,f=m+1:=⟨f-1,by omega⟩
  simp only[newelref21_Pick.l0]
  rw[if_neg (by omega)]
  rfl
 |succ j ih=>
  intro f i b c hi hf hb
  obtain⟨f,rfl⟩:∃ m,f=m+1:=⟨f-1,by omega⟩
  have hlt:i<L.length:=by omega
  have hl:Gj g0 g1 g2 g3 g4 g5 g6 g7 g8 g9 L[i]:=h.l _ (List.getElem_mem hlt)
  have ec:X7 g0 g1 g2 g3 g4 g5 g6 g7 g8 g9 L H I B J (i:Int)=Dw g0 g1 g2 g3 g4 g5 g6 g7 g8 g9 L[i] (Gw (X3 i I) (Xp i H) (Xq i H)) B J:=by unfold X7;rw[rdL L i hlt]
  simp only[newelref21_Pick.l0]
  rw[if_pos (by omega),if_pos (by omega),Call.Wx h.c i f (by omega) (by omega) (by omega),rdL L i hlt,N3 a2 i (by omega),up1 (by omega),Vv]
  simp only[Option.bind_some]
  have O:=ih f (i+1) b c (by omega) (by omega) hb
  have δ :=ih f (i+1) (i:Int) (X7 g0 g1 g2 g3 g4 g5 g6 g7 g8 g9 L H I B J (i:Int)) (by omega) (by omega) (fun _=>rfl)
  rw[show(((i+1:Nat):Int))=(i:Int)+1 by omega] at O δ ⊢
  generalize hy:L[i]=y at hl ec ⊢
  have er:newelref21_Cost.f f g0 g1 g2 g3 g4 g5 g6 g7 g8 g9 y.f0.f0 y.f0.f1 y.f0.f2 y.f0.f3 y.f0.f4.f0 y.f0.f4.f1 y.f0.f4.f2 y.f1 y.f2 y.f3 (X3 i I) (Xp i H) (Xq i H) B J X=some (X7 g0 g1 g2 g3 g4 g5 g6 g7 g8 g9 L H I B J (i:Int)):=by rw[ec];exact Nl J X _ _ _ _ _ f (by omega) hl hx
  rw[er]
  simp only[Option.bind_some]
  cases hc:Lc a2 (i:Int)
  ·simp only[Bool.false_eq_true,if_false]
   by_cases Y:b<0
   ·rw[if_pos Y,if_pos Y]
    exact δ
   ·rw[if_neg Y,if_neg Y]
    rw[hb (by omega)] at O ⊢
    by_cases hl:X7 g0 g1 g2 g3 g4 g5 g6 g7 g8 g9 L H I B J (i:Int)<X7 g0 g1 g2 g3 g4 g5 g6 g7 g8 g9 L H I B J b
    ·rw[if_pos hl,if_pos hl]
     exact δ
    ·rw[if_neg hl,if_neg hl]
     exact O
  ·simp only[if_true]
   exact O
theorem Nf {g0 g1 g2 g3 g4 g5 g6 g7 g8 g9:Int} {L:List S31} {H:List Hall} {I:List Ins} (h:Ok g0 g1 g2 g3 g4 g5 g6 g7 g8 g9 L H I) (hH:H.length≤1000) (hI:I.length≤1000) {B:Int} (J X a2:Int) (hx:0≤B∧B<g0) (f:Nat) (hf:4100<f):
 newelref21_Pick.f f g0 g1 g2 g3 g4 g5 g6 g7 g8 g9 L a2 H I B J X=some (Nn g0 g1 g2 g3 g4 g5 g6 g7 g8 g9 L a2 H I B J):=by
 have hn:=h.n
 unfold newelref21_Pick.f
 exact Ws h hH hI J X a2 hx L.length f 0 (-1) 0 (by omega) (by omega) (fun h=>absurd h (by decide))
end Go.Proofs.Ytmfffemidlhcpaa.GrpPure
namespace Go.Proofs.Ytmfffemidlhcpaa.C
open Go.RowKit Go.Proofs.YtmfffemidlhcpaaW.PrintWords Go.Proofs.YtmfffemidlhcpaaW.PrintLast Go.Proofs.YtmfffemidlhcpaaW.PrintMore
attribute [local go_sem] Z0 Zy Z6 Z5 Zr Zq Zz Zx
set_option linter.unusedVariables false
set_option linter.unusedSimpArgs false
mutual
def newellaw21_GroupPicks.j0:Nat→Int→Int→Int→Bool→Int→Int→Int→Int→Int→Int→Int→Int→Int→Int→List (S31)→Int→List (S36)→List (S86)→Int→Int→Int→Option (Bool)
 |0,_,_,_,_,_,_,_,_,_,_,_,_,_,_,_,_,_,_,_,_,_=>none
 |k+1,X,x6,O,τ,B,J,Y,Z,γ,δ,ε,ζ,η,θ,ι,κ,μ,ν,ξ,ρ,σ=>if τ = true then (newellaw21_GroupPicks.j1 k X x6 210 B J Y Z γ δ ε ζ η θ ι κ μ ν ξ ρ σ) else (newellaw21_GroupPicks.j1 k X x6 O B J Y Z γ δ ε ζ η θ ι κ μ ν ξ ρ σ)
def newellaw21_GroupPicks.j1:Nat→Int→Int→Int→Int→Int→Int→Int→Int→Int→Int→Int→Int→Int→List (S31)→Int→List (S36)→List (S86)→Int→Int→Int→Option (Bool)
 |0,_,_,_,_,_,_,_,_,_,_,_,_,_,_,_,_,_,_,_,_=>none
 |k+1,X,x6,O,B,J,Y,Z,γ,δ,ε,ζ,η,θ,ι,κ,μ,ν,ξ,ρ,σ=>if O=0 then ((newellaw21_awake.f k).bind fun dw=>(if dw=true then (if x6=0 then ((newelref21_Pick.f k B J Y Z γ δ ε ζ η θ ι κ μ ν ξ ρ σ).bind fun ca=>(newellaw21_GroupPicks.j3 k (X==ca))) else (none)) else (none))) else ((newellaw21_awake.f k).bind fun dx=>(if dx=true then (if x6=O then (newellaw21_GroupPicks.j2 k (X==0)) else (none)) else (none)))
def newellaw21_GroupPicks.j3:Nat→Bool→Option (Bool)
 |0,_=>none
 |k+1,B=>some B
def newellaw21_GroupPicks.j2:Nat→Bool→Option (Bool)
 |0,_=>none
 |k+1,B=>some B
end
def newellaw21_GroupPicks.f (k:Nat) (B:Int) (J:Int) (O:Int) (X:Int) (Y:Int) (Z:Int) (γ:Int) (ζ :Int) (θ :Int) (η :Int) (ν :List (S31)) (χ :Int) (ξ :List (S36)) (σ:List (S86)) (δ :Int) (ε :Int) (ι :Int):Option (Bool):=(newellaw21_few.f B J O X Y Z γ ζ θ η ν χ ξ σ).bind fun db=>(if db=true then ((newellaw19_Own.f ξ σ).bind fun d9=>((group_Pick.f k B J O X Y Z γ ζ θ η ν χ d9.1 d9.2 δ ε ι).bind fun an=>((newelref21_Check.f k B J O X Y Z γ ζ θ η ν ξ σ).bind fun a6=>((newellaw19_Own.f ξ σ).bind fun b1=>((group_Check.f k B J O X Y Z γ ζ θ η ν b1.1 b1.2).bind fun ae=>(if ae=a6 then (if a6=0 then ((newelref21_House.f B J O X Y Z γ ζ θ η ν).bind fun az=>((newelref19_Hall.f k az.1 az.2 δ ε ι).bind fun ag=>(newellaw21_GroupPicks.j0 k an.1 an.2 a6 (!ag) B J O X Y Z γ ζ θ η ν χ ξ σ δ ε ι))) else (newellaw21_GroupPicks.j0 k an.1 an.2 a6 false B J O X Y Z γ ζ θ η ν χ ξ σ δ ε ι)) else (none))))))) else ((newellaw21_awake.f k).bind fun de=>(some de)))
def newellaw21_GroupPicks.T3:Bool×List (List Nat×List Nat):=(true,[([],[]),([0],[0]),([],[]),([2],[2]),([],[]),([4],[4]),([],[]),([6],[6]),([7],[7]),([],[]),([1,3,5,8,9,8],[1,3,5,8,9]),([10],[10]),([11],[11]),([11],[11]),([12,10,0,1,2,3,4,5,6,7,8,9,10,11,12],[12]),([13,14,0,1,2,3,4,5,6,7,8,9,10,11,12,13,14],[13])])
def newellaw21_GroupPicks.B3:List Nat:=[0,1,0,4,0,16,0,64,192,0,1023,2047,4095,4095,8191,32767]
theorem newellaw21_GroupPicks.D6:rtab .any (opsOf Try.f4 3)=newellaw21_GroupPicks.T3:=by kernel_rfl
theorem newellaw21_GroupPicks.N8:Zk newellaw21_GroupPicks.T3.2 newellaw21_GroupPicks.B3=true:=by kernel_rfl
def newellaw21_GroupPicks.T5:Bool×List (List Nat×List Nat):=(true,[([],[]),([0],[0]),([],[]),([2],[2]),([],[]),([4],[4]),([5],[5]),([1,3,6,6],[1,3,6]),([],[]),([7,8],[7,8])])
def newellaw21_GroupPicks.B5:List Nat:=[0,1,0,4,0,16,48,127,0,511]
theorem newellaw21_GroupPicks.L4:rtab .any (opsOf Try.f4 5)=newellaw21_GroupPicks.T5:=by kernel_rfl
theorem newellaw21_GroupPicks.Vz:Zk newellaw21_GroupPicks.T5.2 newellaw21_GroupPicks.B5=true:=by kernel_rfl
def newellaw21_GroupPicks.T7:Bool×List (List Nat×List Nat):=(true,[([],[]),([0],[0]),([1],[1]),([2],[2]),([3,2],[2,3]),([2],[2]),([5,2],[2,5]),([4,6,2,2],[2,4,6]),([2],[2]),([7,8,7,2],[2,7,8]),([9,2],[2,9]),([2,10],[2,10])])
def newellaw21_GroupPicks.B7:List Nat:=[0,1,3,7,15,7,39,127,7,511,1023,2047]
theorem newellaw21_GroupPicks.V4:rtab .any (opsOf Try.f4 7)=newellaw21_GroupPicks.T7:=by kernel_rfl
theorem newellaw21_GroupPicks.K6:Zk newellaw21_GroupPicks.T7.2 newellaw21_GroupPicks.B7=true:=by kernel_rfl
set_option maxHeartbeats 8000000 in
set_option maxRecDepth 100000 in
theorem newellaw21_GroupPicks.calls (k:Nat) (B:Int) (J:Int) (O:Int) (X:Int) (Y:Int) (Z:Int) (γ:Int) (ζ :Int) (θ :Int) (η :Int) (ψ :Option Addr) (a0:Nat) (ν :List (S31)) (χ :Int) (a1:Option Addr) (a2:Nat) (ξ :List (S36)) (a3:Option Addr) (a5:Nat) (σ:List (S86)) (δ :Int) (ε :Int) (ι :Int) (r:Bool) (w:World) (cw:Kd.C k31 w ψ ν.length ν) (d0: ν.length≤a0) (d4:Kd.C k36 w a1 ξ.length ξ) (d6: ξ.length≤a2) (d7:Kd.C k86 w a3 σ.length σ) (d8:σ.length≤a5) (h:newellaw21_GroupPicks.f k B J O X Y Z γ ζ θ η ν χ ξ σ δ ε ι = some r):
 Calls Try.prog 4 #[.agg #[.int .i64 B,.int .i64 J,.int .i64 O,.int .i64 X,.int .i64 Y,.int .i64 Z,.int .i64 γ,.int .i64 ζ,.int .i64 θ,.int .i64 η,.slice ψ ν.length a0,.int .i64 χ,.slice a1 ξ.length a2,.slice a3 σ.length a5],.agg #[.int .i64 δ,.int .i64 ε,.int .i64 ι]] w fun e w'=>e = .returned (.bool r)∧Below w.heap.size w w':=by
 have ew:=Try.underlying52
 have ch:=Try.underlying36
 have cg:=Try.underlying25
 have dc:=Try.underlying50
 have b8:=aK cw
 have b9:=aK d0
 clear cw d0
 have bd:=aK d4
 have bf:=aK d6
 clear d4 d6
 have bg:=aK d7
 have bh:=aK d8
 clear d7 d8
 have HB:=aK (Below.refl w.heap.size w)
 have H:((newellaw21_few.f B J O X Y Z γ ζ θ η ν χ ξ σ).bind fun db=>(if db=true then ((newellaw19_Own.f ξ σ).bind fun d9=>((group_Pick.f k B J O X Y Z γ ζ θ η ν χ d9.1 d9.2 δ ε ι).bind fun an=>((newelref21_Check.f k B J O X Y Z γ ζ θ η ν ξ σ).bind fun a6=>((newellaw19_Own.f ξ σ).bind fun b1=>((group_Check.f k B J O X Y Z γ ζ θ η ν b1.1 b1.2).bind fun ae=>(if ae=a6 then (if a6=0 then ((newelref21_House.f B J O X Y Z γ ζ θ η ν).bind fun az=>((newelref19_Hall.f k az.1 az.2 δ ε ι).bind fun ag=>(newellaw21_GroupPicks.j0 k an.1 an.2 a6 (!ag) B J O X Y Z γ ζ θ η ν χ ξ σ δ ε ι))) else (newellaw21_GroupPicks.j0 k an.1 an.2 a6 false B J O X Y Z γ ζ θ η ν χ ξ σ δ ε ι)) else (none))))))) else ((newellaw21_awake.f k).bind fun de=>(some de))))=some r:=h
 clear h
 obtain⟨db,a7,H⟩:=qO H
 have A3:=aK a7
 clear a7
 by_cases c4:db=true
 ·subst c4
  rw[if_pos rfl] at H
  obtain⟨⟨dh,dk⟩,bc,H⟩:=qO H
  replace H:((group_Pick.f k B J O X Y Z γ ζ θ η ν χ dh dk δ ε ι).bind fun an=>((newelref21_Check.f k B J O X Y Z γ ζ θ η ν ξ σ).bind fun a6=>((newellaw19_Own.f ξ σ).bind fun b1=>((group_Check.f k B J O X Y Z γ ζ θ η ν b1.1 b1.2).bind fun ae=>(if ae=a6 then (if a6=0 then ((newelref21_House.f B J O X Y Z γ ζ θ η ν).bind fun az=>((newelref19_Hall.f k az.1 az.2 δ ε ι).bind fun ag=>(newellaw21_GroupPicks.j0 k an.1 an.2 a6 (!ag) B J O X Y Z γ ζ θ η ν χ ξ σ δ ε ι))) else (newellaw21_GroupPicks.j0 k an.1 an.2 a6 false B J O X Y Z γ ζ θ η ν χ ξ σ δ ε ι)) else (none))))))=some r:=H
  have A5:=aK bc
  clear bc
  obtain⟨⟨ce,b5⟩,ao,H⟩:=qO H
  replace H:((newelref21_Check.f k B J O X Y Z γ ζ θ η ν ξ σ).bind fun a6=>((newellaw19_Own.f ξ σ).bind fun b1=>((group_Check.f k B J O X Y Z γ ζ θ η ν b1.1 b1.2).bind fun ae=>(if ae=a6 then (if a6=0 then ((newelref21_House.f B J O X Y Z γ ζ θ η ν).bind fun az=>((newelref19_Hall.f k az.1 az.2 δ ε ι).bind fun ag=>(newellaw21_GroupPicks.j0 k ce b5 a6 (!ag) B J O X Y Z γ ζ θ η ν χ ξ σ δ ε ι))) else (newellaw21_GroupPicks.j0 k ce b5 a6 false B J O X Y Z γ ζ θ η ν χ ξ σ δ ε ι)) else (none)))))=some r:=H
  have A6:=aK ao
  clear ao
  obtain⟨a6,cr,H⟩:=qO H
  have A7:=aK cr
  clear cr
  obtain⟨⟨dm,ai⟩,cn,H⟩:=qO H
  replace H:((group_Check.f k B J O X Y Z γ ζ θ η ν dm ai).bind fun ae=>(if ae=a6 then (if a6=0 then ((newelref21_House.f B J O X Y Z γ ζ θ η ν).bind fun az=>((newelref19_Hall.f k az.1 az.2 δ ε ι).bind fun ag=>(newellaw21_GroupPicks.j0 k ce b5 a6 (!ag) B J O X Y Z γ ζ θ η ν χ ξ σ δ ε ι))) else (newellaw21_GroupPicks.j0 k ce b5 a6 false B J O X Y Z γ ζ θ η ν χ ξ σ δ ε ι)) else (none)))=some r:=H
  have A8:=aK cn
  clear cn
  obtain⟨ae,bw,H⟩:=qO H
  have A9:=aK bw
  clear bw
  by_cases c10:ae=a6
  ·rw[if_pos c10] at H
   have c10b0:(ae==a6)=true:=beq_iff_eq.mpr c10
   have c10b1:(ae != a6)=false:=bne_eq_false_iff_eq.mpr c10
   clear c10
   have dy:=aK H
   clear H
   go_enter Try.func4,Try.ntmps4
   try go_wp2_with (first|((with_reducible refine Qe (N:=2) rfl ?_);refine qE 2 #[.int .i64 B,.int .i64 J,.int .i64 O,.int .i64 X,.int .i64 Y,.int .i64 Z,.int .i64 γ,.int .i64 ζ,.int .i64 θ,.int .i64 η,.slice ψ ν.length a0,.int .i64 χ,.slice a1 ξ.length a2,.slice a3 σ.length a5] 52 ?_;intro μ hg e7 hbox hb;have κ :=aK hbox;have en:=sGe hg;have eo:=sGe hg;replace HB:=sHb hb;clear hb hbox hg)|((with_reducible refine Qe (N:=3) rfl ?_);refine qE 3 #[.int .i64 δ,.int .i64 ε,.int .i64 ι] 36 ?_;intro b0 hg ba hbox hb;have φ :=aK hbox;have et:=sGe hg;have eu:=sGe hg;have bi:=sNl κ hg;have bj:=sNg κ hg;replace κ :=sBk κ hb;replace HB:=sHb hb;clear hb hbox hg;have ej:=bi.out;have ek:=bj.out;have bu:ba.cell? ⟨μ,0,none⟩=some (.int .i64 B):=(Qa κ.out 0).trans rfl;have bv:ba.cell? ⟨μ,1,none⟩=some (.int .i64 J):=(Qa κ.out 1).trans rfl;have di:ba.cell? ⟨μ,2,none⟩=some (.int .i64 O):=(Qa κ.out 2).trans rfl;have eg:ba.cell? ⟨μ,3,none⟩=some (.int .i64 X):=(Qa κ.out 3).trans rfl;have eh:ba.cell? ⟨μ,4,none⟩=some (.int .i64 Y):=(Qa κ.out 4).trans rfl;have ei:ba.cell? ⟨μ,5,none⟩=some (.int .i64 Z):=(Qa κ.out 5).trans rfl;have ep:ba.cell? ⟨μ,6,none⟩=some (.int .i64 γ):=(Qa κ.out 6).trans rfl;have f7:ba.cell? ⟨μ,7,none⟩=some (.int .i64 ζ):=(Qa κ.out 7).trans rfl;have f8:ba.cell? ⟨μ,8,none⟩=some (.int .i64 θ):=(Qa κ.out 8).trans rfl;have fa:ba.cell? ⟨μ,9,none⟩=some (.int .i64 η):=(Qa κ.out 9).trans rfl;have ey:ba.cell? ⟨μ,10,none⟩=some (.slice ψ ν.length a0):=(Qa κ.out 10).trans rfl;have ff:ba.cell? ⟨μ,11,none⟩=some (.int .i64 χ):=(Qa κ.out 11).trans rfl;have fh:ba.cell? ⟨μ,12,none⟩=some (.slice a1 ξ.length a2):=(Qa κ.out 12).trans rfl;have fi:ba.cell? ⟨μ,13,none⟩=some (.slice a3 σ.length a5):=(Qa κ.out 13).trans rfl;have ci:=Qh κ.out 0;have cm:=Qh κ.out 1;have ef:=Qh κ.out 2;have fb:=Qh κ.out 3;have fc:=Qh κ.out 4;have fe:=Qh κ.out 5;have fg:=Qh κ.out 6;have fl:=Qh κ.out 7;have fn:=Qh κ.out 8;have fo:=Qh κ.out 9;have fj:=Qh κ.out 10;have fr:=Qh κ.out 11;have fw:=Qh κ.out 12;have fx:=Qh κ.out 13)|((with_reducible refine Qf (f:=13) rfl ?_);refine Qt (some 9) rfl rfl Try.func13 kr rfl #[.agg #[.int .i64 B,.int .i64 J,.int .i64 O,.int .i64 X,.int .i64 Y,.int .i64 Z,.int .i64 γ,.int .i64 ζ,.int .i64 θ,.int .i64 η,.slice ψ ν.length a0,.int .i64 χ,.slice a1 ξ.length a2,.slice a3 σ.length a5]] rfl qM ?_;(with_reducible refine(newellaw21_few.calls B J O X Y Z γ ζ θ η _ _ ν χ _ _ ξ _ _ σ true _ ?side1 ?side2 ?side3 ?side4 ?side5 ?side6 A3.out).mono ?_);(case side1=>exact(Kd.Qs b8.out HB.out));(case side2=>exact b9.out);(case side3=>exact(Kd.Qs bd.out HB.out));(case side4=>exact bf.out);(case side5=>exact(Kd.Qs bg.out HB.out));(case side6=>exact bh.out);rintro e cx ⟨rfl,hb⟩;refine⟨_,rfl, ?_⟩;replace κ :=sBk κ hb;replace φ :=sBk φ hb;replace HB:=sHb hb;(try clear hb);(try clear a4);(try clear hk);(try clear hi)))
   replace κ :=aK (Qd κ.out)
   replace φ :=aK (Qd φ.out)
   replace HB:=aK (Qg HB.out)
   refine Ze (n:=16) (S:=fun w'=>w'.cell? ⟨μ,0,none⟩=some (.int .i64 B)∧w'.cell? ⟨μ,1,none⟩=some (.int .i64 J)∧w'.cell? ⟨μ,2,none⟩=some (.int .i64 O)∧w'.cell? ⟨μ,3,none⟩=some (.int .i64 X)∧w'.cell? ⟨μ,4,none⟩=some (.int .i64 Y)∧w'.cell? ⟨μ,5,none⟩=some (.int .i64 Z)∧w'.cell? ⟨μ,6,none⟩=some (.int .i64 γ)∧w'.cell? ⟨μ,7,none⟩=some (.int .i64 ζ)∧w'.cell? ⟨μ,8,none⟩=some (.int .i64 θ)∧w'.cell? ⟨μ,9,none⟩=some (.int .i64 η)∧w'.cell? ⟨μ,10,none⟩=some (.slice ψ ν.length a0)∧w'.cell? ⟨μ,11,none⟩=some (.int .i64 χ)∧w'.cell? ⟨μ,12,none⟩=some (.slice a1 ξ.length a2)∧w'.cell? ⟨μ,13,none⟩=some (.slice a3 σ.length a5)∧w'.cell? ⟨b0,0,none⟩=some (.int .i64 δ)∧w'.cell? ⟨b0,1,none⟩=some (.int .i64 ε)∧w'.cell? ⟨b0,2,none⟩=some (.int .i64 ι)) (ds:=[]) #[false,false,false,false,false,false,false,false,false,false,false,false,false,false,false,false] kr rfl rfl ⟨(Qa κ.out 0).trans rfl,(Qa κ.out 1).trans rfl,(Qa κ.out 2).trans rfl,(Qa κ.out 3).trans rfl,(Qa κ.out 4).trans rfl,(Qa κ.out 5).trans rfl,(Qa κ.out 6).trans rfl,(Qa κ.out 7).trans rfl,(Qa κ.out 8).trans rfl,(Qa κ.out 9).trans rfl,(Qa κ.out 10).trans rfl,(Qa κ.out 11).trans rfl,(Qa κ.out 12).trans rfl,(Qa κ.out 13).trans rfl,(Qa φ.out 0).trans rfl,(Qa φ.out 1).trans rfl,(Qa φ.out 2).trans rfl⟩ (fun hHeld=>?_);refine Q5 newellaw21_GroupPicks.D6 newellaw21_GroupPicks.N8 (fun HT_ HW_=>?_)
   generalize cx.drew=d1 at κ φ HB hHeld ⊢
   refine qP 0 (some 13) (bN 16 1) HT_ ?_
   refine qP 2 (some 15) (bN 16 5) HT_ ?_
   refine qP 4 (some 17) (bN 16 21) HT_ ?_
   refine qP 6 (some 19) (bN 16 85) HT_ ?_
   refine qT 1 (some 14) (bN 16 87) HT_ HW_ hHeld ?_
   refine qT 3 (some 16) (bN 16 95) HT_ HW_ hHeld ?_
   refine qT 5 (some 18) (bN 16 127) HT_ HW_ hHeld ?_
   refine qT 7 (some 20) (bN 16 255) HT_ HW_ hHeld ?_
   refine qT 9 (some 22) (bN 16 767) HT_ HW_ hHeld ?_
   refine Zf (i:=8) (N:=some 21) (bN 16 1023) rfl rfl (Q3 HT_.out kr) (by decide) (fun K hK=>?_)
   refine Zd Try.func15 kr rfl #[.agg #[.slice a1 ξ.length a2,.slice a3 σ.length a5]] (by rfl) rfl rfl qM ?_
   with_reducible refine(newellaw19_Own.calls _ _ ξ _ _ σ dh dk _ ?side1 ?side2 ?side3 ?side4 A5.out).mono ?_
   (case side1=>exact(Kd.Qs bd.out HB.out))
   (case side2=>exact bf.out)
   (case side3=>exact(Kd.Qs bg.out HB.out))
   (case side4=>exact bh.out)
   rintro e ft ⟨ia,ib,rfl,af,ah,hb⟩
   refine⟨_,rfl, ?_⟩
   have a8:=aK (Kd.Q8 (Kd.Jn af (g:=b0) (o:=.cells #[.int .i64 δ,.int .i64 ε,.int .i64 ι] 36 (0,0)) φ.out) (Qn HB.out))
   have a9:=aK (Kd.Q8 ah (Qn HB.out))
   replace κ :=sBk κ hb
   replace φ :=sBk φ hb
   replace HB:=sHb hb
   (try clear hb)
   (try clear a4)
   (try clear hk)
   (try clear hi)
   (try clear af)
   (try clear ah)
   obtain⟨d2,d3,dl⟩:=Kd.Q7 a8.out
   (first|subst dl|(injection dl with aj aw ak;have ax:=aj.symm;have ay:=ak.symm;clear aj aw ak;subst ax;subst ay))
   obtain⟨b3,b4,dj⟩:=Kd.Q7 a9.out
   (first|subst dj|(injection dj with aj aw ak;have ax:=aj.symm;have ay:=ak.symm;clear aj aw ak;subst ax;subst ay))
   refine hK.out _ _ ⟨qc κ,qc κ,qc κ,qc κ,qc κ,qc κ,qc κ,qc κ,qc κ,qc κ,qc κ,qc κ,qc κ,qc κ,qc φ,qc φ,qc φ⟩ (fun hHeld=>?_)
   clear hK K
   refine qN (some 21) ?_
   refine Zf (i:=10) (N:=some 23) (bN 16 2047) rfl rfl (Q3 HT_.out kr) (by decide) (fun K hK=>?_)
   refine Zd Try.func14 kr rfl #[.agg #[.int .i64 B,.int .i64 J,.int .i64 O,.int .i64 X,.int .i64 Y,.int .i64 Z,.int .i64 γ,.int .i64 ζ,.int .i64 θ,.int .i64 η],.slice ψ ν.length a0,.int .i64 χ,.agg #[.slice d2 dh.length d3,.slice b3 dk.length b4],.agg #[.int .i64 δ,.int .i64 ε,.int .i64 ι]] (by rfl) rfl rfl qM ?_
   with_reducible refine(group_Pick.calls k B J O X Y Z γ ζ θ η _ _ ν χ _ _ dh _ _ dk δ ε ι ce b5 _ ?side1 ?side2 ?side3 ?side4 ?side5 ?side6 A6.out).mono ?_
   (case side1=>exact(Kd.Qs b8.out HB.out))
   (case side2=>exact b9.out)
   (case side3=>exact(Kd.Qw a8.out).2.2)
   (case side4=>exact(Kd.Qw a8.out).2.1)
   (case side5=>exact(Kd.Qw a9.out).2.2)
   (case side6=>exact(Kd.Qw a9.out).2.1)
   rintro e b2 ⟨rfl,hb⟩
   refine⟨_,rfl, ?_⟩
   replace a8:=sRb a8 hb
   replace a9:=sRb a9 hb
   replace κ :=sBk κ hb
   replace φ :=sBk φ hb
   replace HB:=sHb hb
   (try clear hb)
   (try clear a4)
   (try clear hk)
   (try clear hi)
   refine hK.out _ _ ⟨qc κ,qc κ,qc κ,qc κ,qc κ,qc κ,qc κ,qc κ,qc κ,qc κ,qc κ,qc κ,qc κ,qc κ,qc φ,qc φ,qc φ⟩ (fun hHeld=>?_)
   clear hK K
   refine qN (some 23) ?_
   refine qP 11 (some 12) (bN 16 4095) HT_ ?_
   refine qP 12 (some 24) (bN 16 8191) HT_ ?_
   refine qP 13 (some 25) (bN 16 16383) HT_ ?_
   refine qP 14 (some 5) (bN 16 32767) HT_ ?_
   refine qP 15 (some 6) (bN 16 65535) HT_ ?_
   refine Zi (Zc HT_.out kr) ?_
   have ap:b2.cell? ⟨μ,0,none⟩=some (.int .i64 B):=(Qa κ.out 0).trans rfl
   have ar:b2.cell? ⟨μ,1,none⟩=some (.int .i64 J):=(Qa κ.out 1).trans rfl
   have al:b2.cell? ⟨μ,2,none⟩=some (.int .i64 O):=(Qa κ.out 2).trans rfl
   have bk:b2.cell? ⟨μ,3,none⟩=some (.int .i64 X):=(Qa κ.out 3).trans rfl
   have bl:b2.cell? ⟨μ,4,none⟩=some (.int .i64 Y):=(Qa κ.out 4).trans rfl
   have bm:b2.cell? ⟨μ,5,none⟩=some (.int .i64 Z):=(Qa κ.out 5).trans rfl
   have bn:b2.cell? ⟨μ,6,none⟩=some (.int .i64 γ):=(Qa κ.out 6).trans rfl
   have dz:b2.cell? ⟨μ,7,none⟩=some (.int .i64 ζ):=(Qa κ.out 7).trans rfl
   have e0:b2.cell? ⟨μ,8,none⟩=some (.int .i64 θ):=(Qa κ.out 8).trans rfl
   have e3:b2.cell? ⟨μ,9,none⟩=some (.int .i64 η):=(Qa κ.out 9).trans rfl
   have cf:b2.cell? ⟨μ,10,none⟩=some (.slice ψ ν.length a0):=(Qa κ.out 10).trans rfl
   have cj:b2.cell? ⟨μ,11,none⟩=some (.int .i64 χ):=(Qa κ.out 11).trans rfl
   have ck:b2.cell? ⟨μ,12,none⟩=some (.slice a1 ξ.length a2):=(Qa κ.out 12).trans rfl
   have co:b2.cell? ⟨μ,13,none⟩=some (.slice a3 σ.length a5):=(Qa κ.out 13).trans rfl
   have au:=Qh κ.out 0
   have av:=Qh κ.out 1
   have b7:=Qh κ.out 2
   have bo:=Qh κ.out 3
   have bp:=Qh κ.out 4
   have bq:=Qh κ.out 5
   have br:=Qh κ.out 6
   have e4:=Qh κ.out 7
   have e5:=Qh κ.out 8
   have e6:=Qh κ.out 9
   have cp:=Qh κ.out 10
   have cq:=Qh κ.out 11
   have ct:=Qh κ.out 12
   have cu:=Qh κ.out 13
   try go_wp2_with (first|((with_reducible refine Qf (f:=16) rfl ?_);refine Qt (some 32) rfl rfl Try.func16 kr rfl #[.agg #[.int .i64 B,.int .i64 J,.int .i64 O,.int .i64 X,.int .i64 Y,.int .i64 Z,.int .i64 γ,.int .i64 ζ,.int .i64 θ,.int .i64 η],.slice ψ ν.length a0,.agg #[.slice a1 ξ.length a2,.slice a3 σ.length a5]] rfl qM ?_;(with_reducible refine(newelref21_Check.calls k B J O X Y Z γ ζ θ η _ _ ν _ _ ξ _ _ σ a6 _ ?side1 ?side2 ?side3 ?side4 ?side5 ?side6 A7.out).mono ?_);(case side1=>exact(Kd.Qs b8.out HB.out));(case side2=>exact b9.out);(case side3=>exact(Kd.Qs bd.out HB.out));(case side4=>exact bf.out);(case side5=>exact(Kd.Qs bg.out HB.out));(case side6=>exact bh.out);rintro e bb ⟨rfl,hb⟩;refine⟨_,rfl, ?_⟩;replace a8:=sRb a8 hb;replace a9:=sRb a9 hb;replace κ :=sBk κ hb;replace φ :=sBk φ hb;replace HB:=sHb hb;(try clear hb);(try clear a4);(try clear hk);(try clear hi)))
   replace a8:=aK (Kd.Qy a8.out)
   replace a9:=aK (Kd.Qy a9.out)
   replace κ :=aK (Qd κ.out)
   replace φ :=aK (Qd φ.out)
   replace HB:=aK (Qg HB.out)
   refine Ze (n:=10) (S:=fun w'=>w'.cell? ⟨μ,0,none⟩=some (.int .i64 B)∧w'.cell? ⟨μ,1,none⟩=some (.int .i64 J)∧w'.cell? ⟨μ,2,none⟩=some (.int .i64 O)∧w'.cell? ⟨μ,3,none⟩=some (.int .i64 X)∧w'.cell? ⟨μ,4,none⟩=some (.int .i64 Y)∧w'.cell? ⟨μ,5,none⟩=some (.int .i64 Z)∧w'.cell? ⟨μ,6,none⟩=some (.int .i64 γ)∧w'.cell? ⟨μ,7,none⟩=some (.int .i64 ζ)∧w'.cell? ⟨μ,8,none⟩=some (.int .i64 θ)∧w'.cell? ⟨μ,9,none⟩=some (.int .i64 η)∧w'.cell? ⟨μ,10,none⟩=some (.slice ψ ν.length a0)∧w'.cell? ⟨μ,11,none⟩=some (.int .i64 χ)∧w'.cell? ⟨μ,12,none⟩=some (.slice a1 ξ.length a2)∧w'.cell? ⟨μ,13,none⟩=some (.slice a3 σ.length a5)) (ds:=[]) #[false,false,false,false,false,false,false,false,false,false] kr rfl rfl ⟨(Qa κ.out 0).trans rfl,(Qa κ.out 1).trans rfl,(Qa κ.out 2).trans rfl,(Qa κ.out 3).trans rfl,(Qa κ.out 4).trans rfl,(Qa κ.out 5).trans rfl,(Qa κ.out 6).trans rfl,(Qa κ.out 7).trans rfl,(Qa κ.out 8).trans rfl,(Qa κ.out 9).trans rfl,(Qa κ.out 10).trans rfl,(Qa κ.out 11).trans rfl,(Qa κ.out 12).trans rfl,(Qa κ.out 13).trans rfl⟩ (fun hHeld=>?_);refine Q5 newellaw21_GroupPicks.L4 newellaw21_GroupPicks.Vz (fun HT_ HW_=>?_)
   generalize bb.drew=cd at a8 a9 κ φ HB hHeld ⊢
   refine qP 0 (some 33) (bN 10 1) HT_ ?_
   refine qP 2 (some 35) (bN 10 5) HT_ ?_
   refine qP 4 (some 37) (bN 10 21) HT_ ?_
   refine qP 8 (some 41) (bN 10 277) HT_ ?_
   refine qT 1 (some 34) (bN 10 279) HT_ HW_ hHeld ?_
   refine qT 3 (some 36) (bN 10 287) HT_ HW_ hHeld ?_
   refine qT 5 (some 38) (bN 10 319) HT_ HW_ hHeld ?_
   refine Zf (i:=6) (N:=some 39) (bN 10 383) rfl rfl (Q3 HT_.out kr) (by decide) (fun K hK=>?_)
   refine Zd Try.func15 kr rfl #[.agg #[.slice a1 ξ.length a2,.slice a3 σ.length a5]] (by rfl) rfl rfl qM ?_
   with_reducible refine(newellaw19_Own.calls _ _ ξ _ _ σ dm ai _ ?side1 ?side2 ?side3 ?side4 A8.out).mono ?_
   (case side1=>exact(Kd.Qs bd.out HB.out))
   (case side2=>exact bf.out)
   (case side3=>exact(Kd.Qs bg.out HB.out))
   (case side4=>exact bh.out)
   rintro e dt ⟨ic,cb,rfl,af,ah,hb⟩
   refine⟨_,rfl, ?_⟩
   have am:=aK (Kd.Q8 (Kd.Jn (Kd.Le af (Kd.J0 a8.out)) (g:=b0) (o:=.cells #[.int .i64 δ,.int .i64 ε,.int .i64 ι] 36 (0,0)) φ.out) (Qn HB.out))
   have ac:=aK (Kd.Q8 (Kd.Le ah (Kd.J0 a9.out)) (Qn HB.out))
   replace a8:=aK (Kd.Vi a8.out (Kd.Uq af) hb)
   replace a9:=aK (Kd.Vi a9.out (Kd.Uq ah) hb)
   replace κ :=sBk κ hb
   replace φ :=sBk φ hb
   replace HB:=sHb hb
   (try clear hb)
   (try clear a4)
   (try clear hk)
   (try clear hi)
   (try clear af)
   (try clear ah)
   obtain⟨iv,iw,fm⟩:=Kd.Q7 am.out
   (first|subst fm|(injection fm with aj aw ak;have ax:=aj.symm;have ay:=ak.symm;clear aj aw ak;subst ax;subst ay))
   obtain⟨iz,j4,fq⟩:=Kd.Q7 ac.out
   (first|subst fq|(injection fq with aj aw ak;have ax:=aj.symm;have ay:=ak.symm;clear aj aw ak;subst ax;subst ay))
   refine hK.out _ _ ⟨qc κ,qc κ,qc κ,qc κ,qc κ,qc κ,qc κ,qc κ,qc κ,qc κ,qc κ,qc κ,qc κ,qc κ⟩ (fun hHeld=>?_)
   clear hK K
   refine qN (some 39) ?_
   refine Zf (i:=7) (N:=some 40) (bN 10 511) rfl rfl (Q3 HT_.out kr) (by decide) (fun K hK=>?_)
   refine Zd Try.func17 kr rfl #[.agg #[.int .i64 B,.int .i64 J,.int .i64 O,.int .i64 X,.int .i64 Y,.int .i64 Z,.int .i64 γ,.int .i64 ζ,.int .i64 θ,.int .i64 η],.slice ψ ν.length a0,.agg #[.slice iv dm.length iw,.slice iz ai.length j4]] (by rfl) rfl rfl qM ?_
   with_reducible refine(group_Check.calls k B J O X Y Z γ ζ θ η _ _ ν _ _ dm _ _ ai ae _ ?side1 ?side2 ?side3 ?side4 ?side5 ?side6 A9.out).mono ?_
   (case side1=>exact(Kd.Qs b8.out HB.out))
   (case side2=>exact b9.out)
   (case side3=>exact(Kd.Qw am.out).2.2)
   (case side4=>exact(Kd.Qw am.out).2.1)
   (case side5=>exact(Kd.Qw ac.out).2.2)
   (case side6=>exact(Kd.Qw ac.out).2.1)
   rintro e du ⟨rfl,hb⟩
   refine⟨_,rfl, ?_⟩
   replace a8:=sRb a8 hb
   replace a9:=sRb a9 hb
   replace am:=sRb am hb
   replace ac:=sRb ac hb
   replace κ :=sBk κ hb
   replace φ :=sBk φ hb
   replace HB:=sHb hb
   (try clear hb)
   (try clear a4)
   (try clear hk)
   (try clear hi)
   refine hK.out _ _ ⟨qc κ,qc κ,qc κ,qc κ,qc κ,qc κ,qc κ,qc κ,qc κ,qc κ,qc κ,qc κ,qc κ,qc κ⟩ (fun hHeld=>?_)
   clear hK K
   refine qN (some 40) ?_
   refine qP 9 (some 42) (bN 10 1023) HT_ ?_
   refine Zi (Zc HT_.out kr) ?_
   go_upto_region 7 with(fail)
   go_cut [54] (fun i1 wc=>∃ (kq:Nat) (da:Bool),i1 = .bool da∧Aside0 (newellaw21_GroupPicks.j0 kq ce b5 a6 da B J O X Y Z γ ζ θ η ν χ ξ σ δ ε ι = some r)∧Aside0 (kq≤k)∧Aside0 (wc.heap[μ]?=some (.cells #[.int .i64 B,.int .i64 J,.int .i64 O,.int .i64 X,.int .i64 Y,.int .i64 Z,.int .i64 γ,.int .i64 ζ,.int .i64 θ,.int .i64 η,(.slice ψ ν.length a0),.int .i64 χ,(.slice a1 ξ.length a2),(.slice a3 σ.length a5)] 52 (0,0)))∧Aside0 (wc.heap[b0]?=some (.cells #[.int .i64 δ,.int .i64 ε,.int .i64 ι] 36 (0,0)))∧Aside0 (Below w.heap.size w wc))
   case first=>
    have H:=dy.out
    clear dy
    by_cases aa:a6=0
    ·rw[if_pos aa] at H
     have c29b0:(a6==0)=true:=beq_iff_eq.mpr aa
     have c29b1:(a6 != 0)=false:=bne_eq_false_iff_eq.mpr aa
     clear aa
     (first|rw[c29b0]|(simp only[Za,Zb];rw[c29b0])|skip)
     obtain⟨⟨dn,dp⟩,eb,H⟩:=qO H
     replace H:((newelref19_Hall.f k dn dp δ ε ι).bind fun ag=>(newellaw21_GroupPicks.j0 k ce b5 a6 (!ag) B J O X Y Z γ ζ θ η ν χ ξ σ δ ε ι))=some r:=H
     have a7:=aK eb
     clear eb
     obtain⟨ag,ec,H⟩:=qO H
     have i2:=aK ec
     clear ec
     have H':=aK H
     clear H
     try go_wp2
     replace a8:=aK (Kd.Qy a8.out)
     replace a9:=aK (Kd.Qy a9.out)
     replace am:=aK (Kd.Qy am.out)
     replace ac:=aK (Kd.Qy ac.out)
     replace κ :=aK (Qd κ.out)
     replace φ :=aK (Qd φ.out)
     replace HB:=aK (Qg HB.out)
     refine Ze (n:=12) (S:=fun w'=>w'.cell? ⟨μ,0,none⟩=some (.int .i64 B)∧w'.cell? ⟨μ,1,none⟩=some (.int .i64 J)∧w'.cell? ⟨μ,2,none⟩=some (.int .i64 O)∧w'.cell? ⟨μ,3,none⟩=some (.int .i64 X)∧w'.cell? ⟨μ,4,none⟩=some (.int .i64 Y)∧w'.cell? ⟨μ,5,none⟩=some (.int .i64 Z)∧w'.cell? ⟨μ,6,none⟩=some (.int .i64 γ)∧w'.cell? ⟨μ,7,none⟩=some (.int .i64 ζ)∧w'.cell? ⟨μ,8,none⟩=some (.int .i64 θ)∧w'.cell? ⟨μ,9,none⟩=some (.int .i64 η)∧w'.cell? ⟨μ,10,none⟩=some (.slice ψ ν.length a0)∧w'.cell? ⟨μ,11,none⟩=some (.int .i64 χ)∧w'.cell? ⟨μ,12,none⟩=some (.slice a1 ξ.length a2)∧w'.cell? ⟨μ,13,none⟩=some (.slice a3 σ.length a5)∧w'.cell? ⟨b0,0,none⟩=some (.int .i64 δ)∧w'.cell? ⟨b0,1,none⟩=some (.int .i64 ε)∧w'.cell? ⟨b0,2,none⟩=some (.int .i64 ι)) (ds:=[]) #[false,false,false,false,false,false,false,false,false,false,false,false] kr rfl rfl ⟨(Qa κ.out 0).trans rfl,(Qa κ.out 1).trans rfl,(Qa κ.out 2).trans rfl,(Qa κ.out 3).trans rfl,(Qa κ.out 4).trans rfl,(Qa κ.out 5).trans rfl,(Qa κ.out 6).trans rfl,(Qa κ.out 7).trans rfl,(Qa κ.out 8).trans rfl,(Qa κ.out 9).trans rfl,(Qa κ.out 10).trans rfl,(Qa κ.out 11).trans rfl,(Qa κ.out 12).trans rfl,(Qa κ.out 13).trans rfl,(Qa φ.out 0).trans rfl,(Qa φ.out 1).trans rfl,(Qa φ.out 2).trans rfl⟩ (fun hHeld=>?_);refine Q5 newellaw21_GroupPicks.V4 newellaw21_GroupPicks.K6 (fun HT_ HW_=>?_)
     generalize du.drew=hh at a8 a9 am ac κ φ HB hHeld ⊢
     refine qP 0 (some 43) (bN 12 1) HT_ ?_
     refine qP 1 (some 44) (bN 12 3) HT_ ?_
     refine qP 2 (some 45) (bN 12 7) HT_ ?_
     refine qP 3 (some 46) (bN 12 15) HT_ ?_
     refine qP 5 (some 48) (bN 12 47) HT_ ?_
     refine qT 4 (some 47) (bN 12 63) HT_ HW_ hHeld ?_
     refine qT 6 (some 49) (bN 12 127) HT_ HW_ hHeld ?_
     refine qT 8 (some 51) (bN 12 383) HT_ HW_ hHeld ?_
     refine Zf (i:=7) (N:=some 50) (bN 12 511) rfl rfl (Q3 HT_.out kr) (by decide) (fun K hK=>?_)
     refine Zd Try.func19 kr rfl #[.agg #[.int .i64 B,.int .i64 J,.int .i64 O,.int .i64 X,.int .i64 Y,.int .i64 Z,.int .i64 γ,.int .i64 ζ,.int .i64 θ,.int .i64 η],.slice ψ ν.length a0] (by rfl) rfl rfl qM ?_
     with_reducible refine(newelref21_House.calls B J O X Y Z γ ζ θ η _ _ ν dn dp _ ?side1 ?side2 a7.out).mono ?_
     (case side1=>exact(Kd.Qs b8.out HB.out))
     (case side2=>exact b9.out)
     rintro e k8 ⟨rfl,hb⟩
     refine⟨_,rfl, ?_⟩
     replace a8:=sRb a8 hb
     replace a9:=sRb a9 hb
     replace am:=sRb am hb
     replace ac:=sRb ac hb
     replace κ :=sBk κ hb
     replace φ :=sBk φ hb
     replace HB:=sHb hb
     (try clear hb)
     (try clear a4)
     (try clear hk)
     (try clear hi)
     refine hK.out _ _ ⟨qc κ,qc κ,qc κ,qc κ,qc κ,qc κ,qc κ,qc κ,qc κ,qc κ,qc κ,qc κ,qc κ,qc κ,qc φ,qc φ,qc φ⟩ (fun hHeld=>?_)
     clear hK K
     refine qN (some 50) ?_
     refine Zf (i:=9) (N:=some 52) (bN 12 1023) rfl rfl (Q3 HT_.out kr) (by decide) (fun K hK=>?_)
     refine Zd Try.func18 kr rfl #[.agg #[.int .i64 dn,.int .i64 dp],.agg #[.int .i64 δ,.int .i64 ε,.int .i64 ι]] (by rfl) rfl rfl qM ?_
     with_reducible refine(newelref19_Hall.calls k dn dp δ ε ι ag _ i2.out).mono ?_
     rintro e fp ⟨rfl,hb⟩
     refine⟨_,rfl, ?_⟩
     replace a8:=sRb a8 hb
     replace a9:=sRb a9 hb
     replace am:=sRb am hb
     replace ac:=sRb ac hb
     replace κ :=sBk κ hb
     replace φ :=sBk φ hb
     replace HB:=sHb hb
     (try clear hb)
     (try clear a4)
     (try clear hk)
     (try clear hi)
     refine hK.out _ _ ⟨qc κ,qc κ,qc κ,qc κ,qc κ,qc κ,qc κ,qc κ,qc κ,qc κ,qc κ,qc κ,qc κ,qc κ,qc φ,qc φ,qc φ⟩ (fun hHeld=>?_)
     clear hK K
     refine qN (some 52) ?_
     refine qP 10 (some 53) (bN 12 2047) HT_ ?_
     refine qP 11 (some 54) (bN 12 4095) HT_ ?_
     refine Zi (Zc HT_.out kr) ?_
     try go_wp2
     go_meet
     case rel=>exact⟨_,(!ag),rfl,H',⟨by first|omega|exact Nat.le_refl _⟩,κ,φ,HB⟩
    ·rw[if_neg aa] at H
     have c29b0:(a6==0)=false:=beq_eq_false_iff_ne.mpr aa
     have c29b1:(a6 != 0)=true:=bne_iff_ne.mpr aa
     (first|rw[c29b0]|(simp only[Za,Zb];rw[c29b0])|skip)
     have H':=aK H
     clear H
     try go_wp2
     replace a8:=aK (Kd.Qy a8.out)
     replace a9:=aK (Kd.Qy a9.out)
     replace am:=aK (Kd.Qy am.out)
     replace ac:=aK (Kd.Qy ac.out)
     replace κ :=aK (Qd κ.out)
     replace φ :=aK (Qd φ.out)
     replace HB:=aK (Qg HB.out)
     refine Ze (n:=12) (S:=fun w'=>True) (ds:=[]) #[false,false,false,false,false,false,false,false,false,false,false,false] kr rfl rfl trivial (fun hHeld=>?_);refine Q5 newellaw21_GroupPicks.V4 newellaw21_GroupPicks.K6 (fun HT_ HW_=>?_)
     generalize du.drew=jo at a8 a9 am ac κ φ HB hHeld ⊢
     refine qP 0 (some 43) (bN 12 1) HT_ ?_
     refine qP 1 (some 44) (bN 12 3) HT_ ?_
     refine qP 2 (some 45) (bN 12 7) HT_ ?_
     refine qU 3 (some 46) (bN 12 15) HT_ ?_
     refine qU 4 (some 47) (bN 12 31) HT_ ?_
     refine qU 5 (some 48) (bN 12 63) HT_ ?_
     refine qU 6 (some 49) (bN 12 127) HT_ ?_
     refine qU 7 (some 50) (bN 12 255) HT_ ?_
     refine qU 8 (some 51) (bN 12 511) HT_ ?_
     refine qU 9 (some 52) (bN 12 1023) HT_ ?_
     refine qU 10 (some 53) (bN 12 2047) HT_ ?_
     refine qP 11 (some 54) (bN 12 4095) HT_ ?_
     refine Zi (Zc HT_.out kr) ?_
     try go_wp2
     go_meet
     case rel=>exact⟨_,(false),rfl,H',⟨by first|omega|exact Nat.le_refl _⟩,κ,φ,HB⟩
   case rest=>
    clear dy
    try clear ap
    try clear ar
    try clear cf
    try clear cj
    try clear ck
    try clear co
    try clear al
    try clear bk
    try clear bl
    try clear bm
    try clear bn
    try clear dz
    try clear e0
    try clear e3
    try clear au
    try clear av
    try clear cp
    try clear cq
    try clear ct
    try clear cu
    try clear b7
    try clear bo
    try clear bp
    try clear bq
    try clear br
    try clear e4
    try clear e5
    try clear e6
    obtain⟨kq,da,rfl,HA,dq,κ,φ,HB⟩:=hcut
    cases kq with
    |zero=>exact absurd HA.out (by simp[newellaw21_GroupPicks.j0])
    |succ fy=>
     have H:=HA.out
     clear HA
     simp only[newellaw21_GroupPicks.j0] at H
     have e8:=aK H
     clear H
     go_upto_if 54 with(fail)
     go_cut [7] (fun v7 wc=>∃ (kq:Nat) (b6:Int),v7 = .int .i64 b6∧Aside0 (newellaw21_GroupPicks.j1 kq ce b5 b6 B J O X Y Z γ ζ θ η ν χ ξ σ δ ε ι = some r)∧Aside0 (kq≤fy)∧Aside0 (wc.heap[μ]?=some (.cells #[.int .i64 B,.int .i64 J,.int .i64 O,.int .i64 X,.int .i64 Y,.int .i64 Z,.int .i64 γ,.int .i64 ζ,.int .i64 θ,.int .i64 η,(.slice ψ ν.length a0),.int .i64 χ,(.slice a1 ξ.length a2),(.slice a3 σ.length a5)] 52 (0,0)))∧Aside0 (wc.heap[b0]?=some (.cells #[.int .i64 δ,.int .i64 ε,.int .i64 ι] 36 (0,0)))∧Aside0 (Below w.heap.size w wc))
     case first=>
      have H:=e8.out
      clear e8
      by_cases dd:da=true
      ·subst dd
       rw[if_pos rfl] at H
       have H':=aK H
       clear H
       go_wp2
       go_meet
       case rel=>exact⟨_,(210),rfl,H',⟨by have:=dq.out;omega⟩,κ,φ,HB⟩
      ·replace dd:=Bool.eq_false_iff.mpr dd
       subst dd
       rw[if_neg nft] at H
       have H':=aK H
       clear H
       go_wp2
       go_meet
       case rel=>exact⟨_,(a6),rfl,H',⟨by have:=dq.out;omega⟩,κ,φ,HB⟩
     case rest=>
      clear e8
      try clear ap
      try clear ar
      try clear cf
      try clear cj
      try clear ck
      try clear co
      try clear al
      try clear bk
      try clear bl
      try clear bm
      try clear bn
      try clear dz
      try clear e0
      try clear e3
      try clear au
      try clear av
      try clear cp
      try clear cq
      try clear ct
      try clear cu
      try clear b7
      try clear bo
      try clear bp
      try clear bq
      try clear br
      try clear e4
      try clear e5
      try clear e6
      obtain⟨kq,b6,rfl,HA,ed,κ,φ,HB⟩:=hcut
      cases kq with
      |zero=>exact absurd HA.out (by simp[newellaw21_GroupPicks.j1])
      |succ df=>
       have H:=HA.out
       clear HA
       simp only[newellaw21_GroupPicks.j1] at H
       by_cases fk:b6=0
       ·rw[if_pos fk] at H
        have c38b0:(b6==0)=true:=beq_iff_eq.mpr fk
        have c38b1:(b6 != 0)=false:=bne_eq_false_iff_eq.mpr fk
        clear fk
        have e9:=aK H
        clear H
        go_upto_region 11 with(fail)
        go_cut [4] (fun v4 wc=>∃ (kq:Nat) (dr:Bool),v4 = .bool dr∧Aside0 (newellaw21_GroupPicks.j3 kq dr=some r)∧Aside0 (kq≤df)∧Aside0 (wc.heap[μ]?=some (.cells #[.int .i64 B,.int .i64 J,.int .i64 O,.int .i64 X,.int .i64 Y,.int .i64 Z,.int .i64 γ,.int .i64 ζ,.int .i64 θ,.int .i64 η,(.slice ψ ν.length a0),.int .i64 χ,(.slice a1 ξ.length a2),(.slice a3 σ.length a5)] 52 (0,0)))∧Aside0 (wc.heap[b0]?=some (.cells #[.int .i64 δ,.int .i64 ε,.int .i64 ι] 36 (0,0)))∧Aside0 (Below w.heap.size w wc))
        case first=>
         have H:=e9.out
         clear e9
         obtain⟨dw,ee,H⟩:=qO H
         have ab:=aK ee
         clear ee
         by_cases gj:dw=true
         ·subst gj
          rw[if_pos rfl] at H
          by_cases cv:b5=0
          ·rw[if_pos cv] at H
           have c42b0:(b5==0)=true:=beq_iff_eq.mpr cv
           have c42b1:(b5 != 0)=false:=bne_eq_false_iff_eq.mpr cv
           clear cv
           (first|rw[c42b0]|(simp only[Za,Zb];rw[c42b0])|skip)
           obtain⟨ca,el,H⟩:=qO H
           have i3:=aK el
           clear el
           have H':=aK H
           clear H
           go_wp2_with (first|((with_reducible refine Qf (f:=9) rfl ?_);refine Qt (some 67) rfl rfl Try.func9 kr rfl #[] rfl qM ?_;(with_reducible refine(newellaw21_awake.calls df  true _ ab.out).mono ?_);rintro e bz ⟨rfl,hb⟩;refine⟨_,rfl, ?_⟩;replace κ :=sBk κ hb;replace φ :=sBk φ hb;replace HB:=sHb hb;(try clear hb);(try clear a4);(try clear hk);(try clear hi);have gx:=bi.out;have gy:=bj.out;have j6:bz.cell? ⟨μ,0,none⟩=some (.int .i64 B):=(Qa κ.out 0).trans rfl;have j7:bz.cell? ⟨μ,1,none⟩=some (.int .i64 J):=(Qa κ.out 1).trans rfl;have jx:bz.cell? ⟨μ,2,none⟩=some (.int .i64 O):=(Qa κ.out 2).trans rfl;have jy:bz.cell? ⟨μ,3,none⟩=some (.int .i64 X):=(Qa κ.out 3).trans rfl;have jz:bz.cell? ⟨μ,4,none⟩=some (.int .i64 Y):=(Qa κ.out 4).trans rfl;have k0:bz.cell? ⟨μ,5,none⟩=some (.int .i64 Z):=(Qa κ.out 5).trans rfl;have k1:bz.cell? ⟨μ,6,none⟩=some (.int .i64 γ):=(Qa κ.out 6).trans rfl;have h8:bz.cell? ⟨μ,7,none⟩=some (.int .i64 ζ):=(Qa κ.out 7).trans rfl;have i6:bz.cell? ⟨μ,8,none⟩=some (.int .i64 θ):=(Qa κ.out 8).trans rfl;have i7:bz.cell? ⟨μ,9,none⟩=some (.int .i64 η):=(Qa κ.out 9).trans rfl;have gb:bz.cell? ⟨μ,10,none⟩=some (.slice ψ ν.length a0):=(Qa κ.out 10).trans rfl;have ge:bz.cell? ⟨μ,11,none⟩=some (.int .i64 χ):=(Qa κ.out 11).trans rfl;have gf:bz.cell? ⟨μ,12,none⟩=some (.slice a1 ξ.length a2):=(Qa κ.out 12).trans rfl;have gg:bz.cell? ⟨μ,13,none⟩=some (.slice a3 σ.length a5):=(Qa κ.out 13).trans rfl;have j8:=Qh κ.out 0;have j9:=Qh κ.out 1;have k2:=Qh κ.out 2;have k3:=Qh κ.out 3;have k4:=Qh κ.out 4;have k5:=Qh κ.out 5;have k6:=Qh κ.out 6;have ie:=Qh κ.out 7;have ig:=Qh κ.out 8;have ih:=Qh κ.out 9;have gh:=Qh κ.out 10;have gi:=Qh κ.out 11;have gk:=Qh κ.out 12;have gl:=Qh κ.out 13;obtain⟨er,fz,ez,ga,gv,gw⟩:=qD3 φ.out)|(go_at_call 20;(with_reducible refine(newelref21_Pick.calls df B J O X Y Z γ ζ θ η _ _ ν χ _ _ ξ _ _ σ δ ε ι ca _ ?side1 ?side2 ?side3 ?side4 ?side5 ?side6 i3.out).mono ?_);(case side1=>exact(Kd.Qs b8.out HB.out));(case side2=>exact b9.out);(case side3=>exact(Kd.Qs bd.out HB.out));(case side4=>exact bf.out);(case side5=>exact(Kd.Qs bg.out HB.out));(case side6=>exact bh.out);rintro e fv ⟨rfl,hb⟩;have ρ:=aK (Qz (g:= μ) (o:=.cells #[.int .i64 B,.int .i64 J,.int .i64 O,.int .i64 X,.int .i64 Y,.int .i64 Z,.int .i64 γ,.int .i64 ζ,.int .i64 θ,.int .i64 η,.slice ψ ν.length a0,.int .i64 χ,.slice a1 ξ.length a2,.slice a3 σ.length a5] 52 (0,0)) κ.out hb);have τ :=aK (Qz (g:=b0) (o:=.cells #[.int .i64 δ,.int .i64 ε,.int .i64 ι] 36 (0,0)) φ.out hb);have ω :=aK (Q2 HB.out hb);clear κ;clear φ;clear HB;have κ :=ρ;have φ := τ;have HB:= ω;clear ρ τ ω;(try clear hb);(try clear a4);(try clear hk);(try clear hi)))
           go_meet
           case rel=>exact⟨_,((ce==ca)),rfl,H',⟨by have:=dq.out;have:=ed.out;first|omega|exact Nat.le_refl _⟩,κ,φ,HB⟩
          ·rw[if_neg cv] at H
           exact absurd H (by simp)
         ·replace gj:=Bool.eq_false_iff.mpr gj
          subst gj
          rw[if_neg nft] at H
          exact absurd H (by simp)
        case rest=>
         clear e9
         try clear c4
         try clear c38b0
         try clear c38b1
         try clear ap
         try clear ar
         try clear cf
         try clear cj
         try clear ck
         try clear co
         try clear al
         try clear bk
         try clear bl
         try clear bm
         try clear bn
         try clear dz
         try clear e0
         try clear e3
         try clear au
         try clear av
         try clear cp
         try clear cq
         try clear ct
         try clear cu
         try clear b7
         try clear bo
         try clear bp
         try clear bq
         try clear br
         try clear e4
         try clear e5
         try clear e6
         obtain⟨kq,dr,rfl,HA,ii,κ,φ,HB⟩:=hcut
         cases kq with
         |zero=>exact absurd HA.out (by simp[newellaw21_GroupPicks.j3])
         |succ ij=>
          have H:=HA.out
          clear HA
          simp only[newellaw21_GroupPicks.j3] at H
          obtain rfl:=Option.some.inj H
          go_wp2
          go_ret
          exact⟨rfl,HB.out⟩
       ·rw[if_neg fk] at H
        have c38b0:(b6==0)=false:=beq_eq_false_iff_ne.mpr fk
        have c38b1:(b6 != 0)=true:=bne_iff_ne.mpr fk
        have ea:=aK H
        clear H
        go_upto_region 10 with(fail)
        go_cut [4] (fun v4 wc=>∃ (kq:Nat) (dv:Bool),v4 = .bool dv∧Aside0 (newellaw21_GroupPicks.j2 kq dv=some r)∧Aside0 (kq≤df)∧Aside0 (wc.heap[μ]?=some (.cells #[.int .i64 B,.int .i64 J,.int .i64 O,.int .i64 X,.int .i64 Y,.int .i64 Z,.int .i64 γ,.int .i64 ζ,.int .i64 θ,.int .i64 η,(.slice ψ ν.length a0),.int .i64 χ,(.slice a1 ξ.length a2),(.slice a3 σ.length a5)] 52 (0,0)))∧Aside0 (wc.heap[b0]?=some (.cells #[.int .i64 δ,.int .i64 ε,.int .i64 ι] 36 (0,0)))∧Aside0 (Below w.heap.size w wc))
        case first=>
         have H:=ea.out
         clear ea
         obtain⟨dx,d5,H⟩:=qO H
         have bc:=aK d5
         clear d5
         by_cases cy:dx=true
         ·subst cy
          rw[if_pos rfl] at H
          by_cases cz:b5=b6
          ·rw[if_pos cz] at H
           have c52b0:(b5==b6)=true:=beq_iff_eq.mpr cz
           have c52b1:(b5 != b6)=false:=bne_eq_false_iff_eq.mpr cz
           clear cz
           (first|rw[c52b0]|(simp only[Za,Zb];rw[c52b0])|skip)
           have H':=aK H
           clear H
           go_wp2_with (first|((with_reducible refine Qf (f:=9) rfl ?_);refine Qt (some 57) rfl rfl Try.func9 kr rfl #[] rfl qM ?_;(with_reducible refine(newellaw21_awake.calls df  true _ bc.out).mono ?_);rintro e fu ⟨rfl,hb⟩;refine⟨_,rfl, ?_⟩;replace κ :=sBk κ hb;replace φ :=sBk φ hb;replace HB:=sHb hb;(try clear hb);(try clear a4);(try clear hk);(try clear hi)))
           go_meet
           case rel=>exact⟨_,((ce==0)),rfl,H',⟨by have:=dq.out;have:=ed.out;first|omega|exact Nat.le_refl _⟩,κ,φ,HB⟩
          ·rw[if_neg cz] at H
           exact absurd H (by simp)
         ·replace cy:=Bool.eq_false_iff.mpr cy
          subst cy
          rw[if_neg nft] at H
          exact absurd H (by simp)
        case rest=>
         clear ea
         try clear c4
         try clear fk
         try clear c38b0
         try clear c38b1
         try clear ap
         try clear ar
         try clear cf
         try clear cj
         try clear ck
         try clear co
         try clear al
         try clear bk
         try clear bl
         try clear bm
         try clear bn
         try clear dz
         try clear e0
         try clear e3
         try clear au
         try clear av
         try clear cp
         try clear cq
         try clear ct
         try clear cu
         try clear b7
         try clear bo
         try clear bp
         try clear bq
         try clear br
         try clear e4
         try clear e5
         try clear e6
         obtain⟨kq,dv,rfl,HA,ik,κ,φ,HB⟩:=hcut
         cases kq with
         |zero=>exact absurd HA.out (by simp[newellaw21_GroupPicks.j2])
         |succ il=>
          have H:=HA.out
          clear HA
          simp only[newellaw21_GroupPicks.j2] at H
          obtain rfl:=Option.some.inj H
          go_wp2
          go_ret
          exact⟨rfl,HB.out⟩
  ·rw[if_neg c10] at H
   exact absurd H (by simp)
 ·replace c4:=Bool.eq_false_iff.mpr c4
  subst c4
  rw[if_neg nft] at H
  obtain⟨de,em,H⟩:=qO H
  have i4:=aK em
  clear em
  obtain rfl:=Option.some.inj H
  go_enter Try.func4,Try.ntmps4
  go_wp2_with (first|((with_reducible refine Qe (N:=2) rfl ?_);refine qE 2 #[.int .i64 B,.int .i64 J,.int .i64 O,.int .i64 X,.int .i64 Y,.int .i64 Z,.int .i64 γ,.int .i64 ζ,.int .i64 θ,.int .i64 η,.slice ψ ν.length a0,.int .i64 χ,.slice a1 ξ.length a2,.slice a3 σ.length a5] 52 ?_;intro μ hg ev hbox hb;have κ :=aK hbox;have en:=sGe hg;have eo:=sGe hg;replace HB:=sHb hb;clear hb hbox hg)|((with_reducible refine Qe (N:=3) rfl ?_);refine qE 3 #[.int .i64 δ,.int .i64 ε,.int .i64 ι] 36 ?_;intro b0 hg bs hbox hb;have φ :=aK hbox;have et:=sGe hg;have eu:=sGe hg;have bi:=sNl κ hg;have bj:=sNg κ hg;replace κ :=sBk κ hb;replace HB:=sHb hb;clear hb hbox hg;have i5:=bi.out;have i9:=bj.out;have mb:bs.cell? ⟨μ,0,none⟩=some (.int .i64 B):=(Qa κ.out 0).trans rfl;have mc:bs.cell? ⟨μ,1,none⟩=some (.int .i64 J):=(Qa κ.out 1).trans rfl;have gz:bs.cell? ⟨μ,2,none⟩=some (.int .i64 O):=(Qa κ.out 2).trans rfl;have h0:bs.cell? ⟨μ,3,none⟩=some (.int .i64 X):=(Qa κ.out 3).trans rfl;have h4:bs.cell? ⟨μ,4,none⟩=some (.int .i64 Y):=(Qa κ.out 4).trans rfl;have h5:bs.cell? ⟨μ,5,none⟩=some (.int .i64 Z):=(Qa κ.out 5).trans rfl;have h6:bs.cell? ⟨μ,6,none⟩=some (.int .i64 γ):=(Qa κ.out 6).trans rfl;have h7:bs.cell? ⟨μ,7,none⟩=some (.int .i64 ζ):=(Qa κ.out 7).trans rfl;have h9:bs.cell? ⟨μ,8,none⟩=some (.int .i64 θ):=(Qa κ.out 8).trans rfl;have ha:bs.cell? ⟨μ,9,none⟩=some (.int .i64 η):=(Qa κ.out 9).trans rfl;have gm:bs.cell? ⟨μ,10,none⟩=some (.slice ψ ν.length a0):=(Qa κ.out 10).trans rfl;have gn:bs.cell? ⟨μ,11,none⟩=some (.int .i64 χ):=(Qa κ.out 11).trans rfl;have gp:bs.cell? ⟨μ,12,none⟩=some (.slice a1 ξ.length a2):=(Qa κ.out 12).trans rfl;have gq:bs.cell? ⟨μ,13,none⟩=some (.slice a3 σ.length a5):=(Qa κ.out 13).trans rfl;have me:=Qh κ.out 0;have mf:=Qh κ.out 1;have he:=Qh κ.out 2;have hj:=Qh κ.out 3;have hl:=Qh κ.out 4;have ho:=Qh κ.out 5;have hu:=Qh κ.out 6;have hx:=Qh κ.out 7;have hy:=Qh κ.out 8;have i0:=Qh κ.out 9;have gr:=Qh κ.out 10;have gs:=Qh κ.out 11;have gt:=Qh κ.out 12;have gu:=Qh κ.out 13)|((with_reducible refine Qf (f:=13) rfl ?_);refine Qt (some 9) rfl rfl Try.func13 kr rfl #[.agg #[.int .i64 B,.int .i64 J,.int .i64 O,.int .i64 X,.int .i64 Y,.int .i64 Z,.int .i64 γ,.int .i64 ζ,.int .i64 θ,.int .i64 η,.slice ψ ν.length a0,.int .i64 χ,.slice a1 ξ.length a2,.slice a3 σ.length a5]] rfl qM ?_;(with_reducible refine(newellaw21_few.calls B J O X Y Z γ ζ θ η _ _ ν χ _ _ ξ _ _ σ false _ ?side1 ?side2 ?side3 ?side4 ?side5 ?side6 A3.out).mono ?_);(case side1=>exact(Kd.Qs b8.out HB.out));(case side2=>exact b9.out);(case side3=>exact(Kd.Qs bd.out HB.out));(case side4=>exact bf.out);(case side5=>exact(Kd.Qs bg.out HB.out));(case side6=>exact bh.out);rintro e mm ⟨rfl,hb⟩;refine⟨_,rfl, ?_⟩;replace κ :=sBk κ hb;replace φ :=sBk φ hb;replace HB:=sHb hb;(try clear hb);(try clear a4);(try clear hk);(try clear hi))|((with_reducible refine Qf (f:=9) rfl ?_);refine Qt (some 11) rfl rfl Try.func9 kr rfl #[] rfl qM ?_;(with_reducible refine(newellaw21_awake.calls k  de _ i4.out).mono ?_);rintro e k7 ⟨rfl,hb⟩;refine⟨_,rfl, ?_⟩;replace κ :=sBk κ hb;replace φ :=sBk φ hb;replace HB:=sHb hb;(try clear hb);(try clear a4);(try clear hk);(try clear hi)))
  go_ret
  exact⟨rfl,HB.out⟩
end Go.Proofs.Ytmfffemidlhcpaa.C
namespace Go.Proofs.Ytmfffemidlhcpaa.GrpPure
open Go.RowKit Go.Proofs.YtmfffemidlhcpaaW.PrintWords Go.Proofs.YtmfffemidlhcpaaW.PrintLast Go.Proofs.YtmfffemidlhcpaaW.PrintMore Go.Proofs.Ytmfffemidlhcpaa.C Go.Proofs.Ytmfffemidlhcpaa.DoorPure
set_option linter.unusedVariables false
set_option linter.unusedSimpArgs false
open Go.Proofs.Ytmfffemidlhcpaa.Call (i64 okB X3 Xp Xq Hall Ins)
theorem N2 (g0 g1 g2 g3 g4 g5 g6 g7 g8 g9:Int) (L:List S31) (a2:Int) (H:List Hall) (I:List Ins) (B J X:Int) (hd:i64 J) (hH:H.length≤1000) (hI:I.length≤1000) (f:Nat) (hf:3200<f):
 group_Pick.f f g0 g1 g2 g3 g4 g5 g6 g7 g8 g9 L a2 H I B J X=some (if Jc g0 g1 g2 g3 g4 g5 g6 g7 g8 g9 L H I=0 then (if Xf g0 L.length B J X=true then (Nn g0 g1 g2 g3 g4 g5 g6 g7 g8 g9 L a2 H I B J,0) else (0,210)) else (0,Jc g0 g1 g2 g3 g4 g5 g6 g7 g8 g9 L H I)):=by
 unfold group_Pick.f
 rw[Vx _ _ _ _ _ _ _ _ _ _ L H I (by omega) (by omega) f (by omega)]
 simp only[Option.bind_some]
 by_cases h:Jc g0 g1 g2 g3 g4 g5 g6 g7 g8 g9 L H I=0
 ·have ok:=Ds h
  have hn:=ok.n
  rw[if_pos h,if_pos h]
  unfold group_house.f
  simp only[Option.bind_some]
  rw[Da ok.f (by omega) B J X hd f (by omega)]
  simp only[Option.bind_some]
  cases hb:Xf g0 L.length B J X
  ·rfl
  ·rw[Es ok hH hI J X a2 (Ls ok.f (by omega) hb) f (by omega)]
   rfl
 ·rw[if_neg h,if_neg h]
theorem W6 (g0 g1 g2 g3 g4 g5 g6 g7 g8 g9:Int) (L:List S31) (a2:Int) (H:List Hall) (I:List Ins):newellaw21_few.f g0 g1 g2 g3 g4 g5 g6 g7 g8 g9 L a2 H I=some false∨(newellaw21_few.f g0 g1 g2 g3 g4 g5 g6 g7 g8 g9 L a2 H I=some true∧L.length≤10∧H.length≤130∧I.length≤520):=by
 unfold newellaw21_few.f
 by_cases h:(L.length:Int)≤10
 ·rw[if_pos h]
  rcases Call.W6 H I with e|⟨e,a,b⟩
  ·rw[e];exact Or.inl rfl
  ·rw[e];exact Or.inr ⟨rfl,by omega,a,b⟩
 ·rw[if_neg h];exact Or.inl rfl
theorem Me (g0 g1 g2 g3 g4 g5 g6 g7 g8 g9:Int) (L:List S31) (a2:Int) (H:List Hall) (I:List Ins) (B J X:Int) (hd:i64 J) (f:Nat) (hf:9000≤f):newellaw21_GroupPicks.f f g0 g1 g2 g3 g4 g5 g6 g7 g8 g9 L a2 H I B J X=some true:=by
 unfold newellaw21_GroupPicks.f
 rcases W6 g0 g1 g2 g3 g4 g5 g6 g7 g8 g9 L a2 H I with e|⟨e,hL,hH,hI⟩
 ·rw[e]
  simp only[Option.bind_some]
  rw[if_neg (by decide),K7 f (by omega)]
  rfl
 ·rw[e]
  simp only[Option.bind_some,if_true]
  rw[Call.Ca H I (by omega) (by omega)]
  simp only[Option.bind_some]
  rw[N2 _ _ _ _ _ _ _ _ _ _ L a2 H I B J X hd (by omega) (by omega) f (by omega),Wu _ _ _ _ _ _ _ _ _ _ L H I (by omega) (by omega) f (by omega),Vx _ _ _ _ _ _ _ _ _ _ L H I (by omega) (by omega) f (by omega)]
  simp only[Option.bind_some,if_true]
  obtain⟨f,rfl⟩:∃ m,f=m+3:=⟨f-3,by omega⟩
  have z0:¬ (210:Int)=0:=by decide
  by_cases h:Jc g0 g1 g2 g3 g4 g5 g6 g7 g8 g9 L H I=0
  ·have ok:=Ds h
   have hn:=ok.n
   rw[if_pos h,if_pos h,h]
   unfold newelref21_House.f
   simp only[Option.bind_some]
   rw[Call.Gg _ B J X ok.f (by omega) (by omega)]
   simp only[Option.bind_some]
   cases hb:Xf g0 L.length B J X
   ·simp only[Bool.false_eq_true,if_false,Bool.not_false,newellaw21_GroupPicks.j0,if_true,newellaw21_GroupPicks.j1]
    rw[if_neg z0,K7 _ (by omega)]
    simp[newellaw21_GroupPicks.j2]
   ·simp only[Bool.not_true,newellaw21_GroupPicks.j0,Bool.false_eq_true,if_false,if_true,newellaw21_GroupPicks.j1]
    rw[K7 _ (by omega),Nf ok (by omega) (by omega) J X a2 (Ls ok.f (by omega) hb) _ (by omega)]
    simp[newellaw21_GroupPicks.j3]
  ·rw[if_neg h,if_neg h]
   simp only[newellaw21_GroupPicks.j0,Bool.false_eq_true,if_false,newellaw21_GroupPicks.j1]
   rw[if_neg h,K7 _ (by omega)]
   simp[newellaw21_GroupPicks.j2]
end Go.Proofs.Ytmfffemidlhcpaa.GrpPure
