/- Texts of this claim, one behind the other: what the law's functions come to, walked (printed by a program, with the words that the print uses), and what that is, in plain Lean. No conditions of their own. -/
import Derived.Test.YtmfffemidlhcpaaQGroupBounds11
namespace Go.Proofs.Ytmfffemidlhcpaa.C
open Go.RowKit Go.Proofs.YtmfffemidlhcpaaW.PrintWords Go.Proofs.YtmfffemidlhcpaaW.PrintLast Go.Proofs.YtmfffemidlhcpaaW.PrintMore
attribute [local go_sem] Z1 Zz Z9 Z8 Zq Zp Z0 Zy
set_option linter.unusedVariables false
set_option linter.unusedSimpArgs false
def newellaw21_awake.f (k:Nat):Option (Bool):=(newellaw17_Plain.f).bind fun J=>((some (([(⟨(⟨0,0,0,0,(⟨0,0,0⟩:S27)⟩:S29),0,false,false⟩:S31),(⟨(⟨3,0,0,0,(⟨0,0,0⟩:S27)⟩:S29),0,false,false⟩:S31)]:List (S31)):List (S31))).bind fun B=>((some (([(⟨2,1,(-1)⟩:S36)]:List (S36)):List (S36))).bind fun ρ=>(if 0<(B.length:Int) then ((group_Cost.f k J.1 J.2.1 J.2.2.1 J.2.2.2.1 J.2.2.2.2.1 J.2.2.2.2.2.1 J.2.2.2.2.2.2.1 J.2.2.2.2.2.2.2.1 J.2.2.2.2.2.2.2.2.1 J.2.2.2.2.2.2.2.2.2 ((Qm B 0).f0.f0) ((Qm B 0).f0.f1) ((Qm B 0).f0.f2) ((Qm B 0).f0.f3) ((Qm B 0).f0.f4.f0) ((Qm B 0).f0.f4.f1) ((Qm B 0).f0.f4.f2) ((Qm B 0).f1) ((Qm B 0).f2) ((Qm B 0).f3) ([]:List Int) ([]:List Int) ([]:List Int) 2 1 (-1)).bind fun az=>(if 1<(B.length:Int) then ((group_Cost.f k J.1 J.2.1 J.2.2.1 J.2.2.2.1 J.2.2.2.2.1 J.2.2.2.2.2.1 J.2.2.2.2.2.2.1 J.2.2.2.2.2.2.2.1 J.2.2.2.2.2.2.2.2.1 J.2.2.2.2.2.2.2.2.2 ((Qm B 1).f0.f0) ((Qm B 1).f0.f1) ((Qm B 1).f0.f2) ((Qm B 1).f0.f3) ((Qm B 1).f0.f4.f0) ((Qm B 1).f0.f4.f1) ((Qm B 1).f0.f4.f2) ((Qm B 1).f1) ((Qm B 1).f2) ((Qm B 1).f3) ([]:List Int) ([]:List Int) ([]:List Int) 2 1 (-1)).bind fun ac=>((group_Pick.f k J.1 J.2.1 J.2.2.1 J.2.2.2.1 J.2.2.2.2.1 J.2.2.2.2.2.1 J.2.2.2.2.2.2.1 J.2.2.2.2.2.2.2.1 J.2.2.2.2.2.2.2.2.1 J.2.2.2.2.2.2.2.2.2 B 0 ρ ([]:List (S86)) 2 1 (-1)).bind fun a9=>((group_Spread.f k J.1 J.2.1 J.2.2.1 J.2.2.2.1 J.2.2.2.2.1 J.2.2.2.2.2.1 J.2.2.2.2.2.2.1 J.2.2.2.2.2.2.2.1 J.2.2.2.2.2.2.2.2.1 J.2.2.2.2.2.2.2.2.2 B 0 ρ ([]:List (S86))).bind fun a0=>(if az.1=4 then (if az.2=0 then (if ac.1=2 then (if ac.2=0 then (if a9.1=1 then (if a9.2=0 then (if a0.2.2=0 then (if (a0.1.length:Int)=1 then (if 0<(a0.1.length:Int) then (if ((Ql a0.1 0).f2)=1 then ((group_Check.f k J.1 J.2.1 J.2.2.1 J.2.2.2.1 J.2.2.2.2.1 J.2.2.2.2.2.1 J.2.2.2.2.2.2.1 J.2.2.2.2.2.2.2.1 J.2.2.2.2.2.2.2.2.1 J.2.2.2.2.2.2.2.2.2 B ρ ([]:List (S86))).bind fun af=>(some (af==0))) else (none)) else (none)) else (none)) else (none)) else (none)) else (none)) else (none)) else (none)) else (none)) else (none))))) else (none))) else (none))))
theorem newellaw21_awake.mono:∀ k,LeO (newellaw21_awake.f k) (newellaw21_awake.f (k+1)):=by
 intro  k
 unfold newellaw21_awake.f
 repeat' first
   |(with_reducible exact group_Check.mono _ _ _ _ _ _ _ _ _ _ _ _ _ _)
   |(with_reducible exact group_Cost.mono _ _ _ _ _ _ _ _ _ _ _ _ _ _ _ _ _ _ _ _ _ _ _ _ _ _ _)
   |(with_reducible exact group_Pick.mono _ _ _ _ _ _ _ _ _ _ _ _ _ _ _ _ _ _)
   |(with_reducible exact group_Spread.mono _ _ _ _ _ _ _ _ _ _ _ _ _ _ _)
   |(with_reducible exact LeO.refl _)
   |(with_reducible exact LeO.none _)
   |(with_reducible refine LeO.ite ?_ ?_)
   |(with_reducible refine LeO.bind ?_ (fun _=>?_))
   |exact group_Check.mono _ _ _ _ _ _ _ _ _ _ _ _ _ _
   |exact group_Cost.mono _ _ _ _ _ _ _ _ _ _ _ _ _ _ _ _ _ _ _ _ _ _ _ _ _ _ _
   |exact group_Pick.mono _ _ _ _ _ _ _ _ _ _ _ _ _ _ _ _ _ _
   |exact group_Spread.mono _ _ _ _ _ _ _ _ _ _ _ _ _ _ _
   |exact LeO.none _
   |refine LeO.ite ?_ ?_
   |refine LeO.bind ?_ (fun _=>?_)
def newellaw21_awake.T5:Bool×List (List Nat×List Nat):=(true,[([],[]),([],[]),([1],[1]),([2],[2]),([],[]),([],[]),([0,3,4,5],[0,3,4,5]),([6],[6]),([7],[7]),([7],[7]),([8,6,0,1,2,3,4,5,6,7,8],[8]),([9,10,0,1,2,3,4,5,6,7,8,9,10],[9])])
def newellaw21_awake.B5:List Nat:=[0,0,2,6,0,0,63,127,255,255,511,2047]
theorem newellaw21_awake.Mr:rtab .any (opsOf Try.f9 5)=newellaw21_awake.T5:=by kernel_rfl
theorem newellaw21_awake.Wj:Z3 newellaw21_awake.T5.2 newellaw21_awake.B5=true:=by kernel_rfl
def newellaw21_awake.T6:Bool×List (List Nat×List Nat):=(true,[([],[]),([],[]),([1],[1]),([2],[2]),([],[]),([],[]),([0,3,4,5],[0,3,4,5]),([6],[6]),([7],[7]),([7],[7]),([8,6,0,1,2,3,4,5,6,7,8],[8]),([9,10,0,1,2,3,4,5,6,7,8,9,10],[9])])
def newellaw21_awake.B6:List Nat:=[0,0,2,6,0,0,63,127,255,255,511,2047]
theorem newellaw21_awake.N1:rtab .any (opsOf Try.f9 6)=newellaw21_awake.T6:=by kernel_rfl
theorem newellaw21_awake.Me:Z3 newellaw21_awake.T6.2 newellaw21_awake.B6=true:=by kernel_rfl
set_option maxHeartbeats 8000000 in
set_option maxRecDepth 100000 in
theorem newellaw21_awake.calls (k:Nat)  (r:Bool) (w:World) (h:newellaw21_awake.f k=some r):
  Calls Try.prog 9 #[] w fun e w'=>e = .returned (.bool r)∧Below w.heap.size w w':=by
 have dc:=Try.underlying25
 have fv:=Try.underlying31
 have g8:=Try.underlying29
 have da:=Try.underlying36
 have fe:=Try.underlying50
 have ga:=Try.underlying34
 have HB:=Aside0.mk (Below.refl w.heap.size w)
 have H:((newellaw17_Plain.f).bind fun J=>((some (([(⟨(⟨0,0,0,0,(⟨0,0,0⟩:S27)⟩:S29),0,false,false⟩:S31),(⟨(⟨3,0,0,0,(⟨0,0,0⟩:S27)⟩:S29),0,false,false⟩:S31)]:List (S31)):List (S31))).bind fun B=>((some (([(⟨2,1,(-1)⟩:S36)]:List (S36)):List (S36))).bind fun ρ=>(if 0<(B.length:Int) then ((group_Cost.f k J.1 J.2.1 J.2.2.1 J.2.2.2.1 J.2.2.2.2.1 J.2.2.2.2.2.1 J.2.2.2.2.2.2.1 J.2.2.2.2.2.2.2.1 J.2.2.2.2.2.2.2.2.1 J.2.2.2.2.2.2.2.2.2 ((Qm B 0).f0.f0) ((Qm B 0).f0.f1) ((Qm B 0).f0.f2) ((Qm B 0).f0.f3) ((Qm B 0).f0.f4.f0) ((Qm B 0).f0.f4.f1) ((Qm B 0).f0.f4.f2) ((Qm B 0).f1) ((Qm B 0).f2) ((Qm B 0).f3) ([]:List Int) ([]:List Int) ([]:List Int) 2 1 (-1)).bind fun az=>(if 1<(B.length:Int) then ((group_Cost.f k J.1 J.2.1 J.2.2.1 J.2.2.2.1 J.2.2.2.2.1 J.2.2.2.2.2.1 J.2.2.2.2.2.2.1 J.2.2.2.2.2.2.2.1 J.2.2.2.2.2.2.2.2.1 J.2.2.2.2.2.2.2.2.2 ((Qm B 1).f0.f0) ((Qm B 1).f0.f1) ((Qm B 1).f0.f2) ((Qm B 1).f0.f3) ((Qm B 1).f0.f4.f0) ((Qm B 1).f0.f4.f1) ((Qm B 1).f0.f4.f2) ((Qm B 1).f1) ((Qm B 1).f2) ((Qm B 1).f3) ([]:List Int) ([]:List Int) ([]:List Int) 2 1 (-1)).bind fun ac=>((group_Pick.f k J.1 J.2.1 J.2.2.1 J.2.2.2.1 J.2.2.2.2.1 J.2.2.2.2.2.1 J.2.2.2.2.2.2.1 J.2.2.2.2.2.2.2.1 J.2.2.2.2.2.2.2.2.1 J.2.2.2.2.2.2.2.2.2 B 0 ρ ([]:List (S86)) 2 1 (-1)).bind fun a9=>((group_Spread.f k J.1 J.2.1 J.2.2.1 J.2.2.2.1 J.2.2.2.2.1 J.2.2.2.2.2.1 J.2.2.2.2.2.2.1 J.2.2.2.2.2.2.2.1 J.2.2.2.2.2.2.2.2.1 J.2.2.2.2.2.2.2.2.2 B 0 ρ ([]:List (S86))).bind fun a0=>(if az.1=4 then (if az.2=0 then (if ac.1=2 then (if ac.2=0 then (if a9.1=1 then (if a9.2=0 then (if a0.2.2=0 then (if (a0.1.length:Int)=1 then (if 0<(a0.1.length:Int) then (if ((Ql a0.1 0).f2)=1 then ((group_Check.f k J.1 J.2.1 J.2.2.1 J.2.2.2.1 J.2.2.2.2.1 J.2.2.2.2.2.1 J.2.2.2.2.2.2.1 J.2.2.2.2.2.2.2.1 J.2.2.2.2.2.2.2.2.1 J.2.2.2.2.2.2.2.2.2 B ρ ([]:List (S86))).bind fun af=>(some (af==0))) else (none)) else (none)) else (none)) else (none)) else (none)) else (none)) else (none)) else (none)) else (none)) else (none))))) else (none))) else (none)))))=some r:=h
 clear h
 replace H:=Option.bind_eq_some_iff.mp H
 obtain⟨⟨Z,γ,ar,ε,ζ,ι,κ,ν,σ,τ⟩,e3,H⟩:=H
 replace H:((some (([(⟨(⟨0,0,0,0,(⟨0,0,0⟩:S27)⟩:S29),0,false,false⟩:S31),(⟨(⟨3,0,0,0,(⟨0,0,0⟩:S27)⟩:S29),0,false,false⟩:S31)]:List (S31)):List (S31))).bind fun B=>((some (([(⟨2,1,(-1)⟩:S36)]:List (S36)):List (S36))).bind fun ρ=>(if 0<(B.length:Int) then ((group_Cost.f k Z γ ar ε ζ ι κ ν σ τ ((Qm B 0).f0.f0) ((Qm B 0).f0.f1) ((Qm B 0).f0.f2) ((Qm B 0).f0.f3) ((Qm B 0).f0.f4.f0) ((Qm B 0).f0.f4.f1) ((Qm B 0).f0.f4.f2) ((Qm B 0).f1) ((Qm B 0).f2) ((Qm B 0).f3) ([]:List Int) ([]:List Int) ([]:List Int) 2 1 (-1)).bind fun az=>(if 1<(B.length:Int) then ((group_Cost.f k Z γ ar ε ζ ι κ ν σ τ ((Qm B 1).f0.f0) ((Qm B 1).f0.f1) ((Qm B 1).f0.f2) ((Qm B 1).f0.f3) ((Qm B 1).f0.f4.f0) ((Qm B 1).f0.f4.f1) ((Qm B 1).f0.f4.f2) ((Qm B 1).f1) ((Qm B 1).f2) ((Qm B 1).f3) ([]:List Int) ([]:List Int) ([]:List Int) 2 1 (-1)).bind fun ac=>((group_Pick.f k Z γ ar ε ζ ι κ ν σ τ B 0 ρ ([]:List (S86)) 2 1 (-1)).bind fun a9=>((group_Spread.f k Z γ ar ε ζ ι κ ν σ τ B 0 ρ ([]:List (S86))).bind fun a0=>(if az.1=4 then (if az.2=0 then (if ac.1=2 then (if ac.2=0 then (if a9.1=1 then (if a9.2=0 then (if a0.2.2=0 then (if (a0.1.length:Int)=1 then (if 0<(a0.1.length:Int) then (if ((Ql a0.1 0).f2)=1 then ((group_Check.f k Z γ ar ε ζ ι κ ν σ τ B ρ ([]:List (S86))).bind fun af=>(some (af==0))) else (none)) else (none)) else (none)) else (none)) else (none)) else (none)) else (none)) else (none)) else (none)) else (none))))) else (none))) else (none))))=some r:=H
 have A1:=Aside0.mk e3
 clear e3
 obtain⟨B,d3⟩:∃ y_:List (S31),y_=(([(⟨(⟨0,0,0,0,(⟨0,0,0⟩:S27)⟩:S29),0,false,false⟩:S31),(⟨(⟨3,0,0,0,(⟨0,0,0⟩:S27)⟩:S29),0,false,false⟩:S31)]:List (S31))):=⟨_,rfl⟩
 replace H:((some (([(⟨2,1,(-1)⟩:S36)]:List (S36)):List (S36))).bind fun ρ=>(if 0<(B.length:Int) then ((group_Cost.f k Z γ ar ε ζ ι κ ν σ τ ((Qm B 0).f0.f0) ((Qm B 0).f0.f1) ((Qm B 0).f0.f2) ((Qm B 0).f0.f3) ((Qm B 0).f0.f4.f0) ((Qm B 0).f0.f4.f1) ((Qm B 0).f0.f4.f2) ((Qm B 0).f1) ((Qm B 0).f2) ((Qm B 0).f3) ([]:List Int) ([]:List Int) ([]:List Int) 2 1 (-1)).bind fun az=>(if 1<(B.length:Int) then ((group_Cost.f k Z γ ar ε ζ ι κ ν σ τ ((Qm B 1).f0.f0) ((Qm B 1).f0.f1) ((Qm B 1).f0.f2) ((Qm B 1).f0.f3) ((Qm B 1).f0.f4.f0) ((Qm B 1).f0.f4.f1) ((Qm B 1).f0.f4.f2) ((Qm B 1).f1) ((Qm B 1).f2) ((Qm B 1).f3) ([]:List Int) ([]:List Int) ([]:List Int) 2 1 (-1)).bind fun ac=>((group_Pick.f k Z γ ar ε ζ ι κ ν σ τ B 0 ρ ([]:List (S86)) 2 1 (-1)).bind fun a9=>((group_Spread.f k Z γ ar ε ζ ι κ ν σ τ B 0 ρ ([]:List (S86))).bind fun a0=>(if az.1=4 then (if az.2=0 then (if ac.1=2 then (if ac.2=0 then (if a9.1=1 then (if a9.2=0 then (if a0.2.2=0 then (if (a0.1.length:Int)=1 then (if 0<(a0.1.length:Int) then (if ((Ql a0.1 0).f2)=1 then ((group_Check.f k Z γ ar ε ζ ι κ ν σ τ B ρ ([]:List (S86))).bind fun af=>(some (af==0))) else (none)) else (none)) else (none)) else (none)) else (none)) else (none)) else (none)) else (none)) else (none)) else (none))))) else (none))) else (none)))=some r:=by first|(rw[d3];with_reducible exact H)|(have ax:=(Option.bind_some _ _).symm.trans H;rw[d3];with_reducible exact ax)|(have ax:=(Option.bind_some _ _).symm.trans H;with_reducible exact ax)|with_reducible exact H|(rw[d3];exact H)|exact H
 have fm:=Aside0.mk d3
 clear d3
 obtain⟨ρ,d4⟩:∃ y_:List (S36),y_=(([(⟨2,1,(-1)⟩:S36)]:List (S36))):=⟨_,rfl⟩
 replace H:(if 0<(B.length:Int) then ((group_Cost.f k Z γ ar ε ζ ι κ ν σ τ ((Qm B 0).f0.f0) ((Qm B 0).f0.f1) ((Qm B 0).f0.f2) ((Qm B 0).f0.f3) ((Qm B 0).f0.f4.f0) ((Qm B 0).f0.f4.f1) ((Qm B 0).f0.f4.f2) ((Qm B 0).f1) ((Qm B 0).f2) ((Qm B 0).f3) ([]:List Int) ([]:List Int) ([]:List Int) 2 1 (-1)).bind fun az=>(if 1<(B.length:Int) then ((group_Cost.f k Z γ ar ε ζ ι κ ν σ τ ((Qm B 1).f0.f0) ((Qm B 1).f0.f1) ((Qm B 1).f0.f2) ((Qm B 1).f0.f3) ((Qm B 1).f0.f4.f0) ((Qm B 1).f0.f4.f1) ((Qm B 1).f0.f4.f2) ((Qm B 1).f1) ((Qm B 1).f2) ((Qm B 1).f3) ([]:List Int) ([]:List Int) ([]:List Int) 2 1 (-1)).bind fun ac=>((group_Pick.f k Z γ ar ε ζ ι κ ν σ τ B 0 ρ ([]:List (S86)) 2 1 (-1)).bind fun a9=>((group_Spread.f k Z γ ar ε ζ ι κ ν σ τ B 0 ρ ([]:List (S86))).bind fun a0=>(if az.1=4 then (if az.2=0 then (if ac.1=2 then (if ac.2=0 then (if a9.1=1 then (if a9.2=0 then (if a0.2.2=0 then (if (a0.1.length:Int)=1 then (if 0<(a0.1.length:Int) then (if ((Ql a0.1 0).f2)=1 then ((group_Check.f k Z γ ar ε ζ ι κ ν σ τ B ρ ([]:List (S86))).bind fun af=>(some (af==0))) else (none)) else (none)) else (none)) else (none)) else (none)) else (none)) else (none)) else (none)) else (none)) else (none))))) else (none))) else (none))=some r:=by first|(rw[d4];with_reducible exact H)|(have ax:=(Option.bind_some _ _).symm.trans H;rw[d4];with_reducible exact ax)|(have ax:=(Option.bind_some _ _).symm.trans H;with_reducible exact ax)|with_reducible exact H|(rw[d4];exact H)|exact H
 have fn:=Aside0.mk d4
 clear d4
 by_cases c2:0<(B.length:Int)
 ·rw[if_pos c2] at H
  have c2b0:decide (0<(B.length:Int))=true:=decide_eq_true c2
  have c2b1:decide (0<B.length)=true:=decide_eq_true (by omega)
  clear c2
  replace H:=Option.bind_eq_some_iff.mp H
  obtain⟨⟨cu,cp⟩,ab,H⟩:=H
  replace H:(if 1<(B.length:Int) then ((group_Cost.f k Z γ ar ε ζ ι κ ν σ τ ((Qm B 1).f0.f0) ((Qm B 1).f0.f1) ((Qm B 1).f0.f2) ((Qm B 1).f0.f3) ((Qm B 1).f0.f4.f0) ((Qm B 1).f0.f4.f1) ((Qm B 1).f0.f4.f2) ((Qm B 1).f1) ((Qm B 1).f2) ((Qm B 1).f3) ([]:List Int) ([]:List Int) ([]:List Int) 2 1 (-1)).bind fun ac=>((group_Pick.f k Z γ ar ε ζ ι κ ν σ τ B 0 ρ ([]:List (S86)) 2 1 (-1)).bind fun a9=>((group_Spread.f k Z γ ar ε ζ ι κ ν σ τ B 0 ρ ([]:List (S86))).bind fun a0=>(if cu=4 then (if cp=0 then (if ac.1=2 then (if ac.2=0 then (if a9.1=1 then (if a9.2=0 then (if a0.2.2=0 then (if (a0.1.length:Int)=1 then (if 0<(a0.1.length:Int) then (if ((Ql a0.1 0).f2)=1 then ((group_Check.f k Z γ ar ε ζ ι κ ν σ τ B ρ ([]:List (S86))).bind fun af=>(some (af==0))) else (none)) else (none)) else (none)) else (none)) else (none)) else (none)) else (none)) else (none)) else (none)) else (none))))) else (none))=some r:=H
  have A3:=Aside0.mk ab
  clear ab
  by_cases c4:1<(B.length:Int)
  ·rw[if_pos c4] at H
   have c4b0:decide (1<(B.length:Int))=true:=decide_eq_true c4
   have c4b1:decide (1<B.length)=true:=decide_eq_true (by omega)
   clear c4
   replace H:=Option.bind_eq_some_iff.mp H
   obtain⟨⟨d1,d2⟩,bu,H⟩:=H
   replace H:((group_Pick.f k Z γ ar ε ζ ι κ ν σ τ B 0 ρ ([]:List (S86)) 2 1 (-1)).bind fun a9=>((group_Spread.f k Z γ ar ε ζ ι κ ν σ τ B 0 ρ ([]:List (S86))).bind fun a0=>(if cu=4 then (if cp=0 then (if d1=2 then (if d2=0 then (if a9.1=1 then (if a9.2=0 then (if a0.2.2=0 then (if (a0.1.length:Int)=1 then (if 0<(a0.1.length:Int) then (if ((Ql a0.1 0).f2)=1 then ((group_Check.f k Z γ ar ε ζ ι κ ν σ τ B ρ ([]:List (S86))).bind fun af=>(some (af==0))) else (none)) else (none)) else (none)) else (none)) else (none)) else (none)) else (none)) else (none)) else (none)) else (none))))=some r:=H
   have A5:=Aside0.mk bu
   clear bu
   replace H:=Option.bind_eq_some_iff.mp H
   obtain⟨⟨d5,d6⟩,bc,H⟩:=H
   replace H:((group_Spread.f k Z γ ar ε ζ ι κ ν σ τ B 0 ρ ([]:List (S86))).bind fun a0=>(if cu=4 then (if cp=0 then (if d1=2 then (if d2=0 then (if d5=1 then (if d6=0 then (if a0.2.2=0 then (if (a0.1.length:Int)=1 then (if 0<(a0.1.length:Int) then (if ((Ql a0.1 0).f2)=1 then ((group_Check.f k Z γ ar ε ζ ι κ ν σ τ B ρ ([]:List (S86))).bind fun af=>(some (af==0))) else (none)) else (none)) else (none)) else (none)) else (none)) else (none)) else (none)) else (none)) else (none)) else (none)))=some r:=H
   have A6:=Aside0.mk bc
   clear bc
   replace H:=Option.bind_eq_some_iff.mp H
   obtain⟨⟨a8,bj,d8⟩,dd,H⟩:=H
   replace H:(if cu=4 then (if cp=0 then (if d1=2 then (if d2=0 then (if d5=1 then (if d6=0 then (if d8=0 then (if (a8.length:Int)=1 then (if 0<(a8.length:Int) then (if ((Ql a8 0).f2)=1 then ((group_Check.f k Z γ ar ε ζ ι κ ν σ τ B ρ ([]:List (S86))).bind fun af=>(some (af==0))) else (none)) else (none)) else (none)) else (none)) else (none)) else (none)) else (none)) else (none)) else (none)) else (none))=some r:=H
   have A7:=Aside0.mk dd
   clear dd
   by_cases c8:cu=4
   ·rw[if_pos c8] at H
    have c8b0:(cu==4)=true:=beq_iff_eq.mpr c8
    have c8b1:(cu != 4)=false:=bne_eq_false_iff_eq.mpr c8
    clear c8
    by_cases c9:cp=0
    ·rw[if_pos c9] at H
     have c9b0:(cp==0)=true:=beq_iff_eq.mpr c9
     have c9b1:(cp != 0)=false:=bne_eq_false_iff_eq.mpr c9
     clear c9
     by_cases c10:d1=2
     ·rw[if_pos c10] at H
      have c10b0:(d1==2)=true:=beq_iff_eq.mpr c10
      have c10b1:(d1 != 2)=false:=bne_eq_false_iff_eq.mpr c10
      clear c10
      by_cases aw:d2=0
      ·rw[if_pos aw] at H
       have c11b0:(d2==0)=true:=beq_iff_eq.mpr aw
       have c11b1:(d2 != 0)=false:=bne_eq_false_iff_eq.mpr aw
       clear aw
       by_cases b4:d5=1
       ·rw[if_pos b4] at H
        have c12b0:(d5==1)=true:=beq_iff_eq.mpr b4
        have c12b1:(d5 != 1)=false:=bne_eq_false_iff_eq.mpr b4
        clear b4
        by_cases ap:d6=0
        ·rw[if_pos ap] at H
         have c13b0:(d6==0)=true:=beq_iff_eq.mpr ap
         have c13b1:(d6 != 0)=false:=bne_eq_false_iff_eq.mpr ap
         clear ap
         by_cases al:d8=0
         ·rw[if_pos al] at H
          have c14b0:(d8==0)=true:=beq_iff_eq.mpr al
          have c14b1:(d8 != 0)=false:=bne_eq_false_iff_eq.mpr al
          clear al
          by_cases am:(a8.length:Int)=1
          ·rw[if_pos am] at H
           have c15b0:((a8.length:Int)==1)=true:=beq_iff_eq.mpr am
           have c15b1:((a8.length:Int) != 1)=false:=bne_eq_false_iff_eq.mpr am
           clear am
           by_cases aa:0<(a8.length:Int)
           ·rw[if_pos aa] at H
            have c16b0:decide (0<(a8.length:Int))=true:=decide_eq_true aa
            have c16b1:decide (0<a8.length)=true:=decide_eq_true (by omega)
            clear aa
            by_cases a5:((Ql a8 0).f2)=1
            ·rw[if_pos a5] at H
             have c17b0:(((Ql a8 0).f2)==1)=true:=beq_iff_eq.mpr a5
             have c17b1:(((Ql a8 0).f2) != 1)=false:=bne_eq_false_iff_eq.mpr a5
             clear a5
             replace H:=Option.bind_eq_some_iff.mp H
             obtain⟨af,bi,H⟩:=H
             replace H:(some (af==0))=some r:=H
             have d7:=Aside0.mk bi
             clear bi
             obtain rfl:=Option.some.inj H
             go_enter Try.func9,Try.ntmps9
             try go_wp2_with (first|((with_reducible refine Qt (f:=27) rfl ?_);refine Q7 (some 13) rfl rfl Try.func27 kr rfl #[] rfl (by(try simp only[List.map_toArray,List.map_cons,List.map_nil]);first|done|rfl|(simp only[List.length_drop,List.length_take];rfl)) ?_;(with_reducible refine(newellaw17_Plain.calls  Z γ ar ε ζ ι κ ν σ τ _ A1.out).mono ?_);rintro e ba ⟨rfl,hb⟩;refine⟨_,rfl, ?_⟩;have L:=Aside0.mk (Qj (by repeat(first|(with_reducible first|exact HB.out|apply Qg|apply Qd|apply Qf)|exact HB.out)) hb);clear HB;have HB:=L;clear L;(try clear hb);(try clear ak);(try clear hk);(try clear hi))|((with_reducible refine Qr (N:=1) rfl ?_);(try(refine Z5 (by rfl) ?_;dsimp only));refine Qq ?hg (N:=1) ?hd (cs:=#[.int .i64 0,.int .i64 0,.int .i64 0,.int .i64 0,.int .i64 0,.int .i64 0,.int .i64 0,.int .i64 0,.int .i64 0,.int .i64 0]) (t:=25) ?hr ?_;(case hd=>rfl);(case hg=>rfl);(case hr=>first|(go_simp;done)|(go_simp;rfl));intro μ hg dw hbox hb;have L:=Aside0.mk (Qj (by repeat(first|(with_reducible first|exact HB.out|apply Qg|apply Qd|apply Qf)|exact HB.out)) hb);have O:=Aside0.mk (hbox);have X:=Aside0.mk ((by rw[hg];exact(Qi (by repeat(first|(with_reducible first|exact HB.out|apply Qg|apply Qd|apply Qf)|exact HB.out))):w.heap.size ≤ μ));have δ :=Aside0.mk ((by rw[hg];exact(Qi (by repeat(first|(with_reducible first|exact HB.out|apply Qg|apply Qd|apply Qf)|exact HB.out))):w.heap.size ≤ μ));clear HB;have HB:=L;have η :=O;have hj:=X;have χ := δ;clear L O X δ;clear hb hbox hg;obtain⟨jt,ju,jw,jx,jy,jz,k0,i1,i2,i3,k1,k2,k3,k4,k5,k6,k7,i4,i5,i6⟩:=Zh η.out)|((with_reducible refine Qr (N:=17) rfl ?_);(try(refine Z5 (by rfl) ?_;dsimp only));refine Kd.G6 k31 _ 31 ?hg (N:=17) ?hd (xs:=([(⟨(⟨0,0,0,0,(⟨0,0,0⟩:S27)⟩:S29),0,false,false⟩:S31),(⟨(⟨3,0,0,0,(⟨0,0,0⟩:S27)⟩:S29),0,false,false⟩:S31)]:List (S31))) (inner:=[.int .i64 0,.int .i64 0,.int .i64 0,.int .i64 0,.int .i64 0,.int .i64 0,.int .i64 0,.int .i64 0,.bool false,.bool false,.int .i64 3,.int .i64 0,.int .i64 0,.int .i64 0,.int .i64 0,.int .i64 0,.int .i64 0,.int .i64 0,.bool false,.bool false]) (ok:=fun _=>True) (okp:=fun _=>True) ?hr ?hp (fun _ hk=>hk) trivial (Below.refl _ _) (Nat.le_refl _) (by simp) ?_;(case hd=>rfl);(case hg=>rfl);(case hr=>first|(go_simp;done)|(go_simp;rfl));(case hp=>exact(Reps.c10 (show Kd.M k31 _ _ _ (⟨(⟨0,0,0,0,(⟨0,0,0⟩:S27)⟩:S29),0,false,false⟩:S31) [.int .i64 0,.int .i64 0,.int .i64 0,.int .i64 0,.int .i64 0,.int .i64 0,.int .i64 0,.int .i64 0,.bool false,.bool false] from(Wc _ _ _ (⟨(⟨0,0,0,0,(⟨0,0,0⟩:S27)⟩:S29),0,false,false⟩:S31))) (Reps.c10 (show Kd.M k31 _ _ _ (⟨(⟨3,0,0,0,(⟨0,0,0⟩:S27)⟩:S29),0,false,false⟩:S31) [.int .i64 3,.int .i64 0,.int .i64 0,.int .i64 0,.int .i64 0,.int .i64 0,.int .i64 0,.int .i64 0,.bool false,.bool false] from(Wc _ _ _ (⟨(⟨3,0,0,0,(⟨0,0,0⟩:S27)⟩:S29),0,false,false⟩:S31))) (Reps.none _ _))));intro g1 bm cw hb hg_ hnew_;clear hg_ hnew_;(first|rw[← fm.out] at cw|(simp only[Int.reduceToNat] at cw;rw[← fm.out] at cw));have L:=Aside0.mk (Kd.Zg cw (Qi (by repeat(first|(with_reducible first|exact HB.out|apply Qg|apply Qd|apply Qf|refine Qa ?_ χ.out)|exact HB.out))));have O:=Aside0.mk (Qh (g:= μ) (o:=.cells #[.int .i64 Z,.int .i64 γ,.int .i64 ar,.int .i64 ε,.int .i64 ζ,.int .i64 ι,.int .i64 κ,.int .i64 ν,.int .i64 σ,.int .i64 τ] 25 (0,0)) (by(with_reducible repeat first|apply Qb|apply Qe|apply Qc);refine Qu (cs:=#[.int .i64 Z,.int .i64 γ,.int .i64 ar,.int .i64 ε,.int .i64 ζ,.int .i64 ι,.int .i64 κ,.int .i64 ν,.int .i64 σ,.int .i64 0]) ?_ 9 _ rfl;(with_reducible repeat first|apply Qb|apply Qe|apply Qc);refine Qu (cs:=#[.int .i64 Z,.int .i64 γ,.int .i64 ar,.int .i64 ε,.int .i64 ζ,.int .i64 ι,.int .i64 κ,.int .i64 ν,.int .i64 0,.int .i64 0]) ?_ 8 _ rfl;(with_reducible repeat first|apply Qb|apply Qe|apply Qc);refine Qu (cs:=#[.int .i64 Z,.int .i64 γ,.int .i64 ar,.int .i64 ε,.int .i64 ζ,.int .i64 ι,.int .i64 κ,.int .i64 0,.int .i64 0,.int .i64 0]) ?_ 7 _ rfl;(with_reducible repeat first|apply Qb|apply Qe|apply Qc);refine Qu (cs:=#[.int .i64 Z,.int .i64 γ,.int .i64 ar,.int .i64 ε,.int .i64 ζ,.int .i64 ι,.int .i64 0,.int .i64 0,.int .i64 0,.int .i64 0]) ?_ 6 _ rfl;(with_reducible repeat first|apply Qb|apply Qe|apply Qc);refine Qu (cs:=#[.int .i64 Z,.int .i64 γ,.int .i64 ar,.int .i64 ε,.int .i64 ζ,.int .i64 0,.int .i64 0,.int .i64 0,.int .i64 0,.int .i64 0]) ?_ 5 _ rfl;(with_reducible repeat first|apply Qb|apply Qe|apply Qc);refine Qu (cs:=#[.int .i64 Z,.int .i64 γ,.int .i64 ar,.int .i64 ε,.int .i64 0,.int .i64 0,.int .i64 0,.int .i64 0,.int .i64 0,.int .i64 0]) ?_ 4 _ rfl;(with_reducible repeat first|apply Qb|apply Qe|apply Qc);refine Qu (cs:=#[.int .i64 Z,.int .i64 γ,.int .i64 ar,.int .i64 0,.int .i64 0,.int .i64 0,.int .i64 0,.int .i64 0,.int .i64 0,.int .i64 0]) ?_ 3 _ rfl;(with_reducible repeat first|apply Qb|apply Qe|apply Qc);refine Qu (cs:=#[.int .i64 Z,.int .i64 γ,.int .i64 0,.int .i64 0,.int .i64 0,.int .i64 0,.int .i64 0,.int .i64 0,.int .i64 0,.int .i64 0]) ?_ 2 _ rfl;(with_reducible repeat first|apply Qb|apply Qe|apply Qc);refine Qu (cs:=#[.int .i64 Z,.int .i64 0,.int .i64 0,.int .i64 0,.int .i64 0,.int .i64 0,.int .i64 0,.int .i64 0,.int .i64 0,.int .i64 0]) ?_ 1 _ rfl;(with_reducible repeat first|apply Qb|apply Qe|apply Qc);refine Qu (cs:=#[.int .i64 0,.int .i64 0,.int .i64 0,.int .i64 0,.int .i64 0,.int .i64 0,.int .i64 0,.int .i64 0,.int .i64 0,.int .i64 0]) ?_ 0 _ rfl;(with_reducible repeat first|apply Qb|apply Qe|apply Qc);exact η.out) hb);have X:=Aside0.mk (Qj (by repeat(first|(with_reducible first|exact HB.out|apply Qg|apply Qd|apply Qf|refine Qa ?_ χ.out)|exact HB.out)) hb);clear η;clear HB;have θ :=L;have η :=O;have HB:=X;clear L O X;clear hb cw)|((with_reducible refine Qr (N:=3) rfl ?_);(try(refine Z5 (by rfl) ?_;dsimp only));refine Qq ?hg (N:=3) ?hd (cs:=#[.int .i64 0,.int .i64 0,.int .i64 0]) (t:=36) ?hr ?_;(case hd=>rfl);(case hg=>rfl);(case hr=>first|(go_simp;done)|(go_simp;rfl));intro a3 hg cf hbox hb;have L:=Aside0.mk (Kd.Za (by(with_reducible repeat first|apply Kd.Qx|apply Kd.Qw|apply Kd.Qy);exact θ.out) hb);have O:=Aside0.mk (Qh (g:= μ) (o:=.cells #[.int .i64 Z,.int .i64 γ,.int .i64 ar,.int .i64 ε,.int .i64 ζ,.int .i64 ι,.int .i64 κ,.int .i64 ν,.int .i64 σ,.int .i64 τ] 25 (0,0)) (by(with_reducible repeat first|apply Qb|apply Qe|apply Qc);exact η.out) hb);have X:=Aside0.mk (Qj (by repeat(first|(with_reducible first|exact HB.out|apply Qg|apply Qd|apply Qf|refine Qa ?_ χ.out)|exact HB.out)) hb);have δ :=Aside0.mk (hbox);have ξ :=Aside0.mk ((by rw[hg];exact(Qi (by repeat(first|(with_reducible first|exact HB.out|apply Qg|apply Qd|apply Qf|refine Qa ?_ χ.out)|exact HB.out))):w.heap.size≤a3));have φ :=Aside0.mk ((by rw[hg];exact(Qi (by repeat(first|(with_reducible first|exact HB.out|apply Qg|apply Qd|apply Qf|refine Qa ?_ χ.out)|exact HB.out))):w.heap.size≤a3));have ω :=Aside0.mk ((by rw[hg];exact Nat.ne_of_lt (Qp (g:= μ) (o:=.cells #[.int .i64 Z,.int .i64 γ,.int .i64 ar,.int .i64 ε,.int .i64 ζ,.int .i64 ι,.int .i64 κ,.int .i64 ν,.int .i64 σ,.int .i64 τ] 25 (0,0)) (by(with_reducible repeat first|apply Qb|apply Qe|apply Qc);exact η.out)): μ ≠ a3));have a6:=Aside0.mk ((by rw[hg];exact Nat.ne_of_gt (Qp (g:= μ) (o:=.cells #[.int .i64 Z,.int .i64 γ,.int .i64 ar,.int .i64 ε,.int .i64 ζ,.int .i64 ι,.int .i64 κ,.int .i64 ν,.int .i64 σ,.int .i64 τ] 25 (0,0)) (by(with_reducible repeat first|apply Qb|apply Qe|apply Qc);exact η.out)):a3 ≠ μ));clear θ;clear η;clear HB;have θ :=L;have η :=O;have HB:=X;have Y:= δ;have ih:= ξ;have ae:= φ;have bk:= ω;have ec:=a6;clear L O X δ ξ φ ω a6;clear hb hbox hg;have fk:=ec.out;have fl:=bk.out;obtain⟨em,ev,fg,ez,f8,fh⟩:=qD3 Y.out)|((with_reducible refine Qr (N:=20) rfl ?_);(try(refine Z5 (by rfl) ?_;dsimp only));refine Kd.G6 k36 _ 36 ?hg (N:=20) ?hd (xs:=([(⟨2,1,(-1)⟩:S36)]:List (S36))) (inner:=[.int .i64 2,.int .i64 1,.int .i64 (-1)]) (ok:=fun _=>True) (okp:=fun _=>True) ?hr ?hp (fun _ hk=>hk) trivial (Below.refl _ _) (Nat.le_refl _) (by simp) ?_;(case hd=>rfl);(case hg=>rfl);(case hr=>first|(go_simp;done)|(go_simp;rfl));(case hp=>exact(Reps.c3 (show Kd.M k36 _ _ _ (⟨2,1,(-1)⟩:S36) [.int .i64 2,.int .i64 1,.int .i64 (-1)] from(Ka _ _ _ (⟨2,1,(-1)⟩:S36))) (Reps.none _ _)));intro iq dn d9 hb hg_ hnew_;clear hg_ hnew_;(first|rw[← fn.out] at d9|(simp only[Int.reduceToNat] at d9;rw[← fn.out] at d9));have L:=Aside0.mk (Kd.Za (by(with_reducible repeat first|apply Kd.Qx|apply Kd.Qw|apply Kd.Qy);exact(Kd.Q5 (Kd.Q1 (p:=⟨a3,2,none⟩) (Kd.Q1 (p:=⟨a3,1,none⟩) (Kd.Q1 (p:=⟨a3,0,none⟩) (Kd.Zd θ.out Y.out (by decide)) (fun _ hk=>hk.2) (.int .i64 2)) (fun _ hk=>hk.2) (.int .i64 1)) (fun _ hk=>hk.2) (.int .i64 (-1))) (fun _ h_=>h_.1))) hb);have O:=Aside0.mk (Kd.Zg (Kd.J0 d9 (g:=a3) (o:=.cells #[.int .i64 2,.int .i64 1,.int .i64 (-1)] 36 (0,0)) (by(with_reducible repeat first|apply Qb|apply Qe|apply Qc);refine Qu (cs:=#[.int .i64 2,.int .i64 1,.int .i64 0]) ?_ 2 _ rfl;(with_reducible repeat first|apply Qb|apply Qe|apply Qc);refine Qu (cs:=#[.int .i64 2,.int .i64 0,.int .i64 0]) ?_ 1 _ rfl;(with_reducible repeat first|apply Qb|apply Qe|apply Qc);refine Qu (cs:=#[.int .i64 0,.int .i64 0,.int .i64 0]) ?_ 0 _ rfl;(with_reducible repeat first|apply Qb|apply Qe|apply Qc);exact Y.out)) (Qi (by repeat(first|(with_reducible first|exact HB.out|apply Qg|apply Qd|apply Qf|refine Qa ?_ χ.out|refine Qa ?_ ae.out)|exact HB.out))));have X:=Aside0.mk (Qh (g:= μ) (o:=.cells #[.int .i64 Z,.int .i64 γ,.int .i64 ar,.int .i64 ε,.int .i64 ζ,.int .i64 ι,.int .i64 κ,.int .i64 ν,.int .i64 σ,.int .i64 τ] 25 (0,0)) (by(with_reducible repeat first|apply Qb|apply Qe|apply Qc);refine Qs ?_ bk.out _;(with_reducible repeat first|apply Qb|apply Qe|apply Qc);refine Qs ?_ bk.out _;(with_reducible repeat first|apply Qb|apply Qe|apply Qc);refine Qs ?_ bk.out _;(with_reducible repeat first|apply Qb|apply Qe|apply Qc);exact η.out) hb);have δ :=Aside0.mk (Qh (g:=a3) (o:=.cells #[.int .i64 2,.int .i64 1,.int .i64 (-1)] 36 (0,0)) (by(with_reducible repeat first|apply Qb|apply Qe|apply Qc);refine Qu (cs:=#[.int .i64 2,.int .i64 1,.int .i64 0]) ?_ 2 _ rfl;(with_reducible repeat first|apply Qb|apply Qe|apply Qc);refine Qu (cs:=#[.int .i64 2,.int .i64 0,.int .i64 0]) ?_ 1 _ rfl;(with_reducible repeat first|apply Qb|apply Qe|apply Qc);refine Qu (cs:=#[.int .i64 0,.int .i64 0,.int .i64 0]) ?_ 0 _ rfl;(with_reducible repeat first|apply Qb|apply Qe|apply Qc);exact Y.out) hb);have ξ :=Aside0.mk (Qj (by repeat(first|(with_reducible first|exact HB.out|apply Qg|apply Qd|apply Qf|refine Qa ?_ χ.out|refine Qa ?_ ae.out)|exact HB.out)) hb);clear θ;clear η;clear Y;clear HB;have θ :=L;have ψ :=O;have η :=X;have Y:= δ;have HB:= ξ;clear L O X δ ξ;clear hb d9;obtain⟨b9,b7,g9⟩:=Kd.Ze ψ.out;subst g9)|((with_reducible refine Qr (N:=4) rfl ?_);(try(refine Z5 (by rfl) ?_;dsimp only));refine Qq ?hg (N:=4) ?hd (cs:=#[.slice none 0 0,.slice none 0 0]) (t:=50) ?hr ?_;(case hd=>rfl);(case hg=>rfl);(case hr=>first|(go_simp;done)|(go_simp;rfl));intro a2 hg ep hbox hb;have L:=Aside0.mk (Kd.Za (by(with_reducible repeat first|apply Kd.Qx|apply Kd.Qw|apply Kd.Qy);exact θ.out) hb);have O:=Aside0.mk (Kd.Za (by(with_reducible repeat first|apply Kd.Qx|apply Kd.Qw|apply Kd.Qy);exact ψ.out) hb);have X:=Aside0.mk (Qh (g:= μ) (o:=.cells #[.int .i64 Z,.int .i64 γ,.int .i64 ar,.int .i64 ε,.int .i64 ζ,.int .i64 ι,.int .i64 κ,.int .i64 ν,.int .i64 σ,.int .i64 τ] 25 (0,0)) (by(with_reducible repeat first|apply Qb|apply Qe|apply Qc);exact η.out) hb);have δ :=Aside0.mk (Qh (g:=a3) (o:=.cells #[.int .i64 2,.int .i64 1,.int .i64 (-1)] 36 (0,0)) (by(with_reducible repeat first|apply Qb|apply Qe|apply Qc);exact Y.out) hb);have ξ :=Aside0.mk (Qj (by repeat(first|(with_reducible first|exact HB.out|apply Qg|apply Qd|apply Qf|refine Qa ?_ χ.out|refine Qa ?_ ae.out)|exact HB.out)) hb);have φ :=Aside0.mk (hbox);have ω :=Aside0.mk ((by rw[hg];exact(Qi (by repeat(first|(with_reducible first|exact HB.out|apply Qg|apply Qd|apply Qf|refine Qa ?_ χ.out|refine Qa ?_ ae.out)|exact HB.out))):w.heap.size≤a2));have a6:=Aside0.mk ((by rw[hg];exact(Qi (by repeat(first|(with_reducible first|exact HB.out|apply Qg|apply Qd|apply Qf|refine Qa ?_ χ.out|refine Qa ?_ ae.out)|exact HB.out))):w.heap.size≤a2));have a7:=Aside0.mk ((by rw[hg];exact Nat.ne_of_lt (Qp (g:= μ) (o:=.cells #[.int .i64 Z,.int .i64 γ,.int .i64 ar,.int .i64 ε,.int .i64 ζ,.int .i64 ι,.int .i64 κ,.int .i64 ν,.int .i64 σ,.int .i64 τ] 25 (0,0)) (by(with_reducible repeat first|apply Qb|apply Qe|apply Qc);exact η.out)): μ ≠ a2));have ag:=Aside0.mk ((by rw[hg];exact Nat.ne_of_gt (Qp (g:= μ) (o:=.cells #[.int .i64 Z,.int .i64 γ,.int .i64 ar,.int .i64 ε,.int .i64 ζ,.int .i64 ι,.int .i64 κ,.int .i64 ν,.int .i64 σ,.int .i64 τ] 25 (0,0)) (by(with_reducible repeat first|apply Qb|apply Qe|apply Qc);exact η.out)):a2 ≠ μ));have ah:=Aside0.mk ((by rw[hg];exact Nat.ne_of_lt (Qp (g:=a3) (o:=.cells #[.int .i64 2,.int .i64 1,.int .i64 (-1)] 36 (0,0)) (by(with_reducible repeat first|apply Qb|apply Qe|apply Qc);exact Y.out)):a3≠a2));have ai:=Aside0.mk ((by rw[hg];exact Nat.ne_of_gt (Qp (g:=a3) (o:=.cells #[.int .i64 2,.int .i64 1,.int .i64 (-1)] 36 (0,0)) (by(with_reducible repeat first|apply Qb|apply Qe|apply Qc);exact Y.out)):a2≠a3));clear θ;clear ψ;clear η;clear Y;clear HB;have θ :=L;have ψ :=O;have η :=X;have Y:= δ;have HB:= ξ;have a1:= φ;have ij:= ω;have b2:=a6;have cv:=a7;have ed:=ag;have cx:=ah;have ee:=ai;clear L O X δ ξ φ ω a6 a7 ag ah ai;clear hb hbox hg;have h8:=ed.out;have h9:=cv.out;have g3:=ee.out;have gt:=cx.out;obtain⟨de,dy,dz,e0⟩:=qD2 a1.out))
             have L:Aside0 (Kd.R k31 31 ((ep.setCell ⟨a2,0,none⟩ (.slice b9 ρ.length b7)).setCell ⟨a2,1,none⟩ (.slice none 0 0)) w.heap.size (fun _=>True) g1 B):=⟨by(with_reducible repeat first|apply Kd.Qx|apply Kd.Qw|apply Kd.Qy);exact Kd.Q5 (Kd.Q1 (p:=⟨a2,1,none⟩) (Kd.Q1 (p:=⟨a2,0,none⟩) (Kd.Zd θ.out a1.out (by decide)) (fun _ hk=>hk.2) (.slice b9 ρ.length b7)) (fun _ hk=>hk.2) (.slice none 0 0)) (fun _ hk=>trivial)⟩
             have O:Aside0 (Kd.R k36 36 ((ep.setCell ⟨a2,0,none⟩ (.slice b9 ρ.length b7)).setCell ⟨a2,1,none⟩ (.slice none 0 0)) w.heap.size (fun k_=>k_≠a3) (.slice b9 ρ.length b7) ρ):=⟨by(with_reducible repeat first|apply Kd.Qx|apply Kd.Qw|apply Kd.Qy);exact Kd.Q5 (Kd.Q1 (p:=⟨a2,1,none⟩) (Kd.Q1 (p:=⟨a2,0,none⟩) (Kd.Zd ψ.out a1.out (by decide)) (fun _ hk=>hk.2) (.slice b9 ρ.length b7)) (fun _ hk=>hk.2) (.slice none 0 0)) (fun _ hk=>hk.1.2)⟩
             have X:Aside0 (((ep.setCell ⟨a2,0,none⟩ (.slice b9 ρ.length b7)).setCell ⟨a2,1,none⟩ (.slice none 0 0)).heap[μ]?=some (.cells #[.int .i64 Z,.int .i64 γ,.int .i64 ar,.int .i64 ε,.int .i64 ζ,.int .i64 ι,.int .i64 κ,.int .i64 ν,.int .i64 σ,.int .i64 τ] 25 (0,0))):=⟨by(with_reducible repeat first|apply Qb|apply Qe|apply Qc);refine Qs ?_ cv.out _;(with_reducible repeat first|apply Qb|apply Qe|apply Qc);refine Qs ?_ cv.out _;(with_reducible repeat first|apply Qb|apply Qe|apply Qc);exact η.out⟩
             have δ :Aside0 (((ep.setCell ⟨a2,0,none⟩ (.slice b9 ρ.length b7)).setCell ⟨a2,1,none⟩ (.slice none 0 0)).heap[a3]?=some (.cells #[.int .i64 2,.int .i64 1,.int .i64 (-1)] 36 (0,0))):=⟨by(with_reducible repeat first|apply Qb|apply Qe|apply Qc);refine Qs ?_ cx.out _;(with_reducible repeat first|apply Qb|apply Qe|apply Qc);refine Qs ?_ cx.out _;(with_reducible repeat first|apply Qb|apply Qe|apply Qc);exact Y.out⟩
             have ξ :Aside0 (((ep.setCell ⟨a2,0,none⟩ (.slice b9 ρ.length b7)).setCell ⟨a2,1,none⟩ (.slice none 0 0)).heap[a2]?=some (.cells #[.slice b9 ρ.length b7,.slice none 0 0] 50 (0,0))):=⟨by(with_reducible repeat first|apply Qb|apply Qe|apply Qc);refine Qu (cs:=#[.slice b9 ρ.length b7,.slice none 0 0]) ?_ 1 _ rfl;(with_reducible repeat first|apply Qb|apply Qe|apply Qc);refine Qu (cs:=#[.slice none 0 0,.slice none 0 0]) ?_ 0 _ rfl;(with_reducible repeat first|apply Qb|apply Qe|apply Qc);exact a1.out⟩
             have φ :Aside0 (Below w.heap.size w ((ep.setCell ⟨a2,0,none⟩ (.slice b9 ρ.length b7)).setCell ⟨a2,1,none⟩ (.slice none 0 0))):=⟨by repeat(first|(with_reducible first|exact HB.out|apply Qg|apply Qd|apply Qf|refine Qa ?_ χ.out|refine Qa ?_ ae.out|refine Qa ?_ b2.out)|exact HB.out)⟩
             (try clear θ)
             (try clear ψ)
             (try clear η)
             (try clear Y)
             (try clear a1)
             (try clear HB)
             generalize((ep.setCell ⟨a2,0,none⟩ (.slice b9 ρ.length b7)).setCell ⟨a2,1,none⟩ (.slice none 0 0))=js at L O X δ ξ φ ⊢
             have θ :=L
             have ψ :=O
             have η :=X
             have Y:= δ
             have a1:= ξ
             have HB:= φ
             clear L O X δ ξ φ
             have L:=Aside0.mk (Kd.Qy θ.out)
             have O:=Aside0.mk (Kd.Qy ψ.out)
             have X:=Aside0.mk (Qe η.out)
             have δ :=Aside0.mk (Qe Y.out)
             have ξ :=Aside0.mk (Qe a1.out)
             have φ :=Aside0.mk (Qf HB.out)
             clear θ
             clear ψ
             clear η
             clear Y
             clear a1
             clear HB
             have θ :=L
             have ψ :=O
             have η :=X
             have Y:= δ
             have a1:= ξ
             have HB:= φ
             clear L O X δ ξ φ
             obtain⟨ir,ei,fw⟩:=Kd.Ze θ.out
             (first|subst fw|(injection fw with b5 bo b6;have bp:=b5.symm;have bq:=b6.symm;clear b5 bo b6;subst bp;subst bq))
             have ew:0≤(0:Int):=(by omega)
             have ey:0<(B.length:Int):=of_decide_eq_true (by first|(with_reducible assumption)|assumption)
             obtain⟨av,ie,dj,dk,dl,br,bv,bw,bz,ca,cb,cd⟩:=Gh (Kd.Q4 θ.out).2.2 0 ew ey
             cases ie
             have ik:(0<B.length)=True:=eq_true (by omega)
             (try rw[show((0:Int)).toNat=0 from rfl] at dj)
             (try rw[show 0 * 10=0 from rfl] at dj)
             (try rw[Addr.add_zero'] at dj)
             (try rw[show((0:Int)).toNat=0 from rfl] at dk)
             (try rw[show 0 * 10=0 from rfl] at dk)
             (try rw[Addr.add_zero'] at dk)
             (try rw[show((0:Int)).toNat=0 from rfl] at dl)
             (try rw[show 0 * 10=0 from rfl] at dl)
             (try rw[Addr.add_zero'] at dl)
             (try rw[show((0:Int)).toNat=0 from rfl] at br)
             (try rw[show 0 * 10=0 from rfl] at br)
             (try rw[Addr.add_zero'] at br)
             (try rw[show((0:Int)).toNat=0 from rfl] at bv)
             (try rw[show 0 * 10=0 from rfl] at bv)
             (try rw[Addr.add_zero'] at bv)
             (try rw[show((0:Int)).toNat=0 from rfl] at bw)
             (try rw[show 0 * 10=0 from rfl] at bw)
             (try rw[Addr.add_zero'] at bw)
             (try rw[show((0:Int)).toNat=0 from rfl] at bz)
             (try rw[show 0 * 10=0 from rfl] at bz)
             (try rw[Addr.add_zero'] at bz)
             (try rw[show((0:Int)).toNat=0 from rfl] at ca)
             (try rw[show 0 * 10=0 from rfl] at ca)
             (try rw[Addr.add_zero'] at ca)
             (try rw[show((0:Int)).toNat=0 from rfl] at cb)
             (try rw[show 0 * 10=0 from rfl] at cb)
             (try rw[Addr.add_zero'] at cb)
             (try rw[show((0:Int)).toNat=0 from rfl] at cd)
             (try rw[show 0 * 10=0 from rfl] at cd)
             (try rw[Addr.add_zero'] at cd)
             replace ew:=eq_true ew
             replace ey:=eq_true ey
             refine Zv (n:=12) (S:=fun w'=>w'.cell? ⟨μ,0,none⟩=some (.int .i64 Z)∧w'.cell? ⟨μ,1,none⟩=some (.int .i64 γ)∧w'.cell? ⟨μ,2,none⟩=some (.int .i64 ar)∧w'.cell? ⟨μ,3,none⟩=some (.int .i64 ε)∧w'.cell? ⟨μ,4,none⟩=some (.int .i64 ζ)∧w'.cell? ⟨μ,5,none⟩=some (.int .i64 ι)∧w'.cell? ⟨μ,6,none⟩=some (.int .i64 κ)∧w'.cell? ⟨μ,7,none⟩=some (.int .i64 ν)∧w'.cell? ⟨μ,8,none⟩=some (.int .i64 σ)∧w'.cell? ⟨μ,9,none⟩=some (.int .i64 τ)∧w'.cell? ⟨a3,0,none⟩=some (.int .i64 2)∧w'.cell? ⟨a3,1,none⟩=some (.int .i64 1)∧w'.cell? ⟨a3,2,none⟩=some (.int .i64 (-1))∧w'.cell? av=some (.int .i64 ((Qm B 0).f0.f0))∧w'.cell? ⟨av.block,av.off+1,none⟩=some (.int .i64 ((Qm B 0).f0.f1))∧w'.cell? ⟨av.block,av.off+2,none⟩=some (.int .i64 ((Qm B 0).f0.f2))∧w'.cell? ⟨av.block,av.off+3,none⟩=some (.int .i64 ((Qm B 0).f0.f3))∧w'.cell? ⟨av.block,av.off+4,none⟩=some (.int .i64 ((Qm B 0).f0.f4.f0))∧w'.cell? ⟨av.block,av.off+5,none⟩=some (.int .i64 ((Qm B 0).f0.f4.f1))∧w'.cell? ⟨av.block,av.off+6,none⟩=some (.int .i64 ((Qm B 0).f0.f4.f2))∧w'.cell? ⟨av.block,av.off+7,none⟩=some (.int .i64 ((Qm B 0).f1))∧w'.cell? ⟨av.block,av.off+8,none⟩=some (.bool ((Qm B 0).f2))∧w'.cell? ⟨av.block,av.off+9,none⟩=some (.bool ((Qm B 0).f3))) (ds:=[]) #[false,false,false,false,false,false,false,false,false,false,false,false] kr rfl rfl ⟨(Qk η.out 0).trans rfl,(Qk η.out 1).trans rfl,(Qk η.out 2).trans rfl,(Qk η.out 3).trans rfl,(Qk η.out 4).trans rfl,(Qk η.out 5).trans rfl,(Qk η.out 6).trans rfl,(Qk η.out 7).trans rfl,(Qk η.out 8).trans rfl,(Qk η.out 9).trans rfl,(Qk Y.out 0).trans rfl,(Qk Y.out 1).trans rfl,(Qk Y.out 2).trans rfl,dj,dk,dl,br,bv,bw,bz,ca,cb,cd⟩ (fun hHeld=>?_);refine Zf newellaw21_awake.Mr newellaw21_awake.Wj (fun HT_ HW_=>?_)
             generalize js.drew=lp at θ ψ η Y a1 HB dj dk dl br bv bw bz ca cb cd hHeld ⊢
             refine qP 1 (some 24) (qB 12 2) HT_ ?_
             refine qP 2 (some 25) (qB 12 6) HT_ ?_
             refine qP 4 (some 27) (qB 12 22) HT_ ?_
             refine qT 0 (some 23) (qB 12 23) HT_ HW_ hHeld ?_
             refine qT 3 (some 26) (qB 12 31) HT_ HW_ hHeld ?_
             refine qT 5 (some 28) (qB 12 63) HT_ HW_ hHeld ?_
             refine Zn (i:=6) (N:=some 29) #[true,true,true,true,true,true,true,false,false,false,false,false] rfl rfl (Zc HT_.out kr) (by decide) (fun K hK=>?_)
             refine Zm Try.func10 kr rfl #[.agg #[.int .i64 Z,.int .i64 γ,.int .i64 ar,.int .i64 ε,.int .i64 ζ,.int .i64 ι,.int .i64 κ,.int .i64 ν,.int .i64 σ,.int .i64 τ],.agg #[.int .i64 ((Qm B 0).f0.f0),.int .i64 ((Qm B 0).f0.f1),.int .i64 ((Qm B 0).f0.f2),.int .i64 ((Qm B 0).f0.f3),.int .i64 ((Qm B 0).f0.f4.f0),.int .i64 ((Qm B 0).f0.f4.f1),.int .i64 ((Qm B 0).f0.f4.f2),.int .i64 ((Qm B 0).f1),.bool ((Qm B 0).f2),.bool ((Qm B 0).f3)],.agg #[.slice none 0 0,.slice none 0 0,.slice none 0 0],.agg #[.int .i64 2,.int .i64 1,.int .i64 (-1)]] (by rfl) rfl rfl (by(try simp only[List.map_toArray,List.map_cons,List.map_nil]);first|done|rfl|(simp only[List.length_drop,List.length_take];rfl)) ?_
             refine(group_Cost.calls k Z γ ar ε ζ ι κ ν σ τ ((Qm B 0).f0.f0) ((Qm B 0).f0.f1) ((Qm B 0).f0.f2) ((Qm B 0).f0.f3) ((Qm B 0).f0.f4.f0) ((Qm B 0).f0.f4.f1) ((Qm B 0).f0.f4.f2) ((Qm B 0).f1) ((Qm B 0).f2) ((Qm B 0).f3) _ _ ([]:List Int) _ _ ([]:List Int) _ _ ([]:List Int) 2 1 (-1) cu cp _ ?side1 ?side2 ?side3 ?side4 ?side5 ?side6 A3.out).mono ?_
             (case side1=>exact Kd.Yq _ _)
             (case side2=>exact Nat.le_refl _)
             (case side3=>exact Kd.Yq _ _)
             (case side4=>exact Nat.le_refl _)
             (case side5=>exact Kd.Yq _ _)
             (case side6=>exact Nat.le_refl _)
             rintro e io ⟨rfl,hb⟩
             have db:=(hb.cell (World.block_lt_of_cell? _ _ (hHeld.2.2.2.2.2.2.2.2.2.2.2.2.2.1))).trans (hHeld.2.2.2.2.2.2.2.2.2.2.2.2.2.1)
             have df:=(hb.cell (World.block_lt_of_cell? _ _ (hHeld.2.2.2.2.2.2.2.2.2.2.2.2.2.2.1))).trans (hHeld.2.2.2.2.2.2.2.2.2.2.2.2.2.2.1)
             have dh:=(hb.cell (World.block_lt_of_cell? _ _ (hHeld.2.2.2.2.2.2.2.2.2.2.2.2.2.2.2.1))).trans (hHeld.2.2.2.2.2.2.2.2.2.2.2.2.2.2.2.1)
             have dm:=(hb.cell (World.block_lt_of_cell? _ _ (hHeld.2.2.2.2.2.2.2.2.2.2.2.2.2.2.2.2.1))).trans (hHeld.2.2.2.2.2.2.2.2.2.2.2.2.2.2.2.2.1)
             have dp:=(hb.cell (World.block_lt_of_cell? _ _ (hHeld.2.2.2.2.2.2.2.2.2.2.2.2.2.2.2.2.2.1))).trans (hHeld.2.2.2.2.2.2.2.2.2.2.2.2.2.2.2.2.2.1)
             have dq:=(hb.cell (World.block_lt_of_cell? _ _ (hHeld.2.2.2.2.2.2.2.2.2.2.2.2.2.2.2.2.2.2.1))).trans (hHeld.2.2.2.2.2.2.2.2.2.2.2.2.2.2.2.2.2.2.1)
             have dr:=(hb.cell (World.block_lt_of_cell? _ _ (hHeld.2.2.2.2.2.2.2.2.2.2.2.2.2.2.2.2.2.2.2.1))).trans (hHeld.2.2.2.2.2.2.2.2.2.2.2.2.2.2.2.2.2.2.2.1)
             have dv:=(hb.cell (World.block_lt_of_cell? _ _ (hHeld.2.2.2.2.2.2.2.2.2.2.2.2.2.2.2.2.2.2.2.2.1))).trans (hHeld.2.2.2.2.2.2.2.2.2.2.2.2.2.2.2.2.2.2.2.2.1)
             have e8:=(hb.cell (World.block_lt_of_cell? _ _ (hHeld.2.2.2.2.2.2.2.2.2.2.2.2.2.2.2.2.2.2.2.2.2.1))).trans (hHeld.2.2.2.2.2.2.2.2.2.2.2.2.2.2.2.2.2.2.2.2.2.1)
             have e9:=(hb.cell (World.block_lt_of_cell? _ _ (hHeld.2.2.2.2.2.2.2.2.2.2.2.2.2.2.2.2.2.2.2.2.2.2))).trans (hHeld.2.2.2.2.2.2.2.2.2.2.2.2.2.2.2.2.2.2.2.2.2.2)
             refine⟨_,rfl, ?_⟩
             have L:=Aside0.mk (Kd.Za (by(with_reducible repeat first|apply Kd.Qx|apply Kd.Qw|apply Kd.Qy);exact θ.out) hb)
             have O:=Aside0.mk (Kd.Za (by(with_reducible repeat first|apply Kd.Qx|apply Kd.Qw|apply Kd.Qy);exact ψ.out) hb)
             have X:=Aside0.mk (Qh (g:= μ) (o:=.cells #[.int .i64 Z,.int .i64 γ,.int .i64 ar,.int .i64 ε,.int .i64 ζ,.int .i64 ι,.int .i64 κ,.int .i64 ν,.int .i64 σ,.int .i64 τ] 25 (0,0)) (by(with_reducible repeat first|apply Qb|apply Qe|apply Qc);exact η.out) hb)
             have δ :=Aside0.mk (Qh (g:=a3) (o:=.cells #[.int .i64 2,.int .i64 1,.int .i64 (-1)] 36 (0,0)) (by(with_reducible repeat first|apply Qb|apply Qe|apply Qc);exact Y.out) hb)
             have ξ :=Aside0.mk (Qh (g:=a2) (o:=.cells #[.slice b9 ρ.length b7,.slice none 0 0] 50 (0,0)) (by(with_reducible repeat first|apply Qb|apply Qe|apply Qc);exact a1.out) hb)
             have φ :=Aside0.mk (Qj (by repeat(first|(with_reducible first|exact HB.out|apply Qg|apply Qd|apply Qf|refine Qa ?_ χ.out|refine Qa ?_ ae.out|refine Qa ?_ b2.out)|exact HB.out)) hb)
             clear θ
             clear ψ
             clear η
             clear Y
             clear a1
             clear HB
             have θ :=L
             have ψ :=O
             have η :=X
             have Y:= δ
             have a1:= ξ
             have HB:= φ
             clear L O X δ ξ φ
             (try clear hb)
             (try clear ak)
             (try clear hk)
             (try clear hi)
             refine hK.out _ _ ⟨qc η,qc η,qc η,qc η,qc η,qc η,qc η,qc η,qc η,qc η,qc Y,qc Y,qc Y,db,df,dh,dm,dp,dq,dr,dv,e8,e9⟩ (fun hHeld=>?_)
             clear hK K
             refine qN (some 29) ?_
             refine qP 7 (some 22) (qB 12 255) HT_ ?_
             refine qP 8 (some 30) (qB 12 511) HT_ ?_
             refine qP 9 (some 31) (qB 12 1023) HT_ ?_
             refine qP 10 (some 5) (qB 12 2047) HT_ ?_
             refine qP 11 (some 6) (qB 12 4095) HT_ ?_
             refine Xd (Zu HT_.out kr) ?_
             try go_wp2
             have L:=Aside0.mk (Kd.Qy θ.out)
             have O:=Aside0.mk (Kd.Qy ψ.out)
             have X:=Aside0.mk (Qe η.out)
             have δ :=Aside0.mk (Qe Y.out)
             have ξ :=Aside0.mk (Qe a1.out)
             have φ :=Aside0.mk (Qf HB.out)
             clear θ
             clear ψ
             clear η
             clear Y
             clear a1
             clear HB
             have θ :=L
             have ψ :=O
             have η :=X
             have Y:= δ
             have a1:= ξ
             have HB:= φ
             clear L O X δ ξ φ
             have eo:0≤(1:Int):=(by omega)
             have er:1<(B.length:Int):=of_decide_eq_true (by first|(with_reducible assumption)|assumption)
             obtain⟨g0,hu,ce,cg,ch,cj,ck,cm,cn,co,cq,cr⟩:=Gh (Kd.Q4 θ.out).2.2 1 eo er
             obtain rfl:av=g0:=(by injection hu)
             (try simp only[show(1:Int).toNat=1 from rfl,Nat.reduceMul,Nat.reduceEqDiff,Go.Addr.add,↓reduceIte] at ce)
             (try simp only[show(1:Int).toNat=1 from rfl,Nat.reduceMul,Nat.reduceEqDiff,Go.Addr.add,↓reduceIte] at cg)
             (try simp only[show(1:Int).toNat=1 from rfl,Nat.reduceMul,Nat.reduceEqDiff,Go.Addr.add,↓reduceIte] at ch)
             (try simp only[show(1:Int).toNat=1 from rfl,Nat.reduceMul,Nat.reduceEqDiff,Go.Addr.add,↓reduceIte] at cj)
             (try simp only[show(1:Int).toNat=1 from rfl,Nat.reduceMul,Nat.reduceEqDiff,Go.Addr.add,↓reduceIte] at ck)
             (try simp only[show(1:Int).toNat=1 from rfl,Nat.reduceMul,Nat.reduceEqDiff,Go.Addr.add,↓reduceIte] at cm)
             (try simp only[show(1:Int).toNat=1 from rfl,Nat.reduceMul,Nat.reduceEqDiff,Go.Addr.add,↓reduceIte] at cn)
             (try simp only[show(1:Int).toNat=1 from rfl,Nat.reduceMul,Nat.reduceEqDiff,Go.Addr.add,↓reduceIte] at co)
             (try simp only[show(1:Int).toNat=1 from rfl,Nat.reduceMul,Nat.reduceEqDiff,Go.Addr.add,↓reduceIte] at cq)
             (try simp only[show(1:Int).toNat=1 from rfl,Nat.reduceMul,Nat.reduceEqDiff,Go.Addr.add,↓reduceIte] at cr)
             have il:(1<B.length)=True:=eq_true (by omega)
             (try rw[show((1:Int)).toNat=1 from rfl] at ce)
             (try rw[show 1 * 10=10 from rfl] at ce)
             (try rw[show((1:Int)).toNat=1 from rfl] at cg)
             (try rw[show 1 * 10=10 from rfl] at cg)
             (try rw[show((1:Int)).toNat=1 from rfl] at ch)
             (try rw[show 1 * 10=10 from rfl] at ch)
             (try rw[show((1:Int)).toNat=1 from rfl] at cj)
             (try rw[show 1 * 10=10 from rfl] at cj)
             (try rw[show((1:Int)).toNat=1 from rfl] at ck)
             (try rw[show 1 * 10=10 from rfl] at ck)
             (try rw[show((1:Int)).toNat=1 from rfl] at cm)
             (try rw[show 1 * 10=10 from rfl] at cm)
             (try rw[show((1:Int)).toNat=1 from rfl] at cn)
             (try rw[show 1 * 10=10 from rfl] at cn)
             (try rw[show((1:Int)).toNat=1 from rfl] at co)
             (try rw[show 1 * 10=10 from rfl] at co)
             (try rw[show((1:Int)).toNat=1 from rfl] at cq)
             (try rw[show 1 * 10=10 from rfl] at cq)
             (try rw[show((1:Int)).toNat=1 from rfl] at cr)
             (try rw[show 1 * 10=10 from rfl] at cr)
             replace eo:=eq_true eo
             replace er:=eq_true er
             refine Zv (n:=12) (S:=fun w'=>w'.cell? ⟨μ,0,none⟩=some (.int .i64 Z)∧w'.cell? ⟨μ,1,none⟩=some (.int .i64 γ)∧w'.cell? ⟨μ,2,none⟩=some (.int .i64 ar)∧w'.cell? ⟨μ,3,none⟩=some (.int .i64 ε)∧w'.cell? ⟨μ,4,none⟩=some (.int .i64 ζ)∧w'.cell? ⟨μ,5,none⟩=some (.int .i64 ι)∧w'.cell? ⟨μ,6,none⟩=some (.int .i64 κ)∧w'.cell? ⟨μ,7,none⟩=some (.int .i64 ν)∧w'.cell? ⟨μ,8,none⟩=some (.int .i64 σ)∧w'.cell? ⟨μ,9,none⟩=some (.int .i64 τ)∧w'.cell? ⟨a3,0,none⟩=some (.int .i64 2)∧w'.cell? ⟨a3,1,none⟩=some (.int .i64 1)∧w'.cell? ⟨a3,2,none⟩=some (.int .i64 (-1))∧w'.cell? ⟨av.block,av.off+10,none⟩=some (.int .i64 ((Qm B 1).f0.f0))∧w'.cell? ⟨av.block,av.off+10+1,none⟩=some (.int .i64 ((Qm B 1).f0.f1))∧w'.cell? ⟨av.block,av.off+10+2,none⟩=some (.int .i64 ((Qm B 1).f0.f2))∧w'.cell? ⟨av.block,av.off+10+3,none⟩=some (.int .i64 ((Qm B 1).f0.f3))∧w'.cell? ⟨av.block,av.off+10+4,none⟩=some (.int .i64 ((Qm B 1).f0.f4.f0))∧w'.cell? ⟨av.block,av.off+10+5,none⟩=some (.int .i64 ((Qm B 1).f0.f4.f1))∧w'.cell? ⟨av.block,av.off+10+6,none⟩=some (.int .i64 ((Qm B 1).f0.f4.f2))∧w'.cell? ⟨av.block,av.off+10+7,none⟩=some (.int .i64 ((Qm B 1).f1))∧w'.cell? ⟨av.block,av.off+10+8,none⟩=some (.bool ((Qm B 1).f2))∧w'.cell? ⟨av.block,av.off+10+9,none⟩=some (.bool ((Qm B 1).f3))) (ds:=[]) #[false,false,false,false,false,false,false,false,false,false,false,false] kr rfl rfl ⟨(Qk η.out 0).trans rfl,(Qk η.out 1).trans rfl,(Qk η.out 2).trans rfl,(Qk η.out 3).trans rfl,(Qk η.out 4).trans rfl,(Qk η.out 5).trans rfl,(Qk η.out 6).trans rfl,(Qk η.out 7).trans rfl,(Qk η.out 8).trans rfl,(Qk η.out 9).trans rfl,(Qk Y.out 0).trans rfl,(Qk Y.out 1).trans rfl,(Qk Y.out 2).trans rfl,ce,cg,ch,cj,ck,cm,cn,co,cq,cr⟩ (fun hHeld=>?_);refine Zf newellaw21_awake.N1 newellaw21_awake.Me (fun HT_ HW_=>?_)
             generalize io.drew=kq at θ ψ η Y a1 HB ce cg ch cj ck cm cn co cq cr hHeld ⊢
             refine qP 1 (some 34) (qB 12 2) HT_ ?_
             refine qP 2 (some 35) (qB 12 6) HT_ ?_
             refine qP 4 (some 37) (qB 12 22) HT_ ?_
             refine qT 0 (some 33) (qB 12 23) HT_ HW_ hHeld ?_
             refine qT 3 (some 36) (qB 12 31) HT_ HW_ hHeld ?_
             refine qT 5 (some 38) (qB 12 63) HT_ HW_ hHeld ?_
             refine Zn (i:=6) (N:=some 39) #[true,true,true,true,true,true,true,false,false,false,false,false] rfl rfl (Zc HT_.out kr) (by decide) (fun K hK=>?_)
             refine Zm Try.func10 kr rfl #[.agg #[.int .i64 Z,.int .i64 γ,.int .i64 ar,.int .i64 ε,.int .i64 ζ,.int .i64 ι,.int .i64 κ,.int .i64 ν,.int .i64 σ,.int .i64 τ],.agg #[.int .i64 ((Qm B 1).f0.f0),.int .i64 ((Qm B 1).f0.f1),.int .i64 ((Qm B 1).f0.f2),.int .i64 ((Qm B 1).f0.f3),.int .i64 ((Qm B 1).f0.f4.f0),.int .i64 ((Qm B 1).f0.f4.f1),.int .i64 ((Qm B 1).f0.f4.f2),.int .i64 ((Qm B 1).f1),.bool ((Qm B 1).f2),.bool ((Qm B 1).f3)],.agg #[.slice none 0 0,.slice none 0 0,.slice none 0 0],.agg #[.int .i64 2,.int .i64 1,.int .i64 (-1)]] (by rfl) rfl rfl (by(try simp only[List.map_toArray,List.map_cons,List.map_nil]);first|done|rfl|(simp only[List.length_drop,List.length_take];rfl)) ?_
             refine(group_Cost.calls k Z γ ar ε ζ ι κ ν σ τ ((Qm B 1).f0.f0) ((Qm B 1).f0.f1) ((Qm B 1).f0.f2) ((Qm B 1).f0.f3) ((Qm B 1).f0.f4.f0) ((Qm B 1).f0.f4.f1) ((Qm B 1).f0.f4.f2) ((Qm B 1).f1) ((Qm B 1).f2) ((Qm B 1).f3) _ _ ([]:List Int) _ _ ([]:List Int) _ _ ([]:List Int) 2 1 (-1) d1 d2 _ ?side1 ?side2 ?side3 ?side4 ?side5 ?side6 A5.out).mono ?_
             (case side1=>exact Kd.Yq _ _)
             (case side2=>exact Nat.le_refl _)
             (case side3=>exact Kd.Yq _ _)
             (case side4=>exact Nat.le_refl _)
             (case side5=>exact Kd.Yq _ _)
             (case side6=>exact Nat.le_refl _)
             rintro e ii ⟨rfl,hb⟩
             have db:=(hb.cell (World.block_lt_of_cell? _ _ (hHeld.2.2.2.2.2.2.2.2.2.2.2.2.2.1))).trans (hHeld.2.2.2.2.2.2.2.2.2.2.2.2.2.1)
             have df:=(hb.cell (World.block_lt_of_cell? _ _ (hHeld.2.2.2.2.2.2.2.2.2.2.2.2.2.2.1))).trans (hHeld.2.2.2.2.2.2.2.2.2.2.2.2.2.2.1)
             have dh:=(hb.cell (World.block_lt_of_cell? _ _ (hHeld.2.2.2.2.2.2.2.2.2.2.2.2.2.2.2.1))).trans (hHeld.2.2.2.2.2.2.2.2.2.2.2.2.2.2.2.1)
             have dm:=(hb.cell (World.block_lt_of_cell? _ _ (hHeld.2.2.2.2.2.2.2.2.2.2.2.2.2.2.2.2.1))).trans (hHeld.2.2.2.2.2.2.2.2.2.2.2.2.2.2.2.2.1)
             have dp:=(hb.cell (World.block_lt_of_cell? _ _ (hHeld.2.2.2.2.2.2.2.2.2.2.2.2.2.2.2.2.2.1))).trans (hHeld.2.2.2.2.2.2.2.2.2.2.2.2.2.2.2.2.2.1)
             have dq:=(hb.cell (World.block_lt_of_cell? _ _ (hHeld.2.2.2.2.2.2.2.2.2.2.2.2.2.2.2.2.2.2.1))).trans (hHeld.2.2.2.2.2.2.2.2.2.2.2.2.2.2.2.2.2.2.1)
             have dr:=(hb.cell (World.block_lt_of_cell? _ _ (hHeld.2.2.2.2.2.2.2.2.2.2.2.2.2.2.2.2.2.2.2.1))).trans (hHeld.2.2.2.2.2.2.2.2.2.2.2.2.2.2.2.2.2.2.2.1)
             have dv:=(hb.cell (World.block_lt_of_cell? _ _ (hHeld.2.2.2.2.2.2.2.2.2.2.2.2.2.2.2.2.2.2.2.2.1))).trans (hHeld.2.2.2.2.2.2.2.2.2.2.2.2.2.2.2.2.2.2.2.2.1)
             have e8:=(hb.cell (World.block_lt_of_cell? _ _ (hHeld.2.2.2.2.2.2.2.2.2.2.2.2.2.2.2.2.2.2.2.2.2.1))).trans (hHeld.2.2.2.2.2.2.2.2.2.2.2.2.2.2.2.2.2.2.2.2.2.1)
             have e9:=(hb.cell (World.block_lt_of_cell? _ _ (hHeld.2.2.2.2.2.2.2.2.2.2.2.2.2.2.2.2.2.2.2.2.2.2))).trans (hHeld.2.2.2.2.2.2.2.2.2.2.2.2.2.2.2.2.2.2.2.2.2.2)
             refine⟨_,rfl, ?_⟩
             have L:=Aside0.mk (Kd.Za (by(with_reducible repeat first|apply Kd.Qx|apply Kd.Qw|apply Kd.Qy);exact θ.out) hb)
             have O:=Aside0.mk (Kd.Za (by(with_reducible repeat first|apply Kd.Qx|apply Kd.Qw|apply Kd.Qy);exact ψ.out) hb)
             have X:=Aside0.mk (Qh (g:= μ) (o:=.cells #[.int .i64 Z,.int .i64 γ,.int .i64 ar,.int .i64 ε,.int .i64 ζ,.int .i64 ι,.int .i64 κ,.int .i64 ν,.int .i64 σ,.int .i64 τ] 25 (0,0)) (by(with_reducible repeat first|apply Qb|apply Qe|apply Qc);exact η.out) hb)
             have δ :=Aside0.mk (Qh (g:=a3) (o:=.cells #[.int .i64 2,.int .i64 1,.int .i64 (-1)] 36 (0,0)) (by(with_reducible repeat first|apply Qb|apply Qe|apply Qc);exact Y.out) hb)
             have ξ :=Aside0.mk (Qh (g:=a2) (o:=.cells #[.slice b9 ρ.length b7,.slice none 0 0] 50 (0,0)) (by(with_reducible repeat first|apply Qb|apply Qe|apply Qc);exact a1.out) hb)
             have φ :=Aside0.mk (Qj (by repeat(first|(with_reducible first|exact HB.out|apply Qg|apply Qd|apply Qf|refine Qa ?_ χ.out|refine Qa ?_ ae.out|refine Qa ?_ b2.out)|exact HB.out)) hb)
             clear θ
             clear ψ
             clear η
             clear Y
             clear a1
             clear HB
             have θ :=L
             have ψ :=O
             have η :=X
             have Y:= δ
             have a1:= ξ
             have HB:= φ
             clear L O X δ ξ φ
             (try clear hb)
             (try clear ak)
             (try clear hk)
             (try clear hi)
             refine hK.out _ _ ⟨qc η,qc η,qc η,qc η,qc η,qc η,qc η,qc η,qc η,qc η,qc Y,qc Y,qc Y,db,df,dh,dm,dp,dq,dr,dv,e8,e9⟩ (fun hHeld=>?_)
             clear hK K
             refine qN (some 39) ?_
             refine qP 7 (some 32) (qB 12 255) HT_ ?_
             refine qP 8 (some 40) (qB 12 511) HT_ ?_
             refine qP 9 (some 41) (qB 12 1023) HT_ ?_
             refine qP 10 (some 7) (qB 12 2047) HT_ ?_
             refine qP 11 (some 8) (qB 12 4095) HT_ ?_
             refine Xd (Zu HT_.out kr) ?_
             obtain⟨fp,fq,fr,g4,g5,g6,g7,gh,gi,gu,gv,gw,h4,h5,h6,h7,ha,hh,hl,ho⟩:=Zh η.out
             obtain⟨ea,eb,fc,ff⟩:=qD2 a1.out
             obtain⟨ek,el,en,et,eu,fa⟩:=qD3 Y.out
             try go_wp2_with (first|((with_reducible refine Qt (f:=14) rfl ?_);refine Q7 (some 47) rfl rfl Try.func14 kr rfl #[.agg #[.int .i64 Z,.int .i64 γ,.int .i64 ar,.int .i64 ε,.int .i64 ζ,.int .i64 ι,.int .i64 κ,.int .i64 ν,.int .i64 σ,.int .i64 τ],.slice (some av) B.length ei,.int .i64 0,.agg #[.slice b9 ρ.length b7,.slice none 0 0],.agg #[.int .i64 2,.int .i64 1,.int .i64 (-1)]] rfl (by(try simp only[List.map_toArray,List.map_cons,List.map_nil]);first|done|rfl|(simp only[List.length_drop,List.length_take];rfl)) ?_;(refine(group_Pick.calls k Z γ ar ε ζ ι κ ν σ τ _ _ B 0 _ _ ρ _ _ ([]:List (S86)) 2 1 (-1) d5 d6 _ ?side1 ?side2 ?side3 ?side4 ?side5 ?side6 A6.out).mono ?_);(case side1=>repeat(first|exact(Kd.Q4 θ.out).2.2|(with_reducible refine Kd.Q3 ?_ _)|(with_reducible refine Kd.Q2 ?_ _)|(with_reducible refine Kd.Q9 ?_)));(case side2=>exact(Kd.Q4 θ.out).2.1);(case side3=>repeat(first|exact(Kd.Q4 ψ.out).2.2|(with_reducible refine Kd.Q3 ?_ _)|(with_reducible refine Kd.Q2 ?_ _)|(with_reducible refine Kd.Q9 ?_)));(case side4=>exact(Kd.Q4 ψ.out).2.1);(case side5=>exact Kd.Yq _ _);(case side6=>exact Nat.le_refl _);rintro e ka ⟨rfl,hb⟩;refine⟨_,rfl, ?_⟩;have L:=Aside0.mk (Kd.Za (by(with_reducible repeat first|apply Kd.Qx|apply Kd.Qw|apply Kd.Qy);exact θ.out) hb);have O:=Aside0.mk (Kd.Za (by(with_reducible repeat first|apply Kd.Qx|apply Kd.Qw|apply Kd.Qy);exact ψ.out) hb);have X:=Aside0.mk (Qh (g:= μ) (o:=.cells #[.int .i64 Z,.int .i64 γ,.int .i64 ar,.int .i64 ε,.int .i64 ζ,.int .i64 ι,.int .i64 κ,.int .i64 ν,.int .i64 σ,.int .i64 τ] 25 (0,0)) (by(with_reducible repeat first|apply Qb|apply Qe|apply Qc);exact η.out) hb);have δ :=Aside0.mk (Qh (g:=a3) (o:=.cells #[.int .i64 2,.int .i64 1,.int .i64 (-1)] 36 (0,0)) (by(with_reducible repeat first|apply Qb|apply Qe|apply Qc);exact Y.out) hb);have ξ :=Aside0.mk (Qh (g:=a2) (o:=.cells #[.slice b9 ρ.length b7,.slice none 0 0] 50 (0,0)) (by(with_reducible repeat first|apply Qb|apply Qe|apply Qc);exact a1.out) hb);have φ :=Aside0.mk (Qj (by repeat(first|(with_reducible first|exact HB.out|apply Qg|apply Qd|apply Qf|refine Qa ?_ χ.out|refine Qa ?_ ae.out|refine Qa ?_ b2.out)|exact HB.out)) hb);clear θ;clear ψ;clear η;clear Y;clear a1;clear HB;have θ :=L;have ψ :=O;have η :=X;have Y:= δ;have a1:= ξ;have HB:= φ;clear L O X δ ξ φ;(try clear hb);(try clear ak);(try clear hk);(try clear hi);obtain⟨bs,ft,gb,ge,gf,gg,gj,dt,du,dx,fb,fu,gk,gl,gm,gp,gq,ej,g2,he⟩:=Zh η.out;obtain⟨fy,gn,gr,gs⟩:=qD2 a1.out)|((with_reducible refine Qt (f:=21) rfl ?_);refine Q7 (some 54) rfl rfl Try.func21 kr rfl #[.agg #[.int .i64 Z,.int .i64 γ,.int .i64 ar,.int .i64 ε,.int .i64 ζ,.int .i64 ι,.int .i64 κ,.int .i64 ν,.int .i64 σ,.int .i64 τ],.slice (some av) B.length ei,.int .i64 0,.agg #[.slice b9 ρ.length b7,.slice none 0 0]] rfl (by(try simp only[List.map_toArray,List.map_cons,List.map_nil]);first|done|rfl|(simp only[List.length_drop,List.length_take];rfl)) ?_;(refine(group_Spread.calls k Z γ ar ε ζ ι κ ν σ τ _ _ B 0 _ _ ρ _ _ ([]:List (S86)) a8 bj d8 _ ?side1 ?side2 ?side3 ?side4 ?side5 ?side6 A7.out).mono ?_);(case side1=>repeat(first|exact(Kd.Q4 θ.out).2.2|(with_reducible refine Kd.Q3 ?_ _)|(with_reducible refine Kd.Q2 ?_ _)|(with_reducible refine Kd.Q9 ?_)));(case side2=>exact(Kd.Q4 θ.out).2.1);(case side3=>repeat(first|exact(Kd.Q4 ψ.out).2.2|(with_reducible refine Kd.Q3 ?_ _)|(with_reducible refine Kd.Q2 ?_ _)|(with_reducible refine Kd.Q9 ?_)));(case side4=>exact(Kd.Q4 ψ.out).2.1);(case side5=>exact Kd.Yq _ _);(case side6=>exact Nat.le_refl _);rintro e iw ⟨it,iu,rfl,bb,ci,hb⟩;refine⟨_,rfl, ?_⟩;have L:=Aside0.mk (Kd.Za (by(with_reducible repeat first|apply Kd.Qx|apply Kd.Qw|apply Kd.Qy);exact θ.out) hb);have O:=Aside0.mk (Kd.Mi (by(with_reducible repeat first|apply Kd.Qx|apply Kd.Qw|apply Kd.Qy);exact ψ.out) (Kd.Mj bb) hb);have X:=Aside0.mk (Kd.Zg (Kd.J0 (Kd.Ec bb (Kd.Mh (by(with_reducible repeat first|apply Kd.Qx|apply Kd.Qw|apply Kd.Qy);exact ψ.out))) (g:=a3) (o:=.cells #[.int .i64 2,.int .i64 1,.int .i64 (-1)] 36 (0,0)) (by(with_reducible repeat first|apply Qb|apply Qe|apply Qc);exact Y.out)) (Qi (by repeat(first|(with_reducible first|exact HB.out|apply Qg|apply Qd|apply Qf|refine Qa ?_ χ.out|refine Qa ?_ ae.out|refine Qa ?_ b2.out)|exact HB.out))));have δ :=Aside0.mk (Kd.Zg ci (Qi (by repeat(first|(with_reducible first|exact HB.out|apply Qg|apply Qd|apply Qf|refine Qa ?_ χ.out|refine Qa ?_ ae.out|refine Qa ?_ b2.out)|exact HB.out))));have ξ :=Aside0.mk (Qh (g:= μ) (o:=.cells #[.int .i64 Z,.int .i64 γ,.int .i64 ar,.int .i64 ε,.int .i64 ζ,.int .i64 ι,.int .i64 κ,.int .i64 ν,.int .i64 σ,.int .i64 τ] 25 (0,0)) (by(with_reducible repeat first|apply Qb|apply Qe|apply Qc);exact η.out) hb);have φ :=Aside0.mk (Qh (g:=a3) (o:=.cells #[.int .i64 2,.int .i64 1,.int .i64 (-1)] 36 (0,0)) (by(with_reducible repeat first|apply Qb|apply Qe|apply Qc);exact Y.out) hb);have ω :=Aside0.mk (Qh (g:=a2) (o:=.cells #[.slice b9 ρ.length b7,.slice none 0 0] 50 (0,0)) (by(with_reducible repeat first|apply Qb|apply Qe|apply Qc);exact a1.out) hb);have a6:=Aside0.mk (Qj (by repeat(first|(with_reducible first|exact HB.out|apply Qg|apply Qd|apply Qf|refine Qa ?_ χ.out|refine Qa ?_ ae.out|refine Qa ?_ b2.out)|exact HB.out)) hb);clear θ;clear ψ;clear η;clear Y;clear a1;clear HB;have θ :=L;have ψ :=O;have bg:=X;have ct:= δ;have η := ξ;have Y:= φ;have a1:= ω;have HB:=a6;clear L O X δ ξ φ ω a6;(try clear hb);(try clear ak);(try clear hk);(try clear hi);(try clear bb);(try clear ci))|((with_reducible refine Qr (N:=11) rfl ?_);(try(refine Z5 (by rfl) ?_;dsimp only));refine Qq ?hg (N:=11) ?hd (cs:=#[.slice none 0 0,.slice none 0 0]) (t:=50) ?hr ?_;(case hd=>rfl);(case hg=>rfl);(case hr=>first|(go_simp;done)|(go_simp;rfl));intro a4 hg lq hbox hb;have L:=Aside0.mk (Kd.Za (by(with_reducible repeat first|apply Kd.Qx|apply Kd.Qw|apply Kd.Qy);exact θ.out) hb);have O:=Aside0.mk (Kd.Za (by(with_reducible repeat first|apply Kd.Qx|apply Kd.Qw|apply Kd.Qy);exact ψ.out) hb);have X:=Aside0.mk (Kd.Za (by(with_reducible repeat first|apply Kd.Qx|apply Kd.Qw|apply Kd.Qy);exact bg.out) hb);have δ :=Aside0.mk (Kd.Za (by(with_reducible repeat first|apply Kd.Qx|apply Kd.Qw|apply Kd.Qy);exact ct.out) hb);have ξ :=Aside0.mk (Qh (g:= μ) (o:=.cells #[.int .i64 Z,.int .i64 γ,.int .i64 ar,.int .i64 ε,.int .i64 ζ,.int .i64 ι,.int .i64 κ,.int .i64 ν,.int .i64 σ,.int .i64 τ] 25 (0,0)) (by(with_reducible repeat first|apply Qb|apply Qe|apply Qc);exact η.out) hb);have φ :=Aside0.mk (Qh (g:=a3) (o:=.cells #[.int .i64 2,.int .i64 1,.int .i64 (-1)] 36 (0,0)) (by(with_reducible repeat first|apply Qb|apply Qe|apply Qc);exact Y.out) hb);have ω :=Aside0.mk (Qh (g:=a2) (o:=.cells #[.slice b9 ρ.length b7,.slice none 0 0] 50 (0,0)) (by(with_reducible repeat first|apply Qb|apply Qe|apply Qc);exact a1.out) hb);have a6:=Aside0.mk (Qj (by repeat(first|(with_reducible first|exact HB.out|apply Qg|apply Qd|apply Qf|refine Qa ?_ χ.out|refine Qa ?_ ae.out|refine Qa ?_ b2.out)|exact HB.out)) hb);have a7:=Aside0.mk (hbox);have ag:=Aside0.mk ((by rw[hg];exact(Qi (by repeat(first|(with_reducible first|exact HB.out|apply Qg|apply Qd|apply Qf|refine Qa ?_ χ.out|refine Qa ?_ ae.out|refine Qa ?_ b2.out)|exact HB.out))):w.heap.size≤a4));have ah:=Aside0.mk ((by rw[hg];exact(Qi (by repeat(first|(with_reducible first|exact HB.out|apply Qg|apply Qd|apply Qf|refine Qa ?_ χ.out|refine Qa ?_ ae.out|refine Qa ?_ b2.out)|exact HB.out))):w.heap.size≤a4));have ai:=Aside0.mk ((by rw[hg];exact Nat.ne_of_lt (Qp (g:= μ) (o:=.cells #[.int .i64 Z,.int .i64 γ,.int .i64 ar,.int .i64 ε,.int .i64 ζ,.int .i64 ι,.int .i64 κ,.int .i64 ν,.int .i64 σ,.int .i64 τ] 25 (0,0)) (by(with_reducible repeat first|apply Qb|apply Qe|apply Qc);exact η.out)): μ ≠ a4));have aj:=Aside0.mk ((by rw[hg];exact Nat.ne_of_gt (Qp (g:= μ) (o:=.cells #[.int .i64 Z,.int .i64 γ,.int .i64 ar,.int .i64 ε,.int .i64 ζ,.int .i64 ι,.int .i64 κ,.int .i64 ν,.int .i64 σ,.int .i64 τ] 25 (0,0)) (by(with_reducible repeat first|apply Qb|apply Qe|apply Qc);exact η.out)):a4 ≠ μ));have ay:=Aside0.mk ((by rw[hg];exact Nat.ne_of_lt (Qp (g:=a3) (o:=.cells #[.int .i64 2,.int .i64 1,.int .i64 (-1)] 36 (0,0)) (by(with_reducible repeat first|apply Qb|apply Qe|apply Qc);exact Y.out)):a3≠a4));have b1:=Aside0.mk ((by rw[hg];exact Nat.ne_of_gt (Qp (g:=a3) (o:=.cells #[.int .i64 2,.int .i64 1,.int .i64 (-1)] 36 (0,0)) (by(with_reducible repeat first|apply Qb|apply Qe|apply Qc);exact Y.out)):a4≠a3));have ao:=Aside0.mk ((by rw[hg];exact Nat.ne_of_lt (Qp (g:=a2) (o:=.cells #[.slice b9 ρ.length b7,.slice none 0 0] 50 (0,0)) (by(with_reducible repeat first|apply Qb|apply Qe|apply Qc);exact a1.out)):a2≠a4));have bd:=Aside0.mk ((by rw[hg];exact Nat.ne_of_gt (Qp (g:=a2) (o:=.cells #[.slice b9 ρ.length b7,.slice none 0 0] 50 (0,0)) (by(with_reducible repeat first|apply Qb|apply Qe|apply Qc);exact a1.out)):a4≠a2));clear θ;clear ψ;clear bg;clear ct;clear η;clear Y;clear a1;clear HB;have θ :=L;have ψ :=O;have bg:=X;have ct:= δ;have η := ξ;have Y:= φ;have a1:= ω;have HB:=a6;have b3:=a7;have im:=ag;have fo:=ah;have cy:=ai;have ef:=aj;have cz:=ay;have eg:=b1;have d0:=ao;have eh:=bd;clear L O X δ ξ φ ω a6 a7 ag ah ai aj ay b1 ao bd;clear hb hbox hg;obtain⟨iv,bh,hx⟩:=Kd.Ze bg.out;subst hx;have iz:=ef.out;have jk:=cy.out;have fx:=eg.out;have fz:=cz.out;have j6:=eh.out;have j7:=d0.out;obtain⟨e4,e5,e6,e7⟩:=qD2 b3.out;obtain⟨bl,bn,hy⟩:=Kd.Ze ct.out;subst hy;have fi:0≤(0:Int):=(by omega);have fj:0<(a8.length:Int):=of_decide_eq_true (by first|(with_reducible assumption)|assumption);obtain⟨b0,i0,b8,be,bf⟩:=Xz (Kd.Q4 bg.out).2.2 0 fi fj;cases i0;have ip:(0<a8.length)=True:=eq_true (by omega);(try rw[show((0:Int)).toNat=0 from rfl] at b8);(try rw[show 0 * 3=0 from rfl] at b8);(try rw[Addr.add_zero'] at b8);(try rw[show((0:Int)).toNat=0 from rfl] at be);(try rw[show 0 * 3=0 from rfl] at be);(try rw[Addr.add_zero'] at be);(try rw[show((0:Int)).toNat=0 from rfl] at bf);(try rw[show 0 * 3=0 from rfl] at bf);(try rw[Addr.add_zero'] at bf);have an:b0.block≠a4:=Kd.Vh (Kd.Xg bg.out b3.out (by decide));have au:b0.block≠a4:=Kd.Vh (Kd.Xg bg.out b3.out (by decide));replace b8:=(cell_far (p:=⟨a4,0,none⟩) (by first|(rw[add_block];exact an)|(show(Addr.add _ _).block≠_;rw[add_block];exact an)|exact an) (.slice (some b0) a8.length bh)).trans b8;replace be:=(cell_far (p:=⟨a4,0,none⟩) (by first|(rw[add_block];exact an)|(show(Addr.add _ _).block≠_;rw[add_block];exact an)|exact an) (.slice (some b0) a8.length bh)).trans be;replace bf:=(cell_far (p:=⟨a4,0,none⟩) (by first|(rw[add_block];exact an)|(show(Addr.add _ _).block≠_;rw[add_block];exact an)|exact an) (.slice (some b0) a8.length bh)).trans bf;replace b8:=(cell_far (p:=⟨a4,1,none⟩) (by first|(rw[add_block];exact au)|(show(Addr.add _ _).block≠_;rw[add_block];exact au)|exact au) (.slice bl bj.length bn)).trans b8;replace be:=(cell_far (p:=⟨a4,1,none⟩) (by first|(rw[add_block];exact au)|(show(Addr.add _ _).block≠_;rw[add_block];exact au)|exact au) (.slice bl bj.length bn)).trans be;replace bf:=(cell_far (p:=⟨a4,1,none⟩) (by first|(rw[add_block];exact au)|(show(Addr.add _ _).block≠_;rw[add_block];exact au)|exact au) (.slice bl bj.length bn)).trans bf;clear an;clear au;replace fi:=eq_true fi;replace fj:=eq_true fj;obtain⟨kn,ko,kp,ks,kt,ku,lb,i7,i9,ia,lc,lf,lg,lh,ll,lm,ln,ib,ic,ig⟩:=Zh η.out;obtain⟨gx,gy,gz,h0⟩:=qD2 a1.out)|(go_at_call 17;(refine(group_Check.calls k Z γ ar ε ζ ι κ ν σ τ _ _ B _ _ ρ _ _ ([]:List (S86)) af _ ?side1 ?side2 ?side3 ?side4 ?side5 ?side6 d7.out).mono ?_);(case side1=>refine(Kd.Q4 (e:=31) (base:=w.heap.size) (ok:=fun k_=>True) (n:=B.length) (c:=ei) ?_).2.2;exact(by(with_reducible repeat first|apply Kd.Qx|apply Kd.Qw|apply Kd.Qy);exact(Kd.Q5 (Kd.Q1 (p:=⟨a4,1,none⟩) (Kd.Q1 (p:=⟨a4,0,none⟩) (Kd.Zd θ.out b3.out (by decide)) (fun _ hk=>hk.2) (.slice (some b0) a8.length bh)) (fun _ hk=>hk.2) (.slice bl bj.length bn)) (fun _ h_=>h_.1))));(case side2=>exact(Kd.Q4 θ.out).2.1);(case side3=>refine(Kd.Q4 (e:=36) (base:=w.heap.size) (ok:=fun k_=>(k_≠a3∧some k_≠(.slice (some b0) a8.length bh:Value).ownBlock)) (n:=ρ.length) (c:=b7) ?_).2.2;exact(by(with_reducible repeat first|apply Kd.Qx|apply Kd.Qw|apply Kd.Qy);exact(Kd.Q5 (Kd.Q1 (p:=⟨a4,1,none⟩) (Kd.Q1 (p:=⟨a4,0,none⟩) (Kd.Zd ψ.out b3.out (by decide)) (fun _ hk=>hk.2) (.slice (some b0) a8.length bh)) (fun _ hk=>hk.2) (.slice bl bj.length bn)) (fun _ h_=>h_.1))));(case side4=>exact(Kd.Q4 ψ.out).2.1);(case side5=>exact Kd.Yq _ _);(case side6=>exact Nat.le_refl _);rintro e di ⟨rfl,hb⟩;have L:=Aside0.mk (Kd.Za (by(with_reducible repeat first|apply Kd.Qx|apply Kd.Qw|apply Kd.Qy);exact(Kd.Q5 (Kd.Q1 (p:=⟨a4,1,none⟩) (Kd.Q1 (p:=⟨a4,0,none⟩) (Kd.Zd θ.out b3.out (by decide)) (fun _ hk=>hk.2) (.slice (some b0) a8.length bh)) (fun _ hk=>hk.2) (.slice bl bj.length bn)) (fun _ h_=>h_.1))) hb);have O:=Aside0.mk (Kd.Za (by(with_reducible repeat first|apply Kd.Qx|apply Kd.Qw|apply Kd.Qy);exact(Kd.Q5 (Kd.Q1 (p:=⟨a4,1,none⟩) (Kd.Q1 (p:=⟨a4,0,none⟩) (Kd.Zd ψ.out b3.out (by decide)) (fun _ hk=>hk.2) (.slice (some b0) a8.length bh)) (fun _ hk=>hk.2) (.slice bl bj.length bn)) (fun _ h_=>h_.1))) hb);have X:=Aside0.mk (Kd.Za (by(with_reducible repeat first|apply Kd.Qx|apply Kd.Qw|apply Kd.Qy);exact(Kd.Q5 (Kd.Q1 (p:=⟨a4,1,none⟩) (Kd.Q1 (p:=⟨a4,0,none⟩) (Kd.Zd bg.out b3.out (by decide)) (fun _ hk=>hk.2) (.slice (some b0) a8.length bh)) (fun _ hk=>hk.2) (.slice bl bj.length bn)) (fun _ h_=>h_.1))) hb);have δ :=Aside0.mk (Kd.Za (by(with_reducible repeat first|apply Kd.Qx|apply Kd.Qw|apply Kd.Qy);exact(Kd.Q5 (Kd.Q1 (p:=⟨a4,1,none⟩) (Kd.Q1 (p:=⟨a4,0,none⟩) (Kd.Zd ct.out b3.out (by decide)) (fun _ hk=>hk.2) (.slice (some b0) a8.length bh)) (fun _ hk=>hk.2) (.slice bl bj.length bn)) (fun _ h_=>h_.1))) hb);have ξ :=Aside0.mk (Qh (g:= μ) (o:=.cells #[.int .i64 Z,.int .i64 γ,.int .i64 ar,.int .i64 ε,.int .i64 ζ,.int .i64 ι,.int .i64 κ,.int .i64 ν,.int .i64 σ,.int .i64 τ] 25 (0,0)) (by(with_reducible repeat first|apply Qb|apply Qe|apply Qc);refine Qs ?_ cy.out _;(with_reducible repeat first|apply Qb|apply Qe|apply Qc);refine Qs ?_ cy.out _;(with_reducible repeat first|apply Qb|apply Qe|apply Qc);exact η.out) hb);have φ :=Aside0.mk (Qh (g:=a3) (o:=.cells #[.int .i64 2,.int .i64 1,.int .i64 (-1)] 36 (0,0)) (by(with_reducible repeat first|apply Qb|apply Qe|apply Qc);refine Qs ?_ cz.out _;(with_reducible repeat first|apply Qb|apply Qe|apply Qc);refine Qs ?_ cz.out _;(with_reducible repeat first|apply Qb|apply Qe|apply Qc);exact Y.out) hb);have ω :=Aside0.mk (Qh (g:=a2) (o:=.cells #[.slice b9 ρ.length b7,.slice none 0 0] 50 (0,0)) (by(with_reducible repeat first|apply Qb|apply Qe|apply Qc);refine Qs ?_ d0.out _;(with_reducible repeat first|apply Qb|apply Qe|apply Qc);refine Qs ?_ d0.out _;(with_reducible repeat first|apply Qb|apply Qe|apply Qc);exact a1.out) hb);have a6:=Aside0.mk (Qh (g:=a4) (o:=.cells #[.slice (some b0) a8.length bh,.slice bl bj.length bn] 50 (0,0)) (by(with_reducible repeat first|apply Qb|apply Qe|apply Qc);refine Qu (cs:=#[.slice (some b0) a8.length bh,.slice none 0 0]) ?_ 1 _ rfl;(with_reducible repeat first|apply Qb|apply Qe|apply Qc);refine Qu (cs:=#[.slice none 0 0,.slice none 0 0]) ?_ 0 _ rfl;(with_reducible repeat first|apply Qb|apply Qe|apply Qc);exact b3.out) hb);have a7:=Aside0.mk (Qj (by repeat(first|(with_reducible first|exact HB.out|apply Qg|apply Qd|apply Qf|refine Qa ?_ χ.out|refine Qa ?_ ae.out|refine Qa ?_ b2.out|refine Qa ?_ fo.out)|exact HB.out)) hb);clear θ;clear ψ;clear bg;clear ct;clear η;clear Y;clear a1;clear b3;clear HB;have θ :=L;have ψ :=O;have bg:=X;have ct:= δ;have η := ξ;have Y:= φ;have a1:= ω;have b3:=a6;have HB:=a7;clear L O X δ ξ φ ω a6 a7;(try clear hb);(try clear ak);(try clear hk);(try clear hi)))
             go_ret
             exact⟨by first|rfl|(simp[Qo,Qn] <;> rfl)|(simp[*,Qo,Qn] <;> rfl),by repeat(first|(with_reducible first|exact HB.out|apply Qg|apply Qd|apply Qf|refine Qa ?_ χ.out|refine Qa ?_ ae.out|refine Qa ?_ b2.out|refine Qa ?_ fo.out)|exact HB.out)⟩
            ·rw[if_neg a5] at H
             exact absurd H (by simp)
           ·rw[if_neg aa] at H
            exact absurd H (by simp)
          ·rw[if_neg am] at H
           exact absurd H (by simp)
         ·rw[if_neg al] at H
          exact absurd H (by simp)
        ·rw[if_neg ap] at H
         exact absurd H (by simp)
       ·rw[if_neg b4] at H
        exact absurd H (by simp)
      ·rw[if_neg aw] at H
       exact absurd H (by simp)
     ·rw[if_neg c10] at H
      exact absurd H (by simp)
    ·rw[if_neg c9] at H
     exact absurd H (by simp)
   ·rw[if_neg c8] at H
    exact absurd H (by simp)
  ·rw[if_neg c4] at H
   exact absurd H (by simp)
 ·rw[if_neg c2] at H
  exact absurd H (by simp)
end Go.Proofs.Ytmfffemidlhcpaa.C
namespace Go.Proofs.Ytmfffemidlhcpaa.GrpPure
open Go.RowKit Go.Proofs.YtmfffemidlhcpaaW.PrintWords Go.Proofs.YtmfffemidlhcpaaW.PrintLast Go.Proofs.YtmfffemidlhcpaaW.PrintMore Go.Proofs.Ytmfffemidlhcpaa.C Go.Proofs.Ytmfffemidlhcpaa.DoorPure
set_option linter.unusedVariables false
set_option linter.unusedSimpArgs false
open Go.Proofs.Ytmfffemidlhcpaa.Call (i64 okB Ui)
theorem N4 {F C:Int} (hF:2≤F∧F≤64) (hC:1≤C∧C≤8):okB F C [] []=true:=by
  rw[Call.K7]
  exact⟨hF,hC,⟨by simp,by simp⟩,⟨by simp,by simp⟩⟩
theorem M9 {F C:Int} (hF:2≤F∧F≤64) (hC:1≤C∧C≤8) (B J X:Int) (hd:i64 J) (k:Nat) (hk:0<k):group_hall.f k F C B J X=some (Xo F C B J X):=by
  obtain⟨k,rfl⟩:∃ m,k=m+1:=⟨k-1,by omega⟩
  unfold group_hall.f
  rw[Call.Na k F C [] [] B J X (by simp) (by simp) (by unfold Call.i64;omega) hd]
  unfold Ui
  rw[if_pos (N4 hF hC)]
  cases Xo F C B J X <;> rfl
theorem We {F C:Int} (hF:2≤F∧F≤64) (hC:1≤C∧C≤8) {B J X:Int} (h:Xo F C B J X=true):0≤B∧B<F:=by
  have:=(Call.L6 hF hC).1 h
  omega
def U7 (F:Int) (a b c:List Int):Bool:=ColPure.Jc F (-1) a&&(ColPure.Jc F (-1) b&&ColPure.Jc F (-1) c)
def Lz (g0:Int) (p:Prop) [Decidable p] (a b c:List Int) (B J X:Int):Bool:=decide p&&(U7 g0 a b c&&Xo g0 8 B J X)
theorem Nt {g0 Y g2 g3 g4 g5 g6 g7 g8 g9 c0 c1 c2 c3 c4 c5 c6 l7:Int} (B J X:Int) (hd:i64 J) (l8 l9:Bool) (a b c:List Int) (hv:ColPure.Few a b c) (f:Nat) (hf:1500≤f):
    group_Cost.f f g0 Y g2 g3 g4 g5 g6 g7 g8 g9 c0 c1 c2 c3 c4 c5 c6 l7 l8 l9 a b c B J X=some (if Lz g0 (G3 g0 Y g2 g3 g4 g5 g6 g7 g8 g9 c0 c1 c2 c3 c4 c5 c6 l7) a b c B J X=true then (Wg g0 Y g2 g3 g6 g8 g9 c0 c1 c2 c3 c4 c5 c6 l7 (Kz a b c) B J,0) else (0,210)):=by
  unfold group_Cost.f
  rw[M1 _ _ _ _ _ _ _ _ _ _ _ _ _ _ _ _ _ _ _ _ f (by omega),ColPure.Yj hv g0 0 0 false false f hf]
  simp only[Option.bind_some]
  by_cases h1:G3 g0 Y g2 g3 g4 g5 g6 g7 g8 g9 c0 c1 c2 c3 c4 c5 c6 l7
  · have hF:2≤g0∧g0≤64:=h1.1.1.2.1
    have em:ColPure.Gu g0 0 0 a b c=U7 g0 a b c:=by
      unfold ColPure.Gu U7
      rw[decide_eq_true (by omega),Bool.and_true,Bool.and_assoc]
    rw[decide_eq_true h1,if_pos rfl,em,M9 hF (by omega) B J X hd f (by omega)]
    unfold Lz
    rw[decide_eq_true h1,Bool.true_and]
    simp only[Option.bind_some]
    cases L:U7 g0 a b c
    · rfl
    · cases Z:Xo g0 8 B J X
      · rfl
      · rw[Nf J X l8 l9 a b c f (by omega) h1 (We hF (by omega) Z)]
        rfl
  · unfold Lz
    rw[decide_eq_false h1,if_neg (by decide),Bool.false_and,if_neg (by decide)]
theorem Mf:newellaw21_awake.f 60=some true:=by kernel_rfl
theorem Un (k:Nat) (hk:60≤k):newellaw21_awake.f k=some true:=Lm (g:=newellaw21_awake.f) newellaw21_awake.mono hk Mf
end Go.Proofs.Ytmfffemidlhcpaa.GrpPure
namespace Go.Proofs.Ytmfffemidlhcpaa.C
open Go.RowKit Go.Proofs.YtmfffemidlhcpaaW.PrintWords Go.Proofs.YtmfffemidlhcpaaW.PrintLast Go.Proofs.YtmfffemidlhcpaaW.PrintMore
attribute [local go_sem] Z1 Zz Z9 Z8 Zq Zp Z0 Zy
set_option linter.unusedVariables false
set_option linter.unusedSimpArgs false
mutual
def newellaw21_GroupBounds.j0:Nat→Int→Int→Bool→Int→Int→Int→Int→Int→Int→Int→Int→Int→Int→Int→Int→Int→Int→Int→Int→Int→Int→Bool→Bool→Int→Int→Int→Option (Bool)
 |0,_,_,_,_,_,_,_,_,_,_,_,_,_,_,_,_,_,_,_,_,_,_,_,_,_,_=>none
 |k+1,L,O,δ,Z,B,ε,ζ,η,θ,ι,κ,μ,ν,J,X,ξ,ρ,σ,τ,φ,γ,χ,ψ,Y,ω,a0=>if δ = true then ((newellaw21_awake.f k).bind fun ce=>(if ce=true then (some (L==0)) else (none))) else ((newellaw21_awake.f k).bind fun bq=>(if bq=true then (if (wrap64 (L-O))≥(wrap64 (B * (mx (wrap64 ((wrap64 (J+X))-Y)) (wrap64 (Y - (wrap64 (J+X))))))) then (if (wrap64 (L-O))≤(wrap64 ((wrap64 (3 * B)) * (wrap64 (Z-1)))) then (if B=0 then (none) else (if (Int.tmod (wrap64 (L-O)) B)=0 then (if γ=0 then (newellaw21_GroupBounds.j1 k ((wrap64 (L-O))==(wrap64 (B * (mx (wrap64 ((wrap64 (J+X))-Y)) (wrap64 (Y - (wrap64 (J+X))))))))) else (newellaw21_GroupBounds.j1 k true)) else (none))) else (none)) else (none)) else (none)))
def newellaw21_GroupBounds.j1:Nat→Bool→Option (Bool)
 |0,_=>none
 |k+1,O=>some O
end
def newellaw21_GroupBounds.f (k:Nat) (J:Int) (B:Int) (Y:Int) (Z:Int) (γ:Int) (ζ :Int) (ε :Int) (κ :Int) (ι :Int) (θ :Int) (μ :Int) (η :Int) (ν :Int) (τ :Int) (ρ:Int) (χ :Int) (ψ :Int) (a1:Int) (a2:Bool) (a5:Bool) (σ:Int) (a3:Int) (a4:Int):Option (Bool):=(group_Cost.f k J B Y Z γ ζ ε κ ι θ μ η ν τ ρ χ ψ a1 a2 a5 ([]:List Int) ([]:List Int) ([]:List Int) σ a3 a4).bind fun bp=>((car_Rest.f k J B Y Z γ ζ ε κ ι θ μ η ν τ ρ χ ψ).bind fun b3=>(if bp.2=0 then (newellaw21_GroupBounds.j0 k bp.1 b3.1 (b3.2 != 0) J B Y Z γ ζ ε κ ι θ μ η ν τ ρ χ ψ a1 a2 a5 σ a3 a4) else (newellaw21_GroupBounds.j0 k bp.1 b3.1 true J B Y Z γ ζ ε κ ι θ μ η ν τ ρ χ ψ a1 a2 a5 σ a3 a4)))
set_option maxHeartbeats 8000000 in
set_option maxRecDepth 100000 in
theorem newellaw21_GroupBounds.calls (k:Nat) (J:Int) (B:Int) (Y:Int) (Z:Int) (γ:Int) (ζ :Int) (ε :Int) (κ :Int) (ι :Int) (θ :Int) (μ :Int) (η :Int) (ν :Int) (τ :Int) (ρ:Int) (χ :Int) (ψ :Int) (a1:Int) (a2:Bool) (a5:Bool) (σ:Int) (a3:Int) (a4:Int) (r:Bool) (w:World) (h:newellaw21_GroupBounds.f k J B Y Z γ ζ ε κ ι θ μ η ν τ ρ χ ψ a1 a2 a5 σ a3 a4=some r):
  Calls Try.prog 7 #[.agg #[.int .i64 J,.int .i64 B,.int .i64 Y,.int .i64 Z,.int .i64 γ,.int .i64 ζ,.int .i64 ε,.int .i64 κ,.int .i64 ι,.int .i64 θ],.agg #[.int .i64 μ,.int .i64 η,.int .i64 ν,.int .i64 τ,.int .i64 ρ,.int .i64 χ,.int .i64 ψ,.int .i64 a1,.bool a2,.bool a5],.agg #[.int .i64 σ,.int .i64 a3,.int .i64 a4]] w fun e w'=>e = .returned (.bool r)∧Below w.heap.size w w':=by
 have dc:=Try.underlying25
 have fv:=Try.underlying31
 have da:=Try.underlying36
 have ga:=Try.underlying34
 have g8:=Try.underlying29
 have HB:=Aside0.mk (Below.refl w.heap.size w)
 have H:((group_Cost.f k J B Y Z γ ζ ε κ ι θ μ η ν τ ρ χ ψ a1 a2 a5 ([]:List Int) ([]:List Int) ([]:List Int) σ a3 a4).bind fun bp=>((car_Rest.f k J B Y Z γ ζ ε κ ι θ μ η ν τ ρ χ ψ).bind fun b3=>(if bp.2=0 then (newellaw21_GroupBounds.j0 k bp.1 b3.1 (b3.2 != 0) J B Y Z γ ζ ε κ ι θ μ η ν τ ρ χ ψ a1 a2 a5 σ a3 a4) else (newellaw21_GroupBounds.j0 k bp.1 b3.1 true J B Y Z γ ζ ε κ ι θ μ η ν τ ρ χ ψ a1 a2 a5 σ a3 a4))))=some r:=h
 clear h
 replace H:=Option.bind_eq_some_iff.mp H
 obtain⟨⟨a9,bv⟩,br,H⟩:=H
 replace H:((car_Rest.f k J B Y Z γ ζ ε κ ι θ μ η ν τ ρ χ ψ).bind fun b3=>(if bv=0 then (newellaw21_GroupBounds.j0 k a9 b3.1 (b3.2 != 0) J B Y Z γ ζ ε κ ι θ μ η ν τ ρ χ ψ a1 a2 a5 σ a3 a4) else (newellaw21_GroupBounds.j0 k a9 b3.1 true J B Y Z γ ζ ε κ ι θ μ η ν τ ρ χ ψ a1 a2 a5 σ a3 a4)))=some r:=H
 have A4:=Aside0.mk br
 clear br
 replace H:=Option.bind_eq_some_iff.mp H
 obtain⟨⟨ab,dy⟩,bu,H⟩:=H
 replace H:(if bv=0 then (newellaw21_GroupBounds.j0 k a9 ab (dy != 0) J B Y Z γ ζ ε κ ι θ μ η ν τ ρ χ ψ a1 a2 a5 σ a3 a4) else (newellaw21_GroupBounds.j0 k a9 ab true J B Y Z γ ζ ε κ ι θ μ η ν τ ρ χ ψ a1 a2 a5 σ a3 a4))=some r:=H
 have A5:=Aside0.mk bu
 clear bu
 have jt:=Aside0.mk H
 clear H
 go_enter Try.func7,Try.ntmps7
 go_upto_region 3 with(first|((with_reducible refine Qr (N:=3) rfl ?_);refine Qq ?hg (N:=3) ?hd (cs:=#[.int .i64 J,.int .i64 B,.int .i64 Y,.int .i64 Z,.int .i64 γ,.int .i64 ζ,.int .i64 ε,.int .i64 κ,.int .i64 ι,.int .i64 θ]) (t:=25) ?hr ?_;(case hd=>rfl);(case hg=>rfl);(case hr=>first|(go_simp;done)|(go_simp;rfl));intro ai hg w7 hbox hb;have L:=Aside0.mk (Qj (by repeat(first|(with_reducible first|exact HB.out|apply Qg|apply Qd|apply Qf)|exact HB.out)) hb);have O:=Aside0.mk (hbox);have X:=Aside0.mk ((by rw[hg];exact(Qi (by repeat(first|(with_reducible first|exact HB.out|apply Qg|apply Qd|apply Qf)|exact HB.out))):w.heap.size≤ai));have δ :=Aside0.mk ((by rw[hg];exact(Qi (by repeat(first|(with_reducible first|exact HB.out|apply Qg|apply Qd|apply Qf)|exact HB.out))):w.heap.size≤ai));clear HB;have HB:=L;have a0:=O;have k2:=X;have al:= δ;clear L O X δ;clear hb hbox hg)|((with_reducible refine Qr (N:=4) rfl ?_);refine Qq ?hg (N:=4) ?hd (cs:=#[.int .i64 μ,.int .i64 η,.int .i64 ν,.int .i64 τ,.int .i64 ρ,.int .i64 χ,.int .i64 ψ,.int .i64 a1,.bool a2,.bool a5]) (t:=31) ?hr ?_;(case hd=>rfl);(case hg=>rfl);(case hr=>first|(go_simp;done)|(go_simp;rfl));intro am hg w8 hbox hb;have L:=Aside0.mk (Qh (g:=ai) (o:=.cells #[.int .i64 J,.int .i64 B,.int .i64 Y,.int .i64 Z,.int .i64 γ,.int .i64 ζ,.int .i64 ε,.int .i64 κ,.int .i64 ι,.int .i64 θ] 25 (0,0)) (by(with_reducible repeat first|apply Qb|apply Qe|apply Qc);exact a0.out) hb);have O:=Aside0.mk (Qj (by repeat(first|(with_reducible first|exact HB.out|apply Qg|apply Qd|apply Qf|refine Qa ?_ al.out)|exact HB.out)) hb);have X:=Aside0.mk (hbox);have δ :=Aside0.mk ((by rw[hg];exact(Qi (by repeat(first|(with_reducible first|exact HB.out|apply Qg|apply Qd|apply Qf|refine Qa ?_ al.out)|exact HB.out))):w.heap.size≤am));have ξ :=Aside0.mk ((by rw[hg];exact(Qi (by repeat(first|(with_reducible first|exact HB.out|apply Qg|apply Qd|apply Qf|refine Qa ?_ al.out)|exact HB.out))):w.heap.size≤am));have φ :=Aside0.mk ((by rw[hg];exact Nat.ne_of_lt (Qp (g:=ai) (o:=.cells #[.int .i64 J,.int .i64 B,.int .i64 Y,.int .i64 Z,.int .i64 γ,.int .i64 ζ,.int .i64 ε,.int .i64 κ,.int .i64 ι,.int .i64 θ] 25 (0,0)) (by(with_reducible repeat first|apply Qb|apply Qe|apply Qc);exact a0.out)):ai≠am));have ω :=Aside0.mk ((by rw[hg];exact Nat.ne_of_gt (Qp (g:=ai) (o:=.cells #[.int .i64 J,.int .i64 B,.int .i64 Y,.int .i64 Z,.int .i64 γ,.int .i64 ζ,.int .i64 ε,.int .i64 κ,.int .i64 ι,.int .i64 θ] 25 (0,0)) (by(with_reducible repeat first|apply Qb|apply Qe|apply Qc);exact a0.out)):am≠ai));clear a0;clear HB;have a0:=L;have HB:=O;have a8:=X;have k3:= δ;have b1:= ξ;have bd:= φ;have be:= ω;clear L O X δ ξ φ ω;clear hb hbox hg)|((with_reducible refine Qr (N:=5) rfl ?_);refine Qq ?hg (N:=5) ?hd (cs:=#[.int .i64 σ,.int .i64 a3,.int .i64 a4]) (t:=36) ?hr ?_;(case hd=>rfl);(case hg=>rfl);(case hr=>first|(go_simp;done)|(go_simp;rfl));intro b2 hg w9 hbox hb;have L:=Aside0.mk (Qh (g:=ai) (o:=.cells #[.int .i64 J,.int .i64 B,.int .i64 Y,.int .i64 Z,.int .i64 γ,.int .i64 ζ,.int .i64 ε,.int .i64 κ,.int .i64 ι,.int .i64 θ] 25 (0,0)) (by(with_reducible repeat first|apply Qb|apply Qe|apply Qc);exact a0.out) hb);have O:=Aside0.mk (Qh (g:=am) (o:=.cells #[.int .i64 μ,.int .i64 η,.int .i64 ν,.int .i64 τ,.int .i64 ρ,.int .i64 χ,.int .i64 ψ,.int .i64 a1,.bool a2,.bool a5] 31 (0,0)) (by(with_reducible repeat first|apply Qb|apply Qe|apply Qc);exact a8.out) hb);have X:=Aside0.mk (Qj (by repeat(first|(with_reducible first|exact HB.out|apply Qg|apply Qd|apply Qf|refine Qa ?_ al.out|refine Qa ?_ b1.out)|exact HB.out)) hb);have δ :=Aside0.mk (hbox);have ξ :=Aside0.mk ((by rw[hg];exact(Qi (by repeat(first|(with_reducible first|exact HB.out|apply Qg|apply Qd|apply Qf|refine Qa ?_ al.out|refine Qa ?_ b1.out)|exact HB.out))):w.heap.size≤b2));have φ :=Aside0.mk ((by rw[hg];exact(Qi (by repeat(first|(with_reducible first|exact HB.out|apply Qg|apply Qd|apply Qf|refine Qa ?_ al.out|refine Qa ?_ b1.out)|exact HB.out))):w.heap.size≤b2));have ω :=Aside0.mk ((by rw[hg];exact Nat.ne_of_lt (Qp (g:=ai) (o:=.cells #[.int .i64 J,.int .i64 B,.int .i64 Y,.int .i64 Z,.int .i64 γ,.int .i64 ζ,.int .i64 ε,.int .i64 κ,.int .i64 ι,.int .i64 θ] 25 (0,0)) (by(with_reducible repeat first|apply Qb|apply Qe|apply Qc);exact a0.out)):ai≠b2));have a6:=Aside0.mk ((by rw[hg];exact Nat.ne_of_gt (Qp (g:=ai) (o:=.cells #[.int .i64 J,.int .i64 B,.int .i64 Y,.int .i64 Z,.int .i64 γ,.int .i64 ζ,.int .i64 ε,.int .i64 κ,.int .i64 ι,.int .i64 θ] 25 (0,0)) (by(with_reducible repeat first|apply Qb|apply Qe|apply Qc);exact a0.out)):b2≠ai));have a7:=Aside0.mk ((by rw[hg];exact Nat.ne_of_lt (Qp (g:=am) (o:=.cells #[.int .i64 μ,.int .i64 η,.int .i64 ν,.int .i64 τ,.int .i64 ρ,.int .i64 χ,.int .i64 ψ,.int .i64 a1,.bool a2,.bool a5] 31 (0,0)) (by(with_reducible repeat first|apply Qb|apply Qe|apply Qc);exact a8.out)):am≠b2));have ag:=Aside0.mk ((by rw[hg];exact Nat.ne_of_gt (Qp (g:=am) (o:=.cells #[.int .i64 μ,.int .i64 η,.int .i64 ν,.int .i64 τ,.int .i64 ρ,.int .i64 χ,.int .i64 ψ,.int .i64 a1,.bool a2,.bool a5] 31 (0,0)) (by(with_reducible repeat first|apply Qb|apply Qe|apply Qc);exact a8.out)):b2≠am));clear a0;clear a8;clear HB;have a0:=L;have a8:=O;have HB:=X;have aa:= δ;have k4:= ξ;have bb:= φ;have bh:= ω;have bj:=a6;have bk:=a7;have bl:=ag;clear L O X δ ξ φ ω a6 a7 ag;clear hb hbox hg;have eg:=bd.out;have em:=be.out;have gs:=bh.out;have gx:=bj.out;obtain⟨ac,ae,aj,ao,ar,au,ax,ey,ez,f8,af,ah,an,ay,az,b0,b4,fc,fe,fj⟩:=Zh a0.out;have j2:=bk.out;have j3:=bl.out;obtain⟨cj,ck,cy,cz,d0,d1,d2,dd,ff,fg,cm,cn,d3,d4,d5,d6,d7,de,fh,fi⟩:=Zh a8.out;obtain⟨cu,cv,bn,cw,cx,dn⟩:=qD3 aa.out)|((with_reducible refine Qt (f:=10) rfl ?_);refine Q7 (some 19) rfl rfl Try.func10 kr rfl #[.agg #[.int .i64 J,.int .i64 B,.int .i64 Y,.int .i64 Z,.int .i64 γ,.int .i64 ζ,.int .i64 ε,.int .i64 κ,.int .i64 ι,.int .i64 θ],.agg #[.int .i64 μ,.int .i64 η,.int .i64 ν,.int .i64 τ,.int .i64 ρ,.int .i64 χ,.int .i64 ψ,.int .i64 a1,.bool a2,.bool a5],.agg #[.slice none 0 0,.slice none 0 0,.slice none 0 0],.agg #[.int .i64 σ,.int .i64 a3,.int .i64 a4]] rfl (by(try simp only[List.map_toArray,List.map_cons,List.map_nil]);first|done|rfl|(simp only[List.length_drop,List.length_take];rfl)) ?_;(refine(group_Cost.calls k J B Y Z γ ζ ε κ ι θ μ η ν τ ρ χ ψ a1 a2 a5 _ _ ([]:List Int) _ _ ([]:List Int) _ _ ([]:List Int) σ a3 a4 a9 bv _ ?side1 ?side2 ?side3 ?side4 ?side5 ?side6 A4.out).mono ?_);(case side1=>exact Kd.Yq _ _);(case side2=>exact Nat.le_refl _);(case side3=>exact Kd.Yq _ _);(case side4=>exact Nat.le_refl _);(case side5=>exact Kd.Yq _ _);(case side6=>exact Nat.le_refl _);rintro e df ⟨rfl,hb⟩;refine⟨_,rfl, ?_⟩;have L:=Aside0.mk (Qh (g:=ai) (o:=.cells #[.int .i64 J,.int .i64 B,.int .i64 Y,.int .i64 Z,.int .i64 γ,.int .i64 ζ,.int .i64 ε,.int .i64 κ,.int .i64 ι,.int .i64 θ] 25 (0,0)) (by(with_reducible repeat first|apply Qb|apply Qe|apply Qc);exact a0.out) hb);have O:=Aside0.mk (Qh (g:=am) (o:=.cells #[.int .i64 μ,.int .i64 η,.int .i64 ν,.int .i64 τ,.int .i64 ρ,.int .i64 χ,.int .i64 ψ,.int .i64 a1,.bool a2,.bool a5] 31 (0,0)) (by(with_reducible repeat first|apply Qb|apply Qe|apply Qc);exact a8.out) hb);have X:=Aside0.mk (Qh (g:=b2) (o:=.cells #[.int .i64 σ,.int .i64 a3,.int .i64 a4] 36 (0,0)) (by(with_reducible repeat first|apply Qb|apply Qe|apply Qc);exact aa.out) hb);have δ :=Aside0.mk (Qj (by repeat(first|(with_reducible first|exact HB.out|apply Qg|apply Qd|apply Qf|refine Qa ?_ al.out|refine Qa ?_ b1.out|refine Qa ?_ bb.out)|exact HB.out)) hb);clear a0;clear a8;clear aa;clear HB;have a0:=L;have a8:=O;have aa:=X;have HB:= δ;clear L O X δ;(try clear hb);(try clear ak);(try clear hk);(try clear hi);obtain⟨b6,b7,bf,bg,cd,ci,co,d8,di,e4,b8,b9,bi,e5,e6,e7,e8,e9,ea,eb⟩:=Zh a0.out;obtain⟨cp,cq,dm,fk,fl,fm,fn,bz,ca,dw,cr,ct,dp,fo,fp,fq,fr,fz,g0,g1⟩:=Zh a8.out)|((with_reducible refine Qt (f:=25) rfl ?_);refine Q7 (some 26) rfl rfl Try.func25 kr rfl #[.agg #[.int .i64 J,.int .i64 B,.int .i64 Y,.int .i64 Z,.int .i64 γ,.int .i64 ζ,.int .i64 ε,.int .i64 κ,.int .i64 ι,.int .i64 θ],.agg #[.int .i64 μ,.int .i64 η,.int .i64 ν,.int .i64 τ,.int .i64 ρ,.int .i64 χ,.int .i64 ψ]] rfl (by(try simp only[List.map_toArray,List.map_cons,List.map_nil]);first|done|rfl|(simp only[List.length_drop,List.length_take];rfl)) ?_;(with_reducible refine(car_Rest.calls k J B Y Z γ ζ ε κ ι θ μ η ν τ ρ χ ψ ab dy _ A5.out).mono ?_);rintro e ba ⟨rfl,hb⟩;refine⟨_,rfl, ?_⟩;have L:=Aside0.mk (Qh (g:=ai) (o:=.cells #[.int .i64 J,.int .i64 B,.int .i64 Y,.int .i64 Z,.int .i64 γ,.int .i64 ζ,.int .i64 ε,.int .i64 κ,.int .i64 ι,.int .i64 θ] 25 (0,0)) (by(with_reducible repeat first|apply Qb|apply Qe|apply Qc);exact a0.out) hb);have O:=Aside0.mk (Qh (g:=am) (o:=.cells #[.int .i64 μ,.int .i64 η,.int .i64 ν,.int .i64 τ,.int .i64 ρ,.int .i64 χ,.int .i64 ψ,.int .i64 a1,.bool a2,.bool a5] 31 (0,0)) (by(with_reducible repeat first|apply Qb|apply Qe|apply Qc);exact a8.out) hb);have X:=Aside0.mk (Qh (g:=b2) (o:=.cells #[.int .i64 σ,.int .i64 a3,.int .i64 a4] 36 (0,0)) (by(with_reducible repeat first|apply Qb|apply Qe|apply Qc);exact aa.out) hb);have δ :=Aside0.mk (Qj (by repeat(first|(with_reducible first|exact HB.out|apply Qg|apply Qd|apply Qf|refine Qa ?_ al.out|refine Qa ?_ b1.out|refine Qa ?_ bb.out)|exact HB.out)) hb);clear a0;clear a8;clear aa;clear HB;have a0:=L;have a8:=O;have aa:=X;have HB:= δ;clear L O X δ;(try clear hb);(try clear ak);(try clear hk);(try clear hi)))
 (try simp only[Act.put,qS])
 go_cut [34] (fun js wc=>∃ (kq:Nat) (cg:Bool),js = .bool cg∧Aside0 (newellaw21_GroupBounds.j0 kq a9 ab cg J B Y Z γ ζ ε κ ι θ μ η ν τ ρ χ ψ a1 a2 a5 σ a3 a4=some r)∧Aside0 (kq≤k)∧Aside0 (wc.heap[ai]?=some (.cells #[.int .i64 J,.int .i64 B,.int .i64 Y,.int .i64 Z,.int .i64 γ,.int .i64 ζ,.int .i64 ε,.int .i64 κ,.int .i64 ι,.int .i64 θ] 25 (0,0)))∧Aside0 (wc.heap[am]?=some (.cells #[.int .i64 μ,.int .i64 η,.int .i64 ν,.int .i64 τ,.int .i64 ρ,.int .i64 χ,.int .i64 ψ,.int .i64 a1,.bool a2,.bool a5] 31 (0,0)))∧Aside0 (wc.heap[b2]?=some (.cells #[.int .i64 σ,.int .i64 a3,.int .i64 a4] 36 (0,0)))∧Aside0 (Below w.heap.size w wc))
 case first=>
  have H:=jt.out
  clear jt
  by_cases cb:bv=0
  ·rw[if_pos cb] at H
   have c20b0:(bv==0)=true:=beq_iff_eq.mpr cb
   have c20b1:(bv != 0)=false:=bne_eq_false_iff_eq.mpr cb
   clear cb
   (first|rw[c20b0]|(simp only[Zi,Zt];rw[c20b0])|skip)
   have H':=Aside0.mk H
   clear H
   go_wp2
   go_meet
   case rel=>exact⟨_,((dy != 0)),qR,H',⟨by first|omega|exact Nat.le_refl _⟩,⟨by(with_reducible repeat first|apply Qb|apply Qe|apply Qc);exact a0.out⟩,⟨by(with_reducible repeat first|apply Qb|apply Qe|apply Qc);exact a8.out⟩,⟨by(with_reducible repeat first|apply Qb|apply Qe|apply Qc);exact aa.out⟩,⟨by repeat(first|(with_reducible first|exact HB.out|apply Qg|apply Qd|apply Qf|refine Qa ?_ al.out|refine Qa ?_ b1.out|refine Qa ?_ bb.out)|exact HB.out)⟩⟩
  ·rw[if_neg cb] at H
   have c20b0:(bv==0)=false:=beq_eq_false_iff_ne.mpr cb
   have c20b1:(bv != 0)=true:=bne_iff_ne.mpr cb
   (first|rw[c20b0]|(simp only[Zi,Zt];rw[c20b0])|skip)
   have H':=Aside0.mk H
   clear H
   go_wp2
   go_meet
   case rel=>exact⟨_,(true),qR,H',⟨by first|omega|exact Nat.le_refl _⟩,⟨by(with_reducible repeat first|apply Qb|apply Qe|apply Qc);exact a0.out⟩,⟨by(with_reducible repeat first|apply Qb|apply Qe|apply Qc);exact a8.out⟩,⟨by(with_reducible repeat first|apply Qb|apply Qe|apply Qc);exact aa.out⟩,⟨by repeat(first|(with_reducible first|exact HB.out|apply Qg|apply Qd|apply Qf|refine Qa ?_ al.out|refine Qa ?_ b1.out|refine Qa ?_ bb.out)|exact HB.out)⟩⟩
 case rest=>
  clear jt
  try clear c1
  try clear c2
  try clear p2
  try clear c7
  try clear c10
  try clear aw
  try clear ap
  try clear cb
  try clear c20b0
  try clear c20b1
  try clear ac
  try clear ae
  try clear aj
  try clear ao
  try clear ar
  try clear au
  try clear ax
  try clear ey
  try clear ez
  try clear f8
  try clear cj
  try clear ck
  try clear cy
  try clear cz
  try clear d0
  try clear d1
  try clear d2
  try clear dd
  try clear ff
  try clear fg
  try clear cu
  try clear cv
  try clear bn
  try clear b6
  try clear b7
  try clear bf
  try clear bg
  try clear cd
  try clear ci
  try clear co
  try clear d8
  try clear di
  try clear e4
  try clear cp
  try clear cq
  try clear dm
  try clear fk
  try clear fl
  try clear fm
  try clear fn
  try clear bz
  try clear ca
  try clear dw
  try clear af
  try clear ah
  try clear an
  try clear ay
  try clear az
  try clear b0
  try clear b4
  try clear fc
  try clear fe
  try clear fj
  try clear cm
  try clear cn
  try clear d3
  try clear d4
  try clear d5
  try clear d6
  try clear d7
  try clear de
  try clear fh
  try clear fi
  try clear cw
  try clear cx
  try clear dn
  try clear b8
  try clear b9
  try clear bi
  try clear e5
  try clear e6
  try clear e7
  try clear e8
  try clear e9
  try clear ea
  try clear eb
  try clear cr
  try clear ct
  try clear dp
  try clear fo
  try clear fp
  try clear fq
  try clear fr
  try clear fz
  try clear g0
  try clear g1
  obtain⟨kq,cg,rfl,HA,jz,a0,a8,aa,HB⟩:=hcut
  cases kq with
  |zero=>exact absurd HA.out (by simp[newellaw21_GroupBounds.j0])
  |succ bc=>
   have H:=HA.out
   clear HA
   simp only[newellaw21_GroupBounds.j0] at H
   by_cases av:cg=true
   ·subst av
    have H1:((newellaw21_awake.f bc).bind fun ce=>(if ce=true then (some (a9==0)) else (none)))=some r:=by rw[if_pos rfl] at H;exact H
    clear H
    have H:=H1
    clear H1
    replace H:=Option.bind_eq_some_iff.mp H
    obtain⟨ce,dr,H⟩:=H
    replace H:(if ce=true then (some (a9==0)) else (none))=some r:=H
    have jr:=Aside0.mk dr
    clear dr
    by_cases bo:ce=true
    ·subst bo
     have H1:(some (a9==0))=some r:=by rw[if_pos rfl] at H;exact H
     clear H
     have H:=H1
     clear H1
     obtain rfl:=Option.some.inj H
     go_wp2_with (first|((with_reducible refine Qt (f:=9) rfl ?_);refine Q7 (some 35) rfl rfl Try.func9 kr rfl #[] rfl (by(try simp only[List.map_toArray,List.map_cons,List.map_nil]);first|done|rfl|(simp only[List.length_drop,List.length_take];rfl)) ?_;(with_reducible refine(newellaw21_awake.calls bc  true _ jr.out).mono ?_);rintro e cf ⟨rfl,hb⟩;refine⟨_,rfl, ?_⟩;have L:=Aside0.mk (Qh (g:=ai) (o:=.cells #[.int .i64 J,.int .i64 B,.int .i64 Y,.int .i64 Z,.int .i64 γ,.int .i64 ζ,.int .i64 ε,.int .i64 κ,.int .i64 ι,.int .i64 θ] 25 (0,0)) (by(with_reducible repeat first|apply Qb|apply Qe|apply Qc);exact a0.out) hb);have O:=Aside0.mk (Qh (g:=am) (o:=.cells #[.int .i64 μ,.int .i64 η,.int .i64 ν,.int .i64 τ,.int .i64 ρ,.int .i64 χ,.int .i64 ψ,.int .i64 a1,.bool a2,.bool a5] 31 (0,0)) (by(with_reducible repeat first|apply Qb|apply Qe|apply Qc);exact a8.out) hb);have X:=Aside0.mk (Qh (g:=b2) (o:=.cells #[.int .i64 σ,.int .i64 a3,.int .i64 a4] 36 (0,0)) (by(with_reducible repeat first|apply Qb|apply Qe|apply Qc);exact aa.out) hb);have δ :=Aside0.mk (Qj (by repeat(first|(with_reducible first|exact HB.out|apply Qg|apply Qd|apply Qf|refine Qa ?_ al.out|refine Qa ?_ b1.out|refine Qa ?_ bb.out)|exact HB.out)) hb);clear a0;clear a8;clear aa;clear HB;have a0:=L;have a8:=O;have aa:=X;have HB:= δ;clear L O X δ;(try clear hb);(try clear ak);(try clear hk);(try clear hi)))
     go_ret
     exact⟨by first|rfl|(simp[Qo,Qn] <;> rfl)|(simp[*,Qo,Qn] <;> rfl),by repeat(first|(with_reducible first|exact HB.out|apply Qg|apply Qd|apply Qf|refine Qa ?_ al.out|refine Qa ?_ b1.out|refine Qa ?_ bb.out)|exact HB.out)⟩
    ·replace bo:=Bool.eq_false_iff.mpr bo
     subst bo
     have H1:(none)=some r:=by rw[if_neg (show ¬ (false=true) by decide)] at H;exact H
     clear H
     have H:=H1
     clear H1
     exact absurd H (by simp)
   ·replace av:=Bool.eq_false_iff.mpr av
    subst av
    have H1:((newellaw21_awake.f bc).bind fun bq=>(if bq=true then (if (wrap64 (a9-ab))≥(wrap64 (B * (mx (wrap64 ((wrap64 (μ + η))-σ)) (wrap64 (σ - (wrap64 (μ + η))))))) then (if (wrap64 (a9-ab))≤(wrap64 ((wrap64 (3 * B)) * (wrap64 (J-1)))) then (if B=0 then (none) else (if (Int.tmod (wrap64 (a9-ab)) B)=0 then (if a1=0 then (newellaw21_GroupBounds.j1 bc ((wrap64 (a9-ab))==(wrap64 (B * (mx (wrap64 ((wrap64 (μ + η))-σ)) (wrap64 (σ - (wrap64 (μ + η))))))))) else (newellaw21_GroupBounds.j1 bc true)) else (none))) else (none)) else (none)) else (none)))=some r:=by rw[if_neg (show ¬ (false=true) by decide)] at H;exact H
    clear H
    have H:=H1
    clear H1
    obtain⟨bm,bw⟩:∃ j_:Int,(mx (wrap64 ((wrap64 (μ + η))-σ)) (wrap64 (σ - (wrap64 (μ + η)))))=j_:=⟨_,rfl⟩
    replace H:((newellaw21_awake.f bc).bind fun bq=>(if bq=true then (if (wrap64 (a9-ab))≥(wrap64 (B * (bm))) then (if (wrap64 (a9-ab))≤(wrap64 ((wrap64 (3 * B)) * (wrap64 (J-1)))) then (if B=0 then (none) else (if (Int.tmod (wrap64 (a9-ab)) B)=0 then (if a1=0 then (newellaw21_GroupBounds.j1 bc ((wrap64 (a9-ab))==(wrap64 (B * (bm))))) else (newellaw21_GroupBounds.j1 bc true)) else (none))) else (none)) else (none)) else (none)))=some r:=by first|(rw[bw] at H;exact H)|(simp only[bw] at H ⊢;exact H)
    have k1:(if (wrap64 ((wrap64 (μ + η))-σ))<(wrap64 (σ - (wrap64 (μ + η)))) then (wrap64 (σ - (wrap64 (μ + η)))) else (wrap64 ((wrap64 (μ + η))-σ)))=bm:=bw
    have dz:=Aside0.mk H
    clear H
    have i1:=be.out
    have i2:=bd.out
    have jx:=bk.out
    have jy:=bl.out
    obtain⟨fw,fx,fy,e0,e3,g3,gt,hh,i3,i4,g4,g5,g6,i5,i6,i7,ia,ib,il,im⟩:=Zh a8.out
    have jv:=bj.out
    have jw:=bh.out
    obtain⟨d9,db,dj,dk,dl,dv⟩:=qD3 aa.out
    go_upto_region 8 with(fail)
    go_cut [6] (fun v6 wc=>∃ (kq:Nat) (ch:Bool),v6 = .bool ch∧Aside0 (newellaw21_GroupBounds.j1 kq ch=some r)∧Aside0 (kq≤bc)∧Aside0 (wc.heap[ai]?=some (.cells #[.int .i64 J,.int .i64 B,.int .i64 Y,.int .i64 Z,.int .i64 γ,.int .i64 ζ,.int .i64 ε,.int .i64 κ,.int .i64 ι,.int .i64 θ] 25 (0,0)))∧Aside0 (wc.heap[am]?=some (.cells #[.int .i64 μ,.int .i64 η,.int .i64 ν,.int .i64 τ,.int .i64 ρ,.int .i64 χ,.int .i64 ψ,.int .i64 a1,.bool a2,.bool a5] 31 (0,0)))∧Aside0 (wc.heap[b2]?=some (.cells #[.int .i64 σ,.int .i64 a3,.int .i64 a4] 36 (0,0)))∧Aside0 (Below w.heap.size w wc))
    case first=>
     have H:=dz.out
     clear dz
     replace H:=Option.bind_eq_some_iff.mp H
     obtain⟨bq,ju,H⟩:=H
     replace H:(if bq=true then (if (wrap64 (a9-ab))≥(wrap64 (B * (bm))) then (if (wrap64 (a9-ab))≤(wrap64 ((wrap64 (3 * B)) * (wrap64 (J-1)))) then (if B=0 then (none) else (if (Int.tmod (wrap64 (a9-ab)) B)=0 then (if a1=0 then (newellaw21_GroupBounds.j1 bc ((wrap64 (a9-ab))==(wrap64 (B * (bm))))) else (newellaw21_GroupBounds.j1 bc true)) else (none))) else (none)) else (none)) else (none))=some r:=H
     have k0:=Aside0.mk ju
     clear ju
     by_cases gu:bq=true
     ·subst gu
      have H1:(if (wrap64 (a9-ab))≥(wrap64 (B * (bm))) then (if (wrap64 (a9-ab))≤(wrap64 ((wrap64 (3 * B)) * (wrap64 (J-1)))) then (if B=0 then (none) else (if (Int.tmod (wrap64 (a9-ab)) B)=0 then (if a1=0 then (newellaw21_GroupBounds.j1 bc ((wrap64 (a9-ab))==(wrap64 (B * (bm))))) else (newellaw21_GroupBounds.j1 bc true)) else (none))) else (none)) else (none))=some r:=by rw[if_pos rfl] at H;exact H
      clear H
      have H:=H1
      clear H1
      by_cases gv:(wrap64 (a9-ab))≥(wrap64 (B * (bm)))
      ·rw[if_pos gv] at H
       have c34b0:decide ((wrap64 (B * (bm)))≤(wrap64 (a9-ab)))=true:=decide_eq_true gv
       clear gv
       (first|rw[c34b0]|(simp only[Zi,Zt];rw[c34b0])|skip)
       by_cases eo:(wrap64 (a9-ab))≤(wrap64 ((wrap64 (3 * B)) * (wrap64 (J-1))))
       ·rw[if_pos eo] at H
        have c35b0:decide ((wrap64 (a9-ab))≤(wrap64 ((wrap64 (3 * B)) * (wrap64 (J-1)))))=true:=decide_eq_true eo
        clear eo
        by_cases hx:B=0
        ·rw[if_pos hx] at H
         exact absurd H (by simp)
        ·rw[if_neg hx] at H
         have c36b0:(B==0)=false:=beq_eq_false_iff_ne.mpr hx
         have c36b1:(B != 0)=true:=bne_iff_ne.mpr hx
         by_cases dh:(Int.tmod (wrap64 (a9-ab)) B)=0
         ·rw[if_pos dh] at H
          have c37b0:((Int.tmod (wrap64 (a9-ab)) B)==0)=true:=beq_iff_eq.mpr dh
          have c37b1:((Int.tmod (wrap64 (a9-ab)) B) != 0)=false:=bne_eq_false_iff_eq.mpr dh
          clear dh
          by_cases er:a1=0
          ·rw[if_pos er] at H
           have c38b0:(a1==0)=true:=beq_iff_eq.mpr er
           have c38b1:(a1 != 0)=false:=bne_eq_false_iff_eq.mpr er
           clear er
           have H':=Aside0.mk H
           clear H
           go_wp2_with (first|((with_reducible refine Qt (f:=9) rfl ?_);refine Q7 (some 59) rfl rfl Try.func9 kr rfl #[] rfl (by(try simp only[List.map_toArray,List.map_cons,List.map_nil]);first|done|rfl|(simp only[List.length_drop,List.length_take];rfl)) ?_;(with_reducible refine(newellaw21_awake.calls bc  true _ k0.out).mono ?_);rintro e ii ⟨rfl,hb⟩;refine⟨_,rfl, ?_⟩;have L:=Aside0.mk (Qh (g:=ai) (o:=.cells #[.int .i64 J,.int .i64 B,.int .i64 Y,.int .i64 Z,.int .i64 γ,.int .i64 ζ,.int .i64 ε,.int .i64 κ,.int .i64 ι,.int .i64 θ] 25 (0,0)) (by(with_reducible repeat first|apply Qb|apply Qe|apply Qc);exact a0.out) hb);have O:=Aside0.mk (Qh (g:=am) (o:=.cells #[.int .i64 μ,.int .i64 η,.int .i64 ν,.int .i64 τ,.int .i64 ρ,.int .i64 χ,.int .i64 ψ,.int .i64 a1,.bool a2,.bool a5] 31 (0,0)) (by(with_reducible repeat first|apply Qb|apply Qe|apply Qc);exact a8.out) hb);have X:=Aside0.mk (Qh (g:=b2) (o:=.cells #[.int .i64 σ,.int .i64 a3,.int .i64 a4] 36 (0,0)) (by(with_reducible repeat first|apply Qb|apply Qe|apply Qc);exact aa.out) hb);have δ :=Aside0.mk (Qj (by repeat(first|(with_reducible first|exact HB.out|apply Qg|apply Qd|apply Qf|refine Qa ?_ al.out|refine Qa ?_ b1.out|refine Qa ?_ bb.out)|exact HB.out)) hb);clear a0;clear a8;clear aa;clear HB;have a0:=L;have a8:=O;have aa:=X;have HB:= δ;clear L O X δ;(try clear hb);(try clear ak);(try clear hk);(try clear hi);have ix:=bd.out;have iy:=be.out;have ij:=bh.out;have ik:=bj.out;obtain⟨ek,el,en,io,ip,iq,ir,j6,j7,j8,et,eu,fa,it,iu,iv,iw,j9,ja,jb⟩:=Zh a0.out;have hy:=bk.out;have i0:=bl.out;obtain⟨bs,ft,gb,ge,gf,gg,gj,dt,du,dx,fb,fu,gk,gl,gm,gp,gq,ej,g2,he⟩:=Zh a8.out))
           go_meet
           case rel=>exact⟨_,(((wrap64 (a9-ab))==(wrap64 (B * (bm))))),(by first|rfl|(simp;done)|(simp only[← bw] <;> (first|rfl|simp))|(simp[*];done)),H',⟨by have:=jz.out;first|omega|exact Nat.le_refl _⟩,⟨by(with_reducible repeat first|apply Qb|apply Qe|apply Qc);exact a0.out⟩,⟨by(with_reducible repeat first|apply Qb|apply Qe|apply Qc);exact a8.out⟩,⟨by(with_reducible repeat first|apply Qb|apply Qe|apply Qc);exact aa.out⟩,⟨by repeat(first|(with_reducible first|exact HB.out|apply Qg|apply Qd|apply Qf|refine Qa ?_ al.out|refine Qa ?_ b1.out|refine Qa ?_ bb.out)|exact HB.out)⟩⟩
          ·rw[if_neg er] at H
           have c38b0:(a1==0)=false:=beq_eq_false_iff_ne.mpr er
           have c38b1:(a1 != 0)=true:=bne_iff_ne.mpr er
           have H':=Aside0.mk H
           clear H
           go_wp2_with (first|((with_reducible refine Qt (f:=9) rfl ?_);refine Q7 (some 59) rfl rfl Try.func9 kr rfl #[] rfl (by(try simp only[List.map_toArray,List.map_cons,List.map_nil]);first|done|rfl|(simp only[List.length_drop,List.length_take];rfl)) ?_;(with_reducible refine(newellaw21_awake.calls bc  true _ k0.out).mono ?_);rintro e k7 ⟨rfl,hb⟩;refine⟨_,rfl, ?_⟩;have L:=Aside0.mk (Qh (g:=ai) (o:=.cells #[.int .i64 J,.int .i64 B,.int .i64 Y,.int .i64 Z,.int .i64 γ,.int .i64 ζ,.int .i64 ε,.int .i64 κ,.int .i64 ι,.int .i64 θ] 25 (0,0)) (by(with_reducible repeat first|apply Qb|apply Qe|apply Qc);exact a0.out) hb);have O:=Aside0.mk (Qh (g:=am) (o:=.cells #[.int .i64 μ,.int .i64 η,.int .i64 ν,.int .i64 τ,.int .i64 ρ,.int .i64 χ,.int .i64 ψ,.int .i64 a1,.bool a2,.bool a5] 31 (0,0)) (by(with_reducible repeat first|apply Qb|apply Qe|apply Qc);exact a8.out) hb);have X:=Aside0.mk (Qh (g:=b2) (o:=.cells #[.int .i64 σ,.int .i64 a3,.int .i64 a4] 36 (0,0)) (by(with_reducible repeat first|apply Qb|apply Qe|apply Qc);exact aa.out) hb);have δ :=Aside0.mk (Qj (by repeat(first|(with_reducible first|exact HB.out|apply Qg|apply Qd|apply Qf|refine Qa ?_ al.out|refine Qa ?_ b1.out|refine Qa ?_ bb.out)|exact HB.out)) hb);clear a0;clear a8;clear aa;clear HB;have a0:=L;have a8:=O;have aa:=X;have HB:= δ;clear L O X δ;(try clear hb);(try clear ak);(try clear hk);(try clear hi);have gw:=bd.out;have hj:=be.out;have j4:=bh.out;have j5:=bj.out;obtain⟨ec,ed,g9,gh,gi,gy,gz,h0,h4,h5,ee,ef,h6,h7,h8,h9,ha,hl,ho,hu⟩:=Zh a0.out;have iz:=bk.out;have jk:=bl.out;obtain⟨eh,ic,ie,jc,jd,je,jf,jg,jh,ji,gr,ig,ih,jj,jl,jm,jn,jo,jp,jq⟩:=Zh a8.out))
           go_meet
           case rel=>exact⟨_,(true),qR,H',⟨by have:=jz.out;first|omega|exact Nat.le_refl _⟩,⟨by(with_reducible repeat first|apply Qb|apply Qe|apply Qc);exact a0.out⟩,⟨by(with_reducible repeat first|apply Qb|apply Qe|apply Qc);exact a8.out⟩,⟨by(with_reducible repeat first|apply Qb|apply Qe|apply Qc);exact aa.out⟩,⟨by repeat(first|(with_reducible first|exact HB.out|apply Qg|apply Qd|apply Qf|refine Qa ?_ al.out|refine Qa ?_ b1.out|refine Qa ?_ bb.out)|exact HB.out)⟩⟩
         ·rw[if_neg dh] at H
          exact absurd H (by simp)
       ·rw[if_neg eo] at H
        exact absurd H (by simp)
      ·rw[if_neg gv] at H
       exact absurd H (by simp)
     ·replace gu:=Bool.eq_false_iff.mpr gu
      subst gu
      have H1:(none)=some r:=by rw[if_neg (show ¬ (false=true) by decide)] at H;exact H
      clear H
      have H:=H1
      clear H1
      exact absurd H (by simp)
    case rest=>
     clear dz
     try clear c1
     try clear c2
     try clear p2
     try clear c3
     try clear c4
     try clear p6
     try clear c7
     try clear c9
     try clear c10
     try clear aw
     try clear ap
     try clear cb
     try clear c20b0
     try clear c20b1
     try clear av
     try clear bo
     try clear b5
     try clear ev
     try clear dq
     try clear ep
     try clear gu
     try clear gv
     try clear c34b0
     try clear eo
     try clear c35b0
     try clear hx
     try clear c36b0
     try clear c36b1
     try clear dh
     try clear c37b0
     try clear c37b1
     try clear er
     try clear c38b0
     try clear c38b1
     try clear ei
     try clear i9
     try clear gn
     try clear nv
     try clear g7
     try clear ew
     try clear ac
     try clear ae
     try clear aj
     try clear ao
     try clear ar
     try clear au
     try clear ax
     try clear ey
     try clear ez
     try clear f8
     try clear cj
     try clear ck
     try clear cy
     try clear cz
     try clear d0
     try clear d1
     try clear d2
     try clear dd
     try clear ff
     try clear fg
     try clear cu
     try clear cv
     try clear bn
     try clear b6
     try clear b7
     try clear bf
     try clear bg
     try clear cd
     try clear ci
     try clear co
     try clear d8
     try clear di
     try clear e4
     try clear cp
     try clear cq
     try clear dm
     try clear fk
     try clear fl
     try clear fm
     try clear fn
     try clear bz
     try clear ca
     try clear dw
     try clear fw
     try clear fx
     try clear fy
     try clear e0
     try clear e3
     try clear g3
     try clear gt
     try clear hh
     try clear i3
     try clear i4
     try clear d9
     try clear db
     try clear dj
     try clear ek
     try clear el
     try clear en
     try clear io
     try clear ip
     try clear iq
     try clear ir
     try clear j6
     try clear j7
     try clear j8
     try clear bs
     try clear ft
     try clear gb
     try clear ge
     try clear gf
     try clear gg
     try clear gj
     try clear dt
     try clear du
     try clear dx
     try clear ec
     try clear ed
     try clear g9
     try clear gh
     try clear gi
     try clear gy
     try clear gz
     try clear h0
     try clear h4
     try clear h5
     try clear eh
     try clear ic
     try clear ie
     try clear jc
     try clear jd
     try clear je
     try clear jf
     try clear jg
     try clear jh
     try clear ji
     try clear af
     try clear ah
     try clear an
     try clear ay
     try clear az
     try clear b0
     try clear b4
     try clear fc
     try clear fe
     try clear fj
     try clear cm
     try clear cn
     try clear d3
     try clear d4
     try clear d5
     try clear d6
     try clear d7
     try clear de
     try clear fh
     try clear fi
     try clear cw
     try clear cx
     try clear dn
     try clear b8
     try clear b9
     try clear bi
     try clear e5
     try clear e6
     try clear e7
     try clear e8
     try clear e9
     try clear ea
     try clear eb
     try clear cr
     try clear ct
     try clear dp
     try clear fo
     try clear fp
     try clear fq
     try clear fr
     try clear fz
     try clear g0
     try clear g1
     try clear g4
     try clear g5
     try clear g6
     try clear i5
     try clear i6
     try clear i7
     try clear ia
     try clear ib
     try clear il
     try clear im
     try clear dk
     try clear dl
     try clear dv
     try clear et
     try clear eu
     try clear fa
     try clear it
     try clear iu
     try clear iv
     try clear iw
     try clear j9
     try clear ja
     try clear jb
     try clear fb
     try clear fu
     try clear gk
     try clear gl
     try clear gm
     try clear gp
     try clear gq
     try clear ej
     try clear g2
     try clear he
     try clear ee
     try clear ef
     try clear h6
     try clear h7
     try clear h8
     try clear h9
     try clear ha
     try clear hl
     try clear ho
     try clear hu
     try clear gr
     try clear ig
     try clear ih
     try clear jj
     try clear jl
     try clear jm
     try clear jn
     try clear jo
     try clear jp
     try clear jq
     try clear p2
     obtain⟨kq,ch,rfl,HA,k5,a0,a8,aa,HB⟩:=hcut
     cases kq with
     |zero=>exact absurd HA.out (by simp[newellaw21_GroupBounds.j1])
     |succ k6=>
      have H:=HA.out
      clear HA
      simp only[newellaw21_GroupBounds.j1] at H
      obtain rfl:=Option.some.inj H
      go_wp2
      go_ret
      exact⟨by first|rfl|(simp[Qo,Qn] <;> rfl)|(simp only[← bw];first|rfl|(simp[Qo,Qn] <;> rfl))|(simp[*,Qo,Qn] <;> rfl),by repeat(first|(with_reducible first|exact HB.out|apply Qg|apply Qd|apply Qf|refine Qa ?_ al.out|refine Qa ?_ b1.out|refine Qa ?_ bb.out)|exact HB.out)⟩
end Go.Proofs.Ytmfffemidlhcpaa.C
namespace Go.Proofs.Ytmfffemidlhcpaa.GrpPure
open Go.RowKit Go.Proofs.YtmfffemidlhcpaaW.PrintWords Go.Proofs.YtmfffemidlhcpaaW.PrintLast Go.Proofs.YtmfffemidlhcpaaW.PrintMore Go.Proofs.Ytmfffemidlhcpaa.C Go.Proofs.Ytmfffemidlhcpaa.DoorPure
set_option linter.unusedVariables false
set_option linter.unusedSimpArgs false
open Go.Proofs.Ytmfffemidlhcpaa.Call (i64 okB Ui)
theorem Md {g0 Y g2 g3 g4 g5 g6 g7 g8 g9 c0 c1 c2 c3 c4 c5 c6 l7:Int} {B:Int} (J:Int) (h:G3 g0 Y g2 g3 g4 g5 g6 g7 g8 g9 c0 c1 c2 c3 c4 c5 c6 l7) (hx:0≤B∧B<g0):
    Wg g0 Y g2 g3 g6 g8 g9 c0 c1 c2 c3 c4 c5 c6 l7 (Kz [] [] []) B J=X3 g3 g6 g8 g9 c2 c3 c4 c5 c6+Y * J2 g0 (c0+c1) l7 B J∧0≤Y * J2 g0 (c0+c1) l7 B J∧Y * J2 g0 (c0+c1) l7 B J≤12000:=by
  have Z:1≤Y∧Y≤60:=h.1.1.1.1.1
  have hF:2≤g0∧g0≤64:=h.1.1.2.1
  have q:=Gx g0 (c0+c1) l7 B J (Wk h.1.2).1 hx
  have q0:0≤Xt (c0+c1) B:=(Yd (Wk h.1.2).1 hx).1
  have r:=Jg _ _ _ _ _ _ _ _ _ _ _ _ _ _ _ _ _ h.1.1 h.1.2
  generalize hw:J2 g0 (c0+c1) l7 B J=w at *
  have p0:0≤Y * w:=Int.mul_nonneg (by omega) (by omega)
  have p1:Y * w≤60 * w:=Int.mul_le_mul_of_nonneg_right Z.2 (by omega)
  refine⟨?_,p0,by omega⟩
  unfold Wg
  rw[hw,show Kz [] [] []=0 from by simp[Kz,wrap64],Int.mul_zero,w64 (n:=Y * w) (by omega),w64 (n:=X3 g3 g6 g8 g9 c2 c3 c4 c5 c6+Y * w) (by omega),w64 (n:=0) (by omega),Int.add_zero,w64 (by omega)]
theorem Uz (g0 Y g2 g3 g4 g5 g6 g7 g8 g9 c0 c1 c2 c3 c4 c5 c6 l7:Int) (B J X:Int) (hd:i64 J) (l8 l9:Bool) (f:Nat) (hf:1600≤f):newellaw21_GroupBounds.f f g0 Y g2 g3 g4 g5 g6 g7 g8 g9 c0 c1 c2 c3 c4 c5 c6 l7 l8 l9 B J X=some true:=by
  unfold newellaw21_GroupBounds.f
  rw[Nt B J X hd l8 l9 [] [] [] ⟨by simp,by simp,by simp⟩ f (by omega),Jz _ _ _ _ _ _ _ _ _ _ _ _ _ _ _ _ _ f (by omega)]
  simp only[Option.bind_some]
  obtain⟨f,rfl⟩:∃ m,f=m+2:=⟨f-2,by omega⟩
  cases h:Lz g0 (G3 g0 Y g2 g3 g4 g5 g6 g7 g8 g9 c0 c1 c2 c3 c4 c5 c6 l7) [] [] [] B J X
  · simp only[Bool.false_eq_true,if_false]
    rw[if_neg (by decide)]
    simp only[newellaw21_GroupBounds.j0,if_true]
    rw[Un _ (by omega)]
    rfl
  · unfold Lz at h
    simp only[Bool.and_eq_true,decide_eq_true_eq] at h
    have hx:=We h.1.1.1.2.1 (by omega) h.2.2
    have Z:1≤Y∧Y≤60:=h.1.1.1.1.1.1
    have hF:2≤g0∧g0≤64:=h.1.1.1.2.1
    have hp:=(Wk h.1.1.2).1
    obtain⟨e,p0,p1⟩:=Md J h.1 hx
    have r:=Jg _ _ _ _ _ _ _ _ _ _ _ _ _ _ _ _ _ h.1.1.1 h.1.1.2
    have q:=Gx g0 (c0+c1) l7 B J hp hx
    rw[if_pos rfl,if_pos h.1.1,e]
    simp only[newellaw21_GroupBounds.j0,if_true]
    have em:mx (wrap64 (wrap64 (c0+c1)-B)) (wrap64 (B-wrap64 (c0+c1)))=Xt (c0+c1) B:=by
      rw[w64 (n:=c0+c1) (by omega),w64 (n:=c0+c1-B) (by omega),w64 (n:=B - (c0+c1)) (by omega)]
      unfold mx Xt
      split <;> split <;> omega
    have q0:0≤Xt (c0+c1) B∧Xt (c0+c1) B≤g0-1:=Yd hp hx
    rw[em]
    clear em h
    generalize J2 g0 (c0+c1) l7 B J=w at *
    generalize Xt (c0+c1) B=u at *
    generalize X3 g3 g6 g8 g9 c2 c3 c4 c5 c6=s at *
    have m1:Y * u≤Y * w:=Int.mul_le_mul_of_nonneg_left q.1 (by omega)
    have m2:Y * w≤Y * (3 * (g0-1)):=Int.mul_le_mul_of_nonneg_left q.2.1 (by omega)
    have m3:0≤Y * u:=Int.mul_nonneg (by omega) q0.1
    have m4:Y * (3 * (g0-1))≤60 * (3 * (g0-1)):=Int.mul_le_mul_of_nonneg_right Z.2 (by omega)
    have L:3 * Y * (g0-1)=Y * (3 * (g0-1)):=by rw[Int.mul_comm 3 Y,Int.mul_assoc]
    rw[w64 (n:=s+Y * w-s) (by omega),show s+Y * w-s=Y * w by omega,w64 (n:=3 * Y) (by omega),w64 (n:=g0-1) (by omega),L,w64 (n:=Y * u) (by omega),w64 (n:=Y * (3 * (g0-1))) (by omega)]
    have z:((0:Int) != 0)=false:=by decide
    rw[z,if_neg (by decide),Un _ (by omega)]
    simp only[Option.bind_some,if_true]
    rw[if_pos m1,if_pos m2,if_neg (by omega),if_pos (Int.mul_tmod_right Y w)]
    by_cases O:l7=0
    · rw[if_pos O,q.2.2 O]
      simp[newellaw21_GroupBounds.j1]
    · rw[if_neg O]
      rfl
end Go.Proofs.Ytmfffemidlhcpaa.GrpPure
