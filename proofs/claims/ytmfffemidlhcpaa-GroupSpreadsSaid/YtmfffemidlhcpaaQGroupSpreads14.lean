/- What this law's functions come to, walked; what that is, in plain Lean. No conditions of its own. -/
import Derived.Test.YtmfffemidlhcpaaQGroupSpreads13
set_option linter.unusedSimpArgs false
set_option linter.unusedVariables false
set_option maxHeartbeats 8000000
set_option maxRecDepth 100000
namespace Go.Proofs.Ytmfffemidlhcpaa.C
open Go.RowKit Go.Proofs.YtmfffemidlhcpaaW.PrintWords Go.Proofs.YtmfffemidlhcpaaW.PrintLast Go.Proofs.YtmfffemidlhcpaaW.PrintMore
attribute [local go_sem] Z2 Z0 Xb Xa Zt Zs Z1 Zz
def newellaw21_awake.f (k:Nat):Option (Bool):=(newellaw17_Plain.f).bind fun J=>((some (([(⟨(⟨0,0,0,0,(⟨0,0,0⟩:S27)⟩:S29),0,false,false⟩:S31),(⟨(⟨3,0,0,0,(⟨0,0,0⟩:S27)⟩:S29),0,false,false⟩:S31)]:List (S31)):List (S31))).bind fun B=>((some (([(⟨2,1,(-1)⟩:S36)]:List (S36)):List (S36))).bind fun ε =>(if 0<(B.length:Int) then ((group_Cost.f k J.1 J.2.1 J.2.2.1 J.2.2.2.1 J.2.2.2.2.1 J.2.2.2.2.2.1 J.2.2.2.2.2.2.1 J.2.2.2.2.2.2.2.1 J.2.2.2.2.2.2.2.2.1 J.2.2.2.2.2.2.2.2.2 ((Qc B 0).f0.f0) ((Qc B 0).f0.f1) ((Qc B 0).f0.f2) ((Qc B 0).f0.f3) ((Qc B 0).f0.f4.f0) ((Qc B 0).f0.f4.f1) ((Qc B 0).f0.f4.f2) ((Qc B 0).f1) ((Qc B 0).f2) ((Qc B 0).f3) ([]:List Int) ([]:List Int) ([]:List Int) 2 1 (-1)).bind fun am=>(if 1<(B.length:Int) then ((group_Cost.f k J.1 J.2.1 J.2.2.1 J.2.2.2.1 J.2.2.2.2.1 J.2.2.2.2.2.1 J.2.2.2.2.2.2.1 J.2.2.2.2.2.2.2.1 J.2.2.2.2.2.2.2.2.1 J.2.2.2.2.2.2.2.2.2 ((Qc B 1).f0.f0) ((Qc B 1).f0.f1) ((Qc B 1).f0.f2) ((Qc B 1).f0.f3) ((Qc B 1).f0.f4.f0) ((Qc B 1).f0.f4.f1) ((Qc B 1).f0.f4.f2) ((Qc B 1).f1) ((Qc B 1).f2) ((Qc B 1).f3) ([]:List Int) ([]:List Int) ([]:List Int) 2 1 (-1)).bind fun a7=>((group_Pick.f k J.1 J.2.1 J.2.2.1 J.2.2.2.1 J.2.2.2.2.1 J.2.2.2.2.2.1 J.2.2.2.2.2.2.1 J.2.2.2.2.2.2.2.1 J.2.2.2.2.2.2.2.2.1 J.2.2.2.2.2.2.2.2.2 B 0 ε ([]:List (S86)) 2 1 (-1)).bind fun a1=>((group_Spread.f k J.1 J.2.1 J.2.2.1 J.2.2.2.1 J.2.2.2.2.1 J.2.2.2.2.2.1 J.2.2.2.2.2.2.1 J.2.2.2.2.2.2.2.1 J.2.2.2.2.2.2.2.2.1 J.2.2.2.2.2.2.2.2.2 B 0 ε ([]:List (S86))).bind fun Y=>(if am.1=4 then (if am.2=0 then (if a7.1=2 then (if a7.2=0 then (if a1.1=1 then (if a1.2=0 then (if Y.2.2=0 then (if (Y.1.length:Int)=1 then (if 0<(Y.1.length:Int) then (if ((Qb Y.1 0).f2)=1 then ((group_Check.f k J.1 J.2.1 J.2.2.1 J.2.2.2.1 J.2.2.2.2.1 J.2.2.2.2.2.1 J.2.2.2.2.2.2.1 J.2.2.2.2.2.2.2.1 J.2.2.2.2.2.2.2.2.1 J.2.2.2.2.2.2.2.2.2 B ε ([]:List (S86))).bind fun ae=>(some (ae==0))) else (none)) else (none)) else (none)) else (none)) else (none)) else (none)) else (none)) else (none)) else (none)) else (none))))) else (none))) else (none))))
theorem newellaw21_awake.mono:∀ k,LeO (newellaw21_awake.f k) (newellaw21_awake.f (k+1)):=by
 intro  k
 unfold newellaw21_awake.f
 repeat' first|(with_reducible first|apply group_Check.mono|apply group_Cost.mono|apply group_Pick.mono|apply group_Spread.mono|exact LeO.refl _|exact LeO.none _|refine LeO.ite ?_ ?_|refine LeO.bind ?_ (fun _=>?_))|apply group_Check.mono|apply group_Cost.mono|apply group_Pick.mono|apply group_Spread.mono|exact LeO.none _|refine LeO.ite ?_ ?_|refine LeO.bind ?_ (fun _=>?_)
def newellaw21_awake.T5:Bool×List (List Nat×List Nat):=(true,[([],[]),([],[]),([1],[1]),([2],[2]),([],[]),([],[]),([0,3,4,5],[0,3,4,5]),([6],[6]),([7],[7]),([7],[7]),([8,6,0,1,2,3,4,5,6,7,8],[8]),([9,10,0,1,2,3,4,5,6,7,8,9,10],[9])])
def newellaw21_awake.B5:List Nat:=[0,0,2,6,0,0,63,127,255,255,511,2047]
theorem newellaw21_awake.Di:rtab .any (opsOf Try.f9 5)=newellaw21_awake.T5:=by kernel_rfl
theorem newellaw21_awake.Mk:Zq newellaw21_awake.T5.2 newellaw21_awake.B5=true:=by kernel_rfl
def newellaw21_awake.T6:Bool×List (List Nat×List Nat):=(true,[([],[]),([],[]),([1],[1]),([2],[2]),([],[]),([],[]),([0,3,4,5],[0,3,4,5]),([6],[6]),([7],[7]),([7],[7]),([8,6,0,1,2,3,4,5,6,7,8],[8]),([9,10,0,1,2,3,4,5,6,7,8,9,10],[9])])
def newellaw21_awake.B6:List Nat:=[0,0,2,6,0,0,63,127,255,255,511,2047]
theorem newellaw21_awake.V4:rtab .any (opsOf Try.f9 6)=newellaw21_awake.T6:=by kernel_rfl
theorem newellaw21_awake.Kv:Zq newellaw21_awake.T6.2 newellaw21_awake.B6=true:=by kernel_rfl
theorem newellaw21_awake.calls (k:Nat)  (r:Bool) (w:World) (h:newellaw21_awake.f k=some r):
 Calls Try.prog 9 #[] w fun e w'=>e = .returned (.bool r)∧Below w.heap.size w w':=by
 have cj:=Try.underlying25
 have gl:=Try.underlying31
 have hl:=Try.underlying29
 have cg:=Try.underlying36
 have d0:=Try.underlying50
 have gq:=Try.underlying34
 have HB:=aK (Below.refl w.heap.size w)
 have H:((newellaw17_Plain.f).bind fun J=>((some (([(⟨(⟨0,0,0,0,(⟨0,0,0⟩:S27)⟩:S29),0,false,false⟩:S31),(⟨(⟨3,0,0,0,(⟨0,0,0⟩:S27)⟩:S29),0,false,false⟩:S31)]:List (S31)):List (S31))).bind fun B=>((some (([(⟨2,1,(-1)⟩:S36)]:List (S36)):List (S36))).bind fun ε =>(if 0<(B.length:Int) then ((group_Cost.f k J.1 J.2.1 J.2.2.1 J.2.2.2.1 J.2.2.2.2.1 J.2.2.2.2.2.1 J.2.2.2.2.2.2.1 J.2.2.2.2.2.2.2.1 J.2.2.2.2.2.2.2.2.1 J.2.2.2.2.2.2.2.2.2 ((Qc B 0).f0.f0) ((Qc B 0).f0.f1) ((Qc B 0).f0.f2) ((Qc B 0).f0.f3) ((Qc B 0).f0.f4.f0) ((Qc B 0).f0.f4.f1) ((Qc B 0).f0.f4.f2) ((Qc B 0).f1) ((Qc B 0).f2) ((Qc B 0).f3) ([]:List Int) ([]:List Int) ([]:List Int) 2 1 (-1)).bind fun am=>(if 1<(B.length:Int) then ((group_Cost.f k J.1 J.2.1 J.2.2.1 J.2.2.2.1 J.2.2.2.2.1 J.2.2.2.2.2.1 J.2.2.2.2.2.2.1 J.2.2.2.2.2.2.2.1 J.2.2.2.2.2.2.2.2.1 J.2.2.2.2.2.2.2.2.2 ((Qc B 1).f0.f0) ((Qc B 1).f0.f1) ((Qc B 1).f0.f2) ((Qc B 1).f0.f3) ((Qc B 1).f0.f4.f0) ((Qc B 1).f0.f4.f1) ((Qc B 1).f0.f4.f2) ((Qc B 1).f1) ((Qc B 1).f2) ((Qc B 1).f3) ([]:List Int) ([]:List Int) ([]:List Int) 2 1 (-1)).bind fun a7=>((group_Pick.f k J.1 J.2.1 J.2.2.1 J.2.2.2.1 J.2.2.2.2.1 J.2.2.2.2.2.1 J.2.2.2.2.2.2.1 J.2.2.2.2.2.2.2.1 J.2.2.2.2.2.2.2.2.1 J.2.2.2.2.2.2.2.2.2 B 0 ε ([]:List (S86)) 2 1 (-1)).bind fun a1=>((group_Spread.f k J.1 J.2.1 J.2.2.1 J.2.2.2.1 J.2.2.2.2.1 J.2.2.2.2.2.1 J.2.2.2.2.2.2.1 J.2.2.2.2.2.2.2.1 J.2.2.2.2.2.2.2.2.1 J.2.2.2.2.2.2.2.2.2 B 0 ε ([]:List (S86))).bind fun Y=>(if am.1=4 then (if am.2=0 then (if a7.1=2 then (if a7.2=0 then (if a1.1=1 then (if a1.2=0 then (if Y.2.2=0 then (if (Y.1.length:Int)=1 then (if 0<(Y.1.length:Int) then (if ((Qb Y.1 0).f2)=1 then ((group_Check.f k J.1 J.2.1 J.2.2.1 J.2.2.2.1 J.2.2.2.2.1 J.2.2.2.2.2.1 J.2.2.2.2.2.2.1 J.2.2.2.2.2.2.2.1 J.2.2.2.2.2.2.2.2.1 J.2.2.2.2.2.2.2.2.2 B ε ([]:List (S86))).bind fun ae=>(some (ae==0))) else (none)) else (none)) else (none)) else (none)) else (none)) else (none)) else (none)) else (none)) else (none)) else (none))))) else (none))) else (none)))))=some r:=h
 clear h
 obtain⟨⟨Z,γ,ax,ζ,η,θ,ι,κ,μ,ρ⟩,A1,H⟩:=qQ H
 replace H:((some (([(⟨(⟨0,0,0,0,(⟨0,0,0⟩:S27)⟩:S29),0,false,false⟩:S31),(⟨(⟨3,0,0,0,(⟨0,0,0⟩:S27)⟩:S29),0,false,false⟩:S31)]:List (S31)):List (S31))).bind fun B=>((some (([(⟨2,1,(-1)⟩:S36)]:List (S36)):List (S36))).bind fun ε =>(if 0<(B.length:Int) then ((group_Cost.f k Z γ ax ζ η θ ι κ μ ρ ((Qc B 0).f0.f0) ((Qc B 0).f0.f1) ((Qc B 0).f0.f2) ((Qc B 0).f0.f3) ((Qc B 0).f0.f4.f0) ((Qc B 0).f0.f4.f1) ((Qc B 0).f0.f4.f2) ((Qc B 0).f1) ((Qc B 0).f2) ((Qc B 0).f3) ([]:List Int) ([]:List Int) ([]:List Int) 2 1 (-1)).bind fun am=>(if 1<(B.length:Int) then ((group_Cost.f k Z γ ax ζ η θ ι κ μ ρ ((Qc B 1).f0.f0) ((Qc B 1).f0.f1) ((Qc B 1).f0.f2) ((Qc B 1).f0.f3) ((Qc B 1).f0.f4.f0) ((Qc B 1).f0.f4.f1) ((Qc B 1).f0.f4.f2) ((Qc B 1).f1) ((Qc B 1).f2) ((Qc B 1).f3) ([]:List Int) ([]:List Int) ([]:List Int) 2 1 (-1)).bind fun a7=>((group_Pick.f k Z γ ax ζ η θ ι κ μ ρ B 0 ε ([]:List (S86)) 2 1 (-1)).bind fun a1=>((group_Spread.f k Z γ ax ζ η θ ι κ μ ρ B 0 ε ([]:List (S86))).bind fun Y=>(if am.1=4 then (if am.2=0 then (if a7.1=2 then (if a7.2=0 then (if a1.1=1 then (if a1.2=0 then (if Y.2.2=0 then (if (Y.1.length:Int)=1 then (if 0<(Y.1.length:Int) then (if ((Qb Y.1 0).f2)=1 then ((group_Check.f k Z γ ax ζ η θ ι κ μ ρ B ε ([]:List (S86))).bind fun ae=>(some (ae==0))) else (none)) else (none)) else (none)) else (none)) else (none)) else (none)) else (none)) else (none)) else (none)) else (none))))) else (none))) else (none))))=some r:=H
 obtain⟨B,cd⟩:∃ y_:List (S31),y_=(([(⟨(⟨0,0,0,0,(⟨0,0,0⟩:S27)⟩:S29),0,false,false⟩:S31),(⟨(⟨3,0,0,0,(⟨0,0,0⟩:S27)⟩:S29),0,false,false⟩:S31)]:List (S31))):=⟨_,rfl⟩
 replace H:((some (([(⟨2,1,(-1)⟩:S36)]:List (S36)):List (S36))).bind fun ε =>(if 0<(B.length:Int) then ((group_Cost.f k Z γ ax ζ η θ ι κ μ ρ ((Qc B 0).f0.f0) ((Qc B 0).f0.f1) ((Qc B 0).f0.f2) ((Qc B 0).f0.f3) ((Qc B 0).f0.f4.f0) ((Qc B 0).f0.f4.f1) ((Qc B 0).f0.f4.f2) ((Qc B 0).f1) ((Qc B 0).f2) ((Qc B 0).f3) ([]:List Int) ([]:List Int) ([]:List Int) 2 1 (-1)).bind fun am=>(if 1<(B.length:Int) then ((group_Cost.f k Z γ ax ζ η θ ι κ μ ρ ((Qc B 1).f0.f0) ((Qc B 1).f0.f1) ((Qc B 1).f0.f2) ((Qc B 1).f0.f3) ((Qc B 1).f0.f4.f0) ((Qc B 1).f0.f4.f1) ((Qc B 1).f0.f4.f2) ((Qc B 1).f1) ((Qc B 1).f2) ((Qc B 1).f3) ([]:List Int) ([]:List Int) ([]:List Int) 2 1 (-1)).bind fun a7=>((group_Pick.f k Z γ ax ζ η θ ι κ μ ρ B 0 ε ([]:List (S86)) 2 1 (-1)).bind fun a1=>((group_Spread.f k Z γ ax ζ η θ ι κ μ ρ B 0 ε ([]:List (S86))).bind fun Y=>(if am.1=4 then (if am.2=0 then (if a7.1=2 then (if a7.2=0 then (if a1.1=1 then (if a1.2=0 then (if Y.2.2=0 then (if (Y.1.length:Int)=1 then (if 0<(Y.1.length:Int) then (if ((Qb Y.1 0).f2)=1 then ((group_Check.f k Z γ ax ζ η θ ι κ μ ρ B ε ([]:List (S86))).bind fun ae=>(some (ae==0))) else (none)) else (none)) else (none)) else (none)) else (none)) else (none)) else (none)) else (none)) else (none)) else (none))))) else (none))) else (none)))=some r:=by first|(rw[cd];with_reducible exact H)|(have ag:=(Option.bind_some _ _).symm.trans H;rw[cd];with_reducible exact ag)|(have ag:=(Option.bind_some _ _).symm.trans H;with_reducible exact ag)|with_reducible exact H|(rw[cd];exact H)|exact H
 have fi:=aK cd
 clear cd
 obtain⟨ε,ce⟩:∃ y_:List (S36),y_=(([(⟨2,1,(-1)⟩:S36)]:List (S36))):=⟨_,rfl⟩
 replace H:(if 0<(B.length:Int) then ((group_Cost.f k Z γ ax ζ η θ ι κ μ ρ ((Qc B 0).f0.f0) ((Qc B 0).f0.f1) ((Qc B 0).f0.f2) ((Qc B 0).f0.f3) ((Qc B 0).f0.f4.f0) ((Qc B 0).f0.f4.f1) ((Qc B 0).f0.f4.f2) ((Qc B 0).f1) ((Qc B 0).f2) ((Qc B 0).f3) ([]:List Int) ([]:List Int) ([]:List Int) 2 1 (-1)).bind fun am=>(if 1<(B.length:Int) then ((group_Cost.f k Z γ ax ζ η θ ι κ μ ρ ((Qc B 1).f0.f0) ((Qc B 1).f0.f1) ((Qc B 1).f0.f2) ((Qc B 1).f0.f3) ((Qc B 1).f0.f4.f0) ((Qc B 1).f0.f4.f1) ((Qc B 1).f0.f4.f2) ((Qc B 1).f1) ((Qc B 1).f2) ((Qc B 1).f3) ([]:List Int) ([]:List Int) ([]:List Int) 2 1 (-1)).bind fun a7=>((group_Pick.f k Z γ ax ζ η θ ι κ μ ρ B 0 ε ([]:List (S86)) 2 1 (-1)).bind fun a1=>((group_Spread.f k Z γ ax ζ η θ ι κ μ ρ B 0 ε ([]:List (S86))).bind fun Y=>(if am.1=4 then (if am.2=0 then (if a7.1=2 then (if a7.2=0 then (if a1.1=1 then (if a1.2=0 then (if Y.2.2=0 then (if (Y.1.length:Int)=1 then (if 0<(Y.1.length:Int) then (if ((Qb Y.1 0).f2)=1 then ((group_Check.f k Z γ ax ζ η θ ι κ μ ρ B ε ([]:List (S86))).bind fun ae=>(some (ae==0))) else (none)) else (none)) else (none)) else (none)) else (none)) else (none)) else (none)) else (none)) else (none)) else (none))))) else (none))) else (none))=some r:=by first|(rw[ce];with_reducible exact H)|(have ag:=(Option.bind_some _ _).symm.trans H;rw[ce];with_reducible exact ag)|(have ag:=(Option.bind_some _ _).symm.trans H;with_reducible exact ag)|with_reducible exact H|(rw[ce];exact H)|exact H
 have fj:=aK ce
 clear ce
 by_cases c2:0<(B.length:Int)
 ·rw[if_pos c2] at H
  have c2b0:=decide_eq_true c2
  have c2b1:decide (0<B.length)=true:=decide_eq_true (by omega)
  clear c2
  obtain⟨⟨bw,dl⟩,A3,H⟩:=qQ H
  replace H:(if 1<(B.length:Int) then ((group_Cost.f k Z γ ax ζ η θ ι κ μ ρ ((Qc B 1).f0.f0) ((Qc B 1).f0.f1) ((Qc B 1).f0.f2) ((Qc B 1).f0.f3) ((Qc B 1).f0.f4.f0) ((Qc B 1).f0.f4.f1) ((Qc B 1).f0.f4.f2) ((Qc B 1).f1) ((Qc B 1).f2) ((Qc B 1).f3) ([]:List Int) ([]:List Int) ([]:List Int) 2 1 (-1)).bind fun a7=>((group_Pick.f k Z γ ax ζ η θ ι κ μ ρ B 0 ε ([]:List (S86)) 2 1 (-1)).bind fun a1=>((group_Spread.f k Z γ ax ζ η θ ι κ μ ρ B 0 ε ([]:List (S86))).bind fun Y=>(if bw=4 then (if dl=0 then (if a7.1=2 then (if a7.2=0 then (if a1.1=1 then (if a1.2=0 then (if Y.2.2=0 then (if (Y.1.length:Int)=1 then (if 0<(Y.1.length:Int) then (if ((Qb Y.1 0).f2)=1 then ((group_Check.f k Z γ ax ζ η θ ι κ μ ρ B ε ([]:List (S86))).bind fun ae=>(some (ae==0))) else (none)) else (none)) else (none)) else (none)) else (none)) else (none)) else (none)) else (none)) else (none)) else (none))))) else (none))=some r:=H
  by_cases c4:1<(B.length:Int)
  ·rw[if_pos c4] at H
   have c4b0:=decide_eq_true c4
   have c4b1:decide (1<B.length)=true:=decide_eq_true (by omega)
   clear c4
   obtain⟨⟨ca,cb⟩,A5,H⟩:=qQ H
   replace H:((group_Pick.f k Z γ ax ζ η θ ι κ μ ρ B 0 ε ([]:List (S86)) 2 1 (-1)).bind fun a1=>((group_Spread.f k Z γ ax ζ η θ ι κ μ ρ B 0 ε ([]:List (S86))).bind fun Y=>(if bw=4 then (if dl=0 then (if ca=2 then (if cb=0 then (if a1.1=1 then (if a1.2=0 then (if Y.2.2=0 then (if (Y.1.length:Int)=1 then (if 0<(Y.1.length:Int) then (if ((Qb Y.1 0).f2)=1 then ((group_Check.f k Z γ ax ζ η θ ι κ μ ρ B ε ([]:List (S86))).bind fun ae=>(some (ae==0))) else (none)) else (none)) else (none)) else (none)) else (none)) else (none)) else (none)) else (none)) else (none)) else (none))))=some r:=H
   obtain⟨⟨cf,ch⟩,A6,H⟩:=qQ H
   replace H:((group_Spread.f k Z γ ax ζ η θ ι κ μ ρ B 0 ε ([]:List (S86))).bind fun Y=>(if bw=4 then (if dl=0 then (if ca=2 then (if cb=0 then (if cf=1 then (if ch=0 then (if Y.2.2=0 then (if (Y.1.length:Int)=1 then (if 0<(Y.1.length:Int) then (if ((Qb Y.1 0).f2)=1 then ((group_Check.f k Z γ ax ζ η θ ι κ μ ρ B ε ([]:List (S86))).bind fun ae=>(some (ae==0))) else (none)) else (none)) else (none)) else (none)) else (none)) else (none)) else (none)) else (none)) else (none)) else (none)))=some r:=H
   obtain⟨⟨a0,ci,ck⟩,A7,H⟩:=qQ H
   replace H:(if bw=4 then (if dl=0 then (if ca=2 then (if cb=0 then (if cf=1 then (if ch=0 then (if ck=0 then (if (a0.length:Int)=1 then (if 0<(a0.length:Int) then (if ((Qb a0 0).f2)=1 then ((group_Check.f k Z γ ax ζ η θ ι κ μ ρ B ε ([]:List (S86))).bind fun ae=>(some (ae==0))) else (none)) else (none)) else (none)) else (none)) else (none)) else (none)) else (none)) else (none)) else (none)) else (none))=some r:=H
   by_cases c8:bw=4
   ·rw[if_pos c8] at H
    have c8b0:(bw==4)=true:=beq_iff_eq.mpr c8
    have c8b1:(bw != 4)=false:=bne_eq_false_iff_eq.mpr c8
    clear c8
    by_cases c9:dl=0
    ·rw[if_pos c9] at H
     have c9b0:(dl==0)=true:=beq_iff_eq.mpr c9
     have c9b1:(dl != 0)=false:=bne_eq_false_iff_eq.mpr c9
     clear c9
     by_cases c10:ca=2
     ·rw[if_pos c10] at H
      have c10b0:(ca==2)=true:=beq_iff_eq.mpr c10
      have c10b1:(ca != 2)=false:=bne_eq_false_iff_eq.mpr c10
      clear c10
      by_cases a5:cb=0
      ·rw[if_pos a5] at H
       have c11b0:(cb==0)=true:=beq_iff_eq.mpr a5
       have c11b1:(cb != 0)=false:=bne_eq_false_iff_eq.mpr a5
       clear a5
       by_cases a3:cf=1
       ·rw[if_pos a3] at H
        have c12b0:(cf==1)=true:=beq_iff_eq.mpr a3
        have c12b1:(cf != 1)=false:=bne_eq_false_iff_eq.mpr a3
        clear a3
        by_cases a2:ch=0
        ·rw[if_pos a2] at H
         have c13b0:(ch==0)=true:=beq_iff_eq.mpr a2
         have c13b1:(ch != 0)=false:=bne_eq_false_iff_eq.mpr a2
         clear a2
         by_cases σ:ck=0
         ·rw[if_pos σ] at H
          have c14b0:(ck==0)=true:=beq_iff_eq.mpr σ
          have c14b1:(ck != 0)=false:=bne_eq_false_iff_eq.mpr σ
          clear σ
          by_cases a8:(a0.length:Int)=1
          ·rw[if_pos a8] at H
           have c15b0:((a0.length:Int)==1)=true:=beq_iff_eq.mpr a8
           have c15b1:((a0.length:Int) != 1)=false:=bne_eq_false_iff_eq.mpr a8
           clear a8
           by_cases ab:0<(a0.length:Int)
           ·rw[if_pos ab] at H
            have c16b0:=decide_eq_true ab
            have c16b1:decide (0<a0.length)=true:=decide_eq_true (by omega)
            clear ab
            by_cases ψ :((Qb a0 0).f2)=1
            ·rw[if_pos ψ] at H
             have c17b0:(((Qb a0 0).f2)==1)=true:=beq_iff_eq.mpr ψ
             have c17b1:(((Qb a0 0).f2) != 1)=false:=bne_eq_false_iff_eq.mpr ψ
             clear ψ
             obtain⟨ae,bd,H⟩:=qQ H
             obtain rfl:=qJ H
             go_enter Try.func9,Try.ntmps9
             try go_wp2_with (first|((with_reducible refine Qf (f:=27) rfl ?_);refine Q0 (some 13) rfl rfl Try.func27 kr rfl #[] rfl qM ?_;(with_reducible refine(newellaw17_Plain.calls  Z γ ax ζ η θ ι κ μ ρ _ A1.out).mono ?_);rintro e b6 ⟨rfl,hb⟩;refine⟨_,rfl, ?_⟩;replace HB:=sHb hb;(try clear hb);(try clear a4);(try clear hk);(try clear hi))|((with_reducible refine Qe (N:=1) rfl ?_);(try(refine Zk (by rfl) ?_;dsimp only));refine qE 1 #[nI 0,nI 0,nI 0,nI 0,nI 0,nI 0,nI 0,nI 0,nI 0,nI 0] 25 ?_;intro ν hg dw hbox hb;have X:=aK hbox;have gf:=sGe hg;have h7:=sGe hg;replace HB:=sHb hb;clear hb hbox hg;obtain⟨cq,cy,cz,dc,e4,e7,e8,fm,fn,fv,d2,db,e9,em,en,fk,fl,fx,fy,fz⟩:=Zi X.out)|((with_reducible refine Qe (N:=17) rfl ?_);(try(refine Zk (by rfl) ?_;dsimp only));refine Kd.Ue k31 _ 31 ?hg (N:=17) ?hd (xs:=([(⟨(⟨0,0,0,0,(⟨0,0,0⟩:S27)⟩:S29),0,false,false⟩:S31),(⟨(⟨3,0,0,0,(⟨0,0,0⟩:S27)⟩:S29),0,false,false⟩:S31)]:List (S31))) (inner:=[nI 0,nI 0,nI 0,nI 0,nI 0,nI 0,nI 0,nI 0,.bool false,.bool false,nI 3,nI 0,nI 0,nI 0,nI 0,nI 0,nI 0,nI 0,.bool false,.bool false]) (ok:=fun _=>True) (okp:=fun _=>True) ?hr ?hp (fun _ hk=>hk) trivial (Below.refl _ _) (Nat.le_refl _) (by simp) ?_;(case hd=>rfl);(case hg=>rfl);(case hr=>go_simp <;> rfl);(case hp=>exact(Reps.c10 (show Kd.M k31 _ _ _ (⟨(⟨0,0,0,0,(⟨0,0,0⟩:S27)⟩:S29),0,false,false⟩:S31) [nI 0,nI 0,nI 0,nI 0,nI 0,nI 0,nI 0,nI 0,.bool false,.bool false] from(Mg _ _ _ (⟨(⟨0,0,0,0,(⟨0,0,0⟩:S27)⟩:S29),0,false,false⟩:S31))) (Reps.c10 (show Kd.M k31 _ _ _ (⟨(⟨3,0,0,0,(⟨0,0,0⟩:S27)⟩:S29),0,false,false⟩:S31) [nI 3,nI 0,nI 0,nI 0,nI 0,nI 0,nI 0,nI 0,.bool false,.bool false] from(Mg _ _ _ (⟨(⟨3,0,0,0,(⟨0,0,0⟩:S27)⟩:S29),0,false,false⟩:S31))) (Reps.none _ _))));intro gj bj dm hb hg_ hnew_;clear hg_ hnew_;(first|rw[← fi.out] at dm|(simp only[Int.reduceToNat] at dm;rw[← fi.out] at dm));have δ :=aK (Kd.Za dm (Qm bel));replace X:=aK (Q1 (g:= ν) (o:=.cells #[nI Z,nI γ,nI ax,nI ζ,nI η,nI θ,nI ι,nI κ,nI μ,nI ρ] 25 (0,0)) (by(with_reducible repeat first|refine Qi ?_ _|refine Qd ?_|refine Qh ?_ _);refine Qo (cs:=#[nI Z,nI γ,nI ax,nI ζ,nI η,nI θ,nI ι,nI κ,nI μ,nI 0]) ?_ 9 _ rfl;(with_reducible repeat first|refine Qi ?_ _|refine Qd ?_|refine Qh ?_ _);refine Qo (cs:=#[nI Z,nI γ,nI ax,nI ζ,nI η,nI θ,nI ι,nI κ,nI 0,nI 0]) ?_ 8 _ rfl;(with_reducible repeat first|refine Qi ?_ _|refine Qd ?_|refine Qh ?_ _);refine Qo (cs:=#[nI Z,nI γ,nI ax,nI ζ,nI η,nI θ,nI ι,nI 0,nI 0,nI 0]) ?_ 7 _ rfl;(with_reducible repeat first|refine Qi ?_ _|refine Qd ?_|refine Qh ?_ _);refine Qo (cs:=#[nI Z,nI γ,nI ax,nI ζ,nI η,nI θ,nI 0,nI 0,nI 0,nI 0]) ?_ 6 _ rfl;(with_reducible repeat first|refine Qi ?_ _|refine Qd ?_|refine Qh ?_ _);refine Qo (cs:=#[nI Z,nI γ,nI ax,nI ζ,nI η,nI 0,nI 0,nI 0,nI 0,nI 0]) ?_ 5 _ rfl;(with_reducible repeat first|refine Qi ?_ _|refine Qd ?_|refine Qh ?_ _);refine Qo (cs:=#[nI Z,nI γ,nI ax,nI ζ,nI 0,nI 0,nI 0,nI 0,nI 0,nI 0]) ?_ 4 _ rfl;(with_reducible repeat first|refine Qi ?_ _|refine Qd ?_|refine Qh ?_ _);refine Qo (cs:=#[nI Z,nI γ,nI ax,nI 0,nI 0,nI 0,nI 0,nI 0,nI 0,nI 0]) ?_ 3 _ rfl;(with_reducible repeat first|refine Qi ?_ _|refine Qd ?_|refine Qh ?_ _);refine Qo (cs:=#[nI Z,nI γ,nI 0,nI 0,nI 0,nI 0,nI 0,nI 0,nI 0,nI 0]) ?_ 2 _ rfl;(with_reducible repeat first|refine Qi ?_ _|refine Qd ?_|refine Qh ?_ _);refine Qo (cs:=#[nI Z,nI 0,nI 0,nI 0,nI 0,nI 0,nI 0,nI 0,nI 0,nI 0]) ?_ 1 _ rfl;(with_reducible repeat first|refine Qi ?_ _|refine Qd ?_|refine Qh ?_ _);refine Qo (cs:=#[nI 0,nI 0,nI 0,nI 0,nI 0,nI 0,nI 0,nI 0,nI 0,nI 0]) ?_ 0 _ rfl;(with_reducible repeat first|refine Qi ?_ _|refine Qd ?_|refine Qh ?_ _);exact X.out) hb);replace HB:=sHb hb;clear hb dm)|((with_reducible refine Qe (N:=3) rfl ?_);(try(refine Zk (by rfl) ?_;dsimp only));refine qE 3 #[nI 0,nI 0,nI 0] 36 ?_;intro au hg cm hbox hb;have O:=aK hbox;have iu:=sGe hg;have iv:=sGe hg;have dt:=sNl X hg;have e0:=sNg X hg;replace δ :=sRb δ hb;replace X:=sBk X hb;replace HB:=sHb hb;clear hb hbox hg;have eo:=e0.out;have ep:=dt.out;obtain⟨ay,cu,df,cw,cx,dj⟩:=qD3 O.out)|((with_reducible refine Qe (N:=20) rfl ?_);(try(refine Zk (by rfl) ?_;dsimp only));refine Kd.Ue k36 _ 36 ?hg (N:=20) ?hd (xs:=([(⟨2,1,(-1)⟩:S36)]:List (S36))) (inner:=[nI 2,nI 1,nI (-1)]) (ok:=fun _=>True) (okp:=fun _=>True) ?hr ?hp (fun _ hk=>hk) trivial (Below.refl _ _) (Nat.le_refl _) (by simp) ?_;(case hd=>rfl);(case hg=>rfl);(case hr=>go_simp <;> rfl);(case hp=>exact(Reps.c3 (show Kd.M k36 _ _ _ (⟨2,1,(-1)⟩:S36) [nI 2,nI 1,nI (-1)] from(Jh _ _ _ (⟨2,1,(-1)⟩:S36))) (Reps.none _ _)));intro j8 dk cn hb hg_ hnew_;clear hg_ hnew_;(first|rw[← fj.out] at cn|(simp only[Int.reduceToNat] at cn;rw[← fj.out] at cn));have ξ :=aK (Kd.Za (Kd.J2 cn (g:=au) (o:=.cells #[nI 2,nI 1,nI (-1)] 36 (0,0)) (by(with_reducible repeat first|refine Qi ?_ _|refine Qd ?_|refine Qh ?_ _);refine Qo (cs:=#[nI 2,nI 1,nI 0]) ?_ 2 _ rfl;(with_reducible repeat first|refine Qi ?_ _|refine Qd ?_|refine Qh ?_ _);refine Qo (cs:=#[nI 2,nI 0,nI 0]) ?_ 1 _ rfl;(with_reducible repeat first|refine Qi ?_ _|refine Qd ?_|refine Qh ?_ _);refine Qo (cs:=#[nI 0,nI 0,nI 0]) ?_ 0 _ rfl;(with_reducible repeat first|refine Qi ?_ _|refine Qd ?_|refine Qh ?_ _);exact O.out)) (Qm bel));replace δ :=aK (Kd.Zn (by(with_reducible repeat first|apply Kd.Qs|apply Kd.Qr|apply Kd.Qu);exact(Kd.Qv (Kd.Qx (Kd.Qx (Kd.Qx (Kd.Q4 δ.out O.out (by decide)) (fun _ hk=>hk.2) (nI 2)) (fun _ hk=>hk.2) (nI 1)) (fun _ hk=>hk.2) (nI (-1))) (fun _ h_=>h_.1))) hb);replace X:=sBk X hb;replace O:=aK (Q1 (g:=au) (o:=.cells #[nI 2,nI 1,nI (-1)] 36 (0,0)) (by(with_reducible repeat first|refine Qi ?_ _|refine Qd ?_|refine Qh ?_ _);refine Qo (cs:=#[nI 2,nI 1,nI 0]) ?_ 2 _ rfl;(with_reducible repeat first|refine Qi ?_ _|refine Qd ?_|refine Qh ?_ _);refine Qo (cs:=#[nI 2,nI 0,nI 0]) ?_ 1 _ rfl;(with_reducible repeat first|refine Qi ?_ _|refine Qd ?_|refine Qh ?_ _);refine Qo (cs:=#[nI 0,nI 0,nI 0]) ?_ 0 _ rfl;(with_reducible repeat first|refine Qi ?_ _|refine Qd ?_|refine Qh ?_ _);exact O.out) hb);replace HB:=sHb hb;clear hb cn;obtain⟨bv,bs,gp⟩:=Kd.Q7 ξ.out;subst gp)|((with_reducible refine Qe (N:=4) rfl ?_);(try(refine Zk (by rfl) ?_;dsimp only));refine qE 4 #[.slice none 0 0,.slice none 0 0] 50 ?_;intro ac hg eb hbox hb;have τ :=aK hbox;have iw:=sGe hg;have ix:=sGe hg;have e3:=sNl X hg;have ec:=sNg X hg;have ee:=sNl O hg;have ef:=sNg O hg;replace δ :=sRb δ hb;replace ξ :=sRb ξ hb;replace X:=sBk X hb;replace O:=sBk O hb;replace HB:=sHb hb;clear hb hbox hg;have he:=ec.out;have ii:=e3.out;have ga:=ef.out;have gb:=ee.out;obtain⟨d3,d4,d5,d6⟩:=qD2 τ.out))
             have φ :Aside0 (Kd.R k31 31 ((eb.setCell ⟨ac,0,none⟩ (.slice bv ε.length bs)).setCell ⟨ac,1,none⟩ (.slice none 0 0)) w.heap.size (fun _=>True) gj B):=⟨by(with_reducible repeat first|apply Kd.Qs|apply Kd.Qr|apply Kd.Qu);exact Kd.Qv (Kd.Qx (Kd.Qx (Kd.Q4 δ.out τ.out (by decide)) (fun _ hk=>hk.2) _) (fun _ hk=>hk.2) (.slice none 0 0)) (fun _ hk=>trivial)⟩
             have χ :Aside0 (Kd.R k36 36 ((eb.setCell ⟨ac,0,none⟩ (.slice bv ε.length bs)).setCell ⟨ac,1,none⟩ (.slice none 0 0)) w.heap.size (fun k_=>k_≠au) (.slice bv ε.length bs) ε):=⟨by(with_reducible repeat first|apply Kd.Qs|apply Kd.Qr|apply Kd.Qu);exact Kd.Qv (Kd.Qx (Kd.Qx (Kd.Q4 ξ.out τ.out (by decide)) (fun _ hk=>hk.2) _) (fun _ hk=>hk.2) (.slice none 0 0)) (fun _ hk=>hk.1.2)⟩
             have ω :Aside0 (((eb.setCell ⟨ac,0,none⟩ (.slice bv ε.length bs)).setCell ⟨ac,1,none⟩ (.slice none 0 0)).heap[ν]?=some (.cells #[nI Z,nI γ,nI ax,nI ζ,nI η,nI θ,nI ι,nI κ,nI μ,nI ρ] 25 (0,0))):=⟨bka X⟩
             have a6:Aside0 (((eb.setCell ⟨ac,0,none⟩ (.slice bv ε.length bs)).setCell ⟨ac,1,none⟩ (.slice none 0 0)).heap[au]?=some (.cells #[nI 2,nI 1,nI (-1)] 36 (0,0))):=⟨bka O⟩
             have ah:Aside0 (((eb.setCell ⟨ac,0,none⟩ (.slice bv ε.length bs)).setCell ⟨ac,1,none⟩ (.slice none 0 0)).heap[ac]?=some (.cells #[.slice bv ε.length bs,.slice none 0 0] 50 (0,0))):=⟨by refine Qo (cs:=#[.slice bv ε.length bs,.slice none 0 0]) ?_ 1 _ rfl;refine Qo (cs:=#[.slice none 0 0,.slice none 0 0]) ?_ 0 _ rfl;exact τ.out⟩
             have az:Aside0 (Below w.heap.size w ((eb.setCell ⟨ac,0,none⟩ (.slice bv ε.length bs)).setCell ⟨ac,1,none⟩ (.slice none 0 0))):=⟨bel⟩
             (try clear δ)
             (try clear ξ)
             (try clear X)
             (try clear O)
             (try clear τ)
             (try clear HB)
             generalize((eb.setCell ⟨ac,0,none⟩ (.slice bv ε.length bs)).setCell ⟨ac,1,none⟩ (.slice none 0 0))=k4 at φ χ ω a6 ah az ⊢
             have δ := φ
             have ξ := χ
             have X:= ω
             have O:=a6
             have τ :=ah
             have HB:=az
             clear φ χ ω a6 ah az
             replace δ :=aK (Kd.Qu δ.out)
             replace ξ :=aK (Kd.Qu ξ.out)
             replace X:=aK (Qd X.out)
             replace O:=aK (Qd O.out)
             replace τ :=aK (Qd τ.out)
             replace HB:=aK (Qj HB.out)
             obtain⟨j9,eu,ge⟩:=Kd.Q7 δ.out
             (first|subst ge|(injection ge with a9 ao aa;have ap:=a9.symm;have ar:=aa.symm;clear a9 ao aa;subst ap;subst ar))
             have fa:0≤(0:Int):=(by omega)
             have fb:0<(B.length:Int):=of_decide_eq_true (by assumption)
             obtain⟨aw,jt,dx,dy,dz,b7,b8,b9,ba,bb,bc,bf⟩:=Jc (Kd.Qt δ.out).2.2 0 fa fb
             cases jt
             have iy:(0<B.length)=True:=eq_true (by omega)
             (try rw[show((0:Int)).toNat=0 from rfl] at dx)
             (try rw[show 0 * 10=0 from rfl] at dx)
             (try rw[Addr.add_zero'] at dx)
             (try rw[show((0:Int)).toNat=0 from rfl] at dy)
             (try rw[show 0 * 10=0 from rfl] at dy)
             (try rw[Addr.add_zero'] at dy)
             (try rw[show((0:Int)).toNat=0 from rfl] at dz)
             (try rw[show 0 * 10=0 from rfl] at dz)
             (try rw[Addr.add_zero'] at dz)
             (try rw[show((0:Int)).toNat=0 from rfl] at b7)
             (try rw[show 0 * 10=0 from rfl] at b7)
             (try rw[Addr.add_zero'] at b7)
             (try rw[show((0:Int)).toNat=0 from rfl] at b8)
             (try rw[show 0 * 10=0 from rfl] at b8)
             (try rw[Addr.add_zero'] at b8)
             (try rw[show((0:Int)).toNat=0 from rfl] at b9)
             (try rw[show 0 * 10=0 from rfl] at b9)
             (try rw[Addr.add_zero'] at b9)
             (try rw[show((0:Int)).toNat=0 from rfl] at ba)
             (try rw[show 0 * 10=0 from rfl] at ba)
             (try rw[Addr.add_zero'] at ba)
             (try rw[show((0:Int)).toNat=0 from rfl] at bb)
             (try rw[show 0 * 10=0 from rfl] at bb)
             (try rw[Addr.add_zero'] at bb)
             (try rw[show((0:Int)).toNat=0 from rfl] at bc)
             (try rw[show 0 * 10=0 from rfl] at bc)
             (try rw[Addr.add_zero'] at bc)
             (try rw[show((0:Int)).toNat=0 from rfl] at bf)
             (try rw[show 0 * 10=0 from rfl] at bf)
             (try rw[Addr.add_zero'] at bf)
             replace fa:=eq_true fa
             replace fb:=eq_true fb
             refine Zg (n:=12) (S:=fun w'=>cI w' ν 0 Z∧cI w' ν 1 γ∧cI w' ν 2 ax∧cI w' ν 3 ζ ∧ cI w' ν 4 η ∧ cI w' ν 5 θ ∧ cI w' ν 6 ι ∧ cI w' ν 7 κ ∧ cI w' ν 8 μ ∧ cI w' ν 9 ρ∧cI w' au 0 2∧cI w' au 1 1∧cI w' au 2 (-1)∧w'.cell? aw=some (nI ((Qc B 0).f0.f0))∧w'.cell? ⟨aw.block,aw.off+1,none⟩=some (nI ((Qc B 0).f0.f1))∧w'.cell? ⟨aw.block,aw.off+2,none⟩=some (nI ((Qc B 0).f0.f2))∧w'.cell? ⟨aw.block,aw.off+3,none⟩=some (nI ((Qc B 0).f0.f3))∧w'.cell? ⟨aw.block,aw.off+4,none⟩=some (nI ((Qc B 0).f0.f4.f0))∧w'.cell? ⟨aw.block,aw.off+5,none⟩=some (nI ((Qc B 0).f0.f4.f1))∧w'.cell? ⟨aw.block,aw.off+6,none⟩=some (nI ((Qc B 0).f0.f4.f2))∧w'.cell? ⟨aw.block,aw.off+7,none⟩=some (nI ((Qc B 0).f1))∧w'.cell? ⟨aw.block,aw.off+8,none⟩=some (.bool ((Qc B 0).f2))∧w'.cell? ⟨aw.block,aw.off+9,none⟩=some (.bool ((Qc B 0).f3))) (ds:=[]) #[false,false,false,false,false,false,false,false,false,false,false,false] kr rfl rfl ⟨(Qa X.out 0).trans rfl,(Qa X.out 1).trans rfl,(Qa X.out 2).trans rfl,(Qa X.out 3).trans rfl,(Qa X.out 4).trans rfl,(Qa X.out 5).trans rfl,(Qa X.out 6).trans rfl,(Qa X.out 7).trans rfl,(Qa X.out 8).trans rfl,(Qa X.out 9).trans rfl,(Qa O.out 0).trans rfl,(Qa O.out 1).trans rfl,(Qa O.out 2).trans rfl,dx,dy,dz,b7,b8,b9,ba,bb,bc,bf⟩ (fun hHeld=>?_);refine Zb newellaw21_awake.Di newellaw21_awake.Mk (fun HT_ HW_=>?_)
             generalize k4.drew=jv at δ ξ X O τ HB dx dy dz b7 b8 b9 ba bb bc bf hHeld ⊢
             refine qP 1 (some 24) (bN 12 2) HT_ ?_
             refine qP 2 (some 25) (bN 12 6) HT_ ?_
             refine qP 4 (some 27) (bN 12 22) HT_ ?_
             refine qT 0 (some 23) (bN 12 23) HT_ HW_ hHeld ?_
             refine qT 3 (some 26) (bN 12 31) HT_ HW_ hHeld ?_
             refine qT 5 (some 28) (bN 12 63) HT_ HW_ hHeld ?_
             refine qK 6 (some 29) (bN 12 127) HT_ fun K hK=>?_
             refine Zd Try.func10 kr rfl #[.agg #[nI Z,nI γ,nI ax,nI ζ,nI η,nI θ,nI ι,nI κ,nI μ,nI ρ],.agg #[nI ((Qc B 0).f0.f0),nI ((Qc B 0).f0.f1),nI ((Qc B 0).f0.f2),nI ((Qc B 0).f0.f3),nI ((Qc B 0).f0.f4.f0),nI ((Qc B 0).f0.f4.f1),nI ((Qc B 0).f0.f4.f2),nI ((Qc B 0).f1),.bool ((Qc B 0).f2),.bool ((Qc B 0).f3)],.agg #[.slice none 0 0,.slice none 0 0,.slice none 0 0],.agg #[nI 2,nI 1,nI (-1)]] (by rfl) rfl rfl qM ?_
             refine(group_Cost.calls k Z γ ax ζ η θ ι κ μ ρ ((Qc B 0).f0.f0) ((Qc B 0).f0.f1) ((Qc B 0).f0.f2) ((Qc B 0).f0.f3) ((Qc B 0).f0.f4.f0) ((Qc B 0).f0.f4.f1) ((Qc B 0).f0.f4.f2) ((Qc B 0).f1) ((Qc B 0).f2) ((Qc B 0).f3) _ _ ([]:List Int) _ _ ([]:List Int) _ _ ([]:List Int) 2 1 (-1) bw dl _ ?side1 ?side2 ?side3 ?side4 ?side5 ?side6 A3.out).mono ?_
             (case side1=>exact Kd.Jl _ _)
             (case side2=>exact Nat.le_refl _)
             (case side3=>exact Kd.Jl _ _)
             (case side4=>exact Nat.le_refl _)
             (case side5=>exact Kd.Jl _ _)
             (case side6=>exact Nat.le_refl _)
             rintro e ky ⟨rfl,hb⟩
             have co:=(hb.cell (World.block_lt_of_cell? _ _ (hHeld.2.2.2.2.2.2.2.2.2.2.2.2.2.1))).trans (hHeld.2.2.2.2.2.2.2.2.2.2.2.2.2.1)
             have cr:=(hb.cell (World.block_lt_of_cell? _ _ (hHeld.2.2.2.2.2.2.2.2.2.2.2.2.2.2.1))).trans (hHeld.2.2.2.2.2.2.2.2.2.2.2.2.2.2.1)
             have ct:=(hb.cell (World.block_lt_of_cell? _ _ (hHeld.2.2.2.2.2.2.2.2.2.2.2.2.2.2.2.1))).trans (hHeld.2.2.2.2.2.2.2.2.2.2.2.2.2.2.2.1)
             have cv:=(hb.cell (World.block_lt_of_cell? _ _ (hHeld.2.2.2.2.2.2.2.2.2.2.2.2.2.2.2.2.1))).trans (hHeld.2.2.2.2.2.2.2.2.2.2.2.2.2.2.2.2.1)
             have d7:=(hb.cell (World.block_lt_of_cell? _ _ (hHeld.2.2.2.2.2.2.2.2.2.2.2.2.2.2.2.2.2.1))).trans (hHeld.2.2.2.2.2.2.2.2.2.2.2.2.2.2.2.2.2.1)
             have d8:=(hb.cell (World.block_lt_of_cell? _ _ (hHeld.2.2.2.2.2.2.2.2.2.2.2.2.2.2.2.2.2.2.1))).trans (hHeld.2.2.2.2.2.2.2.2.2.2.2.2.2.2.2.2.2.2.1)
             have d9:=(hb.cell (World.block_lt_of_cell? _ _ (hHeld.2.2.2.2.2.2.2.2.2.2.2.2.2.2.2.2.2.2.2.1))).trans (hHeld.2.2.2.2.2.2.2.2.2.2.2.2.2.2.2.2.2.2.2.1)
             have da:=(hb.cell (World.block_lt_of_cell? _ _ (hHeld.2.2.2.2.2.2.2.2.2.2.2.2.2.2.2.2.2.2.2.2.1))).trans (hHeld.2.2.2.2.2.2.2.2.2.2.2.2.2.2.2.2.2.2.2.2.1)
             have dd:=(hb.cell (World.block_lt_of_cell? _ _ (hHeld.2.2.2.2.2.2.2.2.2.2.2.2.2.2.2.2.2.2.2.2.2.1))).trans (hHeld.2.2.2.2.2.2.2.2.2.2.2.2.2.2.2.2.2.2.2.2.2.1)
             have de:=(hb.cell (World.block_lt_of_cell? _ _ (hHeld.2.2.2.2.2.2.2.2.2.2.2.2.2.2.2.2.2.2.2.2.2.2))).trans (hHeld.2.2.2.2.2.2.2.2.2.2.2.2.2.2.2.2.2.2.2.2.2.2)
             refine⟨_,rfl, ?_⟩
             replace δ :=sRb δ hb
             replace ξ :=sRb ξ hb
             replace X:=sBk X hb
             replace O:=sBk O hb
             replace τ :=sBk τ hb
             replace HB:=sHb hb
             (try clear hb)
             (try clear a4)
             (try clear hk)
             (try clear hi)
             refine hK.out _ _ ⟨qc X,qc X,qc X,qc X,qc X,qc X,qc X,qc X,qc X,qc X,qc O,qc O,qc O,co,cr,ct,cv,d7,d8,d9,da,dd,de⟩ (fun hHeld=>?_)
             clear hK K
             refine qN (some 29) ?_
             refine qP 7 (some 22) (bN 12 255) HT_ ?_
             refine qP 8 (some 30) (bN 12 511) HT_ ?_
             refine qP 9 (some 31) (bN 12 1023) HT_ ?_
             refine qP 10 (some 5) (bN 12 2047) HT_ ?_
             refine qP 11 (some 6) (bN 12 4095) HT_ ?_
             refine Zl (Ze HT_.out kr) ?_
             try go_wp2
             replace δ :=aK (Kd.Qu δ.out)
             replace ξ :=aK (Kd.Qu ξ.out)
             replace X:=aK (Qd X.out)
             replace O:=aK (Qd O.out)
             replace τ :=aK (Qd τ.out)
             replace HB:=aK (Qj HB.out)
             have ez:0≤(1:Int):=(by omega)
             have f7:1<(B.length:Int):=of_decide_eq_true (by assumption)
             obtain⟨gi,gy,bg,bh,bi,bk,bm,bn,bp,bq,br,bu⟩:=Jc (Kd.Qt δ.out).2.2 1 ez f7
             obtain rfl:aw=gi:=(by injection gy)
             (try simp only[show(1:Int).toNat=1 from rfl,Nat.reduceMul,Nat.reduceEqDiff,Go.Addr.add,↓reduceIte] at bg)
             (try simp only[show(1:Int).toNat=1 from rfl,Nat.reduceMul,Nat.reduceEqDiff,Go.Addr.add,↓reduceIte] at bh)
             (try simp only[show(1:Int).toNat=1 from rfl,Nat.reduceMul,Nat.reduceEqDiff,Go.Addr.add,↓reduceIte] at bi)
             (try simp only[show(1:Int).toNat=1 from rfl,Nat.reduceMul,Nat.reduceEqDiff,Go.Addr.add,↓reduceIte] at bk)
             (try simp only[show(1:Int).toNat=1 from rfl,Nat.reduceMul,Nat.reduceEqDiff,Go.Addr.add,↓reduceIte] at bm)
             (try simp only[show(1:Int).toNat=1 from rfl,Nat.reduceMul,Nat.reduceEqDiff,Go.Addr.add,↓reduceIte] at bn)
             (try simp only[show(1:Int).toNat=1 from rfl,Nat.reduceMul,Nat.reduceEqDiff,Go.Addr.add,↓reduceIte] at bp)
             (try simp only[show(1:Int).toNat=1 from rfl,Nat.reduceMul,Nat.reduceEqDiff,Go.Addr.add,↓reduceIte] at bq)
             (try simp only[show(1:Int).toNat=1 from rfl,Nat.reduceMul,Nat.reduceEqDiff,Go.Addr.add,↓reduceIte] at br)
             (try simp only[show(1:Int).toNat=1 from rfl,Nat.reduceMul,Nat.reduceEqDiff,Go.Addr.add,↓reduceIte] at bu)
             have iz:(1<B.length)=True:=eq_true (by omega)
             (try rw[show((1:Int)).toNat=1 from rfl] at bg)
             (try rw[show 1 * 10=10 from rfl] at bg)
             (try rw[show((1:Int)).toNat=1 from rfl] at bh)
             (try rw[show 1 * 10=10 from rfl] at bh)
             (try rw[show((1:Int)).toNat=1 from rfl] at bi)
             (try rw[show 1 * 10=10 from rfl] at bi)
             (try rw[show((1:Int)).toNat=1 from rfl] at bk)
             (try rw[show 1 * 10=10 from rfl] at bk)
             (try rw[show((1:Int)).toNat=1 from rfl] at bm)
             (try rw[show 1 * 10=10 from rfl] at bm)
             (try rw[show((1:Int)).toNat=1 from rfl] at bn)
             (try rw[show 1 * 10=10 from rfl] at bn)
             (try rw[show((1:Int)).toNat=1 from rfl] at bp)
             (try rw[show 1 * 10=10 from rfl] at bp)
             (try rw[show((1:Int)).toNat=1 from rfl] at bq)
             (try rw[show 1 * 10=10 from rfl] at bq)
             (try rw[show((1:Int)).toNat=1 from rfl] at br)
             (try rw[show 1 * 10=10 from rfl] at br)
             (try rw[show((1:Int)).toNat=1 from rfl] at bu)
             (try rw[show 1 * 10=10 from rfl] at bu)
             replace ez:=eq_true ez
             replace f7:=eq_true f7
             refine Zg (n:=12) (S:=fun w'=>cI w' ν 0 Z∧cI w' ν 1 γ∧cI w' ν 2 ax∧cI w' ν 3 ζ ∧ cI w' ν 4 η ∧ cI w' ν 5 θ ∧ cI w' ν 6 ι ∧ cI w' ν 7 κ ∧ cI w' ν 8 μ ∧ cI w' ν 9 ρ∧cI w' au 0 2∧cI w' au 1 1∧cI w' au 2 (-1)∧w'.cell? ⟨aw.block,aw.off+10,none⟩=some (nI ((Qc B 1).f0.f0))∧w'.cell? ⟨aw.block,aw.off+10+1,none⟩=some (nI ((Qc B 1).f0.f1))∧w'.cell? ⟨aw.block,aw.off+10+2,none⟩=some (nI ((Qc B 1).f0.f2))∧w'.cell? ⟨aw.block,aw.off+10+3,none⟩=some (nI ((Qc B 1).f0.f3))∧w'.cell? ⟨aw.block,aw.off+10+4,none⟩=some (nI ((Qc B 1).f0.f4.f0))∧w'.cell? ⟨aw.block,aw.off+10+5,none⟩=some (nI ((Qc B 1).f0.f4.f1))∧w'.cell? ⟨aw.block,aw.off+10+6,none⟩=some (nI ((Qc B 1).f0.f4.f2))∧w'.cell? ⟨aw.block,aw.off+10+7,none⟩=some (nI ((Qc B 1).f1))∧w'.cell? ⟨aw.block,aw.off+10+8,none⟩=some (.bool ((Qc B 1).f2))∧w'.cell? ⟨aw.block,aw.off+10+9,none⟩=some (.bool ((Qc B 1).f3))) (ds:=[]) #[false,false,false,false,false,false,false,false,false,false,false,false] kr rfl rfl ⟨(Qa X.out 0).trans rfl,(Qa X.out 1).trans rfl,(Qa X.out 2).trans rfl,(Qa X.out 3).trans rfl,(Qa X.out 4).trans rfl,(Qa X.out 5).trans rfl,(Qa X.out 6).trans rfl,(Qa X.out 7).trans rfl,(Qa X.out 8).trans rfl,(Qa X.out 9).trans rfl,(Qa O.out 0).trans rfl,(Qa O.out 1).trans rfl,(Qa O.out 2).trans rfl,bg,bh,bi,bk,bm,bn,bp,bq,br,bu⟩ (fun hHeld=>?_);refine Zb newellaw21_awake.V4 newellaw21_awake.Kv (fun HT_ HW_=>?_)
             generalize ky.drew=ea at δ ξ X O τ HB bg bh bi bk bm bn bp bq br bu hHeld ⊢
             refine qP 1 (some 34) (bN 12 2) HT_ ?_
             refine qP 2 (some 35) (bN 12 6) HT_ ?_
             refine qP 4 (some 37) (bN 12 22) HT_ ?_
             refine qT 0 (some 33) (bN 12 23) HT_ HW_ hHeld ?_
             refine qT 3 (some 36) (bN 12 31) HT_ HW_ hHeld ?_
             refine qT 5 (some 38) (bN 12 63) HT_ HW_ hHeld ?_
             refine qK 6 (some 39) (bN 12 127) HT_ fun K hK=>?_
             refine Zd Try.func10 kr rfl #[.agg #[nI Z,nI γ,nI ax,nI ζ,nI η,nI θ,nI ι,nI κ,nI μ,nI ρ],.agg #[nI ((Qc B 1).f0.f0),nI ((Qc B 1).f0.f1),nI ((Qc B 1).f0.f2),nI ((Qc B 1).f0.f3),nI ((Qc B 1).f0.f4.f0),nI ((Qc B 1).f0.f4.f1),nI ((Qc B 1).f0.f4.f2),nI ((Qc B 1).f1),.bool ((Qc B 1).f2),.bool ((Qc B 1).f3)],.agg #[.slice none 0 0,.slice none 0 0,.slice none 0 0],.agg #[nI 2,nI 1,nI (-1)]] (by rfl) rfl rfl qM ?_
             refine(group_Cost.calls k Z γ ax ζ η θ ι κ μ ρ ((Qc B 1).f0.f0) ((Qc B 1).f0.f1) ((Qc B 1).f0.f2) ((Qc B 1).f0.f3) ((Qc B 1).f0.f4.f0) ((Qc B 1).f0.f4.f1) ((Qc B 1).f0.f4.f2) ((Qc B 1).f1) ((Qc B 1).f2) ((Qc B 1).f3) _ _ ([]:List Int) _ _ ([]:List Int) _ _ ([]:List Int) 2 1 (-1) ca cb _ ?side1 ?side2 ?side3 ?side4 ?side5 ?side6 A5.out).mono ?_
             (case side1=>exact Kd.Jl _ _)
             (case side2=>exact Nat.le_refl _)
             (case side3=>exact Kd.Jl _ _)
             (case side4=>exact Nat.le_refl _)
             (case side5=>exact Kd.Jl _ _)
             (case side6=>exact Nat.le_refl _)
             rintro e kz ⟨rfl,hb⟩
             have co:=(hb.cell (World.block_lt_of_cell? _ _ (hHeld.2.2.2.2.2.2.2.2.2.2.2.2.2.1))).trans (hHeld.2.2.2.2.2.2.2.2.2.2.2.2.2.1)
             have cr:=(hb.cell (World.block_lt_of_cell? _ _ (hHeld.2.2.2.2.2.2.2.2.2.2.2.2.2.2.1))).trans (hHeld.2.2.2.2.2.2.2.2.2.2.2.2.2.2.1)
             have ct:=(hb.cell (World.block_lt_of_cell? _ _ (hHeld.2.2.2.2.2.2.2.2.2.2.2.2.2.2.2.1))).trans (hHeld.2.2.2.2.2.2.2.2.2.2.2.2.2.2.2.1)
             have cv:=(hb.cell (World.block_lt_of_cell? _ _ (hHeld.2.2.2.2.2.2.2.2.2.2.2.2.2.2.2.2.1))).trans (hHeld.2.2.2.2.2.2.2.2.2.2.2.2.2.2.2.2.1)
             have d7:=(hb.cell (World.block_lt_of_cell? _ _ (hHeld.2.2.2.2.2.2.2.2.2.2.2.2.2.2.2.2.2.1))).trans (hHeld.2.2.2.2.2.2.2.2.2.2.2.2.2.2.2.2.2.1)
             have d8:=(hb.cell (World.block_lt_of_cell? _ _ (hHeld.2.2.2.2.2.2.2.2.2.2.2.2.2.2.2.2.2.2.1))).trans (hHeld.2.2.2.2.2.2.2.2.2.2.2.2.2.2.2.2.2.2.1)
             have d9:=(hb.cell (World.block_lt_of_cell? _ _ (hHeld.2.2.2.2.2.2.2.2.2.2.2.2.2.2.2.2.2.2.2.1))).trans (hHeld.2.2.2.2.2.2.2.2.2.2.2.2.2.2.2.2.2.2.2.1)
             have da:=(hb.cell (World.block_lt_of_cell? _ _ (hHeld.2.2.2.2.2.2.2.2.2.2.2.2.2.2.2.2.2.2.2.2.1))).trans (hHeld.2.2.2.2.2.2.2.2.2.2.2.2.2.2.2.2.2.2.2.2.1)
             have dd:=(hb.cell (World.block_lt_of_cell? _ _ (hHeld.2.2.2.2.2.2.2.2.2.2.2.2.2.2.2.2.2.2.2.2.2.1))).trans (hHeld.2.2.2.2.2.2.2.2.2.2.2.2.2.2.2.2.2.2.2.2.2.1)
             have de:=(hb.cell (World.block_lt_of_cell? _ _ (hHeld.2.2.2.2.2.2.2.2.2.2.2.2.2.2.2.2.2.2.2.2.2.2))).trans (hHeld.2.2.2.2.2.2.2.2.2.2.2.2.2.2.2.2.2.2.2.2.2.2)
             refine⟨_,rfl, ?_⟩
             replace δ :=sRb δ hb
             replace ξ :=sRb ξ hb
             replace X:=sBk X hb
             replace O:=sBk O hb
             replace τ :=sBk τ hb
             replace HB:=sHb hb
             (try clear hb)
             (try clear a4)
             (try clear hk)
             (try clear hi)
             refine hK.out _ _ ⟨qc X,qc X,qc X,qc X,qc X,qc X,qc X,qc X,qc X,qc X,qc O,qc O,qc O,co,cr,ct,cv,d7,d8,d9,da,dd,de⟩ (fun hHeld=>?_)
             clear hK K
             refine qN (some 39) ?_
             refine qP 7 (some 32) (bN 12 255) HT_ ?_
             refine qP 8 (some 40) (bN 12 511) HT_ ?_
             refine qP 9 (some 41) (bN 12 1023) HT_ ?_
             refine qP 10 (some 7) (bN 12 2047) HT_ ?_
             refine qP 11 (some 8) (bN 12 4095) HT_ ?_
             refine Zl (Ze HT_.out kr) ?_
             obtain⟨dv,fe,ff,gk,gm,gn,gr,gs,gt,gw,fg,fh,fw,gx,gz,h0,h6,h9,ha,hh⟩:=Zi X.out
             obtain⟨dn,dp,dq,dr⟩:=qD2 τ.out
             obtain⟨fo,fp,ft,fq,fr,fu⟩:=qD3 O.out
             try go_wp2_with (first|((with_reducible refine Qf (f:=14) rfl ?_);refine Q0 (some 47) rfl rfl Try.func14 kr rfl #[.agg #[nI Z,nI γ,nI ax,nI ζ,nI η,nI θ,nI ι,nI κ,nI μ,nI ρ],.slice (some aw) B.length eu,nI 0,.agg #[.slice bv ε.length bs,.slice none 0 0],.agg #[nI 2,nI 1,nI (-1)]] rfl qM ?_;(refine(group_Pick.calls k Z γ ax ζ η θ ι κ μ ρ _ _ B 0 _ _ ε _ _ ([]:List (S86)) 2 1 (-1) cf ch _ ?side1 ?side2 ?side3 ?side4 ?side5 ?side6 A6.out).mono ?_);(case side1=>repeat(first|exact(Kd.Qt δ.out).2.2|(with_reducible refine Kd.Jn ?_ _)|(with_reducible refine Kd.Jm ?_ _)|(with_reducible refine Kd.Ki ?_)));(case side2=>exact(Kd.Qt δ.out).2.1);(case side3=>repeat(first|exact(Kd.Qt ξ.out).2.2|(with_reducible refine Kd.Jn ?_ _)|(with_reducible refine Kd.Jm ?_ _)|(with_reducible refine Kd.Ki ?_)));(case side4=>exact(Kd.Qt ξ.out).2.1);(case side5=>exact Kd.Jl _ _);(case side6=>exact Nat.le_refl _);rintro e j3 ⟨rfl,hb⟩;refine⟨_,rfl, ?_⟩;replace δ :=sRb δ hb;replace ξ :=sRb ξ hb;replace X:=sBk X hb;replace O:=sBk O hb;replace τ :=sBk τ hb;replace HB:=sHb hb;(try clear hb);(try clear a4);(try clear hk);(try clear hi);obtain⟨e5,ew,m7,mg,mh,mi,mj,ho,hu,hx,e6,ey,ml,mm,mo,mq,mr,hy,i0,i7⟩:=Zi X.out;obtain⟨i3,i4,i5,i6⟩:=qD2 τ.out)|((with_reducible refine Qf (f:=21) rfl ?_);refine Q0 (some 54) rfl rfl Try.func21 kr rfl #[.agg #[nI Z,nI γ,nI ax,nI ζ,nI η,nI θ,nI ι,nI κ,nI μ,nI ρ],.slice (some aw) B.length eu,nI 0,.agg #[.slice bv ε.length bs,.slice none 0 0]] rfl qM ?_;(refine(group_Spread.calls k Z γ ax ζ η θ ι κ μ ρ _ _ B 0 _ _ ε _ _ ([]:List (S86)) a0 ci ck _ ?side1 ?side2 ?side3 ?side4 ?side5 ?side6 A7.out).mono ?_);(case side1=>repeat(first|exact(Kd.Qt δ.out).2.2|(with_reducible refine Kd.Jn ?_ _)|(with_reducible refine Kd.Jm ?_ _)|(with_reducible refine Kd.Ki ?_)));(case side2=>exact(Kd.Qt δ.out).2.1);(case side3=>repeat(first|exact(Kd.Qt ξ.out).2.2|(with_reducible refine Kd.Jn ?_ _)|(with_reducible refine Kd.Jm ?_ _)|(with_reducible refine Kd.Ki ?_)));(case side4=>exact(Kd.Qt ξ.out).2.1);(case side5=>exact Kd.Jl _ _);(case side6=>exact Nat.le_refl _);rintro e j7 ⟨ja,jb,rfl,ai,aj,hb⟩;refine⟨_,rfl, ?_⟩;have b4:=aK (Kd.Za (Kd.J2 (Kd.Yw ai (Kd.X6 (kra ξ))) (g:=au) (o:=.cells #[nI 2,nI 1,nI (-1)] 36 (0,0)) (bka O)) (Qm bel));have bz:=aK (Kd.Za aj (Qm bel));replace δ :=sRb δ hb;replace ξ :=aK (Kd.Xq (kra ξ) (Kd.Zx ai) hb);replace X:=sBk X hb;replace O:=sBk O hb;replace τ :=sBk τ hb;replace HB:=sHb hb;(try clear hb);(try clear a4);(try clear hk);(try clear hi);(try clear ai);(try clear aj))|((with_reducible refine Qe (N:=11) rfl ?_);(try(refine Zk (by rfl) ?_;dsimp only));refine qE 11 #[.slice none 0 0,.slice none 0 0] 50 ?_;intro b5 hg ak hbox hb;have av:=aK hbox;have j4:=sGe hg;have j5:=sGe hg;have eg:=sNl X hg;have eh:=sNg X hg;have ek:=sNl O hg;have el:=sNg O hg;have er:=sNl τ hg;have et:=sNg τ hg;replace δ :=sRb δ hb;replace ξ :=sRb ξ hb;replace b4:=sRb b4 hb;replace bz:=sRb bz hb;replace X:=sBk X hb;replace O:=sBk O hb;replace τ :=sBk τ hb;replace HB:=sHb hb;clear hb hbox hg;obtain⟨ed,bo,ev⟩:=Kd.Q7 b4.out;subst ev;have gu:=eh.out;have gv:=eg.out;have h4:=el.out;have h5:=ek.out;have gg:=et.out;have gh:=er.out;obtain⟨cp,d1,ei,ej⟩:=qD2 av.out;obtain⟨dh,di,h8⟩:=Kd.Q7 bz.out;subst h8;have f8:0≤(0:Int):=(by omega);have fc:0<(a0.length:Int):=of_decide_eq_true (by assumption);obtain⟨an,hj,b0,b2,b3⟩:=Z4 (Kd.Qt b4.out).2.2 0 f8 fc;cases hj;have j6:(0<a0.length)=True:=eq_true (by omega);(try rw[show((0:Int)).toNat=0 from rfl] at b0);(try rw[show 0 * 3=0 from rfl] at b0);(try rw[Addr.add_zero'] at b0);(try rw[show((0:Int)).toNat=0 from rfl] at b2);(try rw[show 0 * 3=0 from rfl] at b2);(try rw[Addr.add_zero'] at b2);(try rw[show((0:Int)).toNat=0 from rfl] at b3);(try rw[show 0 * 3=0 from rfl] at b3);(try rw[Addr.add_zero'] at b3);have af:an.block≠b5:=Kd.Uo (Kd.Zo b4.out av.out (by decide));have al:an.block≠b5:=Kd.Uo (Kd.Zo b4.out av.out (by decide));replace b0:=(cell_far (p:=⟨b5,0,none⟩) (by first|(rw[add_block];exact af)|(show(Addr.add _ _).block≠_;rw[add_block];exact af)|exact af) (.slice (some an) a0.length bo)).trans b0;replace b2:=(cell_far (p:=⟨b5,0,none⟩) (by first|(rw[add_block];exact af)|(show(Addr.add _ _).block≠_;rw[add_block];exact af)|exact af) (.slice (some an) a0.length bo)).trans b2;replace b3:=(cell_far (p:=⟨b5,0,none⟩) (by first|(rw[add_block];exact af)|(show(Addr.add _ _).block≠_;rw[add_block];exact af)|exact af) (.slice (some an) a0.length bo)).trans b3;replace b0:=(cell_far (p:=⟨b5,1,none⟩) (by first|(rw[add_block];exact al)|(show(Addr.add _ _).block≠_;rw[add_block];exact al)|exact al) (.slice dh ci.length di)).trans b0;replace b2:=(cell_far (p:=⟨b5,1,none⟩) (by first|(rw[add_block];exact al)|(show(Addr.add _ _).block≠_;rw[add_block];exact al)|exact al) (.slice dh ci.length di)).trans b2;replace b3:=(cell_far (p:=⟨b5,1,none⟩) (by first|(rw[add_block];exact al)|(show(Addr.add _ _).block≠_;rw[add_block];exact al)|exact al) (.slice dh ci.length di)).trans b3;clear af;clear al;replace f8:=eq_true f8;replace fc:=eq_true fc;obtain⟨ig,ih,il,i1,i2,k1,k5,i9,ij,ik,im,io,ip,k6,k7,k8,k9,iq,ir,it⟩:=Zi X.out;obtain⟨ia,ib,ic,ie⟩:=qD2 τ.out)|(go_at_call 17;(refine(group_Check.calls k Z γ ax ζ η θ ι κ μ ρ _ _ B _ _ ε _ _ ([]:List (S86)) ae _ ?side1 ?side2 ?side3 ?side4 ?side5 ?side6 bd.out).mono ?_);(case side1=>refine(Kd.Qt (e:=31) (base:=w.heap.size) (ok:=fun k_=>True) (n:=B.length) (c:=eu) ?_).2.2;exact(by(with_reducible repeat first|apply Kd.Qs|apply Kd.Qr|apply Kd.Qu);exact(Kd.Qv (Kd.Qx (Kd.Qx (Kd.Q4 δ.out av.out (by decide)) (fun _ hk=>hk.2) (.slice (some an) a0.length bo)) (fun _ hk=>hk.2) _) (fun _ h_=>h_.1))));(case side2=>exact(Kd.Qt δ.out).2.1);(case side3=>refine(Kd.Qt (e:=36) (base:=w.heap.size) (ok:=fun k_=>(k_≠au∧some k_≠(.slice (some an) a0.length bo:Value).ownBlock)) (n:= ε.length) (c:=bs) ?_).2.2;exact(by(with_reducible repeat first|apply Kd.Qs|apply Kd.Qr|apply Kd.Qu);exact(Kd.Qv (Kd.Qx (Kd.Qx (Kd.Q4 ξ.out av.out (by decide)) (fun _ hk=>hk.2) (.slice (some an) a0.length bo)) (fun _ hk=>hk.2) _) (fun _ h_=>h_.1))));(case side4=>exact(Kd.Qt ξ.out).2.1);(case side5=>exact Kd.Jl _ _);(case side6=>exact Nat.le_refl _);rintro e du ⟨rfl,hb⟩;have φ :=aK (Kd.Zn (by(with_reducible repeat first|apply Kd.Qs|apply Kd.Qr|apply Kd.Qu);exact(Kd.Qv (Kd.Qx (Kd.Qx (Kd.Q4 δ.out av.out (by decide)) (fun _ hk=>hk.2) (.slice (some an) a0.length bo)) (fun _ hk=>hk.2) _) (fun _ h_=>h_.1))) hb);have χ :=aK (Kd.Zn (by(with_reducible repeat first|apply Kd.Qs|apply Kd.Qr|apply Kd.Qu);exact(Kd.Qv (Kd.Qx (Kd.Qx (Kd.Q4 ξ.out av.out (by decide)) (fun _ hk=>hk.2) (.slice (some an) a0.length bo)) (fun _ hk=>hk.2) _) (fun _ h_=>h_.1))) hb);have ω :=aK (Kd.Zn (by(with_reducible repeat first|apply Kd.Qs|apply Kd.Qr|apply Kd.Qu);exact(Kd.Qv (Kd.Qx (Kd.Qx (Kd.Q4 b4.out av.out (by decide)) (fun _ hk=>hk.2) (.slice (some an) a0.length bo)) (fun _ hk=>hk.2) _) (fun _ h_=>h_.1))) hb);have a6:=aK (Kd.Zn (by(with_reducible repeat first|apply Kd.Qs|apply Kd.Qr|apply Kd.Qu);exact(Kd.Qv (Kd.Qx (Kd.Qx (Kd.Q4 bz.out av.out (by decide)) (fun _ hk=>hk.2) (.slice (some an) a0.length bo)) (fun _ hk=>hk.2) _) (fun _ h_=>h_.1))) hb);have ah:=aK (Q1 (g:= ν) (o:=.cells #[nI Z,nI γ,nI ax,nI ζ,nI η,nI θ,nI ι,nI κ,nI μ,nI ρ] 25 (0,0)) (bka X) hb);have az:=aK (Q1 (g:=au) (o:=.cells #[nI 2,nI 1,nI (-1)] 36 (0,0)) (bka O) hb);have b1:=aK (Q1 (g:=ac) (o:=.cells #[.slice bv ε.length bs,.slice none 0 0] 50 (0,0)) (bka τ) hb);have be:=aK (Q1 (g:=b5) (o:=.cells #[.slice (some an) a0.length bo,.slice dh ci.length di] 50 (0,0)) (by(with_reducible repeat first|refine Qi ?_ _|refine Qd ?_|refine Qh ?_ _);refine Qo (cs:=#[.slice (some an) a0.length bo,.slice none 0 0]) ?_ 1 _ rfl;(with_reducible repeat first|refine Qi ?_ _|refine Qd ?_|refine Qh ?_ _);refine Qo (cs:=#[.slice none 0 0,.slice none 0 0]) ?_ 0 _ rfl;(with_reducible repeat first|refine Qi ?_ _|refine Qd ?_|refine Qh ?_ _);exact av.out) hb);have bl:=aK (Q6 bel hb);clear δ;clear ξ;clear b4;clear bz;clear X;clear O;clear τ;clear av;clear HB;have δ := φ;have ξ := χ;have b4:= ω;have bz:=a6;have X:=ah;have O:=az;have τ :=b1;have av:=be;have HB:=bl;clear φ χ ω a6 ah az b1 be bl;(try clear hb);(try clear a4);(try clear hk);(try clear hi)))
             go_ret
             exact⟨rfl,HB.out⟩
            ·rw[if_neg ψ] at H
             exact absurd H (by simp)
           ·rw[if_neg ab] at H
            exact absurd H (by simp)
          ·rw[if_neg a8] at H
           exact absurd H (by simp)
         ·rw[if_neg σ] at H
          exact absurd H (by simp)
        ·rw[if_neg a2] at H
         exact absurd H (by simp)
       ·rw[if_neg a3] at H
        exact absurd H (by simp)
      ·rw[if_neg a5] at H
       exact absurd H (by simp)
     ·rw[if_neg c10] at H
      exact absurd H (by simp)
    ·rw[if_neg c9] at H
     exact absurd H (by simp)
   ·rw[if_neg c8] at H
    exact absurd H (by simp)
  ·rw[if_neg c4] at H
   exact absurd H (by simp)
 ·rw[if_neg c2] at H
  exact absurd H (by simp)
end Go.Proofs.Ytmfffemidlhcpaa.C
namespace Go.Proofs.Ytmfffemidlhcpaa.GrpPure
open Go.RowKit Go.Proofs.YtmfffemidlhcpaaW.PrintWords Go.Proofs.YtmfffemidlhcpaaW.PrintLast Go.Proofs.YtmfffemidlhcpaaW.PrintMore Go.Proofs.Ytmfffemidlhcpaa.C Go.Proofs.Ytmfffemidlhcpaa.DoorPure
open Go.Proofs.Ytmfffemidlhcpaa.Call (i64 okB)
theorem E3:newellaw21_awake.f 60=some true:=by kernel_rfl
theorem Lb (k:Nat) (hk:60≤k):newellaw21_awake.f k=some true:=Nz (g:=newellaw21_awake.f) newellaw21_awake.mono hk E3
end Go.Proofs.Ytmfffemidlhcpaa.GrpPure
namespace Go.Proofs.Ytmfffemidlhcpaa.GrpPure
open Go.RowKit Go.Proofs.YtmfffemidlhcpaaW.PrintWords Go.Proofs.YtmfffemidlhcpaaW.PrintLast Go.Proofs.YtmfffemidlhcpaaW.PrintMore Go.Proofs.Ytmfffemidlhcpaa.C Go.Proofs.Ytmfffemidlhcpaa.DoorPure
open Go.Proofs.Ytmfffemidlhcpaa.Call (i64 okB Yf Xr Xs Hall Ins)
def G1 (g0 g1 g2 g3 g4 g5 g6 g7 g8 g9:Int) (y:S31):Prop:=Gh g0 g1 g2 g3 g4 g5 g6 g7 g8 g9 y.f0.f0 y.f0.f1 y.f0.f2 y.f0.f3 y.f0.f4.f0 y.f0.f4.f1 y.f0.f4.f2 y.f1
instance (g0 g1 g2 g3 g4 g5 g6 g7 g8 g9:Int) (y:S31):Decidable (G1 g0 g1 g2 g3 g4 g5 g6 g7 g8 g9 y):=by unfold G1;exact inferInstance
def G2 (g0 g1 g2 g3 g4 g5 g6 g7 g8 g9:Int) (y:S31):Bool:=decide (G1 g0 g1 g2 g3 g4 g5 g6 g7 g8 g9 y)
def Jr (g0 g1 g2 g3 g4 g5 g6 g7 g8 g9:Int) (L:List S31) (H:List Hall) (I:List Ins):Int:=
 if 1≤L.length∧L.length≤8 then (if L.all (G2 g0 g1 g2 g3 g4 g5 g6 g7 g8 g9)=true then (if okB g0 L.length H I=true then 0 else 190) else 210) else 210
theorem rdL (l:List S31) (i:Nat) (h:i<l.length):Qc l (i:Int)=l[i]:=by
 unfold Qc
 rw[Int.toNat_natCast,List.getD_eq_getElem?_getD,List.getElem?_eq_getElem h]
 rfl
theorem up1 {i:Nat} (h:i≤1000000000):wrap64 ((i:Int)+1)=((i+1:Nat):Int):=by unfold wrap64;omega
theorem Cr {n:Nat} (h:n≤1000000000):i64 (n:Int):=by unfold Call.i64;omega
theorem L3 (g0 g1 g2 g3 g4 g5 g6 g7 g8 g9:Int) (L:List S31) (H:List Hall) (I:List Ins) (hL:L.length≤100) (hH:H.length<900000000) (hI:I.length<900000000) (j:Nat):∀ (f i:Nat),i+j=L.length→j+20<f →
 group_Check.l0 f L L (L.length:Int) (i:Int) g0 g1 g2 g3 g4 g5 g6 g7 g8 g9 H I=some (if (L.drop i).all (G2 g0 g1 g2 g3 g4 g5 g6 g7 g8 g9)=true then (if okB g0 L.length H I=true then 0 else 190) else 210):=by
 induction j with
 |zero=>
  intro f i h hf
  obtain⟨f,rfl⟩:∃ m,f=m+2:=⟨f-2,by omega⟩
  simp only[group_Check.l0]
  rw[if_neg (by omega),List.drop_of_length_le (by omega)]
  unfold group_house.f
  simp only[Option.bind_some]
  rw[Call.Ja f g0 L.length H I hH hI (Cr (by omega))]
  simp
 |succ j ih=>
  intro f i h hf
  obtain⟨f,rfl⟩:∃ m,f=m+1:=⟨f-1,by omega⟩
  have hlt:i<L.length:=by omega
  simp only[group_Check.l0]
  rw[if_pos (by omega),if_pos (by omega),if_pos (by omega),rdL L i hlt,Dz _ _ _ _ _ _ _ _ _ _ _ _ _ _ _ _ _ _ _ _ f (by omega),up1 (by omega),ih f (i+1) (by omega) (by omega),List.drop_eq_getElem_cons hlt,List.all_cons]
  simp only[Option.bind_some]
  generalize hy:L[i]=y
  by_cases hc:G1 g0 g1 g2 g3 g4 g5 g6 g7 g8 g9 y
  ·have hb:G2 g0 g1 g2 g3 g4 g5 g6 g7 g8 g9 y=true:=decide_eq_true hc
   rw[hb,Bool.true_and]
   rw[show decide (Gh g0 g1 g2 g3 g4 g5 g6 g7 g8 g9 y.f0.f0 y.f0.f1 y.f0.f2 y.f0.f3 y.f0.f4.f0 y.f0.f4.f1 y.f0.f4.f2 y.f1)=true from hb,if_pos rfl]
  ·have hb:G2 g0 g1 g2 g3 g4 g5 g6 g7 g8 g9 y=false:=decide_eq_false hc
   rw[hb,Bool.false_and]
   rw[show decide (Gh g0 g1 g2 g3 g4 g5 g6 g7 g8 g9 y.f0.f0 y.f0.f1 y.f0.f2 y.f0.f3 y.f0.f4.f0 y.f0.f4.f1 y.f0.f4.f2 y.f1)=false from hb,if_neg (by decide),if_neg (by decide)]
theorem Nn (g0 g1 g2 g3 g4 g5 g6 g7 g8 g9:Int) (L:List S31) (H:List Hall) (I:List Ins) (hH:H.length<900000000) (hI:I.length<900000000) (f:Nat) (hf:200<f):
 group_Check.f f g0 g1 g2 g3 g4 g5 g6 g7 g8 g9 L H I=some (Jr g0 g1 g2 g3 g4 g5 g6 g7 g8 g9 L H I):=by
 obtain⟨f,rfl⟩:∃ m,f=m+1:=⟨f-1,by omega⟩
 unfold group_Check.f Jr
 by_cases h1:(L.length:Int)<1
 ·rw[if_pos h1,if_neg (by omega)]
  simp[group_Check.j0]
 rw[if_neg h1]
 by_cases O:(L.length:Int)>8
 ·rw[decide_eq_true O,if_neg (by omega)]
  simp[group_Check.j0]
 rw[decide_eq_false O,if_pos (by omega)]
 simp only[group_Check.j0]
 rw[if_neg (by decide)]
 have:=L3 g0 g1 g2 g3 g4 g5 g6 g7 g8 g9 L H I (by omega) hH hI L.length f 0 (by omega) (by omega)
 rw[List.drop_zero] at this
 exact this
theorem Wu (g0 g1 g2 g3 g4 g5 g6 g7 g8 g9:Int) (L:List S31) (H:List Hall) (I:List Ins) (hL:L.length≤100) (hH:H.length<900000000) (hI:I.length<900000000) (j:Nat):∀ (f i:Nat),i+j=L.length→j+H.length+I.length+20<f →
 newelref21_Check.l0 f L (i:Int) g0 g1 g2 g3 g4 g5 g6 g7 g8 g9 H I=some (if (L.drop i).all (G2 g0 g1 g2 g3 g4 g5 g6 g7 g8 g9)=true then (if okB g0 L.length H I=true then 0 else 190) else 210):=by
 induction j with
 |zero=>
  intro f i h hf
  obtain⟨f,rfl⟩:∃ m,f=m+2:=⟨f-2,by omega⟩
  simp only[newelref21_Check.l0]
  rw[if_neg (by omega),List.drop_of_length_le (by omega)]
  unfold newelref21_House.f
  simp only[Option.bind_some]
  rw[Call.M3 (f+1) g0 L.length H I (by omega) (by omega) (by omega)]
  cases okB g0 L.length H I <;> simp
 |succ j ih=>
  intro f i h hf
  obtain⟨f,rfl⟩:∃ m,f=m+1:=⟨f-1,by omega⟩
  have hlt:i<L.length:=by omega
  simp only[newelref21_Check.l0]
  rw[if_pos (by omega),if_pos (by omega),rdL L i hlt,Ea _ _ _ _ _ _ _ _ _ _ _ _ _ _ _ _ _ _ _ _ f (by omega),up1 (by omega),ih f (i+1) (by omega) (by omega),List.drop_eq_getElem_cons hlt,List.all_cons]
  simp only[Option.bind_some]
  generalize hy:L[i]=y
  by_cases hc:G1 g0 g1 g2 g3 g4 g5 g6 g7 g8 g9 y
  ·have hb:G2 g0 g1 g2 g3 g4 g5 g6 g7 g8 g9 y=true:=decide_eq_true hc
   rw[hb,Bool.true_and]
   rw[show decide (Gh g0 g1 g2 g3 g4 g5 g6 g7 g8 g9 y.f0.f0 y.f0.f1 y.f0.f2 y.f0.f3 y.f0.f4.f0 y.f0.f4.f1 y.f0.f4.f2 y.f1)=true from hb,if_pos rfl]
  ·have hb:G2 g0 g1 g2 g3 g4 g5 g6 g7 g8 g9 y=false:=decide_eq_false hc
   rw[hb,Bool.false_and]
   rw[show decide (Gh g0 g1 g2 g3 g4 g5 g6 g7 g8 g9 y.f0.f0 y.f0.f1 y.f0.f2 y.f0.f3 y.f0.f4.f0 y.f0.f4.f1 y.f0.f4.f2 y.f1)=false from hb,if_neg (by decide),if_neg (by decide)]
theorem Lk (g0 g1 g2 g3 g4 g5 g6 g7 g8 g9:Int) (L:List S31) (H:List Hall) (I:List Ins) (hH:H.length≤1000) (hI:I.length≤1000) (f:Nat) (hf:3000<f):
 newelref21_Check.f f g0 g1 g2 g3 g4 g5 g6 g7 g8 g9 L H I=some (Jr g0 g1 g2 g3 g4 g5 g6 g7 g8 g9 L H I):=by
 obtain⟨f,rfl⟩:∃ m,f=m+1:=⟨f-1,by omega⟩
 unfold newelref21_Check.f Jr
 by_cases h1:(L.length:Int)<1
 ·rw[if_pos h1,if_neg (by omega)]
  simp[newelref21_Check.j0]
 rw[if_neg h1]
 by_cases O:(L.length:Int)>8
 ·rw[decide_eq_true O,if_neg (by omega)]
  simp[newelref21_Check.j0]
 rw[decide_eq_false O,if_pos (by omega)]
 simp only[newelref21_Check.j0]
 rw[if_neg (by decide)]
 have:=Wu g0 g1 g2 g3 g4 g5 g6 g7 g8 g9 L H I (by omega) (by omega) (by omega) L.length f 0 (by omega) (by omega)
 rw[List.drop_zero] at this
 exact this
structure Ok (g0 g1 g2 g3 g4 g5 g6 g7 g8 g9:Int) (L:List S31) (H:List Hall) (I:List Ins):Prop where
 n:1≤L.length∧L.length≤8
 l:∀ y ∈ L,G1 g0 g1 g2 g3 g4 g5 g6 g7 g8 g9 y
 c:okB g0 L.length H I=true
theorem Cq {g0 g1 g2 g3 g4 g5 g6 g7 g8 g9:Int} {L:List S31} {H:List Hall} {I:List Ins} (h:Jr g0 g1 g2 g3 g4 g5 g6 g7 g8 g9 L H I=0):Ok g0 g1 g2 g3 g4 g5 g6 g7 g8 g9 L H I:=by
 unfold Jr at h
 by_cases h1:1≤L.length∧L.length≤8
 ·rw[if_pos h1] at h
  by_cases O:L.all (G2 g0 g1 g2 g3 g4 g5 g6 g7 g8 g9)=true
  ·rw[if_pos O] at h
   by_cases h3:okB g0 L.length H I=true
   ·exact⟨h1,fun y hy=>of_decide_eq_true (List.all_eq_true.1 O y hy),h3⟩
   ·rw[if_neg h3] at h;exact absurd h (by decide)
  ·rw[if_neg O] at h;exact absurd h (by decide)
 ·rw[if_neg h1] at h;exact absurd h (by decide)
theorem Ok.f {g0 g1 g2 g3 g4 g5 g6 g7 g8 g9:Int} {L:List S31} {H:List Hall} {I:List Ins} (h:Ok g0 g1 g2 g3 g4 g5 g6 g7 g8 g9 L H I):2≤g0∧g0≤64:=(Call.Yi.1 h.c).1
abbrev Cu (g0 g1 g2 g3 g4 g5 g6 g7 g8 g9:Int) (y:S31) (n B J:Int):Int:=Mh g0 g1 g2 g3 g6 g8 g9 y.f0.f0 y.f0.f1 y.f0.f2 y.f0.f3 y.f0.f4.f0 y.f0.f4.f1 y.f0.f4.f2 y.f1 n B J
def Yb (g0 g1 g2 g3 g4 g5 g6 g7 g8 g9:Int) (L:List S31) (H:List Hall) (I:List Ins) (B J i:Int):Int:=Cu g0 g1 g2 g3 g4 g5 g6 g7 g8 g9 (Qc L i) (Vg (Yf i I) (Xr i H) (Xs i H)) B J
theorem Wz {g0 g1 g2 g3 g4 g5 g6 g7 g8 g9:Int} {L:List S31} {H:List Hall} {I:List Ins} (h:Ok g0 g1 g2 g3 g4 g5 g6 g7 g8 g9 L H I) (hH:H.length≤1000) (hI:I.length≤1000) {B:Int} (J Y:Int) (hx:0≤B∧B<g0) (i:Nat) (hi:i<L.length) (f:Nat) (hf:3000<f):
 group_pick_1.f f (i:Int) g0 g1 g2 g3 g4 g5 g6 g7 g8 g9 L H I B J Y=some (Yb g0 g1 g2 g3 g4 g5 g6 g7 g8 g9 L H I B J i):=by
 have hn:=h.n
 unfold group_pick_1.f group_house.f Yb
 simp only[Option.bind_some]
 rw[Call.L6 f g0 L.length H I i (by omega) (by omega) (Cr (by omega)) (by omega),if_pos h.c,if_pos (show(0:Int)≤(i:Int)∧(i:Int)≤(L.length:Int)-1 by omega)]
 simp only[Option.bind_some]
 rw[if_pos (by omega),if_pos (by omega),rdL L i hi]
 have hl:G1 g0 g1 g2 g3 g4 g5 g6 g7 g8 g9 L[i]:=h.l _ (List.getElem_mem hi)
 generalize L[i]=y at hl ⊢
 rw[Cd J Y _ _ _ _ _ f (by omega) hl hx]
 rfl
def Kq (a2 i:Int):Bool:=decide ((Go.bits .and .i64 (shr .i64 a2 i) 1)=1)
def Gf (bad:Int→Bool) (cost:Int→Int):Nat→Int→Int→Int
 |0,_,b=>b
 |j+1,i,b=>Gf bad cost j (i+1) (if bad i=true then b else if b<0 then i else if cost i<cost b then i else b)
abbrev In (L:List S31) (b:Int):Prop:=b = -1 ∨ ∃ m:Nat,b=(m:Int)∧m<L.length
theorem M5 {g0 g1 g2 g3 g4 g5 g6 g7 g8 g9:Int} {L:List S31} {H:List Hall} {I:List Ins} (h:Ok g0 g1 g2 g3 g4 g5 g6 g7 g8 g9 L H I) (hH:H.length≤1000) (hI:I.length≤1000) {B:Int} (J Y a2:Int) (hx:0≤B∧B<g0) (j:Nat):∀ (f i:Nat) (b:Int),i+j=L.length→j+3001<f→In L b →
 group_pick.l0 f a2 b (L.length:Int) (i:Int) g0 g1 g2 g3 g4 g5 g6 g7 g8 g9 L H I B J Y=some (Gf (Kq a2) (Yb g0 g1 g2 g3 g4 g5 g6 g7 g8 g9 L H I B J) j i b):=by
 have hn:=h.n
 induction j with
 |zero=>
  intro f i b hi hf hb
  obtain⟨f,rfl⟩:∃ m,f=m+1:=⟨f-1,by omega⟩
  simp only[group_pick.l0]
  rw[if_neg (by omega)]
  rfl
 |succ j ih=>
  intro f i b hi hf hb
  obtain⟨f,rfl⟩:∃ m,f=m+1:=⟨f-1,by omega⟩
  have hlt:i<L.length:=by omega
  simp only[group_pick.l0]
  rw[if_pos (by omega),if_pos (by omega),up1 (by omega),Gf]
  have O:=ih f (i+1) b (by omega) (by omega) hb
  have Z:=ih f (i+1) (i:Int) (by omega) (by omega) (Or.inr ⟨i,rfl,hlt⟩)
  rw[show(((i+1:Nat):Int))=(i:Int)+1 by omega] at O Z ⊢
  by_cases hc:(Go.bits .and .i64 (shr .i64 a2 (i:Int)) 1)=1
  ·rw[if_pos hc,show Kq a2 (i:Int)=true from decide_eq_true hc,if_pos rfl]
   exact O
  ·rw[if_neg hc,show Kq a2 (i:Int)=false from decide_eq_false hc]
   simp only[Bool.false_eq_true,if_false]
   by_cases X:b<0
   ·rw[if_pos X,if_pos X]
    exact Z
   ·rw[if_neg X,if_neg X]
    obtain⟨m,rfl,hm⟩:∃ m:Nat,b=(m:Int)∧m<L.length:=hb.resolve_left (by omega)
    rw[Wz h hH hI J Y hx i hlt f (by omega),Wz h hH hI J Y hx m hm f (by omega)]
    simp only[Option.bind_some]
    by_cases hl:Yb g0 g1 g2 g3 g4 g5 g6 g7 g8 g9 L H I B J (i:Int)<Yb g0 g1 g2 g3 g4 g5 g6 g7 g8 g9 L H I B J (m:Int)
    ·rw[if_pos hl,if_pos hl]
     exact Z
    ·rw[if_neg hl,if_neg hl]
     exact O
abbrev Wx (g0 g1 g2 g3 g4 g5 g6 g7 g8 g9:Int) (L:List S31) (a2:Int) (H:List Hall) (I:List Ins) (B J:Int):Int:=Gf (Kq a2) (Yb g0 g1 g2 g3 g4 g5 g6 g7 g8 g9 L H I B J) L.length 0 (-1)
theorem Dn {g0 g1 g2 g3 g4 g5 g6 g7 g8 g9:Int} {L:List S31} {H:List Hall} {I:List Ins} (h:Ok g0 g1 g2 g3 g4 g5 g6 g7 g8 g9 L H I) (hH:H.length≤1000) (hI:I.length≤1000) {B:Int} (J Y a2:Int) (hx:0≤B∧B<g0) (f:Nat) (hf:3100<f):
 group_pick.f f g0 g1 g2 g3 g4 g5 g6 g7 g8 g9 L a2 H I B J Y=some (Wx g0 g1 g2 g3 g4 g5 g6 g7 g8 g9 L a2 H I B J):=by
 have hn:=h.n
 unfold group_pick.f
 exact M5 h hH hI J Y a2 hx L.length f 0 (-1) (by omega) (by omega) (Or.inl rfl)
theorem W6 (a2:Int) (i:Nat) (h:i≤1000):newelref21_Fault.f a2 (i:Int)=some (Kq a2 i):=by
 unfold newelref21_Fault.f
 have e:IntKind.u64.wrap (i:Int)=(i:Int):=by
  simp[IntKind.wrap,IntKind.bits,IntKind.signed]
  omega
 rw[e,if_pos (by omega)]
 congr 1
theorem Li {g0 g1 g2 g3 g4 g5 g6 g7 g8 g9:Int} {L:List S31} {H:List Hall} {I:List Ins} (h:Ok g0 g1 g2 g3 g4 g5 g6 g7 g8 g9 L H I) (hH:H.length≤1000) (hI:I.length≤1000) {B:Int} (J Y a2:Int) (hx:0≤B∧B<g0) (j:Nat):∀ (f i:Nat) (b c:Int),i+j=L.length→j+4001<f→(0≤b→c=Yb g0 g1 g2 g3 g4 g5 g6 g7 g8 g9 L H I B J b) →
 newelref21_Pick.l0 f L a2 b c (i:Int) g0 g1 g2 g3 g4 g5 g6 g7 g8 g9 H I B J Y=some (Gf (Kq a2) (Yb g0 g1 g2 g3 g4 g5 g6 g7 g8 g9 L H I B J) j i b):=by
 have hn:=h.n
 induction j with
 |zero=>
  intro f i b c hi hf hb
  obtain⟨f,rfl⟩:∃ m,f=m+1:=⟨f-1,by omega⟩
  simp only[newelref21_Pick.l0]
  rw[if_neg (by omega)]
  rfl
 |succ j ih=>
  intro f i b c hi hf hb
  obtain⟨f,rfl⟩:∃ m,f=m+1:=⟨f-1,by omega⟩
  have hlt:i<L.length:=by omega
  have hl:G1 g0 g1 g2 g3 g4 g5 g6 g7 g8 g9 L[i]:=h.l _ (List.getElem_mem hlt)
  have ec:Yb g0 g1 g2 g3 g4 g5 g6 g7 g8 g9 L H I B J (i:Int)=Cu g0 g1 g2 g3 g4 g5 g6 g7 g8 g9 L[i] (Vg (Yf i I) (Xr i H) (Xs i H)) B J:=by unfold Yb;rw[rdL L i hlt]
  simp only[newelref21_Pick.l0]
  rw[if_pos (by omega),if_pos (by omega),Call.Ln h.c i f (by omega) (by omega) (by omega),rdL L i hlt,W6 a2 i (by omega),up1 (by omega),Gf]
  simp only[Option.bind_some]
  have O:=ih f (i+1) b c (by omega) (by omega) hb
  have Z:=ih f (i+1) (i:Int) (Yb g0 g1 g2 g3 g4 g5 g6 g7 g8 g9 L H I B J (i:Int)) (by omega) (by omega) (fun _=>rfl)
  rw[show(((i+1:Nat):Int))=(i:Int)+1 by omega] at O Z ⊢
  generalize hy:L[i]=y at hl ec ⊢
  have er:newelref21_Cost.f f g0 g1 g2 g3 g4 g5 g6 g7 g8 g9 y.f0.f0 y.f0.f1 y.f0.f2 y.f0.f3 y.f0.f4.f0 y.f0.f4.f1 y.f0.f4.f2 y.f1 y.f2 y.f3 (Yf i I) (Xr i H) (Xs i H) B J Y=some (Yb g0 g1 g2 g3 g4 g5 g6 g7 g8 g9 L H I B J (i:Int)):=by rw[ec];exact Ec J Y _ _ _ _ _ f (by omega) hl hx
  rw[er]
  simp only[Option.bind_some]
  cases hc:Kq a2 (i:Int)
  ·simp only[Bool.false_eq_true,if_false]
   by_cases X:b<0
   ·rw[if_pos X,if_pos X]
    exact Z
   ·rw[if_neg X,if_neg X]
    rw[hb (by omega)] at O ⊢
    by_cases hl:Yb g0 g1 g2 g3 g4 g5 g6 g7 g8 g9 L H I B J (i:Int)<Yb g0 g1 g2 g3 g4 g5 g6 g7 g8 g9 L H I B J b
    ·rw[if_pos hl,if_pos hl]
     exact Z
    ·rw[if_neg hl,if_neg hl]
     exact O
  ·simp only[if_true]
   exact O
theorem N9 {g0 g1 g2 g3 g4 g5 g6 g7 g8 g9:Int} {L:List S31} {H:List Hall} {I:List Ins} (h:Ok g0 g1 g2 g3 g4 g5 g6 g7 g8 g9 L H I) (hH:H.length≤1000) (hI:I.length≤1000) {B:Int} (J Y a2:Int) (hx:0≤B∧B<g0) (f:Nat) (hf:4100<f):
 newelref21_Pick.f f g0 g1 g2 g3 g4 g5 g6 g7 g8 g9 L a2 H I B J Y=some (Wx g0 g1 g2 g3 g4 g5 g6 g7 g8 g9 L a2 H I B J):=by
 have hn:=h.n
 unfold newelref21_Pick.f
 exact Li h hH hI J Y a2 hx L.length f 0 (-1) 0 (by omega) (by omega) (fun h=>absurd h (by decide))
theorem Lz (g0 g1 g2 g3 g4 g5 g6 g7 g8 g9:Int) (L:List S31) (a2:Int) (H:List Hall) (I:List Ins):newellaw21_few.f g0 g1 g2 g3 g4 g5 g6 g7 g8 g9 L a2 H I=some false∨(newellaw21_few.f g0 g1 g2 g3 g4 g5 g6 g7 g8 g9 L a2 H I=some true∧L.length≤10∧H.length≤130∧I.length≤520):=by
 unfold newellaw21_few.f
 by_cases h:(L.length:Int)≤10
 ·rw[if_pos h]
  rcases Call.Lz H I with e|⟨e,a,b⟩
  ·rw[e];exact Or.inl rfl
  ·rw[e];exact Or.inr ⟨rfl,by omega,a,b⟩
 ·rw[if_neg h];exact Or.inl rfl
end Go.Proofs.Ytmfffemidlhcpaa.GrpPure
namespace Go.Proofs.Ytmfffemidlhcpaa.GrpPure
open Go.RowKit Go.Proofs.YtmfffemidlhcpaaW.PrintWords Go.Proofs.YtmfffemidlhcpaaW.PrintLast Go.Proofs.YtmfffemidlhcpaaW.PrintMore Go.Proofs.Ytmfffemidlhcpaa.C Go.Proofs.Ytmfffemidlhcpaa.DoorPure
open Go.Proofs.Ytmfffemidlhcpaa.Call (i64 okB Yf Xr Xs Hall Ins ltH)
abbrev at_ (A:List Hall) (i:Nat):Hall:=Qb A (i:Int)
abbrev put (A:List Hall) (i:Nat) (c:Int):List Hall:=A.set i ⟨(at_ A i).f0,(at_ A i).f1,c⟩
theorem Md {A:List Hall} (hs:A.Pairwise (fun x y=>ltH x y=true)) (i:Nat) (hi:i<A.length) (c:Int):Gb ⟨(at_ A i).f0,(at_ A i).f1,c⟩ A=put A i c:=by
 unfold put at_
 rw[Call.Ya A i hi]
 apply List.ext_getElem
 ·rw[Ga];simp
 intro m B X
 rw[Ga] at B
 rw[List.getElem_set,Vi _ A m B]
 by_cases hm:i=m
 ·subst hm
  rw[if_pos rfl,if_pos ⟨rfl,rfl⟩]
 ·rw[if_neg hm,if_neg]
  rintro⟨q1,q2⟩
  have q1:A[m].f0=A[i].f0:=q1
  have q2:A[m].f1=A[i].f1:=q2
  rcases Nat.lt_or_ge m i with h|h
  ·have:=List.pairwise_iff_getElem.1 hs m i B hi h
   rw[Call.Yj] at this
   omega
  ·have:=List.pairwise_iff_getElem.1 hs i m hi B (by omega)
   rw[Call.Yj] at this
   omega
theorem Un (A:List Hall) (i:Nat) (hi:i<A.length) (c:Int) (m:Nat) (hm:m<(put A i c).length) (hm':m<A.length):((put A i c)[m]).f0=A[m].f0∧((put A i c)[m]).f1=A[m].f1∧((put A i c)[m]).f2=if i=m then c else A[m].f2:=by
 unfold put at_
 simp only[List.getElem_set,Call.Ya A i hi]
 by_cases h:i=m
 ·subst h
  simp
 ·simp[h]
theorem Lu {A:List Hall} (hs:A.Pairwise (fun x y=>ltH x y=true)) (i:Nat) (hi:i<A.length) (c:Int):(put A i c).Pairwise (fun x y=>ltH x y=true):=by
 rw[List.pairwise_iff_getElem]
 intro a b ha hb hab
 have la:a<A.length:=by simpa[put] using ha
 have lb:b<A.length:=by simpa[put] using hb
 have:=List.pairwise_iff_getElem.1 hs a b la lb hab
 rw[Call.Yj] at this ⊢
 obtain⟨e1,Y,-⟩:=Un A i hi c a ha la
 obtain⟨e3,B,-⟩:=Un A i hi c b hb lb
 rw[e1,Y,e3,B]
 exact this
theorem C1 {F C:Int} {A:List Hall} {I:List Ins} (h:okB F C A I=true) (i:Nat) (hi:i<A.length) (c:Int) (hc: -1≤c∧c≤C-1):okB F C (put A i c) I=true:=by
 obtain⟨hF,hC,⟨h1,O⟩,h3⟩:=Call.Yi.1 h
 refine Call.Yi.2 ⟨hF,hC,⟨?_,Lu O i hi c⟩,h3⟩
 intro x hx
 obtain⟨m,hm,rfl⟩:=List.getElem_of_mem hx
 have lm:m<A.length:=by simpa[put] using hm
 obtain⟨e1,Y,e3⟩:=Un A i hi c m hm lm
 have:=(Call.Kb hF hC).1 (h1 A[m] (List.getElem_mem lm))
 refine(Call.Kb hF hC).2 ?_
 rw[e1,Y,e3]
 refine⟨this.1,this.2.1,this.2.2.1, ?_⟩
 split
 ·exact hc
 ·exact this.2.2.2
theorem Wy (bad:Int→Bool) (cost:Int→Int) (n:Nat) (j:Nat):∀ (i:Nat) (b:Int),i+j=n→(-1≤b∧b≤(n:Int)-1) → -1≤Gf bad cost j i b∧Gf bad cost j i b≤(n:Int)-1:=by
 induction j with
 |zero=>intro i b _ h;exact h
 |succ j ih=>
  intro i b hi h
  rw[Gf]
  have e:(i:Int)+1=((i+1:Nat):Int):=by omega
  rw[e]
  refine ih (i+1) _ (by omega) ?_
  split
  ·exact h
  ·split
   ·omega
   ·split <;> omega
theorem Ok.put {g0 g1 g2 g3 g4 g5 g6 g7 g8 g9:Int} {L:List S31} {A:List Hall} {I:List Ins} (h:Ok g0 g1 g2 g3 g4 g5 g6 g7 g8 g9 L A I) (i:Nat) (hi:i<A.length) (c:Int) (hc: -1≤c∧c≤(L.length:Int)-1):Ok g0 g1 g2 g3 g4 g5 g6 g7 g8 g9 L (put A i c) I:=⟨h.n,h.l,C1 h.c i hi c hc⟩
theorem Ok.hall {g0 g1 g2 g3 g4 g5 g6 g7 g8 g9:Int} {L:List S31} {A:List Hall} {I:List Ins} (h:Ok g0 g1 g2 g3 g4 g5 g6 g7 g8 g9 L A I) (i:Nat) (hi:i<A.length):(0≤(at_ A i).f0∧(at_ A i).f0<g0)∧(-1≤(at_ A i).f2∧(at_ A i).f2≤(L.length:Int)-1):=by
 have hn:=h.n
 obtain⟨hF,hC,⟨h1,-⟩,-⟩:=Call.Yi.1 h.c
 have:=(Call.Kb hF hC).1 (h1 A[i] (List.getElem_mem hi))
 unfold at_
 rw[Call.Ya A i hi]
 omega
theorem Ok.sorted {g0 g1 g2 g3 g4 g5 g6 g7 g8 g9:Int} {L:List S31} {A:List Hall} {I:List Ins} (h:Ok g0 g1 g2 g3 g4 g5 g6 g7 g8 g9 L A I):A.Pairwise (fun x y=>ltH x y=true):=(Call.Yi.1 h.c).2.2.1.2
def Ke (a2:Int):Nat→Nat→List Hall→List Hall
 |0,_,A=>A
 |j+1,i,A=>Ke a2 j (i+1) (if (at_ A i).f2≥0∧Kq a2 (at_ A i).f2=true then put A i (-1) else A)
def Ku (g0 g1 g2 g3 g4 g5 g6 g7 g8 g9:Int) (L:List S31) (a2:Int) (I:List Ins):Nat→Nat→List Hall→List Hall
 |0,_,A=>A
 |j+1,i,A=>Ku g0 g1 g2 g3 g4 g5 g6 g7 g8 g9 L a2 I j (i+1) (if (at_ A i).f2<0 then put A i (Wx g0 g1 g2 g3 g4 g5 g6 g7 g8 g9 L a2 A I (at_ A i).f0 (at_ A i).f1) else A)
theorem X8 (A:List Hall) (i:Nat) (c:Int):(put A i c).length=A.length:=by simp[put]
theorem Mu {g0 g1 g2 g3 g4 g5 g6 g7 g8 g9:Int} {L:List S31} {I:List Ins} (a2:Int) (hI:I.length≤1000) (j:Nat):∀ (f i:Nat) (A:List Hall),Ok g0 g1 g2 g3 g4 g5 g6 g7 g8 g9 L A I→A.length≤1000→i+j=A.length→j+4001<f →
 group_Spread.l1 f L a2 (A.length:Int) (i:Int) g0 g1 g2 g3 g4 g5 g6 g7 g8 g9 A I=some (Ku g0 g1 g2 g3 g4 g5 g6 g7 g8 g9 L a2 I j i A,I,0):=by
 induction j with
 |zero=>
  intro f i A ok hA hi hf
  obtain⟨f,rfl⟩:∃ m,f=m+1:=⟨f-1,by omega⟩
  simp only[group_Spread.l1]
  rw[if_neg (by omega)]
  rfl
 |succ j ih=>
  intro f i A ok hA hi hf
  obtain⟨f,rfl⟩:∃ m,f=m+1:=⟨f-1,by omega⟩
  have hlt:i<A.length:=by omega
  have hh:=ok.hall i hlt
  simp only[group_Spread.l1]
  rw[if_pos (by omega),if_pos (by omega),if_pos (by omega),up1 (by omega),Ku]
  by_cases X:(at_ A i).f2<0
  ·rw[if_pos X,if_pos X,Dn ok hA hI _ _ a2 hh.1 f (by omega)]
   simp only[Option.bind_some,Int.toNat_natCast]
   have hp:=Wy (Kq a2) (Yb g0 g1 g2 g3 g4 g5 g6 g7 g8 g9 L A I (at_ A i).f0 (at_ A i).f1) L.length L.length 0 (-1) (by omega) (by have:=ok.n;omega)
   have:=ih f (i+1) (put A i (Wx g0 g1 g2 g3 g4 g5 g6 g7 g8 g9 L a2 A I (at_ A i).f0 (at_ A i).f1)) (ok.put i hlt _ hp) (by rw[X8];exact hA) (by rw[X8];omega) (by omega)
   rw[X8] at this
   exact this
  ·rw[if_neg X,if_neg X]
   exact ih f (i+1) A ok hA (by omega) (by omega)
theorem Mv {g0 g1 g2 g3 g4 g5 g6 g7 g8 g9:Int} {L:List S31} {I:List Ins} (a2:Int) (hI:I.length≤1000) (j:Nat):∀ (f i:Nat) (A:List Hall),Ok g0 g1 g2 g3 g4 g5 g6 g7 g8 g9 L A I→A.length≤1000→i+j=A.length→j+A.length+4101<f →
 group_Spread.l0 f L a2 (A.length:Int) (i:Int) g0 g1 g2 g3 g4 g5 g6 g7 g8 g9 A I=some (Ku g0 g1 g2 g3 g4 g5 g6 g7 g8 g9 L a2 I A.length 0 (Ke a2 j i A),I,0):=by
 induction j with
 |zero=>
  intro f i A ok hA hi hf
  obtain⟨f,rfl⟩:∃ m,f=m+1:=⟨f-1,by omega⟩
  simp only[group_Spread.l0]
  rw[if_neg (by omega)]
  exact Mu a2 hI A.length f 0 A ok hA (by omega) (by omega)
 |succ j ih=>
  intro f i A ok hA hi hf
  obtain⟨f,rfl⟩:∃ m,f=m+1:=⟨f-1,by omega⟩
  have hlt:i<A.length:=by omega
  have hh:=ok.hall i hlt
  simp only[group_Spread.l0]
  rw[if_pos (by omega),if_pos (by omega),if_pos (by omega),up1 (by omega),Ke]
  by_cases X:(at_ A i).f2≥0
  ·rw[if_pos X,if_pos X]
   by_cases h1:(Go.bits .and .i64 (shr .i64 a2 (at_ A i).f2) 1)=1
   ·rw[if_pos h1,if_pos (⟨X,decide_eq_true h1⟩:(at_ A i).f2≥0∧Kq a2 (at_ A i).f2=true)]
    simp only[Int.toNat_natCast]
    have:=ih f (i+1) (put A i (-1)) (ok.put i hlt _ (by have:=ok.n;omega)) (by rw[X8];exact hA) (by rw[X8];omega) (by rw[X8];omega)
    rw[X8] at this
    exact this
   ·rw[if_neg h1,if_neg (fun q:(at_ A i).f2≥0∧Kq a2 (at_ A i).f2=true=>h1 (of_decide_eq_true q.2))]
    exact ih f (i+1) A ok hA (by omega) (by omega)
  ·rw[if_neg X,if_neg (fun q:(at_ A i).f2≥0∧Kq a2 (at_ A i).f2=true=>X q.1)]
   exact ih f (i+1) A ok hA (by omega) (by omega)
def G8 (g0 g1 g2 g3 g4 g5 g6 g7 g8 g9:Int) (L:List S31) (a2:Int) (H:List Hall) (I:List Ins):List Hall:=Ku g0 g1 g2 g3 g4 g5 g6 g7 g8 g9 L a2 I H.length 0 (Ke a2 H.length 0 H)
theorem Mw (g0 g1 g2 g3 g4 g5 g6 g7 g8 g9:Int) (L:List S31) (a2:Int) (H:List Hall) (I:List Ins) (hH:H.length≤1000) (hI:I.length≤1000) (f:Nat) (hf:7000<f):
 group_Spread.f f g0 g1 g2 g3 g4 g5 g6 g7 g8 g9 L a2 H I=some (if Jr g0 g1 g2 g3 g4 g5 g6 g7 g8 g9 L H I=0 then (G8 g0 g1 g2 g3 g4 g5 g6 g7 g8 g9 L a2 H I,I,0) else ([],[],Jr g0 g1 g2 g3 g4 g5 g6 g7 g8 g9 L H I)):=by
 unfold group_Spread.f
 rw[Nn _ _ _ _ _ _ _ _ _ _ L H I (by omega) (by omega) f (by omega)]
 simp only[Option.bind_some,List.nil_append,List.length_nil,Nat.zero_add]
 by_cases h:Jr g0 g1 g2 g3 g4 g5 g6 g7 g8 g9 L H I=0
 ·rw[if_pos h,if_pos h,if_pos (by omega),if_pos (by omega)]
  exact Mv a2 hI H.length f 0 H (Cq h) hH (by omega) (by omega)
 ·rw[if_neg h,if_neg h]
theorem Lf {g0 g1 g2 g3 g4 g5 g6 g7 g8 g9:Int} {L:List S31} {I:List Ins} (a2:Int) (hI:I.length≤1000) (j:Nat):∀ (f i:Nat) (A:List Hall),Ok g0 g1 g2 g3 g4 g5 g6 g7 g8 g9 L A I→A.length≤1000→i+j=A.length→j+5001<f →
 newelref21_Spread.l1 f L a2 (i:Int) g0 g1 g2 g3 g4 g5 g6 g7 g8 g9 A I=some (Ku g0 g1 g2 g3 g4 g5 g6 g7 g8 g9 L a2 I j i A,I):=by
 induction j with
 |zero=>
  intro f i A ok hA hi hf
  obtain⟨f,rfl⟩:∃ m,f=m+1:=⟨f-1,by omega⟩
  simp only[newelref21_Spread.l1]
  rw[if_neg (by omega)]
  rfl
 |succ j ih=>
  intro f i A ok hA hi hf
  obtain⟨f,rfl⟩:∃ m,f=m+1:=⟨f-1,by omega⟩
  have hlt:i<A.length:=by omega
  have hh:=ok.hall i hlt
  simp only[newelref21_Spread.l1]
  rw[if_pos (by omega),if_pos (by omega),up1 (by omega),Ku]
  by_cases X:(at_ A i).f2<0
  ·rw[if_pos X,if_pos X,N9 ok hA hI _ _ a2 hh.1 f (by omega)]
   simp only[Option.bind_some]
   rw[Call.Vm f A I _ _ _ (by omega) (by omega),Md ok.sorted i hlt]
   simp only[Option.bind_some]
   have hp:=Wy (Kq a2) (Yb g0 g1 g2 g3 g4 g5 g6 g7 g8 g9 L A I (at_ A i).f0 (at_ A i).f1) L.length L.length 0 (-1) (by omega) (by have:=ok.n;omega)
   exact ih f (i+1) (put A i (Wx g0 g1 g2 g3 g4 g5 g6 g7 g8 g9 L a2 A I (at_ A i).f0 (at_ A i).f1)) (ok.put i hlt _ hp) (by rw[X8];exact hA) (by rw[X8];omega) (by omega)
  ·rw[if_neg X,if_neg X]
   exact ih f (i+1) A ok hA (by omega) (by omega)
theorem Lg {g0 g1 g2 g3 g4 g5 g6 g7 g8 g9:Int} {L:List S31} {I:List Ins} (a2:Int) (H:List Hall) (okH:Ok g0 g1 g2 g3 g4 g5 g6 g7 g8 g9 L H I) (hH:H.length≤1000) (hI:I.length≤1000) (j:Nat):∀ (f i:Nat) (A:List Hall),Ok g0 g1 g2 g3 g4 g5 g6 g7 g8 g9 L A I→A.length=H.length→(∀ m:Nat,i≤m→m<H.length→at_ A m=at_ H m)→i+j=H.length→j+H.length+5101<f →
 newelref21_Spread.l0 f L a2 (i:Int) g0 g1 g2 g3 g4 g5 g6 g7 g8 g9 H I A I=some (Ku g0 g1 g2 g3 g4 g5 g6 g7 g8 g9 L a2 I A.length 0 (Ke a2 j i A),I):=by
 induction j with
 |zero=>
  intro f i A ok hA hs hi hf
  obtain⟨f,rfl⟩:∃ m,f=m+1:=⟨f-1,by omega⟩
  simp only[newelref21_Spread.l0]
  rw[if_neg (by omega)]
  exact Lf a2 hI A.length f 0 A ok (by omega) (by omega) (by omega)
 |succ j ih=>
  intro f i A ok hA hs hi hf
  obtain⟨f,rfl⟩:∃ m,f=m+1:=⟨f-1,by omega⟩
  have hlt:i<H.length:=by omega
  have hlA:i<A.length:=by omega
  have hh:=okH.hall i hlt
  have ea:at_ A i=at_ H i:=hs i (Nat.le_refl _) hlt
  simp only[newelref21_Spread.l0]
  rw[if_pos (by omega),if_pos (by omega),up1 (by omega),Ke,ea]
  by_cases X:(at_ H i).f2≥0
  ·rw[if_pos X]
   have ef:newelref21_Fault.f a2 (at_ H i).f2=some (Kq a2 (at_ H i).f2):=by
    obtain⟨n,hn⟩:∃ n:Nat,(at_ H i).f2=(n:Int):=⟨(at_ H i).f2.toNat,by omega⟩
    have:=okH.n
    rw[hn]
    exact W6 a2 n (by omega)
   rw[ef]
   simp only[Option.bind_some]
   cases hb:Kq a2 (at_ H i).f2
   ·rw[if_neg (by decide),if_neg (fun q:(at_ H i).f2≥0∧false=true=>absurd q.2 (by decide))]
    exact ih f (i+1) A ok hA (fun m h1 O=>hs m (by omega) O) (by omega) (by omega)
   ·rw[if_pos rfl,if_pos (⟨X,rfl⟩:(at_ H i).f2≥0∧true=true),Call.Vm f A I _ _ _ (by omega) (by omega),show Qb H (i:Int)=Qb A (i:Int) from ea.symm,Md ok.sorted i hlA]
    simp only[Option.bind_some]
    have:=ih f (i+1) (put A i (-1)) (ok.put i hlA _ (by have:=ok.n;omega)) (by rw[X8];exact hA) (fun m h1 O=>by
     rw[← hs m (by omega) O]
     unfold at_ put
     rw[Call.Ya _ m (by rw[List.length_set];omega),Call.Ya A m (by omega),List.getElem_set,if_neg (by omega)]) (by omega) (by omega)
    rw[X8] at this
    exact this
  ·rw[if_neg X,if_neg (fun q:(at_ H i).f2≥0∧Kq a2 (at_ H i).f2=true=>X q.1)]
   exact ih f (i+1) A ok hA (fun m h1 O=>hs m (by omega) O) (by omega) (by omega)
theorem Lh {g0 g1 g2 g3 g4 g5 g6 g7 g8 g9:Int} {L:List S31} {H:List Hall} {I:List Ins} (a2:Int) (ok:Ok g0 g1 g2 g3 g4 g5 g6 g7 g8 g9 L H I) (hH:H.length≤1000) (hI:I.length≤1000) (f:Nat) (hf:8000<f):
 newelref21_Spread.f f g0 g1 g2 g3 g4 g5 g6 g7 g8 g9 L a2 H I=some (G8 g0 g1 g2 g3 g4 g5 g6 g7 g8 g9 L a2 H I,I):=by
 unfold newelref21_Spread.f
 exact Lg a2 H ok hH hI H.length f 0 H ok rfl (fun _ _ _=>rfl) (by omega) (by omega)
theorem Nt (a2:Int) (j:Nat):∀ (i:Nat) (A:List Hall),(Ke a2 j i A).length=A.length:=by
 induction j with
 |zero=>intro i A;rfl
 |succ j ih=>
  intro i A
  rw[Ke,ih]
  split
  ·rw[X8]
  ·rfl
theorem Eu (g0 g1 g2 g3 g4 g5 g6 g7 g8 g9:Int) (L:List S31) (a2:Int) (I:List Ins) (j:Nat):∀ (i:Nat) (A:List Hall),(Ku g0 g1 g2 g3 g4 g5 g6 g7 g8 g9 L a2 I j i A).length=A.length:=by
 induction j with
 |zero=>intro i A;rfl
 |succ j ih=>
  intro i A
  rw[Ku,ih]
  split
  ·rw[X8]
  ·rfl
theorem Vh (g0 g1 g2 g3 g4 g5 g6 g7 g8 g9:Int) (L:List S31) (a2:Int) (H:List Hall) (I:List Ins):(G8 g0 g1 g2 g3 g4 g5 g6 g7 g8 g9 L a2 H I).length=H.length:=by
 unfold G8
 rw[Eu,Nt]
end Go.Proofs.Ytmfffemidlhcpaa.GrpPure
namespace Go.Proofs.Ytmfffemidlhcpaa.C
open Go.RowKit Go.Proofs.YtmfffemidlhcpaaW.PrintWords Go.Proofs.YtmfffemidlhcpaaW.PrintLast Go.Proofs.YtmfffemidlhcpaaW.PrintMore
attribute [local go_sem] Z2 Z0 Xb Xa Zt Zs Z1 Zz
mutual
def newellaw21_GroupSpreads.j1:Nat→Bool→Option (Bool)
 |0,_=>none
 |k+1,Y=>some Y
def newellaw21_GroupSpreads.j0:Nat→Bool→Option (Bool)
 |0,_=>none
 |k+1,Y=>some Y
end
def newellaw21_GroupSpreads.f (k:Nat) (B:Int) (J:Int) (O:Int) (Y:Int) (Z:Int) (γ:Int) (δ :Int) (ε :Int) (θ :Int) (η :Int) (κ :List (S31)) (ψ :Int) (μ :List (S36)) (ν :List (S86)):Option (Bool):=(newellaw21_few.f B J O Y Z γ δ ε θ η κ ψ μ ν).bind fun dy=>(if dy=true then ((newellaw19_Own.f μ ν).bind fun dj=>((group_Spread.f k B J O Y Z γ δ ε θ η κ ψ dj.1 dj.2).bind fun an=>((newelref21_Check.f k B J O Y Z γ δ ε θ η κ μ ν).bind fun ay=>(if ay=0 then ((newellaw21_awake.f k).bind fun d3=>(if d3=true then (if an.2.2=0 then ((newelref21_Spread.f k B J O Y Z γ δ ε θ η κ ψ μ ν).bind fun cd=>((newelref19_Same.f k an.1 an.2.1 cd.1 cd.2).bind fun cf=>(newellaw21_GroupSpreads.j1 k cf))) else (none)) else (none))) else ((newellaw21_awake.f k).bind fun d4=>(if d4=true then (if an.2.2=ay then ((newelref19_Same.f k an.1 an.2.1 ([]:List (S36)) ([]:List (S86))).bind fun cu=>(newellaw21_GroupSpreads.j0 k cu)) else (none)) else (none))))))) else ((newellaw21_awake.f k).bind fun dz=>(some dz)))
def newellaw21_GroupSpreads.T3:Bool×List (List Nat×List Nat):=(true,[([],[]),([0],[0]),([],[]),([2],[2]),([],[]),([4],[4]),([],[]),([6],[6]),([7],[7]),([1,3,5,8,8],[1,3,5,8]),([9],[9]),([10],[10]),([10],[10]),([],[]),([13,11,9,0,1,2,3,4,5,6,7,8,9,10,11,13],[11,13]),([12,14,0,1,2,3,4,5,6,7,8,9,10,11,12,13,14],[12])])
def newellaw21_GroupSpreads.B3:List Nat:=[0,1,0,4,0,16,0,64,192,511,1023,2047,2047,0,12287,32767]
theorem newellaw21_GroupSpreads.Dj:rtab .any (opsOf Try.f5 3)=newellaw21_GroupSpreads.T3:=by kernel_rfl
theorem newellaw21_GroupSpreads.Ml:Zq newellaw21_GroupSpreads.T3.2 newellaw21_GroupSpreads.B3=true:=by kernel_rfl
def newellaw21_GroupSpreads.T7:Bool×List (List Nat×List Nat):=(true,[([],[]),([0,0],[0]),([1],[1]),([2,1],[1,2]),([1,3],[1,3]),([4,1],[4]),([5],[5]),([5],[5]),([7,5],[5,7]),([5],[5]),([9,5],[5,9]),([5],[5]),([11,5],[5,11]),([5],[5]),([13,5],[5,13]),([8,10,12,14,5,5],[5,8,10,12,14]),([6,15,15,5],[5,6,15]),([5,16],[5,16]),([17,16,0,1,2,3,4,5,6,7,8,9,10,11,12,13,14,15,16,17],[17])])
def newellaw21_GroupSpreads.B7:List Nat:=[0,1,3,7,15,31,63,63,191,63,575,63,2111,63,8255,32703,65535,131071,262143]
theorem newellaw21_GroupSpreads.Wc:rtab .any (opsOf Try.f5 7)=newellaw21_GroupSpreads.T7:=by kernel_rfl
theorem newellaw21_GroupSpreads.G5:Zq newellaw21_GroupSpreads.T7.2 newellaw21_GroupSpreads.B7=true:=by kernel_rfl
theorem newellaw21_GroupSpreads.calls (k:Nat) (B:Int) (J:Int) (O:Int) (Y:Int) (Z:Int) (γ:Int) (δ :Int) (ε :Int) (θ :Int) (η :Int) (a0:Option Addr) (a1:Nat) (κ :List (S31)) (ψ :Int) (a2:Option Addr) (a3:Nat) (μ :List (S36)) (a5:Option Addr) (a7:Nat) (ν :List (S86)) (r:Bool) (w:World) (d7:Kd.C k31 w a0 κ.length κ) (d8: κ.length≤a1) (d9:Kd.C k36 w a2 μ.length μ) (da: μ.length≤a3) (db:Kd.C k86 w a5 ν.length ν) (dc: ν.length≤a7) (h:newellaw21_GroupSpreads.f k B J O Y Z γ δ ε θ η κ ψ μ ν = some r):
 Calls Try.prog 5 #[.agg #[nI B,nI J,nI O,nI Y,nI Z,nI γ,nI δ,nI ε,nI θ,nI η,.slice a0 κ.length a1,nI ψ,.slice a2 μ.length a3,.slice a5 ν.length a7]] w fun e w'=>e = .returned (.bool r)∧Below w.heap.size w w':=by
 have jc:=Try.underlying52
 have cj:=Try.underlying25
 have d0:=Try.underlying50
 have b2:=aK d7
 have b3:=aK d8
 clear d7 d8
 have b6:=aK d9
 have b7:=aK da
 clear d9 da
 have bj:=aK db
 have bn:=aK dc
 clear db dc
 have HB:=aK (Below.refl w.heap.size w)
 have H:((newellaw21_few.f B J O Y Z γ δ ε θ η κ ψ μ ν).bind fun dy=>(if dy=true then ((newellaw19_Own.f μ ν).bind fun dj=>((group_Spread.f k B J O Y Z γ δ ε θ η κ ψ dj.1 dj.2).bind fun an=>((newelref21_Check.f k B J O Y Z γ δ ε θ η κ μ ν).bind fun ay=>(if ay=0 then ((newellaw21_awake.f k).bind fun d3=>(if d3=true then (if an.2.2=0 then ((newelref21_Spread.f k B J O Y Z γ δ ε θ η κ ψ μ ν).bind fun cd=>((newelref19_Same.f k an.1 an.2.1 cd.1 cd.2).bind fun cf=>(newellaw21_GroupSpreads.j1 k cf))) else (none)) else (none))) else ((newellaw21_awake.f k).bind fun d4=>(if d4=true then (if an.2.2=ay then ((newelref19_Same.f k an.1 an.2.1 ([]:List (S36)) ([]:List (S86))).bind fun cu=>(newellaw21_GroupSpreads.j0 k cu)) else (none)) else (none))))))) else ((newellaw21_awake.f k).bind fun dz=>(some dz))))=some r:=h
 clear h
 obtain⟨dy,A2,H⟩:=qQ H
 by_cases c3:dy=true
 ·subst c3
  rw[if_pos rfl] at H
  obtain⟨⟨al,am⟩,A4,H⟩:=qQ H
  replace H:((group_Spread.f k B J O Y Z γ δ ε θ η κ ψ al am).bind fun an=>((newelref21_Check.f k B J O Y Z γ δ ε θ η κ μ ν).bind fun ay=>(if ay=0 then ((newellaw21_awake.f k).bind fun d3=>(if d3=true then (if an.2.2=0 then ((newelref21_Spread.f k B J O Y Z γ δ ε θ η κ ψ μ ν).bind fun cd=>((newelref19_Same.f k an.1 an.2.1 cd.1 cd.2).bind fun cf=>(newellaw21_GroupSpreads.j1 k cf))) else (none)) else (none))) else ((newellaw21_awake.f k).bind fun d4=>(if d4=true then (if an.2.2=ay then ((newelref19_Same.f k an.1 an.2.1 ([]:List (S36)) ([]:List (S86))).bind fun cu=>(newellaw21_GroupSpreads.j0 k cu)) else (none)) else (none))))))=some r:=H
  obtain⟨⟨af,ag,b4⟩,A5,H⟩:=qQ H
  replace H:((newelref21_Check.f k B J O Y Z γ δ ε θ η κ μ ν).bind fun ay=>(if ay=0 then ((newellaw21_awake.f k).bind fun d3=>(if d3=true then (if b4=0 then ((newelref21_Spread.f k B J O Y Z γ δ ε θ η κ ψ μ ν).bind fun cd=>((newelref19_Same.f k af ag cd.1 cd.2).bind fun cf=>(newellaw21_GroupSpreads.j1 k cf))) else (none)) else (none))) else ((newellaw21_awake.f k).bind fun d4=>(if d4=true then (if b4=ay then ((newelref19_Same.f k af ag ([]:List (S36)) ([]:List (S86))).bind fun cu=>(newellaw21_GroupSpreads.j0 k cu)) else (none)) else (none)))))=some r:=H
  obtain⟨ay,A6,H⟩:=qQ H
  by_cases c7:ay=0
  ·rw[if_pos c7] at H
   have c7b0:(ay==0)=true:=beq_iff_eq.mpr c7
   have c7b1:(ay != 0)=false:=bne_eq_false_iff_eq.mpr c7
   clear c7
   have co:=aK H
   clear H
   go_enter Try.func5,Try.ntmps5
   try go_wp2_with (first|((with_reducible refine Qe (N:=1) rfl ?_);refine qE 1 #[nI B,nI J,nI O,nI Y,nI Z,nI γ,nI δ,nI ε,nI θ,nI η,.slice a0 κ.length a1,nI ψ,.slice a2 μ.length a3,.slice a5 ν.length a7] 52 ?_;intro ζ hg w9 hbox hb;have X:=aK hbox;have de:=sGe hg;have im:=sGe hg;replace HB:=sHb hb;clear hb hbox hg;have bg:cI w9 ζ 0 B:=(Qa X.out 0).trans rfl;have bh:cI w9 ζ 1 J:=(Qa X.out 1).trans rfl;have du:cI w9 ζ 2 O:=(Qa X.out 2).trans rfl;have gk:cI w9 ζ 3 Y:=(Qa X.out 3).trans rfl;have gm:cI w9 ζ 4 Z:=(Qa X.out 4).trans rfl;have gn:cI w9 ζ 5 γ:=(Qa X.out 5).trans rfl;have gp:cI w9 ζ 6 δ :=(Qa X.out 6).trans rfl;have hj:cI w9 ζ 7 ε :=(Qa X.out 7).trans rfl;have ho:cI w9 ζ 8 θ :=(Qa X.out 8).trans rfl;have hu:cI w9 ζ 9 η :=(Qa X.out 9).trans rfl;have jd:w9.cell? ⟨ζ,10,none⟩=some (.slice a0 κ.length a1):=(Qa X.out 10).trans rfl;have je:cI w9 ζ 11 ψ :=(Qa X.out 11).trans rfl;have jf:w9.cell? ⟨ζ,12,none⟩=some (.slice a2 μ.length a3):=(Qa X.out 12).trans rfl;have jg:w9.cell? ⟨ζ,13,none⟩=some (.slice a5 ν.length a7):=(Qa X.out 13).trans rfl;have bk:=Qg X.out 0;have bm:=Qg X.out 1;have dv:=Qg X.out 2;have gq:=Qg X.out 3;have gr:=Qg X.out 4;have gs:=Qg X.out 5;have gt:=Qg X.out 6;have hx:=Qg X.out 7;have hy:=Qg X.out 8;have i0:=Qg X.out 9;have jh:=Qg X.out 10;have jj:=Qg X.out 11;have jl:=Qg X.out 12;have jm:=Qg X.out 13)|((with_reducible refine Qf (f:=13) rfl ?_);refine Q0 (some 7) rfl rfl Try.func13 kr rfl #[.agg #[nI B,nI J,nI O,nI Y,nI Z,nI γ,nI δ,nI ε,nI θ,nI η,.slice a0 κ.length a1,nI ψ,.slice a2 μ.length a3,.slice a5 ν.length a7]] rfl qM ?_;(with_reducible refine(newellaw21_few.calls B J O Y Z γ δ ε θ η _ _ κ ψ _ _ μ _ _ ν true _ ?side1 ?side2 ?side3 ?side4 ?side5 ?side6 A2.out).mono ?_);(case side1=>exact(Kd.Qw b2.out HB.out));(case side2=>exact b3.out);(case side3=>exact(Kd.Qw b6.out HB.out));(case side4=>exact b7.out);(case side5=>exact(Kd.Qw bj.out HB.out));(case side6=>exact bn.out);rintro e d1 ⟨rfl,hb⟩;refine⟨_,rfl, ?_⟩;replace X:=sBk X hb;replace HB:=sHb hb;(try clear hb);(try clear a4);(try clear hk);(try clear hi)))
   replace X:=aK (Qd X.out)
   replace HB:=aK (Qj HB.out)
   refine Zg (n:=16) (S:=fun w'=>cI w' ζ 0 B∧cI w' ζ 1 J∧cI w' ζ 2 O∧cI w' ζ 3 Y∧cI w' ζ 4 Z∧cI w' ζ 5 γ∧cI w' ζ 6 δ ∧ cI w' ζ 7 ε ∧ cI w' ζ 8 θ ∧ cI w' ζ 9 η ∧ w'.cell? ⟨ζ,10,none⟩=some (.slice a0 κ.length a1)∧cI w' ζ 11 ψ ∧ w'.cell? ⟨ζ,12,none⟩=some (.slice a2 μ.length a3)∧w'.cell? ⟨ζ,13,none⟩=some (.slice a5 ν.length a7)) (ds:=[]) #[false,false,false,false,false,false,false,false,false,false,false,false,false,false,false,false] kr rfl rfl ⟨(Qa X.out 0).trans rfl,(Qa X.out 1).trans rfl,(Qa X.out 2).trans rfl,(Qa X.out 3).trans rfl,(Qa X.out 4).trans rfl,(Qa X.out 5).trans rfl,(Qa X.out 6).trans rfl,(Qa X.out 7).trans rfl,(Qa X.out 8).trans rfl,(Qa X.out 9).trans rfl,(Qa X.out 10).trans rfl,(Qa X.out 11).trans rfl,(Qa X.out 12).trans rfl,(Qa X.out 13).trans rfl⟩ (fun hHeld=>?_);refine Zb newellaw21_GroupSpreads.Dj newellaw21_GroupSpreads.Ml (fun HT_ HW_=>?_)
   generalize d1.drew=dn at X HB hHeld ⊢
   refine qP 0 (some 11) (bN 16 1) HT_ ?_
   refine qP 2 (some 13) (bN 16 5) HT_ ?_
   refine qP 4 (some 15) (bN 16 21) HT_ ?_
   refine qP 6 (some 17) (bN 16 85) HT_ ?_
   refine qT 1 (some 12) (bN 16 87) HT_ HW_ hHeld ?_
   refine qT 3 (some 14) (bN 16 95) HT_ HW_ hHeld ?_
   refine qT 5 (some 16) (bN 16 127) HT_ HW_ hHeld ?_
   refine qT 7 (some 18) (bN 16 255) HT_ HW_ hHeld ?_
   refine Y1 (σ:=Value×Value×Value×Value×Nat) 2 (bN 16 16383) (fun s_=>[(19,.agg #[s_.1,s_.2.1]),(20,.tuple #[.agg #[s_.2.2.1,s_.2.2.2.1],nI b4]),(3,.pointer (some ⟨s_.2.2.2.2,0,none⟩)),(10,.tuple #[.agg #[s_.2.2.1,s_.2.2.2.1],nI b4]),(21,.agg #[s_.2.2.1,s_.2.2.2.1]),(22,nI b4)]) (fun s_ w'=>(cI w' ζ 0 B∧cI w' ζ 1 J∧cI w' ζ 2 O∧cI w' ζ 3 Y∧cI w' ζ 4 Z∧cI w' ζ 5 γ∧cI w' ζ 6 δ ∧ cI w' ζ 7 ε ∧ cI w' ζ 8 θ ∧ cI w' ζ 9 η ∧ w'.cell? ⟨ζ,10,none⟩=some (.slice a0 κ.length a1)∧cI w' ζ 11 ψ ∧ w'.cell? ⟨ζ,12,none⟩=some (.slice a2 μ.length a3)∧w'.cell? ⟨ζ,13,none⟩=some (.slice a5 ν.length a7))∧(Kd.R k36 36 w' w.heap.size (fun k_=>some k_≠(s_.2.2.1:Value).ownBlock) s_.1 al)∧(Kd.R k86 86 w' w.heap.size (fun k_=>some k_≠(s_.2.2.2.1:Value).ownBlock) s_.2.1 am)∧(Kd.R k36 36 w' w.heap.size (fun k_=>some k_≠(s_.1:Value).ownBlock) s_.2.2.1 af)∧(Kd.R k86 86 w' w.heap.size (fun k_=>some k_≠(s_.2.1:Value).ownBlock) s_.2.2.2.1 ag)∧(w'.heap[ζ]?=some (.cells #[nI B,nI J,nI O,nI Y,nI Z,nI γ,nI δ,nI ε,nI θ,nI η,.slice a0 κ.length a1,nI ψ,.slice a2 μ.length a3,.slice a5 ν.length a7] 52 (0,0)))∧(w'.heap[s_.2.2.2.2]?=some (.cells #[.slice none 0 0,.slice none 0 0] 50 (0,0)))∧(w.heap.size≤s_.2.2.2.2)∧(w.heap.size≤s_.2.2.2.2)∧(ζ ≠ s_.2.2.2.2)∧(s_.2.2.2.2 ≠ ζ)∧(Below w.heap.size w w')) ?_ ?_
   rotate_left
   ·intro hCont
    refine K4 (i:=8) (j:=13) (Ni:=some 19) (Nj:=some 3) (bN 16 511) (bN 16 8447) rfl rfl rfl rfl (Yg HT_.out kr) (by decide) (by decide) (fun K hK=>?_) (fun K hK=>?_)
    ·skip
     refine Zd Try.func15 kr rfl #[.agg #[.slice a2 μ.length a3,.slice a5 ν.length a7]] (by rfl) rfl rfl qM ?_
     with_reducible refine(newellaw19_Own.calls _ _ μ _ _ ν al am _ ?side1 ?side2 ?side3 ?side4 A4.out).mono ?_
     (case side1=>exact(Kd.Qw b6.out HB.out))
     (case side2=>exact b7.out)
     (case side3=>exact(Kd.Qw bj.out HB.out))
     (case side4=>exact bn.out)
     rintro e eh ⟨cg,ct,rfl,ai,aj,hb⟩
     refine⟨_,rfl, ?_⟩
     have ξ :=aK (Kd.Za ai (Qm HB.out))
     have ρ:=aK (Kd.Za aj (Qm HB.out))
     replace X:=sBk X hb
     replace HB:=sHb hb
     (try clear hb)
     (try clear a4)
     (try clear hk)
     (try clear hi)
     (try clear ai)
     (try clear aj)
     obtain⟨et,eu,dw⟩:=Kd.Q7 ξ.out
     (first|subst dw|(injection dw with a9 ao aa;have ap:=a9.symm;have ar:=aa.symm;clear a9 ao aa;subst ap;subst ar))
     obtain⟨ci,cp,ch⟩:=Kd.Q7 ρ.out
     (first|subst ch|(injection ch with a9 ao aa;have ap:=a9.symm;have ar:=aa.symm;clear a9 ao aa;subst ap;subst ar))
     refine hK.out _ _ ⟨qc X,qc X,qc X,qc X,qc X,qc X,qc X,qc X,qc X,qc X,qc X,qc X,qc X,qc X⟩ (fun hHeld=>?_)
     clear hK K
     refine qN (some 19) ?_
     refine K4 (i:=9) (j:=13) (Ni:=some 20) (Nj:=some 3) (bN 16 1023) (bN 16 8703) rfl rfl rfl rfl (Yg HT_.out kr) (by decide) (by decide) (fun K hK=>?_) (fun K hK=>?_)
     ·skip
      refine Zd Try.func21 kr rfl #[.agg #[nI B,nI J,nI O,nI Y,nI Z,nI γ,nI δ,nI ε,nI θ,nI η],.slice a0 κ.length a1,nI ψ,.agg #[.slice et al.length eu,.slice ci am.length cp]] (by rfl) rfl rfl qM ?_
      with_reducible refine(group_Spread.calls k B J O Y Z γ δ ε θ η _ _ κ ψ _ _ al _ _ am af ag b4 _ ?side1 ?side2 ?side3 ?side4 ?side5 ?side6 A5.out).mono ?_
      (case side1=>exact(Kd.Qw b2.out HB.out))
      (case side2=>exact b3.out)
      (case side3=>exact(Kd.Qt ξ.out).2.2)
      (case side4=>exact(Kd.Qt ξ.out).2.1)
      (case side5=>exact(Kd.Qt ρ.out).2.2)
      (case side6=>exact(Kd.Qt ρ.out).2.1)
      rintro e cr ⟨bp,bw,rfl,ai,aj,hb⟩
      refine⟨_,rfl, ?_⟩
      have a8:=aK (Kd.Za (Kd.Yw ai (Kd.X6 ξ.out)) (Qm HB.out))
      have ab:=aK (Kd.Za (Kd.Yw aj (Kd.X6 ρ.out)) (Qm HB.out))
      replace ξ :=aK (Kd.Xq ξ.out (Kd.Zx ai) hb)
      replace ρ:=aK (Kd.Xq ρ.out (Kd.Zx aj) hb)
      replace X:=sBk X hb
      replace HB:=sHb hb
      (try clear hb)
      (try clear a4)
      (try clear hk)
      (try clear hi)
      (try clear ai)
      (try clear aj)
      refine hK.out _ _ ⟨qc X,qc X,qc X,qc X,qc X,qc X,qc X,qc X,qc X,qc X,qc X,qc X,qc X,qc X⟩ (fun hHeld=>?_)
      clear hK K
      refine qN (some 20) ?_
      refine qP 10 (some 10) (bN 16 2047) HT_ ?_
      refine qP 11 (some 21) (bN 16 4095) HT_ ?_
      refine qP 12 (some 22) (bN 16 8191) HT_ ?_
      refine qK 13 (some 3) (bN 16 16383) HT_ fun K hK=>?_
      refine Xf ?hg (N:=3) ?hd (cs:=#[.slice none 0 0,.slice none 0 0]) (t:=50) ?hr ?_;(case hd=>rfl);(case hg=>rfl);(case hr=>go_simp <;> rfl)
      intro ac hg cv hbox hb
      have τ :=aK hbox
      have b0:=sGe hg
      have bz:=sGe hg
      have ι :=sNl X hg
      have ae:=sNg X hg
      replace ξ :=sRb ξ hb
      replace ρ:=sRb ρ hb
      replace a8:=sRb a8 hb
      replace ab:=sRb ab hb
      replace X:=sBk X hb
      replace HB:=sHb hb
      clear hb hbox hg
      refine hK.out _ _ ⟨qc X,qc X,qc X,qc X,qc X,qc X,qc X,qc X,qc X,qc X,qc X,qc X,qc X,qc X⟩ (fun hHeld=>?_)
      clear hK K
      refine qN (some 3) ?_
      exact Zv (by simp only[Zc,Act.put,qS]) (hCont (.slice et al.length eu,.slice ci am.length cp,bp,bw,ac) _ ⟨hHeld,(by(with_reducible repeat first|apply Kd.Qs|apply Kd.Qr|apply Kd.Qu);exact Kd.Qv ξ.out (fun _ hk=>hk.2)),(by(with_reducible repeat first|apply Kd.Qs|apply Kd.Qr|apply Kd.Qu);exact Kd.Qv ρ.out (fun _ hk=>hk.2)),(by(with_reducible repeat first|apply Kd.Qs|apply Kd.Qr|apply Kd.Qu);exact Kd.Qv a8.out (fun _ hk=>hk.2)),(by(with_reducible repeat first|apply Kd.Qs|apply Kd.Qr|apply Kd.Qu);exact Kd.Qv ab.out (fun _ hk=>hk.2)),X.out,τ.out,b0.out,bz.out,ι.out,ae.out,HB.out⟩)
     ·skip
      refine Xf ?hg (N:=3) ?hd (cs:=#[.slice none 0 0,.slice none 0 0]) (t:=50) ?hr ?_;(case hd=>rfl);(case hg=>rfl);(case hr=>go_simp <;> rfl)
      intro ac hg cb hbox hb
      have τ :=aK hbox
      have b0:=sGe hg
      have bz:=sGe hg
      have ι :=sNl X hg
      have ae:=sNg X hg
      replace ξ :=sRb ξ hb
      replace ρ:=sRb ρ hb
      replace X:=sBk X hb
      replace HB:=sHb hb
      clear hb hbox hg
      obtain⟨ci,cp,ch⟩:=Kd.Q7 ξ.out
      (first|subst ch|(injection ch with a9 ao aa;have ap:=a9.symm;have ar:=aa.symm;clear a9 ao aa;subst ap;subst ar))
      obtain⟨eb,ej,em⟩:=Kd.Q7 ρ.out
      (first|subst em|(injection em with a9 ao aa;have ap:=a9.symm;have ar:=aa.symm;clear a9 ao aa;subst ap;subst ar))
      refine hK.out _ _ ⟨qc X,qc X,qc X,qc X,qc X,qc X,qc X,qc X,qc X,qc X,qc X,qc X,qc X,qc X⟩ (fun hHeld=>?_)
      clear hK K
      refine qN (some 3) ?_
      refine qK 9 (some 20) (bN 16 9215) HT_ fun K hK=>?_
      refine Zd Try.func21 kr rfl #[.agg #[nI B,nI J,nI O,nI Y,nI Z,nI γ,nI δ,nI ε,nI θ,nI η],.slice a0 κ.length a1,nI ψ,.agg #[.slice ci al.length cp,.slice eb am.length ej]] (by rfl) rfl rfl qM ?_
      with_reducible refine(group_Spread.calls k B J O Y Z γ δ ε θ η _ _ κ ψ _ _ al _ _ am af ag b4 _ ?side1 ?side2 ?side3 ?side4 ?side5 ?side6 A5.out).mono ?_
      (case side1=>exact(Kd.Qw b2.out HB.out))
      (case side2=>exact b3.out)
      (case side3=>exact(Kd.Qt ξ.out).2.2)
      (case side4=>exact(Kd.Qt ξ.out).2.1)
      (case side5=>exact(Kd.Qt ρ.out).2.2)
      (case side6=>exact(Kd.Qt ρ.out).2.1)
      rintro e cv ⟨bp,bw,rfl,ai,aj,hb⟩
      refine⟨_,rfl, ?_⟩
      have a8:=aK (Kd.Za (Kd.Yw ai (Kd.X6 ξ.out)) (Qm HB.out))
      have ab:=aK (Kd.Za (Kd.Yw aj (Kd.X6 ρ.out)) (Qm HB.out))
      replace ξ :=aK (Kd.Xq ξ.out (Kd.Zx ai) hb)
      replace ρ:=aK (Kd.Xq ρ.out (Kd.Zx aj) hb)
      replace X:=sBk X hb
      replace τ :=sBk τ hb
      replace HB:=sHb hb
      (try clear hb)
      (try clear a4)
      (try clear hk)
      (try clear hi)
      (try clear ai)
      (try clear aj)
      refine hK.out _ _ ⟨qc X,qc X,qc X,qc X,qc X,qc X,qc X,qc X,qc X,qc X,qc X,qc X,qc X,qc X⟩ (fun hHeld=>?_)
      clear hK K
      refine qN (some 20) ?_
      refine qP 10 (some 10) (bN 16 10239) HT_ ?_
      refine qP 11 (some 21) (bN 16 12287) HT_ ?_
      refine qP 12 (some 22) (bN 16 16383) HT_ ?_
      exact Zv (by simp only[Zc,Act.put,qS]) (hCont (.slice ci al.length cp,.slice eb am.length ej,bp,bw,ac) _ ⟨hHeld,(by(with_reducible repeat first|apply Kd.Qs|apply Kd.Qr|apply Kd.Qu);exact Kd.Qv ξ.out (fun _ hk=>hk.2)),(by(with_reducible repeat first|apply Kd.Qs|apply Kd.Qr|apply Kd.Qu);exact Kd.Qv ρ.out (fun _ hk=>hk.2)),(by(with_reducible repeat first|apply Kd.Qs|apply Kd.Qr|apply Kd.Qu);exact Kd.Qv a8.out (fun _ hk=>hk.2)),(by(with_reducible repeat first|apply Kd.Qs|apply Kd.Qr|apply Kd.Qu);exact Kd.Qv ab.out (fun _ hk=>hk.2)),X.out,τ.out,b0.out,bz.out,ι.out,ae.out,HB.out⟩)
    ·skip
     refine Xf ?hg (N:=3) ?hd (cs:=#[.slice none 0 0,.slice none 0 0]) (t:=50) ?hr ?_;(case hd=>rfl);(case hg=>rfl);(case hr=>go_simp <;> rfl)
     intro ac hg eh hbox hb
     have τ :=aK hbox
     have b0:=sGe hg
     have bz:=sGe hg
     have ι :=sNl X hg
     have ae:=sNg X hg
     replace X:=sBk X hb
     replace HB:=sHb hb
     clear hb hbox hg
     refine hK.out _ _ ⟨qc X,qc X,qc X,qc X,qc X,qc X,qc X,qc X,qc X,qc X,qc X,qc X,qc X,qc X⟩ (fun hHeld=>?_)
     clear hK K
     refine qN (some 3) ?_
     refine qK 8 (some 19) (bN 16 8703) HT_ fun K hK=>?_
     refine Zd Try.func15 kr rfl #[.agg #[.slice a2 μ.length a3,.slice a5 ν.length a7]] (by rfl) rfl rfl qM ?_
     with_reducible refine(newellaw19_Own.calls _ _ μ _ _ ν al am _ ?side1 ?side2 ?side3 ?side4 A4.out).mono ?_
     (case side1=>exact(Kd.Qw b6.out HB.out))
     (case side2=>exact b7.out)
     (case side3=>exact(Kd.Qw bj.out HB.out))
     (case side4=>exact bn.out)
     rintro e cb ⟨cg,ct,rfl,ai,aj,hb⟩
     refine⟨_,rfl, ?_⟩
     have ξ :=aK (Kd.Za ai (Qm HB.out))
     have ρ:=aK (Kd.Za aj (Qm HB.out))
     replace X:=sBk X hb
     replace τ :=sBk τ hb
     replace HB:=sHb hb
     (try clear hb)
     (try clear a4)
     (try clear hk)
     (try clear hi)
     (try clear ai)
     (try clear aj)
     obtain⟨ci,cp,ch⟩:=Kd.Q7 ξ.out
     (first|subst ch|(injection ch with a9 ao aa;have ap:=a9.symm;have ar:=aa.symm;clear a9 ao aa;subst ap;subst ar))
     obtain⟨eb,ej,em⟩:=Kd.Q7 ρ.out
     (first|subst em|(injection em with a9 ao aa;have ap:=a9.symm;have ar:=aa.symm;clear a9 ao aa;subst ap;subst ar))
     refine hK.out _ _ ⟨qc X,qc X,qc X,qc X,qc X,qc X,qc X,qc X,qc X,qc X,qc X,qc X,qc X,qc X⟩ (fun hHeld=>?_)
     clear hK K
     refine qN (some 19) ?_
     refine qK 9 (some 20) (bN 16 9215) HT_ fun K hK=>?_
     refine Zd Try.func21 kr rfl #[.agg #[nI B,nI J,nI O,nI Y,nI Z,nI γ,nI δ,nI ε,nI θ,nI η],.slice a0 κ.length a1,nI ψ,.agg #[.slice ci al.length cp,.slice eb am.length ej]] (by rfl) rfl rfl qM ?_
     with_reducible refine(group_Spread.calls k B J O Y Z γ δ ε θ η _ _ κ ψ _ _ al _ _ am af ag b4 _ ?side1 ?side2 ?side3 ?side4 ?side5 ?side6 A5.out).mono ?_
     (case side1=>exact(Kd.Qw b2.out HB.out))
     (case side2=>exact b3.out)
     (case side3=>exact(Kd.Qt ξ.out).2.2)
     (case side4=>exact(Kd.Qt ξ.out).2.1)
     (case side5=>exact(Kd.Qt ρ.out).2.2)
     (case side6=>exact(Kd.Qt ρ.out).2.1)
     rintro e cv ⟨bp,bw,rfl,ai,aj,hb⟩
     refine⟨_,rfl, ?_⟩
     have a8:=aK (Kd.Za (Kd.Yw ai (Kd.X6 ξ.out)) (Qm HB.out))
     have ab:=aK (Kd.Za (Kd.Yw aj (Kd.X6 ρ.out)) (Qm HB.out))
     replace ξ :=aK (Kd.Xq ξ.out (Kd.Zx ai) hb)
     replace ρ:=aK (Kd.Xq ρ.out (Kd.Zx aj) hb)
     replace X:=sBk X hb
     replace τ :=sBk τ hb
     replace HB:=sHb hb
     (try clear hb)
     (try clear a4)
     (try clear hk)
     (try clear hi)
     (try clear ai)
     (try clear aj)
     refine hK.out _ _ ⟨qc X,qc X,qc X,qc X,qc X,qc X,qc X,qc X,qc X,qc X,qc X,qc X,qc X,qc X⟩ (fun hHeld=>?_)
     clear hK K
     refine qN (some 20) ?_
     refine qP 10 (some 10) (bN 16 10239) HT_ ?_
     refine qP 11 (some 21) (bN 16 12287) HT_ ?_
     refine qP 12 (some 22) (bN 16 16383) HT_ ?_
     exact Zv (by simp only[Zc,Act.put,qS]) (hCont (.slice ci al.length cp,.slice eb am.length ej,bp,bw,ac) _ ⟨hHeld,(by(with_reducible repeat first|apply Kd.Qs|apply Kd.Qr|apply Kd.Qu);exact Kd.Qv ξ.out (fun _ hk=>hk.2)),(by(with_reducible repeat first|apply Kd.Qs|apply Kd.Qr|apply Kd.Qu);exact Kd.Qv ρ.out (fun _ hk=>hk.2)),(by(with_reducible repeat first|apply Kd.Qs|apply Kd.Qr|apply Kd.Qu);exact Kd.Qv a8.out (fun _ hk=>hk.2)),(by(with_reducible repeat first|apply Kd.Qs|apply Kd.Qr|apply Kd.Qu);exact Kd.Qv ab.out (fun _ hk=>hk.2)),X.out,τ.out,b0.out,bz.out,ι.out,ae.out,HB.out⟩)
   rintro⟨cg,ct,bp,bw,ac⟩ bf ⟨hS_,b8,b9,ba,bb,bc,bu,cw,cx,cy,cz,bq⟩
   have φ :Aside0 (Kd.R k36 36 bf w.heap.size (fun k_=>some k_≠(bp:Value).ownBlock) cg al):=⟨b8⟩
   have χ :Aside0 (Kd.R k86 86 bf w.heap.size (fun k_=>some k_≠(bw:Value).ownBlock) ct am):=⟨b9⟩
   have ω :Aside0 (Kd.R k36 36 bf w.heap.size (fun k_=>some k_≠(cg:Value).ownBlock) bp af):=⟨ba⟩
   have a6:Aside0 (Kd.R k86 86 bf w.heap.size (fun k_=>some k_≠(ct:Value).ownBlock) bw ag):=⟨bb⟩
   have ah:Aside0 (bf.heap[ζ]?=some (.cells #[nI B,nI J,nI O,nI Y,nI Z,nI γ,nI δ,nI ε,nI θ,nI η,.slice a0 κ.length a1,nI ψ,.slice a2 μ.length a3,.slice a5 ν.length a7] 52 (0,0))):=⟨bc⟩
   have az:Aside0 (bf.heap[ac]?=some (.cells #[.slice none 0 0,.slice none 0 0] 50 (0,0))):=⟨bu⟩
   have b1:Aside0 (w.heap.size≤ac):=⟨cw⟩
   have be:Aside0 (w.heap.size≤ac):=⟨cx⟩
   have bl:Aside0 (ζ ≠ ac):=⟨cy⟩
   have ca:Aside0 (ac ≠ ζ):=⟨cz⟩
   have br:Aside0 (Below w.heap.size w bf):=⟨bq⟩
   clear X
   clear HB
   clear b8 b9 ba bb bc bu cw cx cy cz bq
   have ξ := φ
   have ρ:= χ
   have a8:= ω
   have ab:=a6
   have X:=ah
   have τ :=az
   have b0:=b1
   have bz:=be
   have ι :=bl
   have ae:=ca
   have HB:=br
   clear φ χ ω a6 ah az b1 be bl ca br
   have hHeld:cI bf ζ 0 B∧cI bf ζ 1 J∧cI bf ζ 2 O∧cI bf ζ 3 Y∧cI bf ζ 4 Z∧cI bf ζ 5 γ∧cI bf ζ 6 δ ∧ cI bf ζ 7 ε ∧ cI bf ζ 8 θ ∧ cI bf ζ 9 η ∧ bf.cell? ⟨ζ,10,none⟩=some (.slice a0 κ.length a1)∧cI bf ζ 11 ψ ∧ bf.cell? ⟨ζ,12,none⟩=some (.slice a2 μ.length a3)∧bf.cell? ⟨ζ,13,none⟩=some (.slice a5 ν.length a7):=hS_
   obtain⟨ck,cm,dl⟩:=Kd.Q7 a8.out
   (first|subst dl|(injection dl with a9 ao aa;have ap:=a9.symm;have ar:=aa.symm;clear a9 ao aa;subst ap;subst ar))
   obtain⟨d5,d6,j8⟩:=Kd.Q7 ab.out
   (first|subst j8|(injection j8 with a9 ao aa;have ap:=a9.symm;have ar:=aa.symm;clear a9 ao aa;subst ap;subst ar))
   refine Zv (a':=?_) ?_ ?_
   rotate_left
   ·simp only[Zc,Act.put,qS]
    rfl
   refine qK 14 (none) (bN 16 32767) HT_ fun K hK=>?_
   have kg:bf.cell? ⟨ac,0,none⟩=some (.slice none 0 0):=(Qa τ.out 0).trans rfl
   have kc:=Qg τ.out 0
   have jx:= ι.out
   have jy:=ae.out
   have kh:bf.cell? ⟨ac,1,none⟩=some (.slice none 0 0):=(Qa τ.out 1).trans rfl
   have kd:=Qg τ.out 1
   have k0:= ι.out
   have k1:=ae.out
   refine K9 (w1:=?_) (by rfl) rfl ?_ ?_
   rotate_left
   ·go_simp
    rfl
   refine hK.out _ _ ⟨(cF ι ((cF ι (hHeld.1)))),(cF ι ((cF ι (hHeld.2.1)))),(cF ι ((cF ι (hHeld.2.2.1)))),(cF ι ((cF ι (hHeld.2.2.2.1)))),(cF ι ((cF ι (hHeld.2.2.2.2.1)))),(cF ι ((cF ι (hHeld.2.2.2.2.2.1)))),(cF ι ((cF ι (hHeld.2.2.2.2.2.2.1)))),(cF ι ((cF ι (hHeld.2.2.2.2.2.2.2.1)))),(cF ι ((cF ι (hHeld.2.2.2.2.2.2.2.2.1)))),(cF ι ((cF ι (hHeld.2.2.2.2.2.2.2.2.2.1)))),(cF ι ((cF ι (hHeld.2.2.2.2.2.2.2.2.2.2.1)))),(cF ι ((cF ι (hHeld.2.2.2.2.2.2.2.2.2.2.2.1)))),(cF ι ((cF ι (hHeld.2.2.2.2.2.2.2.2.2.2.2.2.1)))),(cF ι ((cF ι (hHeld.2.2.2.2.2.2.2.2.2.2.2.2.2))))⟩ (fun hHeld=>?_)
   clear hK K
   refine qP 15 (some 4) (bN 16 65535) HT_ ?_
   refine Zl (Ze HT_.out kr) ?_
   have d2:= ι.out
   have dx:=ae.out
   have au:cI bf ζ 0 B:=(Qa X.out 0).trans rfl
   have av:cI bf ζ 1 J:=(Qa X.out 1).trans rfl
   have bs:cI bf ζ 2 O:=(Qa X.out 2).trans rfl
   have e0:cI bf ζ 3 Y:=(Qa X.out 3).trans rfl
   have e3:cI bf ζ 4 Z:=(Qa X.out 4).trans rfl
   have e4:cI bf ζ 5 γ:=(Qa X.out 5).trans rfl
   have e5:cI bf ζ 6 δ :=(Qa X.out 6).trans rfl
   have cq:cI bf ζ 7 ε :=(Qa X.out 7).trans rfl
   have dp:cI bf ζ 8 θ :=(Qa X.out 8).trans rfl
   have dq:cI bf ζ 9 η :=(Qa X.out 9).trans rfl
   have fm:bf.cell? ⟨ζ,10,none⟩=some (.slice a0 κ.length a1):=(Qa X.out 10).trans rfl
   have fn:cI bf ζ 11 ψ :=(Qa X.out 11).trans rfl
   have fo:bf.cell? ⟨ζ,12,none⟩=some (.slice a2 μ.length a3):=(Qa X.out 12).trans rfl
   have fr:bf.cell? ⟨ζ,13,none⟩=some (.slice a5 ν.length a7):=(Qa X.out 13).trans rfl
   have aw:=Qg X.out 0
   have ax:=Qg X.out 1
   have bv:=Qg X.out 2
   have e6:=Qg X.out 3
   have e7:=Qg X.out 4
   have e8:=Qg X.out 5
   have e9:=Qg X.out 6
   have dr:=Qg X.out 7
   have fw:=Qg X.out 8
   have fx:=Qg X.out 9
   have ft:=Qg X.out 10
   have fu:=Qg X.out 11
   have ge:=Qg X.out 12
   have gf:=Qg X.out 13
   go_upto_region 7 with(first|((with_reducible refine Qf (f:=16) rfl ?_);refine Q0 (some 29) rfl rfl Try.func16 kr rfl #[.agg #[nI B,nI J,nI O,nI Y,nI Z,nI γ,nI δ,nI ε,nI θ,nI η],.slice a0 κ.length a1,.agg #[.slice a2 μ.length a3,.slice a5 ν.length a7]] rfl qM ?_;(with_reducible refine(newelref21_Check.calls k B J O Y Z γ δ ε θ η _ _ κ _ _ μ _ _ ν ay _ ?side1 ?side2 ?side3 ?side4 ?side5 ?side6 A6.out).mono ?_);(case side1=>exact Kd.Qw b2.out bel);(case side2=>exact b3.out);(case side3=>exact Kd.Qw b6.out bel);(case side4=>exact b7.out);(case side5=>exact Kd.Qw bj.out bel);(case side6=>exact bn.out);rintro e dt ⟨rfl,hb⟩;refine⟨_,rfl, ?_⟩;replace ξ :=aK (Kd.Zn (by(with_reducible repeat first|apply Kd.Qs|apply Kd.Qr|apply Kd.Qu);exact(Kd.Qv (Kd.Qx (Kd.Qx (Kd.Q4 ξ.out τ.out (by decide)) (fun _ hk=>hk.2) _) (fun _ hk=>hk.2) _) (fun _ h_=>h_.1))) hb);replace ρ:=aK (Kd.Zn (by(with_reducible repeat first|apply Kd.Qs|apply Kd.Qr|apply Kd.Qu);exact(Kd.Qv (Kd.Qx (Kd.Qx (Kd.Q4 ρ.out τ.out (by decide)) (fun _ hk=>hk.2) _) (fun _ hk=>hk.2) _) (fun _ h_=>h_.1))) hb);replace a8:=aK (Kd.Zn (by(with_reducible repeat first|apply Kd.Qs|apply Kd.Qr|apply Kd.Qu);exact(Kd.Qv (Kd.Qx (Kd.Qx (Kd.Q4 a8.out τ.out (by decide)) (fun _ hk=>hk.2) _) (fun _ hk=>hk.2) _) (fun _ h_=>h_.1))) hb);replace ab:=aK (Kd.Zn (by(with_reducible repeat first|apply Kd.Qs|apply Kd.Qr|apply Kd.Qu);exact(Kd.Qv (Kd.Qx (Kd.Qx (Kd.Q4 ab.out τ.out (by decide)) (fun _ hk=>hk.2) _) (fun _ hk=>hk.2) _) (fun _ h_=>h_.1))) hb);replace X:=sBk X hb;replace τ :=aK (Q1 (g:=ac) (o:=.cells #[.slice ck af.length cm,.slice d5 ag.length d6] 50 (0,0)) (by(with_reducible repeat first|refine Qi ?_ _|refine Qd ?_|refine Qh ?_ _);refine Qo (cs:=#[.slice ck af.length cm,.slice none 0 0]) ?_ 1 _ rfl;(with_reducible repeat first|refine Qi ?_ _|refine Qd ?_|refine Qh ?_ _);refine Qo (cs:=#[.slice none 0 0,.slice none 0 0]) ?_ 0 _ rfl;(with_reducible repeat first|refine Qi ?_ _|refine Qd ?_|refine Qh ?_ _);exact τ.out) hb);replace HB:=sHb hb;(try clear hb);(try clear a4);(try clear hk);(try clear hi)))
   (try simp only[Act.put,qS])
   go_cut [2] (fun v2 wc=>∃ (kq:Nat) (gl:Bool),v2 = .bool gl∧Aside0 (newellaw21_GroupSpreads.j1 kq gl=some r)∧Aside0 (kq≤k)∧Aside0 (Kd.R k36 36 wc w.heap.size (fun _=>True) (.slice ck af.length cm) af)∧Aside0 (Kd.R k86 86 wc w.heap.size (fun _=>True) (.slice d5 ag.length d6) ag)∧Aside0 (wc.heap[ζ]?=some (.cells #[nI B,nI J,nI O,nI Y,nI Z,nI γ,nI δ,nI ε,nI θ,nI η,(.slice a0 κ.length a1),nI ψ,(.slice a2 μ.length a3),(.slice a5 ν.length a7)] 52 (0,0)))∧Aside0 (wc.heap[ac]?=some (.cells #[(.slice ck af.length cm),(.slice d5 ag.length d6)] 50 (0,0)))∧Aside0 (Below w.heap.size w wc))
   case first=>
    have H:=co.out
    clear co
    obtain⟨d3,ef,H⟩:=qQ H
    by_cases bd:d3=true
    ·subst bd
     rw[if_pos rfl] at H
     by_cases b5:b4=0
     ·rw[if_pos b5] at H
      have c28b0:(b4==0)=true:=beq_iff_eq.mpr b5
      have c28b1:(b4 != 0)=false:=bne_eq_false_iff_eq.mpr b5
      clear b5
      (first|rw[c28b0]|(simp only[Zy,Z8];rw[c28b0])|skip)
      obtain⟨⟨fa,fe⟩,fl,H⟩:=qQ H
      replace H:((newelref19_Same.f k af ag fa fe).bind fun cf=>(newellaw21_GroupSpreads.j1 k cf))=some r:=H
      obtain⟨cf,k7,H⟩:=qQ H
      have H':=aK H
      clear H
      try go_wp2
      replace ξ :=aK (Kd.Qu ξ.out)
      replace ρ:=aK (Kd.Qu ρ.out)
      replace a8:=aK (Kd.Qu a8.out)
      replace ab:=aK (Kd.Qu ab.out)
      replace X:=aK (Qd X.out)
      replace τ :=aK (Qd τ.out)
      replace HB:=aK (Qj HB.out)
      refine Zg (n:=19) (S:=fun w'=>w'.cell? ⟨ac,0,none⟩=some (.slice ck af.length cm)∧w'.cell? ⟨ac,1,none⟩=some (.slice d5 ag.length d6)∧cI w' ζ 0 B∧cI w' ζ 1 J∧cI w' ζ 2 O∧cI w' ζ 3 Y∧cI w' ζ 4 Z∧cI w' ζ 5 γ∧cI w' ζ 6 δ ∧ cI w' ζ 7 ε ∧ cI w' ζ 8 θ ∧ cI w' ζ 9 η ∧ w'.cell? ⟨ζ,10,none⟩=some (.slice a0 κ.length a1)∧cI w' ζ 11 ψ ∧ w'.cell? ⟨ζ,12,none⟩=some (.slice a2 μ.length a3)∧w'.cell? ⟨ζ,13,none⟩=some (.slice a5 ν.length a7)) (ds:=[]) #[false,false,false,false,false,false,false,false,false,false,false,false,false,false,false,false,false,false,false] kr rfl rfl ⟨(Qa τ.out 0).trans rfl,(Qa τ.out 1).trans rfl,(Qa X.out 0).trans rfl,(Qa X.out 1).trans rfl,(Qa X.out 2).trans rfl,(Qa X.out 3).trans rfl,(Qa X.out 4).trans rfl,(Qa X.out 5).trans rfl,(Qa X.out 6).trans rfl,(Qa X.out 7).trans rfl,(Qa X.out 8).trans rfl,(Qa X.out 9).trans rfl,(Qa X.out 10).trans rfl,(Qa X.out 11).trans rfl,(Qa X.out 12).trans rfl,(Qa X.out 13).trans rfl⟩ (fun hHeld=>?_);refine Zb newellaw21_GroupSpreads.Wc newellaw21_GroupSpreads.G5 (fun HT_ HW_=>?_)
      generalize dt.drew=jz at ξ ρ a8 ab X τ HB hHeld ⊢
      refine qK 0 (some 43) (bN 19 1) HT_ fun K hK=>?_
      refine Zd Try.func9 kr rfl #[] (by rfl) rfl rfl qM ?_
      with_reducible refine(newellaw21_awake.calls k  true _ ef.out).mono ?_
      rintro e bi ⟨rfl,hb⟩
      refine⟨_,rfl, ?_⟩
      replace ξ :=sRb ξ hb
      replace ρ:=sRb ρ hb
      replace a8:=sRb a8 hb
      replace ab:=sRb ab hb
      replace X:=sBk X hb
      replace τ :=sBk τ hb
      replace HB:=sHb hb
      (try clear hb)
      (try clear a4)
      (try clear hk)
      (try clear hi)
      refine hK.out _ _ ⟨qc τ,qc τ,qc X,qc X,qc X,qc X,qc X,qc X,qc X,qc X,qc X,qc X,qc X,qc X,qc X,qc X⟩ (fun hHeld=>?_)
      clear hK K
      refine qN (some 43) ?_
      refine qP 1 (some 44) (bN 19 3) HT_ ?_
      refine qP 2 (some 45) (bN 19 7) HT_ ?_
      refine qP 3 (some 46) (bN 19 15) HT_ ?_
      refine qP 4 (some 47) (bN 19 31) HT_ ?_
      refine qP 5 (some 48) (bN 19 63) HT_ ?_
      refine qP 7 (some 50) (bN 19 191) HT_ ?_
      refine qP 9 (some 52) (bN 19 703) HT_ ?_
      refine qP 11 (some 54) (bN 19 2751) HT_ ?_
      refine qP 13 (some 56) (bN 19 10943) HT_ ?_
      refine qT 6 (some 49) (bN 19 11007) HT_ HW_ hHeld ?_
      refine qT 8 (some 51) (bN 19 11263) HT_ HW_ hHeld ?_
      refine qT 10 (some 53) (bN 19 12287) HT_ HW_ hHeld ?_
      refine qT 12 (some 55) (bN 19 16383) HT_ HW_ hHeld ?_
      refine qT 14 (some 57) (bN 19 32767) HT_ HW_ hHeld ?_
      refine qK 15 (some 58) (bN 19 65535) HT_ fun K hK=>?_
      refine Zd Try.func23 kr rfl #[.agg #[nI B,nI J,nI O,nI Y,nI Z,nI γ,nI δ,nI ε,nI θ,nI η],.slice a0 κ.length a1,nI ψ,.agg #[.slice a2 μ.length a3,.slice a5 ν.length a7]] (by rfl) rfl rfl qM ?_
      with_reducible refine(newelref21_Spread.calls k B J O Y Z γ δ ε θ η _ _ κ ψ (fun k_=>k_<w.heap.size) _ _ μ (fun k_=>k_<w.heap.size) _ _ ν fa fe _ ?side1 ?side2 ?side3 ?side4 fl.out).mono ?_
      (case side1=>exact(Kd.Qw b2.out HB.out))
      (case side2=>exact b3.out)
      (case side3=>exact Kd.Gw b7.out (Kd.Xw (Kd.C_F El b6.out) HB.out))
      (case side4=>exact Kd.Gw bn.out (Kd.Xw (Kd.C_F Ei bj.out) HB.out))
      rintro e ka ⟨ki,kj,rfl,ai,aj,hb⟩
      refine⟨_,rfl, ?_⟩
      have dk:=aK (Kd.Va (Kd.Q5 (ok':=fun k_=>some k_≠(cg:Value).ownBlock∧some k_≠(ct:Value).ownBlock∧some k_≠(.slice ck af.length cm:Value).ownBlock∧some k_≠(.slice d5 ag.length d6:Value).ownBlock∧k_ ≠ ζ ∧ k_≠ac) ai (fun k_ hk_=>⟨Or.elim hk_ (fun hs_=>Or.elim hs_ (fun hs_=>fun e_=>Nat.not_le.2 hs_ (Kd.Zx ξ.out k_ e_.symm)) (fun hs_=>fun e_=>Nat.not_le.2 hs_ (Kd.Zx ξ.out k_ e_.symm))) (fun hn_=>(Kd.fresh' (Kd.X6 ξ.out) k_ hn_)),Or.elim hk_ (fun hs_=>Or.elim hs_ (fun hs_=>fun e_=>Nat.not_le.2 hs_ (Kd.Zx ρ.out k_ e_.symm)) (fun hs_=>fun e_=>Nat.not_le.2 hs_ (Kd.Zx ρ.out k_ e_.symm))) (fun hn_=>(Kd.fresh' (Kd.X6 ρ.out) k_ hn_)),Or.elim hk_ (fun hs_=>Or.elim hs_ (fun hs_=>fun e_=>Nat.not_le.2 hs_ (Kd.Zx a8.out k_ e_.symm)) (fun hs_=>fun e_=>Nat.not_le.2 hs_ (Kd.Zx a8.out k_ e_.symm))) (fun hn_=>(Kd.fresh' (Kd.X6 a8.out) k_ hn_)),Or.elim hk_ (fun hs_=>Or.elim hs_ (fun hs_=>fun e_=>Nat.not_le.2 hs_ (Kd.Zx ab.out k_ e_.symm)) (fun hs_=>fun e_=>Nat.not_le.2 hs_ (Kd.Zx ab.out k_ e_.symm))) (fun hn_=>(Kd.fresh' (Kd.X6 ab.out) k_ hn_)),Or.elim hk_ (fun hs_=>Or.elim hs_ (fun hs_=>fun e_=>Nat.not_le.2 hs_ (by rw[e_];exact de.out)) (fun hs_=>fun e_=>Nat.not_le.2 hs_ (by rw[e_];exact de.out))) (fun hn_=>(Kd.Xo (g:= ζ) (o:=.cells #[nI B,nI J,nI O,nI Y,nI Z,nI γ,nI δ,nI ε,nI θ,nI η,.slice a0 κ.length a1,nI ψ,.slice a2 μ.length a3,.slice a5 ν.length a7] 52 (0,0)) X.out k_ hn_)),Or.elim hk_ (fun hs_=>Or.elim hs_ (fun hs_=>fun e_=>Nat.not_le.2 hs_ (by rw[e_];exact b0.out)) (fun hs_=>fun e_=>Nat.not_le.2 hs_ (by rw[e_];exact b0.out))) (fun hn_=>(Kd.Xo (g:=ac) (o:=.cells #[.slice ck af.length cm,.slice d5 ag.length d6] 50 (0,0)) τ.out k_ hn_))⟩)) (Qm HB.out))
      have dm:=aK (Kd.Va (Kd.Q5 (ok':=fun k_=>some k_≠(cg:Value).ownBlock∧some k_≠(ct:Value).ownBlock∧some k_≠(.slice ck af.length cm:Value).ownBlock∧some k_≠(.slice d5 ag.length d6:Value).ownBlock∧k_ ≠ ζ ∧ k_≠ac) aj (fun k_ hk_=>⟨Or.elim hk_ (fun hs_=>Or.elim hs_ (fun hs_=>fun e_=>Nat.not_le.2 hs_ (Kd.Zx ξ.out k_ e_.symm)) (fun hs_=>fun e_=>Nat.not_le.2 hs_ (Kd.Zx ξ.out k_ e_.symm))) (fun hn_=>(Kd.fresh' (Kd.X6 ξ.out) k_ hn_)),Or.elim hk_ (fun hs_=>Or.elim hs_ (fun hs_=>fun e_=>Nat.not_le.2 hs_ (Kd.Zx ρ.out k_ e_.symm)) (fun hs_=>fun e_=>Nat.not_le.2 hs_ (Kd.Zx ρ.out k_ e_.symm))) (fun hn_=>(Kd.fresh' (Kd.X6 ρ.out) k_ hn_)),Or.elim hk_ (fun hs_=>Or.elim hs_ (fun hs_=>fun e_=>Nat.not_le.2 hs_ (Kd.Zx a8.out k_ e_.symm)) (fun hs_=>fun e_=>Nat.not_le.2 hs_ (Kd.Zx a8.out k_ e_.symm))) (fun hn_=>(Kd.fresh' (Kd.X6 a8.out) k_ hn_)),Or.elim hk_ (fun hs_=>Or.elim hs_ (fun hs_=>fun e_=>Nat.not_le.2 hs_ (Kd.Zx ab.out k_ e_.symm)) (fun hs_=>fun e_=>Nat.not_le.2 hs_ (Kd.Zx ab.out k_ e_.symm))) (fun hn_=>(Kd.fresh' (Kd.X6 ab.out) k_ hn_)),Or.elim hk_ (fun hs_=>Or.elim hs_ (fun hs_=>fun e_=>Nat.not_le.2 hs_ (by rw[e_];exact de.out)) (fun hs_=>fun e_=>Nat.not_le.2 hs_ (by rw[e_];exact de.out))) (fun hn_=>(Kd.Xo (g:= ζ) (o:=.cells #[nI B,nI J,nI O,nI Y,nI Z,nI γ,nI δ,nI ε,nI θ,nI η,.slice a0 κ.length a1,nI ψ,.slice a2 μ.length a3,.slice a5 ν.length a7] 52 (0,0)) X.out k_ hn_)),Or.elim hk_ (fun hs_=>Or.elim hs_ (fun hs_=>fun e_=>Nat.not_le.2 hs_ (by rw[e_];exact b0.out)) (fun hs_=>fun e_=>Nat.not_le.2 hs_ (by rw[e_];exact b0.out))) (fun hn_=>(Kd.Xo (g:=ac) (o:=.cells #[.slice ck af.length cm,.slice d5 ag.length d6] 50 (0,0)) τ.out k_ hn_))⟩)) (Qm HB.out))
      replace ξ :=sRb ξ hb
      replace ρ:=sRb ρ hb
      replace a8:=sRb a8 hb
      replace ab:=sRb ab hb
      replace X:=sBk X hb
      replace τ :=sBk τ hb
      replace HB:=sHb hb
      (try clear hb)
      (try clear a4)
      (try clear hk)
      (try clear hi)
      (try clear ai)
      (try clear aj)
      obtain⟨jn,jo,j9⟩:=Kd.Yn dk.out
      (first|subst j9|(injection j9 with a9 ao aa;have ap:=a9.symm;have ar:=aa.symm;clear a9 ao aa;subst ap;subst ar))
      obtain⟨fp,fq,fc⟩:=Kd.Yn dm.out
      (first|subst fc|(injection fc with a9 ao aa;have ap:=a9.symm;have ar:=aa.symm;clear a9 ao aa;subst ap;subst ar))
      refine hK.out _ _ ⟨qc τ,qc τ,qc X,qc X,qc X,qc X,qc X,qc X,qc X,qc X,qc X,qc X,qc X,qc X,qc X,qc X⟩ (fun hHeld=>?_)
      clear hK K
      refine qN (some 58) ?_
      refine qK 16 (some 59) (bN 19 131071) HT_ fun K hK=>?_
      refine Zd Try.func22 kr rfl #[.agg #[.slice ck af.length cm,.slice d5 ag.length d6],.agg #[.slice jn fa.length jo,.slice fp fe.length fq]] (by rfl) rfl rfl qM ?_
      with_reducible refine(newelref19_Same.calls k _ _ af _ _ ag _ _ fa _ _ fe cf _ ?side1 ?side2 ?side3 ?side4 ?side5 ?side6 ?side7 ?side8 k7.out).mono ?_
      (case side1=>exact(Kd.Qt a8.out).2.2)
      (case side2=>exact(Kd.Qt a8.out).2.1)
      (case side3=>exact(Kd.Qt ab.out).2.2)
      (case side4=>exact(Kd.Qt ab.out).2.1)
      (case side5=>exact(Kd.Z9 dk.out).2.2)
      (case side6=>exact(Kd.Z9 dk.out).2.1)
      (case side7=>exact(Kd.Z9 dm.out).2.2)
      (case side8=>exact(Kd.Z9 dm.out).2.1)
      rintro e ib ⟨rfl,hb⟩
      refine⟨_,rfl, ?_⟩
      replace ξ :=sRb ξ hb
      replace ρ:=sRb ρ hb
      replace a8:=sRb a8 hb
      replace ab:=sRb ab hb
      replace dk:=aK (Kd.Zh dk.out hb)
      replace dm:=aK (Kd.Zh dm.out hb)
      replace X:=sBk X hb
      replace τ :=sBk τ hb
      replace HB:=sHb hb
      (try clear hb)
      (try clear a4)
      (try clear hk)
      (try clear hi)
      refine hK.out _ _ ⟨qc τ,qc τ,qc X,qc X,qc X,qc X,qc X,qc X,qc X,qc X,qc X,qc X,qc X,qc X,qc X,qc X⟩ (fun hHeld=>?_)
      clear hK K
      refine qN (some 59) ?_
      refine qP 17 (some 60) (bN 19 262143) HT_ ?_
      refine qP 18 (some 2) (bN 19 524287) HT_ ?_
      refine Zl (Ze HT_.out kr) ?_
      try go_wp2
      go_meet
      case rel=>exact⟨_,(cf),rfl,H',⟨by first|omega|exact Nat.le_refl _⟩,⟨by(with_reducible repeat first|apply Kd.Qs|apply Kd.Qr|apply Kd.Qu);exact Kd.Qv a8.out (fun _ hk=>trivial)⟩,⟨by(with_reducible repeat first|apply Kd.Qs|apply Kd.Qr|apply Kd.Qu);exact Kd.Qv ab.out (fun _ hk=>trivial)⟩,X,τ,HB⟩
     ·rw[if_neg b5] at H
      exact absurd H (by simp)
    ·replace bd:=Bool.eq_false_iff.mpr bd
     subst bd
     rw[if_neg nft] at H
     exact absurd H (by simp)
   case rest=>
    clear co
    try clear au
    try clear av
    try clear fm
    try clear fn
    try clear fo
    try clear fr
    try clear bs
    try clear e0
    try clear e3
    try clear e4
    try clear e5
    try clear cq
    try clear dp
    try clear dq
    try clear aw
    try clear ax
    try clear ft
    try clear fu
    try clear ge
    try clear gf
    try clear bv
    try clear e6
    try clear e7
    try clear e8
    try clear e9
    try clear dr
    try clear fw
    try clear fx
    obtain⟨kq,gl,rfl,HA,ei,fi,fj,X,τ,HB⟩:=hcut
    cases kq with
    |zero=>exact absurd HA.out (by simp[newellaw21_GroupSpreads.j1])
    |succ er=>
     have H:=HA.out
     clear HA
     simp only[newellaw21_GroupSpreads.j1] at H
     obtain rfl:=qJ H
     go_wp2
     go_ret
     exact⟨rfl,HB.out⟩
  ·rw[if_neg c7] at H
   have c7b0:(ay==0)=false:=beq_eq_false_iff_ne.mpr c7
   have c7b1:(ay != 0)=true:=bne_iff_ne.mpr c7
   have gu:=aK H
   clear H
   go_enter Try.func5,Try.ntmps5
   try go_wp2_with (first|((with_reducible refine Qe (N:=1) rfl ?_);refine qE 1 #[nI B,nI J,nI O,nI Y,nI Z,nI γ,nI δ,nI ε,nI θ,nI η,.slice a0 κ.length a1,nI ψ,.slice a2 μ.length a3,.slice a5 ν.length a7] 52 ?_;intro ζ hg ea hbox hb;have X:=aK hbox;have de:=sGe hg;have im:=sGe hg;replace HB:=sHb hb;clear hb hbox hg;have df:cI ea ζ 0 B:=(Qa X.out 0).trans rfl;have eg:cI ea ζ 1 J:=(Qa X.out 1).trans rfl;have ew:cI ea ζ 2 O:=(Qa X.out 2).trans rfl;have ga:cI ea ζ 3 Y:=(Qa X.out 3).trans rfl;have gb:cI ea ζ 4 Z:=(Qa X.out 4).trans rfl;have gw:cI ea ζ 5 γ:=(Qa X.out 5).trans rfl;have gz:cI ea ζ 6 δ :=(Qa X.out 6).trans rfl;have h0:cI ea ζ 7 ε :=(Qa X.out 7).trans rfl;have h4:cI ea ζ 8 θ :=(Qa X.out 8).trans rfl;have h5:cI ea ζ 9 η :=(Qa X.out 9).trans rfl;have gv:ea.cell? ⟨ζ,10,none⟩=some (.slice a0 κ.length a1):=(Qa X.out 10).trans rfl;have gx:cI ea ζ 11 ψ :=(Qa X.out 11).trans rfl;have hl:ea.cell? ⟨ζ,12,none⟩=some (.slice a2 μ.length a3):=(Qa X.out 12).trans rfl;have i1:ea.cell? ⟨ζ,13,none⟩=some (.slice a5 ν.length a7):=(Qa X.out 13).trans rfl;have ey:=Qg X.out 0;have fy:=Qg X.out 1;have fz:=Qg X.out 2;have h6:=Qg X.out 3;have h7:=Qg X.out 4;have h8:=Qg X.out 5;have i7:=Qg X.out 6;have i9:=Qg X.out 7;have it:=Qg X.out 8;have iu:=Qg X.out 9;have i2:=Qg X.out 10;have i3:=Qg X.out 11;have i5:=Qg X.out 12;have i6:=Qg X.out 13)|((with_reducible refine Qf (f:=13) rfl ?_);refine Q0 (some 7) rfl rfl Try.func13 kr rfl #[.agg #[nI B,nI J,nI O,nI Y,nI Z,nI γ,nI δ,nI ε,nI θ,nI η,.slice a0 κ.length a1,nI ψ,.slice a2 μ.length a3,.slice a5 ν.length a7]] rfl qM ?_;(with_reducible refine(newellaw21_few.calls B J O Y Z γ δ ε θ η _ _ κ ψ _ _ μ _ _ ν true _ ?side1 ?side2 ?side3 ?side4 ?side5 ?side6 A2.out).mono ?_);(case side1=>exact(Kd.Qw b2.out HB.out));(case side2=>exact b3.out);(case side3=>exact(Kd.Qw b6.out HB.out));(case side4=>exact b7.out);(case side5=>exact(Kd.Qw bj.out HB.out));(case side6=>exact bn.out);rintro e iz ⟨rfl,hb⟩;refine⟨_,rfl, ?_⟩;replace X:=sBk X hb;replace HB:=sHb hb;(try clear hb);(try clear a4);(try clear hk);(try clear hi)))
   replace X:=aK (Qd X.out)
   replace HB:=aK (Qj HB.out)
   refine Zg (n:=16) (S:=fun w'=>cI w' ζ 0 B∧cI w' ζ 1 J∧cI w' ζ 2 O∧cI w' ζ 3 Y∧cI w' ζ 4 Z∧cI w' ζ 5 γ∧cI w' ζ 6 δ ∧ cI w' ζ 7 ε ∧ cI w' ζ 8 θ ∧ cI w' ζ 9 η ∧ w'.cell? ⟨ζ,10,none⟩=some (.slice a0 κ.length a1)∧cI w' ζ 11 ψ ∧ w'.cell? ⟨ζ,12,none⟩=some (.slice a2 μ.length a3)∧w'.cell? ⟨ζ,13,none⟩=some (.slice a5 ν.length a7)) (ds:=[]) #[false,false,false,false,false,false,false,false,false,false,false,false,false,false,false,false] kr rfl rfl ⟨(Qa X.out 0).trans rfl,(Qa X.out 1).trans rfl,(Qa X.out 2).trans rfl,(Qa X.out 3).trans rfl,(Qa X.out 4).trans rfl,(Qa X.out 5).trans rfl,(Qa X.out 6).trans rfl,(Qa X.out 7).trans rfl,(Qa X.out 8).trans rfl,(Qa X.out 9).trans rfl,(Qa X.out 10).trans rfl,(Qa X.out 11).trans rfl,(Qa X.out 12).trans rfl,(Qa X.out 13).trans rfl⟩ (fun hHeld=>?_);refine Zb newellaw21_GroupSpreads.Dj newellaw21_GroupSpreads.Ml (fun HT_ HW_=>?_)
   generalize iz.drew=k6 at X HB hHeld ⊢
   refine qP 0 (some 11) (bN 16 1) HT_ ?_
   refine qP 2 (some 13) (bN 16 5) HT_ ?_
   refine qP 4 (some 15) (bN 16 21) HT_ ?_
   refine qP 6 (some 17) (bN 16 85) HT_ ?_
   refine qT 1 (some 12) (bN 16 87) HT_ HW_ hHeld ?_
   refine qT 3 (some 14) (bN 16 95) HT_ HW_ hHeld ?_
   refine qT 5 (some 16) (bN 16 127) HT_ HW_ hHeld ?_
   refine qT 7 (some 18) (bN 16 255) HT_ HW_ hHeld ?_
   refine Y1 (σ:=Value×Value×Value×Value×Nat) 2 (bN 16 16383) (fun s_=>[(19,.agg #[s_.1,s_.2.1]),(20,.tuple #[.agg #[s_.2.2.1,s_.2.2.2.1],nI b4]),(3,.pointer (some ⟨s_.2.2.2.2,0,none⟩)),(10,.tuple #[.agg #[s_.2.2.1,s_.2.2.2.1],nI b4]),(21,.agg #[s_.2.2.1,s_.2.2.2.1]),(22,nI b4)]) (fun s_ w'=>(cI w' ζ 0 B∧cI w' ζ 1 J∧cI w' ζ 2 O∧cI w' ζ 3 Y∧cI w' ζ 4 Z∧cI w' ζ 5 γ∧cI w' ζ 6 δ ∧ cI w' ζ 7 ε ∧ cI w' ζ 8 θ ∧ cI w' ζ 9 η ∧ w'.cell? ⟨ζ,10,none⟩=some (.slice a0 κ.length a1)∧cI w' ζ 11 ψ ∧ w'.cell? ⟨ζ,12,none⟩=some (.slice a2 μ.length a3)∧w'.cell? ⟨ζ,13,none⟩=some (.slice a5 ν.length a7))∧(Kd.R k36 36 w' w.heap.size (fun k_=>some k_≠(s_.2.2.1:Value).ownBlock) s_.1 al)∧(Kd.R k86 86 w' w.heap.size (fun k_=>some k_≠(s_.2.2.2.1:Value).ownBlock) s_.2.1 am)∧(Kd.R k36 36 w' w.heap.size (fun k_=>some k_≠(s_.1:Value).ownBlock) s_.2.2.1 af)∧(Kd.R k86 86 w' w.heap.size (fun k_=>some k_≠(s_.2.1:Value).ownBlock) s_.2.2.2.1 ag)∧(w'.heap[ζ]?=some (.cells #[nI B,nI J,nI O,nI Y,nI Z,nI γ,nI δ,nI ε,nI θ,nI η,.slice a0 κ.length a1,nI ψ,.slice a2 μ.length a3,.slice a5 ν.length a7] 52 (0,0)))∧(w'.heap[s_.2.2.2.2]?=some (.cells #[.slice none 0 0,.slice none 0 0] 50 (0,0)))∧(w.heap.size≤s_.2.2.2.2)∧(w.heap.size≤s_.2.2.2.2)∧(ζ ≠ s_.2.2.2.2)∧(s_.2.2.2.2 ≠ ζ)∧(Below w.heap.size w w')) ?_ ?_
   rotate_left
   ·intro hCont
    refine K4 (i:=8) (j:=13) (Ni:=some 19) (Nj:=some 3) (bN 16 511) (bN 16 8447) rfl rfl rfl rfl (Yg HT_.out kr) (by decide) (by decide) (fun K hK=>?_) (fun K hK=>?_)
    ·skip
     refine Zd Try.func15 kr rfl #[.agg #[.slice a2 μ.length a3,.slice a5 ν.length a7]] (by rfl) rfl rfl qM ?_
     with_reducible refine(newellaw19_Own.calls _ _ μ _ _ ν al am _ ?side1 ?side2 ?side3 ?side4 A4.out).mono ?_
     (case side1=>exact(Kd.Qw b6.out HB.out))
     (case side2=>exact b7.out)
     (case side3=>exact(Kd.Qw bj.out HB.out))
     (case side4=>exact bn.out)
     rintro e gy ⟨cg,ct,rfl,ai,aj,hb⟩
     refine⟨_,rfl, ?_⟩
     have ξ :=aK (Kd.Za ai (Qm HB.out))
     have ρ:=aK (Kd.Za aj (Qm HB.out))
     replace X:=sBk X hb
     replace HB:=sHb hb
     (try clear hb)
     (try clear a4)
     (try clear hk)
     (try clear hi)
     (try clear ai)
     (try clear aj)
     obtain⟨fv,gi,gj⟩:=Kd.Q7 ξ.out
     (first|subst gj|(injection gj with a9 ao aa;have ap:=a9.symm;have ar:=aa.symm;clear a9 ao aa;subst ap;subst ar))
     obtain⟨dd,fk,f8⟩:=Kd.Q7 ρ.out
     (first|subst f8|(injection f8 with a9 ao aa;have ap:=a9.symm;have ar:=aa.symm;clear a9 ao aa;subst ap;subst ar))
     refine hK.out _ _ ⟨qc X,qc X,qc X,qc X,qc X,qc X,qc X,qc X,qc X,qc X,qc X,qc X,qc X,qc X⟩ (fun hHeld=>?_)
     clear hK K
     refine qN (some 19) ?_
     refine K4 (i:=9) (j:=13) (Ni:=some 20) (Nj:=some 3) (bN 16 1023) (bN 16 8703) rfl rfl rfl rfl (Yg HT_.out kr) (by decide) (by decide) (fun K hK=>?_) (fun K hK=>?_)
     ·skip
      refine Zd Try.func21 kr rfl #[.agg #[nI B,nI J,nI O,nI Y,nI Z,nI γ,nI δ,nI ε,nI θ,nI η],.slice a0 κ.length a1,nI ψ,.agg #[.slice fv al.length gi,.slice dd am.length fk]] (by rfl) rfl rfl qM ?_
      with_reducible refine(group_Spread.calls k B J O Y Z γ δ ε θ η _ _ κ ψ _ _ al _ _ am af ag b4 _ ?side1 ?side2 ?side3 ?side4 ?side5 ?side6 A5.out).mono ?_
      (case side1=>exact(Kd.Qw b2.out HB.out))
      (case side2=>exact b3.out)
      (case side3=>exact(Kd.Qt ξ.out).2.2)
      (case side4=>exact(Kd.Qt ξ.out).2.1)
      (case side5=>exact(Kd.Qt ρ.out).2.2)
      (case side6=>exact(Kd.Qt ρ.out).2.1)
      rintro e ko ⟨bp,bw,rfl,ai,aj,hb⟩
      refine⟨_,rfl, ?_⟩
      have a8:=aK (Kd.Za (Kd.Yw ai (Kd.X6 ξ.out)) (Qm HB.out))
      have ab:=aK (Kd.Za (Kd.Yw aj (Kd.X6 ρ.out)) (Qm HB.out))
      replace ξ :=aK (Kd.Xq ξ.out (Kd.Zx ai) hb)
      replace ρ:=aK (Kd.Xq ρ.out (Kd.Zx aj) hb)
      replace X:=sBk X hb
      replace HB:=sHb hb
      (try clear hb)
      (try clear a4)
      (try clear hk)
      (try clear hi)
      (try clear ai)
      (try clear aj)
      refine hK.out _ _ ⟨qc X,qc X,qc X,qc X,qc X,qc X,qc X,qc X,qc X,qc X,qc X,qc X,qc X,qc X⟩ (fun hHeld=>?_)
      clear hK K
      refine qN (some 20) ?_
      refine qP 10 (some 10) (bN 16 2047) HT_ ?_
      refine qP 11 (some 21) (bN 16 4095) HT_ ?_
      refine qP 12 (some 22) (bN 16 8191) HT_ ?_
      refine qK 13 (some 3) (bN 16 16383) HT_ fun K hK=>?_
      refine Xf ?hg (N:=3) ?hd (cs:=#[.slice none 0 0,.slice none 0 0]) (t:=50) ?hr ?_;(case hd=>rfl);(case hg=>rfl);(case hr=>go_simp <;> rfl)
      intro ac hg j7 hbox hb
      have τ :=aK hbox
      have b0:=sGe hg
      have bz:=sGe hg
      have ι :=sNl X hg
      have ae:=sNg X hg
      replace ξ :=sRb ξ hb
      replace ρ:=sRb ρ hb
      replace a8:=sRb a8 hb
      replace ab:=sRb ab hb
      replace X:=sBk X hb
      replace HB:=sHb hb
      clear hb hbox hg
      refine hK.out _ _ ⟨qc X,qc X,qc X,qc X,qc X,qc X,qc X,qc X,qc X,qc X,qc X,qc X,qc X,qc X⟩ (fun hHeld=>?_)
      clear hK K
      refine qN (some 3) ?_
      exact Zv (by simp only[Zc,Act.put,qS]) (hCont (.slice fv al.length gi,.slice dd am.length fk,bp,bw,ac) _ ⟨hHeld,(by(with_reducible repeat first|apply Kd.Qs|apply Kd.Qr|apply Kd.Qu);exact Kd.Qv ξ.out (fun _ hk=>hk.2)),(by(with_reducible repeat first|apply Kd.Qs|apply Kd.Qr|apply Kd.Qu);exact Kd.Qv ρ.out (fun _ hk=>hk.2)),(by(with_reducible repeat first|apply Kd.Qs|apply Kd.Qr|apply Kd.Qu);exact Kd.Qv a8.out (fun _ hk=>hk.2)),(by(with_reducible repeat first|apply Kd.Qs|apply Kd.Qr|apply Kd.Qu);exact Kd.Qv ab.out (fun _ hk=>hk.2)),X.out,τ.out,b0.out,bz.out,ι.out,ae.out,HB.out⟩)
     ·skip
      refine Xf ?hg (N:=3) ?hd (cs:=#[.slice none 0 0,.slice none 0 0]) (t:=50) ?hr ?_;(case hd=>rfl);(case hg=>rfl);(case hr=>go_simp <;> rfl)
      intro ac hg j3 hbox hb
      have τ :=aK hbox
      have b0:=sGe hg
      have bz:=sGe hg
      have ι :=sNl X hg
      have ae:=sNg X hg
      replace ξ :=sRb ξ hb
      replace ρ:=sRb ρ hb
      replace X:=sBk X hb
      replace HB:=sHb hb
      clear hb hbox hg
      obtain⟨dd,fk,f8⟩:=Kd.Q7 ξ.out
      (first|subst f8|(injection f8 with a9 ao aa;have ap:=a9.symm;have ar:=aa.symm;clear a9 ao aa;subst ap;subst ar))
      obtain⟨en,eo,ep⟩:=Kd.Q7 ρ.out
      (first|subst ep|(injection ep with a9 ao aa;have ap:=a9.symm;have ar:=aa.symm;clear a9 ao aa;subst ap;subst ar))
      refine hK.out _ _ ⟨qc X,qc X,qc X,qc X,qc X,qc X,qc X,qc X,qc X,qc X,qc X,qc X,qc X,qc X⟩ (fun hHeld=>?_)
      clear hK K
      refine qN (some 3) ?_
      refine qK 9 (some 20) (bN 16 9215) HT_ fun K hK=>?_
      refine Zd Try.func21 kr rfl #[.agg #[nI B,nI J,nI O,nI Y,nI Z,nI γ,nI δ,nI ε,nI θ,nI η],.slice a0 κ.length a1,nI ψ,.agg #[.slice dd al.length fk,.slice en am.length eo]] (by rfl) rfl rfl qM ?_
      with_reducible refine(group_Spread.calls k B J O Y Z γ δ ε θ η _ _ κ ψ _ _ al _ _ am af ag b4 _ ?side1 ?side2 ?side3 ?side4 ?side5 ?side6 A5.out).mono ?_
      (case side1=>exact(Kd.Qw b2.out HB.out))
      (case side2=>exact b3.out)
      (case side3=>exact(Kd.Qt ξ.out).2.2)
      (case side4=>exact(Kd.Qt ξ.out).2.1)
      (case side5=>exact(Kd.Qt ρ.out).2.2)
      (case side6=>exact(Kd.Qt ρ.out).2.1)
      rintro e j7 ⟨bp,bw,rfl,ai,aj,hb⟩
      refine⟨_,rfl, ?_⟩
      have a8:=aK (Kd.Za (Kd.Yw ai (Kd.X6 ξ.out)) (Qm HB.out))
      have ab:=aK (Kd.Za (Kd.Yw aj (Kd.X6 ρ.out)) (Qm HB.out))
      replace ξ :=aK (Kd.Xq ξ.out (Kd.Zx ai) hb)
      replace ρ:=aK (Kd.Xq ρ.out (Kd.Zx aj) hb)
      replace X:=sBk X hb
      replace τ :=sBk τ hb
      replace HB:=sHb hb
      (try clear hb)
      (try clear a4)
      (try clear hk)
      (try clear hi)
      (try clear ai)
      (try clear aj)
      refine hK.out _ _ ⟨qc X,qc X,qc X,qc X,qc X,qc X,qc X,qc X,qc X,qc X,qc X,qc X,qc X,qc X⟩ (fun hHeld=>?_)
      clear hK K
      refine qN (some 20) ?_
      refine qP 10 (some 10) (bN 16 10239) HT_ ?_
      refine qP 11 (some 21) (bN 16 12287) HT_ ?_
      refine qP 12 (some 22) (bN 16 16383) HT_ ?_
      exact Zv (by simp only[Zc,Act.put,qS]) (hCont (.slice dd al.length fk,.slice en am.length eo,bp,bw,ac) _ ⟨hHeld,(by(with_reducible repeat first|apply Kd.Qs|apply Kd.Qr|apply Kd.Qu);exact Kd.Qv ξ.out (fun _ hk=>hk.2)),(by(with_reducible repeat first|apply Kd.Qs|apply Kd.Qr|apply Kd.Qu);exact Kd.Qv ρ.out (fun _ hk=>hk.2)),(by(with_reducible repeat first|apply Kd.Qs|apply Kd.Qr|apply Kd.Qu);exact Kd.Qv a8.out (fun _ hk=>hk.2)),(by(with_reducible repeat first|apply Kd.Qs|apply Kd.Qr|apply Kd.Qu);exact Kd.Qv ab.out (fun _ hk=>hk.2)),X.out,τ.out,b0.out,bz.out,ι.out,ae.out,HB.out⟩)
    ·skip
     refine Xf ?hg (N:=3) ?hd (cs:=#[.slice none 0 0,.slice none 0 0]) (t:=50) ?hr ?_;(case hd=>rfl);(case hg=>rfl);(case hr=>go_simp <;> rfl)
     intro ac hg gy hbox hb
     have τ :=aK hbox
     have b0:=sGe hg
     have bz:=sGe hg
     have ι :=sNl X hg
     have ae:=sNg X hg
     replace X:=sBk X hb
     replace HB:=sHb hb
     clear hb hbox hg
     refine hK.out _ _ ⟨qc X,qc X,qc X,qc X,qc X,qc X,qc X,qc X,qc X,qc X,qc X,qc X,qc X,qc X⟩ (fun hHeld=>?_)
     clear hK K
     refine qN (some 3) ?_
     refine qK 8 (some 19) (bN 16 8703) HT_ fun K hK=>?_
     refine Zd Try.func15 kr rfl #[.agg #[.slice a2 μ.length a3,.slice a5 ν.length a7]] (by rfl) rfl rfl qM ?_
     with_reducible refine(newellaw19_Own.calls _ _ μ _ _ ν al am _ ?side1 ?side2 ?side3 ?side4 A4.out).mono ?_
     (case side1=>exact(Kd.Qw b6.out HB.out))
     (case side2=>exact b7.out)
     (case side3=>exact(Kd.Qw bj.out HB.out))
     (case side4=>exact bn.out)
     rintro e j3 ⟨cg,ct,rfl,ai,aj,hb⟩
     refine⟨_,rfl, ?_⟩
     have ξ :=aK (Kd.Za ai (Qm HB.out))
     have ρ:=aK (Kd.Za aj (Qm HB.out))
     replace X:=sBk X hb
     replace τ :=sBk τ hb
     replace HB:=sHb hb
     (try clear hb)
     (try clear a4)
     (try clear hk)
     (try clear hi)
     (try clear ai)
     (try clear aj)
     obtain⟨dd,fk,f8⟩:=Kd.Q7 ξ.out
     (first|subst f8|(injection f8 with a9 ao aa;have ap:=a9.symm;have ar:=aa.symm;clear a9 ao aa;subst ap;subst ar))
     obtain⟨en,eo,ep⟩:=Kd.Q7 ρ.out
     (first|subst ep|(injection ep with a9 ao aa;have ap:=a9.symm;have ar:=aa.symm;clear a9 ao aa;subst ap;subst ar))
     refine hK.out _ _ ⟨qc X,qc X,qc X,qc X,qc X,qc X,qc X,qc X,qc X,qc X,qc X,qc X,qc X,qc X⟩ (fun hHeld=>?_)
     clear hK K
     refine qN (some 19) ?_
     refine qK 9 (some 20) (bN 16 9215) HT_ fun K hK=>?_
     refine Zd Try.func21 kr rfl #[.agg #[nI B,nI J,nI O,nI Y,nI Z,nI γ,nI δ,nI ε,nI θ,nI η],.slice a0 κ.length a1,nI ψ,.agg #[.slice dd al.length fk,.slice en am.length eo]] (by rfl) rfl rfl qM ?_
     with_reducible refine(group_Spread.calls k B J O Y Z γ δ ε θ η _ _ κ ψ _ _ al _ _ am af ag b4 _ ?side1 ?side2 ?side3 ?side4 ?side5 ?side6 A5.out).mono ?_
     (case side1=>exact(Kd.Qw b2.out HB.out))
     (case side2=>exact b3.out)
     (case side3=>exact(Kd.Qt ξ.out).2.2)
     (case side4=>exact(Kd.Qt ξ.out).2.1)
     (case side5=>exact(Kd.Qt ρ.out).2.2)
     (case side6=>exact(Kd.Qt ρ.out).2.1)
     rintro e j7 ⟨bp,bw,rfl,ai,aj,hb⟩
     refine⟨_,rfl, ?_⟩
     have a8:=aK (Kd.Za (Kd.Yw ai (Kd.X6 ξ.out)) (Qm HB.out))
     have ab:=aK (Kd.Za (Kd.Yw aj (Kd.X6 ρ.out)) (Qm HB.out))
     replace ξ :=aK (Kd.Xq ξ.out (Kd.Zx ai) hb)
     replace ρ:=aK (Kd.Xq ρ.out (Kd.Zx aj) hb)
     replace X:=sBk X hb
     replace τ :=sBk τ hb
     replace HB:=sHb hb
     (try clear hb)
     (try clear a4)
     (try clear hk)
     (try clear hi)
     (try clear ai)
     (try clear aj)
     refine hK.out _ _ ⟨qc X,qc X,qc X,qc X,qc X,qc X,qc X,qc X,qc X,qc X,qc X,qc X,qc X,qc X⟩ (fun hHeld=>?_)
     clear hK K
     refine qN (some 20) ?_
     refine qP 10 (some 10) (bN 16 10239) HT_ ?_
     refine qP 11 (some 21) (bN 16 12287) HT_ ?_
     refine qP 12 (some 22) (bN 16 16383) HT_ ?_
     exact Zv (by simp only[Zc,Act.put,qS]) (hCont (.slice dd al.length fk,.slice en am.length eo,bp,bw,ac) _ ⟨hHeld,(by(with_reducible repeat first|apply Kd.Qs|apply Kd.Qr|apply Kd.Qu);exact Kd.Qv ξ.out (fun _ hk=>hk.2)),(by(with_reducible repeat first|apply Kd.Qs|apply Kd.Qr|apply Kd.Qu);exact Kd.Qv ρ.out (fun _ hk=>hk.2)),(by(with_reducible repeat first|apply Kd.Qs|apply Kd.Qr|apply Kd.Qu);exact Kd.Qv a8.out (fun _ hk=>hk.2)),(by(with_reducible repeat first|apply Kd.Qs|apply Kd.Qr|apply Kd.Qu);exact Kd.Qv ab.out (fun _ hk=>hk.2)),X.out,τ.out,b0.out,bz.out,ι.out,ae.out,HB.out⟩)
   rintro⟨cg,ct,bp,bw,ac⟩ ak ⟨hS_,b8,b9,ba,bb,bc,bu,cw,cx,cy,cz,bq⟩
   have φ :Aside0 (Kd.R k36 36 ak w.heap.size (fun k_=>some k_≠(bp:Value).ownBlock) cg al):=⟨b8⟩
   have χ :Aside0 (Kd.R k86 86 ak w.heap.size (fun k_=>some k_≠(bw:Value).ownBlock) ct am):=⟨b9⟩
   have ω :Aside0 (Kd.R k36 36 ak w.heap.size (fun k_=>some k_≠(cg:Value).ownBlock) bp af):=⟨ba⟩
   have a6:Aside0 (Kd.R k86 86 ak w.heap.size (fun k_=>some k_≠(ct:Value).ownBlock) bw ag):=⟨bb⟩
   have ah:Aside0 (ak.heap[ζ]?=some (.cells #[nI B,nI J,nI O,nI Y,nI Z,nI γ,nI δ,nI ε,nI θ,nI η,.slice a0 κ.length a1,nI ψ,.slice a2 μ.length a3,.slice a5 ν.length a7] 52 (0,0))):=⟨bc⟩
   have az:Aside0 (ak.heap[ac]?=some (.cells #[.slice none 0 0,.slice none 0 0] 50 (0,0))):=⟨bu⟩
   have b1:Aside0 (w.heap.size≤ac):=⟨cw⟩
   have be:Aside0 (w.heap.size≤ac):=⟨cx⟩
   have bl:Aside0 (ζ ≠ ac):=⟨cy⟩
   have ca:Aside0 (ac ≠ ζ):=⟨cz⟩
   have br:Aside0 (Below w.heap.size w ak):=⟨bq⟩
   clear X
   clear HB
   clear b8 b9 ba bb bc bu cw cx cy cz bq
   have ξ := φ
   have ρ:= χ
   have a8:= ω
   have ab:=a6
   have X:=ah
   have τ :=az
   have b0:=b1
   have bz:=be
   have ι :=bl
   have ae:=ca
   have HB:=br
   clear φ χ ω a6 ah az b1 be bl ca br
   have hHeld:cI ak ζ 0 B∧cI ak ζ 1 J∧cI ak ζ 2 O∧cI ak ζ 3 Y∧cI ak ζ 4 Z∧cI ak ζ 5 γ∧cI ak ζ 6 δ ∧ cI ak ζ 7 ε ∧ cI ak ζ 8 θ ∧ cI ak ζ 9 η ∧ ak.cell? ⟨ζ,10,none⟩=some (.slice a0 κ.length a1)∧cI ak ζ 11 ψ ∧ ak.cell? ⟨ζ,12,none⟩=some (.slice a2 μ.length a3)∧ak.cell? ⟨ζ,13,none⟩=some (.slice a5 ν.length a7):=hS_
   obtain⟨ed,bo,ev⟩:=Kd.Q7 a8.out
   (first|subst ev|(injection ev with a9 ao aa;have ap:=a9.symm;have ar:=aa.symm;clear a9 ao aa;subst ap;subst ar))
   obtain⟨ff,fg,ja⟩:=Kd.Q7 ab.out
   (first|subst ja|(injection ja with a9 ao aa;have ap:=a9.symm;have ar:=aa.symm;clear a9 ao aa;subst ap;subst ar))
   refine Zv (a':=?_) ?_ ?_
   rotate_left
   ·simp only[Zc,Act.put,qS]
    rfl
   refine qK 14 (none) (bN 16 32767) HT_ fun K hK=>?_
   have kk:ak.cell? ⟨ac,0,none⟩=some (.slice none 0 0):=(Qa τ.out 0).trans rfl
   have ke:=Qg τ.out 0
   have k2:= ι.out
   have k3:=ae.out
   have kl:ak.cell? ⟨ac,1,none⟩=some (.slice none 0 0):=(Qa τ.out 1).trans rfl
   have kf:=Qg τ.out 1
   have k4:= ι.out
   have k5:=ae.out
   refine K9 (w1:=?_) (by rfl) rfl ?_ ?_
   rotate_left
   ·go_simp
    rfl
   refine hK.out _ _ ⟨(cF ι ((cF ι (hHeld.1)))),(cF ι ((cF ι (hHeld.2.1)))),(cF ι ((cF ι (hHeld.2.2.1)))),(cF ι ((cF ι (hHeld.2.2.2.1)))),(cF ι ((cF ι (hHeld.2.2.2.2.1)))),(cF ι ((cF ι (hHeld.2.2.2.2.2.1)))),(cF ι ((cF ι (hHeld.2.2.2.2.2.2.1)))),(cF ι ((cF ι (hHeld.2.2.2.2.2.2.2.1)))),(cF ι ((cF ι (hHeld.2.2.2.2.2.2.2.2.1)))),(cF ι ((cF ι (hHeld.2.2.2.2.2.2.2.2.2.1)))),(cF ι ((cF ι (hHeld.2.2.2.2.2.2.2.2.2.2.1)))),(cF ι ((cF ι (hHeld.2.2.2.2.2.2.2.2.2.2.2.1)))),(cF ι ((cF ι (hHeld.2.2.2.2.2.2.2.2.2.2.2.2.1)))),(cF ι ((cF ι (hHeld.2.2.2.2.2.2.2.2.2.2.2.2.2))))⟩ (fun hHeld=>?_)
   clear hK K
   refine qP 15 (some 4) (bN 16 65535) HT_ ?_
   refine Zl (Ze HT_.out kr) ?_
   have iv:= ι.out
   have iw:=ae.out
   have dh:cI ak ζ 0 B:=(Qa X.out 0).trans rfl
   have di:cI ak ζ 1 J:=(Qa X.out 1).trans rfl
   have ez:cI ak ζ 2 O:=(Qa X.out 2).trans rfl
   have fb:cI ak ζ 3 Y:=(Qa X.out 3).trans rfl
   have gg:cI ak ζ 4 Z:=(Qa X.out 4).trans rfl
   have gh:cI ak ζ 5 γ:=(Qa X.out 5).trans rfl
   have h9:cI ak ζ 6 δ :=(Qa X.out 6).trans rfl
   have io:cI ak ζ 7 ε :=(Qa X.out 7).trans rfl
   have ip:cI ak ζ 8 θ :=(Qa X.out 8).trans rfl
   have iq:cI ak ζ 9 η :=(Qa X.out 9).trans rfl
   have ic:ak.cell? ⟨ζ,10,none⟩=some (.slice a0 κ.length a1):=(Qa X.out 10).trans rfl
   have ie:cI ak ζ 11 ψ :=(Qa X.out 11).trans rfl
   have ig:ak.cell? ⟨ζ,12,none⟩=some (.slice a2 μ.length a3):=(Qa X.out 12).trans rfl
   have ih:ak.cell? ⟨ζ,13,none⟩=some (.slice a5 ν.length a7):=(Qa X.out 13).trans rfl
   have ec:=Qg X.out 0
   have ee:=Qg X.out 1
   have f7:=Qg X.out 2
   have ha:=Qg X.out 3
   have lu:=Qg X.out 4
   have lv:=Qg X.out 5
   have lw:=Qg X.out 6
   have ir:=Qg X.out 7
   have ix:=Qg X.out 8
   have iy:=Qg X.out 9
   have ii:=Qg X.out 10
   have ij:=Qg X.out 11
   have ik:=Qg X.out 12
   have il:=Qg X.out 13
   go_upto_region 6 with(first|((with_reducible refine Qf (f:=16) rfl ?_);refine Q0 (some 29) rfl rfl Try.func16 kr rfl #[.agg #[nI B,nI J,nI O,nI Y,nI Z,nI γ,nI δ,nI ε,nI θ,nI η],.slice a0 κ.length a1,.agg #[.slice a2 μ.length a3,.slice a5 ν.length a7]] rfl qM ?_;(with_reducible refine(newelref21_Check.calls k B J O Y Z γ δ ε θ η _ _ κ _ _ μ _ _ ν ay _ ?side1 ?side2 ?side3 ?side4 ?side5 ?side6 A6.out).mono ?_);(case side1=>exact Kd.Qw b2.out bel);(case side2=>exact b3.out);(case side3=>exact Kd.Qw b6.out bel);(case side4=>exact b7.out);(case side5=>exact Kd.Qw bj.out bel);(case side6=>exact bn.out);rintro e mz ⟨rfl,hb⟩;refine⟨_,rfl, ?_⟩;replace ξ :=aK (Kd.Zn (by(with_reducible repeat first|apply Kd.Qs|apply Kd.Qr|apply Kd.Qu);exact(Kd.Qv (Kd.Qx (Kd.Qx (Kd.Q4 ξ.out τ.out (by decide)) (fun _ hk=>hk.2) _) (fun _ hk=>hk.2) _) (fun _ h_=>h_.1))) hb);replace ρ:=aK (Kd.Zn (by(with_reducible repeat first|apply Kd.Qs|apply Kd.Qr|apply Kd.Qu);exact(Kd.Qv (Kd.Qx (Kd.Qx (Kd.Q4 ρ.out τ.out (by decide)) (fun _ hk=>hk.2) _) (fun _ hk=>hk.2) _) (fun _ h_=>h_.1))) hb);replace a8:=aK (Kd.Zn (by(with_reducible repeat first|apply Kd.Qs|apply Kd.Qr|apply Kd.Qu);exact(Kd.Qv (Kd.Qx (Kd.Qx (Kd.Q4 a8.out τ.out (by decide)) (fun _ hk=>hk.2) _) (fun _ hk=>hk.2) _) (fun _ h_=>h_.1))) hb);replace ab:=aK (Kd.Zn (by(with_reducible repeat first|apply Kd.Qs|apply Kd.Qr|apply Kd.Qu);exact(Kd.Qv (Kd.Qx (Kd.Qx (Kd.Q4 ab.out τ.out (by decide)) (fun _ hk=>hk.2) _) (fun _ hk=>hk.2) _) (fun _ h_=>h_.1))) hb);replace X:=sBk X hb;replace τ :=aK (Q1 (g:=ac) (o:=.cells #[.slice ed af.length bo,.slice ff ag.length fg] 50 (0,0)) (by(with_reducible repeat first|refine Qi ?_ _|refine Qd ?_|refine Qh ?_ _);refine Qo (cs:=#[.slice ed af.length bo,.slice none 0 0]) ?_ 1 _ rfl;(with_reducible repeat first|refine Qi ?_ _|refine Qd ?_|refine Qh ?_ _);refine Qo (cs:=#[.slice none 0 0,.slice none 0 0]) ?_ 0 _ rfl;(with_reducible repeat first|refine Qi ?_ _|refine Qd ?_|refine Qh ?_ _);exact τ.out) hb);replace HB:=sHb hb;(try clear hb);(try clear a4);(try clear hk);(try clear hi)))
   (try simp only[Act.put,qS])
   go_cut [2] (fun v2 wc=>∃ (kq:Nat) (fh:Bool),v2 = .bool fh∧Aside0 (newellaw21_GroupSpreads.j0 kq fh=some r)∧Aside0 (kq≤k)∧Aside0 (Kd.R k36 36 wc w.heap.size (fun _=>True) (.slice ed af.length bo) af)∧Aside0 (Kd.R k86 86 wc w.heap.size (fun _=>True) (.slice ff ag.length fg) ag)∧Aside0 (wc.heap[ζ]?=some (.cells #[nI B,nI J,nI O,nI Y,nI Z,nI γ,nI δ,nI ε,nI θ,nI η,(.slice a0 κ.length a1),nI ψ,(.slice a2 μ.length a3),(.slice a5 ν.length a7)] 52 (0,0)))∧Aside0 (wc.heap[ac]?=some (.cells #[(.slice ed af.length bo),(.slice ff ag.length fg)] 50 (0,0)))∧Aside0 (Below w.heap.size w wc))
   case first=>
    have H:=gu.out
    clear gu
    obtain⟨d4,k8,H⟩:=qQ H
    by_cases ce:d4=true
    ·subst ce
     rw[if_pos rfl] at H
     by_cases cn:b4=ay
     ·rw[if_pos cn] at H
      have c57b0:(b4==ay)=true:=beq_iff_eq.mpr cn
      have c57b1:(b4 != ay)=false:=bne_eq_false_iff_eq.mpr cn
      clear cn
      (first|rw[c57b0]|(simp only[Zy,Z8];rw[c57b0])|skip)
      obtain⟨cu,k9,H⟩:=qQ H
      have H':=aK H
      clear H
      go_wp2_with (first|((with_reducible refine Qf (f:=9) rfl ?_);refine Q0 (some 32) rfl rfl Try.func9 kr rfl #[] rfl qM ?_;(with_reducible refine(newellaw21_awake.calls k  true _ k8.out).mono ?_);rintro e mq ⟨rfl,hb⟩;refine⟨_,rfl, ?_⟩;replace ξ :=sRb ξ hb;replace ρ:=sRb ρ hb;replace a8:=sRb a8 hb;replace ab:=sRb ab hb;replace X:=sBk X hb;replace τ :=sBk τ hb;replace HB:=sHb hb;(try clear hb);(try clear a4);(try clear hk);(try clear hi);have i4:=ae.out;have ia:= ι.out;obtain⟨j4,j5,j6,ji⟩:=qD2 τ.out)|(go_at_call 22;(refine(newelref19_Same.calls k _ _ af _ _ ag _ _ ([]:List (S36)) _ _ ([]:List (S86)) cu _ ?side1 ?side2 ?side3 ?side4 ?side5 ?side6 ?side7 ?side8 k9.out).mono ?_);(case side1=>exact(Kd.Qt a8.out).2.2);(case side2=>exact(Kd.Qt a8.out).2.1);(case side3=>exact(Kd.Qt ab.out).2.2);(case side4=>exact(Kd.Qt ab.out).2.1);(case side5=>exact Kd.Jl _ _);(case side6=>exact Nat.le_refl _);(case side7=>exact Kd.Jl _ _);(case side8=>exact Nat.le_refl _);rintro e jk ⟨rfl,hb⟩;have φ :=aK (Kd.Zn ξ.out hb);have χ :=aK (Kd.Zn ρ.out hb);have ω :=aK (Kd.Zn a8.out hb);have a6:=aK (Kd.Zn ab.out hb);have ah:=aK (Q1 (g:= ζ) (o:=.cells #[nI B,nI J,nI O,nI Y,nI Z,nI γ,nI δ,nI ε,nI θ,nI η,.slice a0 κ.length a1,nI ψ,.slice a2 μ.length a3,.slice a5 ν.length a7] 52 (0,0)) X.out hb);have az:=aK (Q1 (g:=ac) (o:=.cells #[.slice ed af.length bo,.slice ff ag.length fg] 50 (0,0)) τ.out hb);have b1:=aK (Q6 HB.out hb);clear ξ;clear ρ;clear a8;clear ab;clear X;clear τ;clear HB;have ξ := φ;have ρ:= χ;have a8:= ω;have ab:=a6;have X:=ah;have τ :=az;have HB:=b1;clear φ χ ω a6 ah az b1;(try clear hb);(try clear a4);(try clear hk);(try clear hi)))
      go_meet
      case rel=>exact⟨_,(cu),rfl,H',⟨by first|omega|exact Nat.le_refl _⟩,⟨by(with_reducible repeat first|apply Kd.Qs|apply Kd.Qr|apply Kd.Qu);exact Kd.Qv a8.out (fun _ hk=>trivial)⟩,⟨by(with_reducible repeat first|apply Kd.Qs|apply Kd.Qr|apply Kd.Qu);exact Kd.Qv ab.out (fun _ hk=>trivial)⟩,X,τ,HB⟩
     ·rw[if_neg cn] at H
      exact absurd H (by simp)
    ·replace ce:=Bool.eq_false_iff.mpr ce
     subst ce
     rw[if_neg nft] at H
     exact absurd H (by simp)
   case rest=>
    clear gu
    try clear df
    try clear eg
    try clear gv
    try clear gx
    try clear hl
    try clear i1
    try clear ew
    try clear ga
    try clear gb
    try clear gw
    try clear gz
    try clear h0
    try clear h4
    try clear h5
    try clear dh
    try clear di
    try clear ic
    try clear ie
    try clear ig
    try clear ih
    try clear ez
    try clear fb
    try clear gg
    try clear gh
    try clear h9
    try clear io
    try clear ip
    try clear iq
    try clear ey
    try clear fy
    try clear i2
    try clear i3
    try clear i5
    try clear i6
    try clear fz
    try clear h6
    try clear h7
    try clear h8
    try clear i7
    try clear i9
    try clear it
    try clear iu
    try clear ec
    try clear ee
    try clear ii
    try clear ij
    try clear ik
    try clear il
    try clear f7
    try clear ha
    try clear lu
    try clear lv
    try clear lw
    try clear ir
    try clear ix
    try clear iy
    obtain⟨kq,fh,rfl,HA,km,fi,fj,X,τ,HB⟩:=hcut
    cases kq with
    |zero=>exact absurd HA.out (by simp[newellaw21_GroupSpreads.j0])
    |succ kn=>
     have H:=HA.out
     clear HA
     simp only[newellaw21_GroupSpreads.j0] at H
     obtain rfl:=qJ H
     go_wp2
     go_ret
     exact⟨rfl,HB.out⟩
 ·replace c3:=Bool.eq_false_iff.mpr c3
  subst c3
  rw[if_neg nft] at H
  obtain⟨dz,kb,H⟩:=qQ H
  obtain rfl:=qJ H
  go_enter Try.func5,Try.ntmps5
  go_wp2_with (first|((with_reducible refine Qe (N:=1) rfl ?_);refine qE 1 #[nI B,nI J,nI O,nI Y,nI Z,nI γ,nI δ,nI ε,nI θ,nI η,.slice a0 κ.length a1,nI ψ,.slice a2 μ.length a3,.slice a5 ν.length a7] 52 ?_;intro ζ hg w64 hbox hb;have X:=aK hbox;have de:=sGe hg;have im:=sGe hg;replace HB:=sHb hb;clear hb hbox hg;have ek:cI w64 ζ 0 B:=(Qa X.out 0).trans rfl;have el:cI w64 ζ 1 J:=(Qa X.out 1).trans rfl;have lx:cI w64 ζ 2 O:=(Qa X.out 2).trans rfl;have ly:cI w64 ζ 3 Y:=(Qa X.out 3).trans rfl;have lz:cI w64 ζ 4 Z:=(Qa X.out 4).trans rfl;have m0:cI w64 ζ 5 γ:=(Qa X.out 5).trans rfl;have m1:cI w64 ζ 6 δ :=(Qa X.out 6).trans rfl;have mc:cI w64 ζ 7 ε :=(Qa X.out 7).trans rfl;have me:cI w64 ζ 8 θ :=(Qa X.out 8).trans rfl;have mf:cI w64 ζ 9 η :=(Qa X.out 9).trans rfl;have jp:w64.cell? ⟨ζ,10,none⟩=some (.slice a0 κ.length a1):=(Qa X.out 10).trans rfl;have jq:cI w64 ζ 11 ψ :=(Qa X.out 11).trans rfl;have jr:w64.cell? ⟨ζ,12,none⟩=some (.slice a2 μ.length a3):=(Qa X.out 12).trans rfl;have js:w64.cell? ⟨ζ,13,none⟩=some (.slice a5 ν.length a7):=(Qa X.out 13).trans rfl;have he:=Qg X.out 0;have hh:=Qg X.out 1;have m2:=Qg X.out 2;have m3:=Qg X.out 3;have m4:=Qg X.out 4;have m5:=Qg X.out 5;have m6:=Qg X.out 6;have ms:=Qg X.out 7;have mt:=Qg X.out 8;have mu:=Qg X.out 9;have jt:=Qg X.out 10;have ju:=Qg X.out 11;have jv:=Qg X.out 12;have jw:=Qg X.out 13)|((with_reducible refine Qf (f:=13) rfl ?_);refine Q0 (some 7) rfl rfl Try.func13 kr rfl #[.agg #[nI B,nI J,nI O,nI Y,nI Z,nI γ,nI δ,nI ε,nI θ,nI η,.slice a0 κ.length a1,nI ψ,.slice a2 μ.length a3,.slice a5 ν.length a7]] rfl qM ?_;(with_reducible refine(newellaw21_few.calls B J O Y Z γ δ ε θ η _ _ κ ψ _ _ μ _ _ ν false _ ?side1 ?side2 ?side3 ?side4 ?side5 ?side6 A2.out).mono ?_);(case side1=>exact(Kd.Qw b2.out HB.out));(case side2=>exact b3.out);(case side3=>exact(Kd.Qw b6.out HB.out));(case side4=>exact b7.out);(case side5=>exact(Kd.Qw bj.out HB.out));(case side6=>exact bn.out);rintro e n0 ⟨rfl,hb⟩;refine⟨_,rfl, ?_⟩;replace X:=sBk X hb;replace HB:=sHb hb;(try clear hb);(try clear a4);(try clear hk);(try clear hi))|((with_reducible refine Qf (f:=9) rfl ?_);refine Q0 (some 9) rfl rfl Try.func9 kr rfl #[] rfl qM ?_;(with_reducible refine(newellaw21_awake.calls k  dz _ kb.out).mono ?_);rintro e jb ⟨rfl,hb⟩;refine⟨_,rfl, ?_⟩;replace X:=sBk X hb;replace HB:=sHb hb;(try clear hb);(try clear a4);(try clear hk);(try clear hi)))
  go_ret
  exact⟨rfl,HB.out⟩
end Go.Proofs.Ytmfffemidlhcpaa.C
namespace Go.Proofs.Ytmfffemidlhcpaa.GrpPure
open Go.RowKit Go.Proofs.YtmfffemidlhcpaaW.PrintWords Go.Proofs.YtmfffemidlhcpaaW.PrintLast Go.Proofs.YtmfffemidlhcpaaW.PrintMore Go.Proofs.Ytmfffemidlhcpaa.C Go.Proofs.Ytmfffemidlhcpaa.DoorPure
open Go.Proofs.Ytmfffemidlhcpaa.Call (i64 okB Yf Xr Xs Hall Ins ltH)
theorem Wd (g0 g1 g2 g3 g4 g5 g6 g7 g8 g9:Int) (L:List S31) (a2:Int) (H:List Hall) (I:List Ins) (f:Nat) (hf:9000≤f):newellaw21_GroupSpreads.f f g0 g1 g2 g3 g4 g5 g6 g7 g8 g9 L a2 H I=some true:=by
 unfold newellaw21_GroupSpreads.f
 obtain⟨f,rfl⟩:∃ m,f=m+1:=⟨f-1,by omega⟩
 rcases Lz g0 g1 g2 g3 g4 g5 g6 g7 g8 g9 L a2 H I with e|⟨e,hL,hH,hI⟩
 ·rw[e]
  simp only[Option.bind_some]
  rw[if_neg (by decide),Lb _ (by omega)]
  rfl
 ·rw[e]
  simp only[Option.bind_some,if_true]
  rw[Call.C4 H I (by omega) (by omega)]
  simp only[Option.bind_some]
  rw[Mw _ _ _ _ _ _ _ _ _ _ L a2 H I (by omega) (by omega) _ (by omega),Lk _ _ _ _ _ _ _ _ _ _ L H I (by omega) (by omega) _ (by omega),Lb _ (by omega)]
  simp only[Option.bind_some,if_true]
  by_cases h:Jr g0 g1 g2 g3 g4 g5 g6 g7 g8 g9 L H I=0
  ·rw[if_pos h,if_pos h]
   simp only[if_true]
   rw[Lh a2 (Cq h) (by omega) (by omega) _ (by omega)]
   simp only[Option.bind_some]
   rw[Call.Gd _ _ I (by rw[Vh];omega) (by rw[Vh];omega) (by omega)]
   rfl
  ·rw[if_neg h,if_neg h]
   simp only[if_true]
   rw[Call.Wp _ (by omega)]
   rfl
end Go.Proofs.Ytmfffemidlhcpaa.GrpPure
