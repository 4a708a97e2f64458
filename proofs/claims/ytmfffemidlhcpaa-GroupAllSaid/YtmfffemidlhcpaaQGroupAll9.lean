/- Texts of this claim, one behind the other: what the law's functions come to, walked (printed by a program, with the words that the print uses), and what that is, in plain Lean. No conditions of their own. -/
import Derived.Test.YtmfffemidlhcpaaQGroupAll8
namespace Go.Proofs.Ytmfffemidlhcpaa.C
open Go.RowKit Go.Proofs.YtmfffemidlhcpaaW.PrintWords Go.Proofs.YtmfffemidlhcpaaW.PrintLast Go.Proofs.YtmfffemidlhcpaaW.PrintMore
attribute [local go_sem] Zv Zt Z6 Z5 Zk Zj Zu Zs
set_option linter.unusedVariables false
set_option linter.unusedSimpArgs false
def newellaw21_awake.f (k:Nat):Option (Bool):=(newellaw17_Plain.f).bind fun J=>((some (([(⟨(⟨0,0,0,0,(⟨0,0,0⟩:S27)⟩:S29),0,false,false⟩:S31),(⟨(⟨3,0,0,0,(⟨0,0,0⟩:S27)⟩:S29),0,false,false⟩:S31)]:List (S31)):List (S31))).bind fun B=>((some (([(⟨2,1,(-1)⟩:S36)]:List (S36)):List (S36))).bind fun δ =>(if 0<(B.length:Int) then ((group_Cost.f k J.1 J.2.1 J.2.2.1 J.2.2.2.1 J.2.2.2.2.1 J.2.2.2.2.2.1 J.2.2.2.2.2.2.1 J.2.2.2.2.2.2.2.1 J.2.2.2.2.2.2.2.2.1 J.2.2.2.2.2.2.2.2.2 ((Qd B 0).f0.f0) ((Qd B 0).f0.f1) ((Qd B 0).f0.f2) ((Qd B 0).f0.f3) ((Qd B 0).f0.f4.f0) ((Qd B 0).f0.f4.f1) ((Qd B 0).f0.f4.f2) ((Qd B 0).f1) ((Qd B 0).f2) ((Qd B 0).f3) ([]:List Int) ([]:List Int) ([]:List Int) 2 1 (-1)).bind fun ae=>(if 1<(B.length:Int) then ((group_Cost.f k J.1 J.2.1 J.2.2.1 J.2.2.2.1 J.2.2.2.2.1 J.2.2.2.2.2.1 J.2.2.2.2.2.2.1 J.2.2.2.2.2.2.2.1 J.2.2.2.2.2.2.2.2.1 J.2.2.2.2.2.2.2.2.2 ((Qd B 1).f0.f0) ((Qd B 1).f0.f1) ((Qd B 1).f0.f2) ((Qd B 1).f0.f3) ((Qd B 1).f0.f4.f0) ((Qd B 1).f0.f4.f1) ((Qd B 1).f0.f4.f2) ((Qd B 1).f1) ((Qd B 1).f2) ((Qd B 1).f3) ([]:List Int) ([]:List Int) ([]:List Int) 2 1 (-1)).bind fun a1=>((group_Pick.f k J.1 J.2.1 J.2.2.1 J.2.2.2.1 J.2.2.2.2.1 J.2.2.2.2.2.1 J.2.2.2.2.2.2.1 J.2.2.2.2.2.2.2.1 J.2.2.2.2.2.2.2.2.1 J.2.2.2.2.2.2.2.2.2 B 0 δ ([]:List (S86)) 2 1 (-1)).bind fun a0=>((group_Spread.f k J.1 J.2.1 J.2.2.1 J.2.2.2.1 J.2.2.2.2.1 J.2.2.2.2.2.1 J.2.2.2.2.2.2.1 J.2.2.2.2.2.2.2.1 J.2.2.2.2.2.2.2.2.1 J.2.2.2.2.2.2.2.2.2 B 0 δ ([]:List (S86))).bind fun X=>(if ae.1=4 then (if ae.2=0 then (if a1.1=2 then (if a1.2=0 then (if a0.1=1 then (if a0.2=0 then (if X.2.2=0 then (if (X.1.length:Int)=1 then (if 0<(X.1.length:Int) then (if ((Qc X.1 0).f2)=1 then ((group_Check.f k J.1 J.2.1 J.2.2.1 J.2.2.2.1 J.2.2.2.2.1 J.2.2.2.2.2.1 J.2.2.2.2.2.2.1 J.2.2.2.2.2.2.2.1 J.2.2.2.2.2.2.2.2.1 J.2.2.2.2.2.2.2.2.2 B δ ([]:List (S86))).bind fun a8=>(some (a8==0))) else (none)) else (none)) else (none)) else (none)) else (none)) else (none)) else (none)) else (none)) else (none)) else (none))))) else (none))) else (none))))
theorem newellaw21_awake.mono:∀ k,LeO (newellaw21_awake.f k) (newellaw21_awake.f (k+1)):=by
 intro  k
 unfold newellaw21_awake.f
 repeat' first
   |(with_reducible exact group_Check.mono _ _ _ _ _ _ _ _ _ _ _ _ _ _)
   |(with_reducible exact group_Cost.mono _ _ _ _ _ _ _ _ _ _ _ _ _ _ _ _ _ _ _ _ _ _ _ _ _ _ _)
   |(with_reducible exact group_Pick.mono _ _ _ _ _ _ _ _ _ _ _ _ _ _ _ _ _ _)
   |(with_reducible exact group_Spread.mono _ _ _ _ _ _ _ _ _ _ _ _ _ _ _)
   |(with_reducible exact LeO.refl _)
   |(with_reducible exact LeO.none _)
   |(with_reducible refine LeO.ite ?_ ?_)
   |(with_reducible refine LeO.bind ?_ (fun _=>?_))
   |exact group_Check.mono _ _ _ _ _ _ _ _ _ _ _ _ _ _
   |exact group_Cost.mono _ _ _ _ _ _ _ _ _ _ _ _ _ _ _ _ _ _ _ _ _ _ _ _ _ _ _
   |exact group_Pick.mono _ _ _ _ _ _ _ _ _ _ _ _ _ _ _ _ _ _
   |exact group_Spread.mono _ _ _ _ _ _ _ _ _ _ _ _ _ _ _
   |exact LeO.none _
   |refine LeO.ite ?_ ?_
   |refine LeO.bind ?_ (fun _=>?_)
def newellaw21_awake.T5:Bool×List (List Nat×List Nat):=(true,[([],[]),([],[]),([1],[1]),([2],[2]),([],[]),([],[]),([0,3,4,5],[0,3,4,5]),([6],[6]),([7],[7]),([7],[7]),([8,6,0,1,2,3,4,5,6,7,8],[8]),([9,10,0,1,2,3,4,5,6,7,8,9,10],[9])])
def newellaw21_awake.B5:List Nat:=[0,0,2,6,0,0,63,127,255,255,511,2047]
theorem newellaw21_awake.Eb:rtab .any (opsOf Try.f9 5)=newellaw21_awake.T5:=by kernel_rfl
theorem newellaw21_awake.Lk:Zq newellaw21_awake.T5.2 newellaw21_awake.B5=true:=by kernel_rfl
def newellaw21_awake.T6:Bool×List (List Nat×List Nat):=(true,[([],[]),([],[]),([1],[1]),([2],[2]),([],[]),([],[]),([0,3,4,5],[0,3,4,5]),([6],[6]),([7],[7]),([7],[7]),([8,6,0,1,2,3,4,5,6,7,8],[8]),([9,10,0,1,2,3,4,5,6,7,8,9,10],[9])])
def newellaw21_awake.B6:List Nat:=[0,0,2,6,0,0,63,127,255,255,511,2047]
theorem newellaw21_awake.Dn:rtab .any (opsOf Try.f9 6)=newellaw21_awake.T6:=by kernel_rfl
theorem newellaw21_awake.Ny:Zq newellaw21_awake.T6.2 newellaw21_awake.B6=true:=by kernel_rfl
set_option maxHeartbeats 8000000 in
set_option maxRecDepth 100000 in
theorem newellaw21_awake.calls (k:Nat)  (r:Bool) (w:World) (h:newellaw21_awake.f k=some r):
  Calls Try.prog 9 #[] w fun e w'=>e = .returned (.bool r)∧Below w.heap.size w w':=by
 have ew:=Try.underlying25
 have fo:=Try.underlying31
 have gx:=Try.underlying29
 have dm:=Try.underlying36
 have ey:=Try.underlying50
 have fl:=Try.underlying34
 have HB:=Aside0.mk (Below.refl w.heap.size w)
 have H:((newellaw17_Plain.f).bind fun J=>((some (([(⟨(⟨0,0,0,0,(⟨0,0,0⟩:S27)⟩:S29),0,false,false⟩:S31),(⟨(⟨3,0,0,0,(⟨0,0,0⟩:S27)⟩:S29),0,false,false⟩:S31)]:List (S31)):List (S31))).bind fun B=>((some (([(⟨2,1,(-1)⟩:S36)]:List (S36)):List (S36))).bind fun δ =>(if 0<(B.length:Int) then ((group_Cost.f k J.1 J.2.1 J.2.2.1 J.2.2.2.1 J.2.2.2.2.1 J.2.2.2.2.2.1 J.2.2.2.2.2.2.1 J.2.2.2.2.2.2.2.1 J.2.2.2.2.2.2.2.2.1 J.2.2.2.2.2.2.2.2.2 ((Qd B 0).f0.f0) ((Qd B 0).f0.f1) ((Qd B 0).f0.f2) ((Qd B 0).f0.f3) ((Qd B 0).f0.f4.f0) ((Qd B 0).f0.f4.f1) ((Qd B 0).f0.f4.f2) ((Qd B 0).f1) ((Qd B 0).f2) ((Qd B 0).f3) ([]:List Int) ([]:List Int) ([]:List Int) 2 1 (-1)).bind fun ae=>(if 1<(B.length:Int) then ((group_Cost.f k J.1 J.2.1 J.2.2.1 J.2.2.2.1 J.2.2.2.2.1 J.2.2.2.2.2.1 J.2.2.2.2.2.2.1 J.2.2.2.2.2.2.2.1 J.2.2.2.2.2.2.2.2.1 J.2.2.2.2.2.2.2.2.2 ((Qd B 1).f0.f0) ((Qd B 1).f0.f1) ((Qd B 1).f0.f2) ((Qd B 1).f0.f3) ((Qd B 1).f0.f4.f0) ((Qd B 1).f0.f4.f1) ((Qd B 1).f0.f4.f2) ((Qd B 1).f1) ((Qd B 1).f2) ((Qd B 1).f3) ([]:List Int) ([]:List Int) ([]:List Int) 2 1 (-1)).bind fun a1=>((group_Pick.f k J.1 J.2.1 J.2.2.1 J.2.2.2.1 J.2.2.2.2.1 J.2.2.2.2.2.1 J.2.2.2.2.2.2.1 J.2.2.2.2.2.2.2.1 J.2.2.2.2.2.2.2.2.1 J.2.2.2.2.2.2.2.2.2 B 0 δ ([]:List (S86)) 2 1 (-1)).bind fun a0=>((group_Spread.f k J.1 J.2.1 J.2.2.1 J.2.2.2.1 J.2.2.2.2.1 J.2.2.2.2.2.1 J.2.2.2.2.2.2.1 J.2.2.2.2.2.2.2.1 J.2.2.2.2.2.2.2.2.1 J.2.2.2.2.2.2.2.2.2 B 0 δ ([]:List (S86))).bind fun X=>(if ae.1=4 then (if ae.2=0 then (if a1.1=2 then (if a1.2=0 then (if a0.1=1 then (if a0.2=0 then (if X.2.2=0 then (if (X.1.length:Int)=1 then (if 0<(X.1.length:Int) then (if ((Qc X.1 0).f2)=1 then ((group_Check.f k J.1 J.2.1 J.2.2.1 J.2.2.2.1 J.2.2.2.2.1 J.2.2.2.2.2.1 J.2.2.2.2.2.2.1 J.2.2.2.2.2.2.2.1 J.2.2.2.2.2.2.2.2.1 J.2.2.2.2.2.2.2.2.2 B δ ([]:List (S86))).bind fun a8=>(some (a8==0))) else (none)) else (none)) else (none)) else (none)) else (none)) else (none)) else (none)) else (none)) else (none)) else (none))))) else (none))) else (none)))))=some r:=h
 clear h
 replace H:=Option.bind_eq_some_iff.mp H
 obtain⟨⟨Y,Z,aw,ζ,η,θ,ι,κ,ρ,φ⟩,bs,H⟩:=H
 replace H:((some (([(⟨(⟨0,0,0,0,(⟨0,0,0⟩:S27)⟩:S29),0,false,false⟩:S31),(⟨(⟨3,0,0,0,(⟨0,0,0⟩:S27)⟩:S29),0,false,false⟩:S31)]:List (S31)):List (S31))).bind fun B=>((some (([(⟨2,1,(-1)⟩:S36)]:List (S36)):List (S36))).bind fun δ =>(if 0<(B.length:Int) then ((group_Cost.f k Y Z aw ζ η θ ι κ ρ φ ((Qd B 0).f0.f0) ((Qd B 0).f0.f1) ((Qd B 0).f0.f2) ((Qd B 0).f0.f3) ((Qd B 0).f0.f4.f0) ((Qd B 0).f0.f4.f1) ((Qd B 0).f0.f4.f2) ((Qd B 0).f1) ((Qd B 0).f2) ((Qd B 0).f3) ([]:List Int) ([]:List Int) ([]:List Int) 2 1 (-1)).bind fun ae=>(if 1<(B.length:Int) then ((group_Cost.f k Y Z aw ζ η θ ι κ ρ φ ((Qd B 1).f0.f0) ((Qd B 1).f0.f1) ((Qd B 1).f0.f2) ((Qd B 1).f0.f3) ((Qd B 1).f0.f4.f0) ((Qd B 1).f0.f4.f1) ((Qd B 1).f0.f4.f2) ((Qd B 1).f1) ((Qd B 1).f2) ((Qd B 1).f3) ([]:List Int) ([]:List Int) ([]:List Int) 2 1 (-1)).bind fun a1=>((group_Pick.f k Y Z aw ζ η θ ι κ ρ φ B 0 δ ([]:List (S86)) 2 1 (-1)).bind fun a0=>((group_Spread.f k Y Z aw ζ η θ ι κ ρ φ B 0 δ ([]:List (S86))).bind fun X=>(if ae.1=4 then (if ae.2=0 then (if a1.1=2 then (if a1.2=0 then (if a0.1=1 then (if a0.2=0 then (if X.2.2=0 then (if (X.1.length:Int)=1 then (if 0<(X.1.length:Int) then (if ((Qc X.1 0).f2)=1 then ((group_Check.f k Y Z aw ζ η θ ι κ ρ φ B δ ([]:List (S86))).bind fun a8=>(some (a8==0))) else (none)) else (none)) else (none)) else (none)) else (none)) else (none)) else (none)) else (none)) else (none)) else (none))))) else (none))) else (none))))=some r:=H
 have A1:=Aside0.mk bs
 clear bs
 obtain⟨B,ci⟩:∃ y_:List (S31),y_=(([(⟨(⟨0,0,0,0,(⟨0,0,0⟩:S27)⟩:S29),0,false,false⟩:S31),(⟨(⟨3,0,0,0,(⟨0,0,0⟩:S27)⟩:S29),0,false,false⟩:S31)]:List (S31))):=⟨_,rfl⟩
 replace H:((some (([(⟨2,1,(-1)⟩:S36)]:List (S36)):List (S36))).bind fun δ =>(if 0<(B.length:Int) then ((group_Cost.f k Y Z aw ζ η θ ι κ ρ φ ((Qd B 0).f0.f0) ((Qd B 0).f0.f1) ((Qd B 0).f0.f2) ((Qd B 0).f0.f3) ((Qd B 0).f0.f4.f0) ((Qd B 0).f0.f4.f1) ((Qd B 0).f0.f4.f2) ((Qd B 0).f1) ((Qd B 0).f2) ((Qd B 0).f3) ([]:List Int) ([]:List Int) ([]:List Int) 2 1 (-1)).bind fun ae=>(if 1<(B.length:Int) then ((group_Cost.f k Y Z aw ζ η θ ι κ ρ φ ((Qd B 1).f0.f0) ((Qd B 1).f0.f1) ((Qd B 1).f0.f2) ((Qd B 1).f0.f3) ((Qd B 1).f0.f4.f0) ((Qd B 1).f0.f4.f1) ((Qd B 1).f0.f4.f2) ((Qd B 1).f1) ((Qd B 1).f2) ((Qd B 1).f3) ([]:List Int) ([]:List Int) ([]:List Int) 2 1 (-1)).bind fun a1=>((group_Pick.f k Y Z aw ζ η θ ι κ ρ φ B 0 δ ([]:List (S86)) 2 1 (-1)).bind fun a0=>((group_Spread.f k Y Z aw ζ η θ ι κ ρ φ B 0 δ ([]:List (S86))).bind fun X=>(if ae.1=4 then (if ae.2=0 then (if a1.1=2 then (if a1.2=0 then (if a0.1=1 then (if a0.2=0 then (if X.2.2=0 then (if (X.1.length:Int)=1 then (if 0<(X.1.length:Int) then (if ((Qc X.1 0).f2)=1 then ((group_Check.f k Y Z aw ζ η θ ι κ ρ φ B δ ([]:List (S86))).bind fun a8=>(some (a8==0))) else (none)) else (none)) else (none)) else (none)) else (none)) else (none)) else (none)) else (none)) else (none)) else (none))))) else (none))) else (none)))=some r:=by first|(rw[ci];with_reducible exact H)|(have an:=(Option.bind_some _ _).symm.trans H;rw[ci];with_reducible exact an)|(have an:=(Option.bind_some _ _).symm.trans H;with_reducible exact an)|with_reducible exact H|(rw[ci];exact H)|exact H
 have fa:=Aside0.mk ci
 clear ci
 obtain⟨δ,cj⟩:∃ y_:List (S36),y_=(([(⟨2,1,(-1)⟩:S36)]:List (S36))):=⟨_,rfl⟩
 replace H:(if 0<(B.length:Int) then ((group_Cost.f k Y Z aw ζ η θ ι κ ρ φ ((Qd B 0).f0.f0) ((Qd B 0).f0.f1) ((Qd B 0).f0.f2) ((Qd B 0).f0.f3) ((Qd B 0).f0.f4.f0) ((Qd B 0).f0.f4.f1) ((Qd B 0).f0.f4.f2) ((Qd B 0).f1) ((Qd B 0).f2) ((Qd B 0).f3) ([]:List Int) ([]:List Int) ([]:List Int) 2 1 (-1)).bind fun ae=>(if 1<(B.length:Int) then ((group_Cost.f k Y Z aw ζ η θ ι κ ρ φ ((Qd B 1).f0.f0) ((Qd B 1).f0.f1) ((Qd B 1).f0.f2) ((Qd B 1).f0.f3) ((Qd B 1).f0.f4.f0) ((Qd B 1).f0.f4.f1) ((Qd B 1).f0.f4.f2) ((Qd B 1).f1) ((Qd B 1).f2) ((Qd B 1).f3) ([]:List Int) ([]:List Int) ([]:List Int) 2 1 (-1)).bind fun a1=>((group_Pick.f k Y Z aw ζ η θ ι κ ρ φ B 0 δ ([]:List (S86)) 2 1 (-1)).bind fun a0=>((group_Spread.f k Y Z aw ζ η θ ι κ ρ φ B 0 δ ([]:List (S86))).bind fun X=>(if ae.1=4 then (if ae.2=0 then (if a1.1=2 then (if a1.2=0 then (if a0.1=1 then (if a0.2=0 then (if X.2.2=0 then (if (X.1.length:Int)=1 then (if 0<(X.1.length:Int) then (if ((Qc X.1 0).f2)=1 then ((group_Check.f k Y Z aw ζ η θ ι κ ρ φ B δ ([]:List (S86))).bind fun a8=>(some (a8==0))) else (none)) else (none)) else (none)) else (none)) else (none)) else (none)) else (none)) else (none)) else (none)) else (none))))) else (none))) else (none))=some r:=by first|(rw[cj];with_reducible exact H)|(have an:=(Option.bind_some _ _).symm.trans H;rw[cj];with_reducible exact an)|(have an:=(Option.bind_some _ _).symm.trans H;with_reducible exact an)|with_reducible exact H|(rw[cj];exact H)|exact H
 have fb:=Aside0.mk cj
 clear cj
 by_cases c2:0<(B.length:Int)
 ·rw[if_pos c2] at H
  have c2b0:decide (0<(B.length:Int))=true:=decide_eq_true c2
  have c2b1:decide (0<B.length)=true:=decide_eq_true (by omega)
  clear c2
  replace H:=Option.bind_eq_some_iff.mp H
  obtain⟨⟨cb,cn⟩,a5,H⟩:=H
  replace H:(if 1<(B.length:Int) then ((group_Cost.f k Y Z aw ζ η θ ι κ ρ φ ((Qd B 1).f0.f0) ((Qd B 1).f0.f1) ((Qd B 1).f0.f2) ((Qd B 1).f0.f3) ((Qd B 1).f0.f4.f0) ((Qd B 1).f0.f4.f1) ((Qd B 1).f0.f4.f2) ((Qd B 1).f1) ((Qd B 1).f2) ((Qd B 1).f3) ([]:List Int) ([]:List Int) ([]:List Int) 2 1 (-1)).bind fun a1=>((group_Pick.f k Y Z aw ζ η θ ι κ ρ φ B 0 δ ([]:List (S86)) 2 1 (-1)).bind fun a0=>((group_Spread.f k Y Z aw ζ η θ ι κ ρ φ B 0 δ ([]:List (S86))).bind fun X=>(if cb=4 then (if cn=0 then (if a1.1=2 then (if a1.2=0 then (if a0.1=1 then (if a0.2=0 then (if X.2.2=0 then (if (X.1.length:Int)=1 then (if 0<(X.1.length:Int) then (if ((Qc X.1 0).f2)=1 then ((group_Check.f k Y Z aw ζ η θ ι κ ρ φ B δ ([]:List (S86))).bind fun a8=>(some (a8==0))) else (none)) else (none)) else (none)) else (none)) else (none)) else (none)) else (none)) else (none)) else (none)) else (none))))) else (none))=some r:=H
  have A3:=Aside0.mk a5
  clear a5
  by_cases c4:1<(B.length:Int)
  ·rw[if_pos c4] at H
   have c4b0:decide (1<(B.length:Int))=true:=decide_eq_true c4
   have c4b1:decide (1<B.length)=true:=decide_eq_true (by omega)
   clear c4
   replace H:=Option.bind_eq_some_iff.mp H
   obtain⟨⟨cf,ch⟩,bv,H⟩:=H
   replace H:((group_Pick.f k Y Z aw ζ η θ ι κ ρ φ B 0 δ ([]:List (S86)) 2 1 (-1)).bind fun a0=>((group_Spread.f k Y Z aw ζ η θ ι κ ρ φ B 0 δ ([]:List (S86))).bind fun X=>(if cb=4 then (if cn=0 then (if cf=2 then (if ch=0 then (if a0.1=1 then (if a0.2=0 then (if X.2.2=0 then (if (X.1.length:Int)=1 then (if 0<(X.1.length:Int) then (if ((Qc X.1 0).f2)=1 then ((group_Check.f k Y Z aw ζ η θ ι κ ρ φ B δ ([]:List (S86))).bind fun a8=>(some (a8==0))) else (none)) else (none)) else (none)) else (none)) else (none)) else (none)) else (none)) else (none)) else (none)) else (none))))=some r:=H
   have A5:=Aside0.mk bv
   clear bv
   replace H:=Option.bind_eq_some_iff.mp H
   obtain⟨⟨ck,co⟩,b0,H⟩:=H
   replace H:((group_Spread.f k Y Z aw ζ η θ ι κ ρ φ B 0 δ ([]:List (S86))).bind fun X=>(if cb=4 then (if cn=0 then (if cf=2 then (if ch=0 then (if ck=1 then (if co=0 then (if X.2.2=0 then (if (X.1.length:Int)=1 then (if 0<(X.1.length:Int) then (if ((Qc X.1 0).f2)=1 then ((group_Check.f k Y Z aw ζ η θ ι κ ρ φ B δ ([]:List (S86))).bind fun a8=>(some (a8==0))) else (none)) else (none)) else (none)) else (none)) else (none)) else (none)) else (none)) else (none)) else (none)) else (none)))=some r:=H
   have A6:=Aside0.mk b0
   clear b0
   replace H:=Option.bind_eq_some_iff.mp H
   obtain⟨⟨ω,cr,ct⟩,ce,H⟩:=H
   replace H:(if cb=4 then (if cn=0 then (if cf=2 then (if ch=0 then (if ck=1 then (if co=0 then (if ct=0 then (if (ω.length:Int)=1 then (if 0<(ω.length:Int) then (if ((Qc ω 0).f2)=1 then ((group_Check.f k Y Z aw ζ η θ ι κ ρ φ B δ ([]:List (S86))).bind fun a8=>(some (a8==0))) else (none)) else (none)) else (none)) else (none)) else (none)) else (none)) else (none)) else (none)) else (none)) else (none))=some r:=H
   have A7:=Aside0.mk ce
   clear ce
   by_cases c8:cb=4
   ·rw[if_pos c8] at H
    have c8b0:(cb==4)=true:=beq_iff_eq.mpr c8
    have c8b1:(cb != 4)=false:=bne_eq_false_iff_eq.mpr c8
    clear c8
    by_cases c9:cn=0
    ·rw[if_pos c9] at H
     have c9b0:(cn==0)=true:=beq_iff_eq.mpr c9
     have c9b1:(cn != 0)=false:=bne_eq_false_iff_eq.mpr c9
     clear c9
     by_cases c10:cf=2
     ·rw[if_pos c10] at H
      have c10b0:(cf==2)=true:=beq_iff_eq.mpr c10
      have c10b1:(cf != 2)=false:=bne_eq_false_iff_eq.mpr c10
      clear c10
      by_cases ah:ch=0
      ·rw[if_pos ah] at H
       have c11b0:(ch==0)=true:=beq_iff_eq.mpr ah
       have c11b1:(ch != 0)=false:=bne_eq_false_iff_eq.mpr ah
       clear ah
       by_cases ai:ck=1
       ·rw[if_pos ai] at H
        have c12b0:(ck==1)=true:=beq_iff_eq.mpr ai
        have c12b1:(ck != 1)=false:=bne_eq_false_iff_eq.mpr ai
        clear ai
        by_cases be:co=0
        ·rw[if_pos be] at H
         have c13b0:(co==0)=true:=beq_iff_eq.mpr be
         have c13b1:(co != 0)=false:=bne_eq_false_iff_eq.mpr be
         clear be
         by_cases ag:ct=0
         ·rw[if_pos ag] at H
          have c14b0:(ct==0)=true:=beq_iff_eq.mpr ag
          have c14b1:(ct != 0)=false:=bne_eq_false_iff_eq.mpr ag
          clear ag
          by_cases b4:(ω.length:Int)=1
          ·rw[if_pos b4] at H
           have c15b0:((ω.length:Int)==1)=true:=beq_iff_eq.mpr b4
           have c15b1:((ω.length:Int) != 1)=false:=bne_eq_false_iff_eq.mpr b4
           clear b4
           by_cases ψ :0<(ω.length:Int)
           ·rw[if_pos ψ] at H
            have c16b0:decide (0<(ω.length:Int))=true:=decide_eq_true ψ
            have c16b1:decide (0 < ω.length)=true:=decide_eq_true (by omega)
            clear ψ
            by_cases σ:((Qc ω 0).f2)=1
            ·rw[if_pos σ] at H
             have c17b0:(((Qc ω 0).f2)==1)=true:=beq_iff_eq.mpr σ
             have c17b1:(((Qc ω 0).f2) != 1)=false:=bne_eq_false_iff_eq.mpr σ
             clear σ
             replace H:=Option.bind_eq_some_iff.mp H
             obtain⟨a8,b7,H⟩:=H
             replace H:(some (a8==0))=some r:=H
             have cq:=Aside0.mk b7
             clear b7
             obtain rfl:=Option.some.inj H
             go_enter Try.func9,Try.ntmps9
             try go_wp2_with (first|((with_reducible refine Qp (f:=27) rfl ?_);refine Q4 (some 13) rfl rfl Try.func27 kr rfl #[] rfl qM ?_;(with_reducible refine(newellaw17_Plain.calls  Y Z aw ζ η θ ι κ ρ φ _ A1.out).mono ?_);rintro e bc ⟨rfl,hb⟩;refine⟨_,rfl, ?_⟩;replace HB:=sHb hb;(try clear hb);(try clear a6);(try clear hk);(try clear hi))|((with_reducible refine Qf (N:=1) rfl ?_);(try(refine Zr (by rfl) ?_;dsimp only));refine qE 1 #[.int .i64 0,.int .i64 0,.int .i64 0,.int .i64 0,.int .i64 0,.int .i64 0,.int .i64 0,.int .i64 0,.int .i64 0,.int .i64 0] 25 ?_;intro ν hg dl hbox hb;have ε :=Aside0.mk hbox;have gn:=sGe hg;have gp:=sGe hg;replace HB:=sHb hb;clear hb hbox hg;obtain⟨ix,iz,jh,ji,jj,jk,jl,ga,gb,ge,jm,jn,jo,jp,jq,jr,js,gf,gh,gj⟩:=Zl ε.out)|((with_reducible refine Qf (N:=17) rfl ?_);(try(refine Zr (by rfl) ?_;dsimp only));refine Kd.Vu k31 _ 31 ?hg (N:=17) ?hd (xs:=([(⟨(⟨0,0,0,0,(⟨0,0,0⟩:S27)⟩:S29),0,false,false⟩:S31),(⟨(⟨3,0,0,0,(⟨0,0,0⟩:S27)⟩:S29),0,false,false⟩:S31)]:List (S31))) (inner:=[.int .i64 0,.int .i64 0,.int .i64 0,.int .i64 0,.int .i64 0,.int .i64 0,.int .i64 0,.int .i64 0,.bool false,.bool false,.int .i64 3,.int .i64 0,.int .i64 0,.int .i64 0,.int .i64 0,.int .i64 0,.int .i64 0,.int .i64 0,.bool false,.bool false]) (ok:=fun _=>True) (okp:=fun _=>True) ?hr ?hp (fun _ hk=>hk) trivial (Below.refl _ _) (Nat.le_refl _) (by simp) ?_;(case hd=>rfl);(case hg=>rfl);(case hr=>go_simp <;> rfl);(case hp=>exact(Reps.c10 (show Kd.M k31 _ _ _ (⟨(⟨0,0,0,0,(⟨0,0,0⟩:S27)⟩:S29),0,false,false⟩:S31) [.int .i64 0,.int .i64 0,.int .i64 0,.int .i64 0,.int .i64 0,.int .i64 0,.int .i64 0,.int .i64 0,.bool false,.bool false] from(Lg _ _ _ (⟨(⟨0,0,0,0,(⟨0,0,0⟩:S27)⟩:S29),0,false,false⟩:S31))) (Reps.c10 (show Kd.M k31 _ _ _ (⟨(⟨3,0,0,0,(⟨0,0,0⟩:S27)⟩:S29),0,false,false⟩:S31) [.int .i64 3,.int .i64 0,.int .i64 0,.int .i64 0,.int .i64 0,.int .i64 0,.int .i64 0,.int .i64 0,.bool false,.bool false] from(Lg _ _ _ (⟨(⟨3,0,0,0,(⟨0,0,0⟩:S27)⟩:S29),0,false,false⟩:S31))) (Reps.none _ _))));intro fv br cx hb hg_ hnew_;clear hg_ hnew_;(first|rw[← fa.out] at cx|(simp only[Int.reduceToNat] at cx;rw[← fa.out] at cx));have γ:=Aside0.mk (Kd.Q3 cx (Qh bel));replace ε :=Aside0.mk (Qy (g:= ν) (o:=.cells #[.int .i64 Y,.int .i64 Z,.int .i64 aw,.int .i64 ζ,.int .i64 η,.int .i64 θ,.int .i64 ι,.int .i64 κ,.int .i64 ρ,.int .i64 φ] 25 (0,0)) (by(with_reducible repeat first|refine Qn ?_ _|refine Qe ?_|refine Qo ?_ _);refine Qq (cs:=#[.int .i64 Y,.int .i64 Z,.int .i64 aw,.int .i64 ζ,.int .i64 η,.int .i64 θ,.int .i64 ι,.int .i64 κ,.int .i64 ρ,.int .i64 0]) ?_ 9 _ rfl;(with_reducible repeat first|refine Qn ?_ _|refine Qe ?_|refine Qo ?_ _);refine Qq (cs:=#[.int .i64 Y,.int .i64 Z,.int .i64 aw,.int .i64 ζ,.int .i64 η,.int .i64 θ,.int .i64 ι,.int .i64 κ,.int .i64 0,.int .i64 0]) ?_ 8 _ rfl;(with_reducible repeat first|refine Qn ?_ _|refine Qe ?_|refine Qo ?_ _);refine Qq (cs:=#[.int .i64 Y,.int .i64 Z,.int .i64 aw,.int .i64 ζ,.int .i64 η,.int .i64 θ,.int .i64 ι,.int .i64 0,.int .i64 0,.int .i64 0]) ?_ 7 _ rfl;(with_reducible repeat first|refine Qn ?_ _|refine Qe ?_|refine Qo ?_ _);refine Qq (cs:=#[.int .i64 Y,.int .i64 Z,.int .i64 aw,.int .i64 ζ,.int .i64 η,.int .i64 θ,.int .i64 0,.int .i64 0,.int .i64 0,.int .i64 0]) ?_ 6 _ rfl;(with_reducible repeat first|refine Qn ?_ _|refine Qe ?_|refine Qo ?_ _);refine Qq (cs:=#[.int .i64 Y,.int .i64 Z,.int .i64 aw,.int .i64 ζ,.int .i64 η,.int .i64 0,.int .i64 0,.int .i64 0,.int .i64 0,.int .i64 0]) ?_ 5 _ rfl;(with_reducible repeat first|refine Qn ?_ _|refine Qe ?_|refine Qo ?_ _);refine Qq (cs:=#[.int .i64 Y,.int .i64 Z,.int .i64 aw,.int .i64 ζ,.int .i64 0,.int .i64 0,.int .i64 0,.int .i64 0,.int .i64 0,.int .i64 0]) ?_ 4 _ rfl;(with_reducible repeat first|refine Qn ?_ _|refine Qe ?_|refine Qo ?_ _);refine Qq (cs:=#[.int .i64 Y,.int .i64 Z,.int .i64 aw,.int .i64 0,.int .i64 0,.int .i64 0,.int .i64 0,.int .i64 0,.int .i64 0,.int .i64 0]) ?_ 3 _ rfl;(with_reducible repeat first|refine Qn ?_ _|refine Qe ?_|refine Qo ?_ _);refine Qq (cs:=#[.int .i64 Y,.int .i64 Z,.int .i64 0,.int .i64 0,.int .i64 0,.int .i64 0,.int .i64 0,.int .i64 0,.int .i64 0,.int .i64 0]) ?_ 2 _ rfl;(with_reducible repeat first|refine Qn ?_ _|refine Qe ?_|refine Qo ?_ _);refine Qq (cs:=#[.int .i64 Y,.int .i64 0,.int .i64 0,.int .i64 0,.int .i64 0,.int .i64 0,.int .i64 0,.int .i64 0,.int .i64 0,.int .i64 0]) ?_ 1 _ rfl;(with_reducible repeat first|refine Qn ?_ _|refine Qe ?_|refine Qo ?_ _);refine Qq (cs:=#[.int .i64 0,.int .i64 0,.int .i64 0,.int .i64 0,.int .i64 0,.int .i64 0,.int .i64 0,.int .i64 0,.int .i64 0,.int .i64 0]) ?_ 0 _ rfl;(with_reducible repeat first|refine Qn ?_ _|refine Qe ?_|refine Qo ?_ _);exact ε.out) hb);replace HB:=sHb hb;clear hb cx)|((with_reducible refine Qf (N:=3) rfl ?_);(try(refine Zr (by rfl) ?_;dsimp only));refine qE 3 #[.int .i64 0,.int .i64 0,.int .i64 0] 36 ?_;intro aj hg cg hbox hb;have O:=Aside0.mk hbox;have i5:=sGe hg;have i6:=sGe hg;have dy:=sNl ε hg;have dz:=sNg ε hg;replace γ:=sRb γ hb;replace ε :=sBk ε hb;replace HB:=sHb hb;clear hb hbox hg;have fm:=dz.out;have fn:=dy.out;obtain⟨cp,cw,ep,ec,eo,er⟩:=qD3 O.out)|((with_reducible refine Qf (N:=20) rfl ?_);(try(refine Zr (by rfl) ?_;dsimp only));refine Kd.Vu k36 _ 36 ?hg (N:=20) ?hd (xs:=([(⟨2,1,(-1)⟩:S36)]:List (S36))) (inner:=[.int .i64 2,.int .i64 1,.int .i64 (-1)]) (ok:=fun _=>True) (okp:=fun _=>True) ?hr ?hp (fun _ hk=>hk) trivial (Below.refl _ _) (Nat.le_refl _) (by simp) ?_;(case hd=>rfl);(case hg=>rfl);(case hr=>go_simp <;> rfl);(case hp=>exact(Reps.c3 (show Kd.M k36 _ _ _ (⟨2,1,(-1)⟩:S36) [.int .i64 2,.int .i64 1,.int .i64 (-1)] from(Kw _ _ _ (⟨2,1,(-1)⟩:S36))) (Reps.none _ _)));intro ih df cu hb hg_ hnew_;clear hg_ hnew_;(first|rw[← fb.out] at cu|(simp only[Int.reduceToNat] at cu;rw[← fb.out] at cu));have τ :=Aside0.mk (Kd.Q3 (Kd.Kl cu (g:=aj) (o:=.cells #[.int .i64 2,.int .i64 1,.int .i64 (-1)] 36 (0,0)) (by(with_reducible repeat first|refine Qn ?_ _|refine Qe ?_|refine Qo ?_ _);refine Qq (cs:=#[.int .i64 2,.int .i64 1,.int .i64 0]) ?_ 2 _ rfl;(with_reducible repeat first|refine Qn ?_ _|refine Qe ?_|refine Qo ?_ _);refine Qq (cs:=#[.int .i64 2,.int .i64 0,.int .i64 0]) ?_ 1 _ rfl;(with_reducible repeat first|refine Qn ?_ _|refine Qe ?_|refine Qo ?_ _);refine Qq (cs:=#[.int .i64 0,.int .i64 0,.int .i64 0]) ?_ 0 _ rfl;(with_reducible repeat first|refine Qn ?_ _|refine Qe ?_|refine Qo ?_ _);exact O.out)) (Qh bel));replace γ:=Aside0.mk (Kd.Za (by(with_reducible repeat first|apply Kd.Qm|apply Kd.Ql|apply Kd.Qs);exact(Kd.Qw (Kd.Qz (Kd.Qz (Kd.Qz (Kd.Q7 γ.out O.out (by decide)) (fun _ hk=>hk.2) (.int .i64 2)) (fun _ hk=>hk.2) (.int .i64 1)) (fun _ hk=>hk.2) (.int .i64 (-1))) (fun _ h_=>h_.1))) hb);replace ε :=sBk ε hb;replace O:=Aside0.mk (Qy (g:=aj) (o:=.cells #[.int .i64 2,.int .i64 1,.int .i64 (-1)] 36 (0,0)) (by(with_reducible repeat first|refine Qn ?_ _|refine Qe ?_|refine Qo ?_ _);refine Qq (cs:=#[.int .i64 2,.int .i64 1,.int .i64 0]) ?_ 2 _ rfl;(with_reducible repeat first|refine Qn ?_ _|refine Qe ?_|refine Qo ?_ _);refine Qq (cs:=#[.int .i64 2,.int .i64 0,.int .i64 0]) ?_ 1 _ rfl;(with_reducible repeat first|refine Qn ?_ _|refine Qe ?_|refine Qo ?_ _);refine Qq (cs:=#[.int .i64 0,.int .i64 0,.int .i64 0]) ?_ 0 _ rfl;(with_reducible repeat first|refine Qn ?_ _|refine Qe ?_|refine Qo ?_ _);exact O.out) hb);replace HB:=sHb hb;clear hb cu;obtain⟨bo,bn,gi⟩:=Kd.Q5 τ.out;subst gi)|((with_reducible refine Qf (N:=4) rfl ?_);(try(refine Zr (by rfl) ?_;dsimp only));refine qE 4 #[.slice none 0 0,.slice none 0 0] 50 ?_;intro a7 hg ej hbox hb;have χ :=Aside0.mk hbox;have i7:=sGe hg;have i9:=sGe hg;have e4:=sNl ε hg;have e8:=sNg ε hg;have e9:=sNl O hg;have ea:=sNg O hg;replace γ:=sRb γ hb;replace τ :=sRb τ hb;replace ε :=sBk ε hb;replace O:=sBk O hb;replace HB:=sHb hb;clear hb hbox hg;have fg:=e8.out;have fh:=e4.out;have m8:=ea.out;have m9:=e9.out;obtain⟨d0,d1,d2,d3⟩:=qD2 χ.out))
             have μ :Aside0 (Kd.R k31 31 ((ej.setCell ⟨a7,0,none⟩ (.slice bo δ.length bn)).setCell ⟨a7,1,none⟩ (.slice none 0 0)) w.heap.size (fun _=>True) fv B):=⟨by(with_reducible repeat first|apply Kd.Qm|apply Kd.Ql|apply Kd.Qs);exact Kd.Qw (Kd.Qz (Kd.Qz (Kd.Q7 γ.out χ.out (by decide)) (fun _ hk=>hk.2) _) (fun _ hk=>hk.2) (.slice none 0 0)) (fun _ hk=>trivial)⟩
             have ξ :Aside0 (Kd.R k36 36 ((ej.setCell ⟨a7,0,none⟩ (.slice bo δ.length bn)).setCell ⟨a7,1,none⟩ (.slice none 0 0)) w.heap.size (fun k_=>k_≠aj) (.slice bo δ.length bn) δ):=⟨by(with_reducible repeat first|apply Kd.Qm|apply Kd.Ql|apply Kd.Qs);exact Kd.Qw (Kd.Qz (Kd.Qz (Kd.Q7 τ.out χ.out (by decide)) (fun _ hk=>hk.2) _) (fun _ hk=>hk.2) (.slice none 0 0)) (fun _ hk=>hk.1.2)⟩
             have a3:Aside0 (((ej.setCell ⟨a7,0,none⟩ (.slice bo δ.length bn)).setCell ⟨a7,1,none⟩ (.slice none 0 0)).heap[ν]?=some (.cells #[.int .i64 Y,.int .i64 Z,.int .i64 aw,.int .i64 ζ,.int .i64 η,.int .i64 θ,.int .i64 ι,.int .i64 κ,.int .i64 ρ,.int .i64 φ] 25 (0,0))):=⟨bka ε⟩
             have a4:Aside0 (((ej.setCell ⟨a7,0,none⟩ (.slice bo δ.length bn)).setCell ⟨a7,1,none⟩ (.slice none 0 0)).heap[aj]?=some (.cells #[.int .i64 2,.int .i64 1,.int .i64 (-1)] 36 (0,0))):=⟨bka O⟩
             have al:Aside0 (((ej.setCell ⟨a7,0,none⟩ (.slice bo δ.length bn)).setCell ⟨a7,1,none⟩ (.slice none 0 0)).heap[a7]?=some (.cells #[.slice bo δ.length bn,.slice none 0 0] 50 (0,0))):=⟨by refine Qq (cs:=#[.slice bo δ.length bn,.slice none 0 0]) ?_ 1 _ rfl;refine Qq (cs:=#[.slice none 0 0,.slice none 0 0]) ?_ 0 _ rfl;exact χ.out⟩
             have az:Aside0 (Below w.heap.size w ((ej.setCell ⟨a7,0,none⟩ (.slice bo δ.length bn)).setCell ⟨a7,1,none⟩ (.slice none 0 0))):=⟨bel⟩
             (try clear γ)
             (try clear τ)
             (try clear ε)
             (try clear O)
             (try clear χ)
             (try clear HB)
             generalize((ej.setCell ⟨a7,0,none⟩ (.slice bo δ.length bn)).setCell ⟨a7,1,none⟩ (.slice none 0 0))=kc at μ ξ a3 a4 al az ⊢
             have γ:= μ
             have τ := ξ
             have ε :=a3
             have O:=a4
             have χ :=al
             have HB:=az
             clear μ ξ a3 a4 al az
             replace γ:=Aside0.mk (Kd.Qs γ.out)
             replace τ :=Aside0.mk (Kd.Qs τ.out)
             replace ε :=Aside0.mk (Qe ε.out)
             replace O:=Aside0.mk (Qe O.out)
             replace χ :=Aside0.mk (Qe χ.out)
             replace HB:=Aside0.mk (Qg HB.out)
             obtain⟨ij,ek,fi⟩:=Kd.Q5 γ.out
             (first|subst fi|(injection fi with ab ap ac;have ar:=ab.symm;have au:=ac.symm;clear ab ap ac;subst ar;subst au))
             have em:0≤(0:Int):=(by omega)
             have en:0<(B.length:Int):=of_decide_eq_true (by assumption)
             obtain⟨ay,ii,d8,d9,da,b8,b9,ba,bd,bf,bg,bh⟩:=G3 (Kd.Qr γ.out).2.2 0 em en
             cases ii
             have ia:(0<B.length)=True:=eq_true (by omega)
             (try rw[show((0:Int)).toNat=0 from rfl] at d8)
             (try rw[show 0 * 10=0 from rfl] at d8)
             (try rw[Addr.add_zero'] at d8)
             (try rw[show((0:Int)).toNat=0 from rfl] at d9)
             (try rw[show 0 * 10=0 from rfl] at d9)
             (try rw[Addr.add_zero'] at d9)
             (try rw[show((0:Int)).toNat=0 from rfl] at da)
             (try rw[show 0 * 10=0 from rfl] at da)
             (try rw[Addr.add_zero'] at da)
             (try rw[show((0:Int)).toNat=0 from rfl] at b8)
             (try rw[show 0 * 10=0 from rfl] at b8)
             (try rw[Addr.add_zero'] at b8)
             (try rw[show((0:Int)).toNat=0 from rfl] at b9)
             (try rw[show 0 * 10=0 from rfl] at b9)
             (try rw[Addr.add_zero'] at b9)
             (try rw[show((0:Int)).toNat=0 from rfl] at ba)
             (try rw[show 0 * 10=0 from rfl] at ba)
             (try rw[Addr.add_zero'] at ba)
             (try rw[show((0:Int)).toNat=0 from rfl] at bd)
             (try rw[show 0 * 10=0 from rfl] at bd)
             (try rw[Addr.add_zero'] at bd)
             (try rw[show((0:Int)).toNat=0 from rfl] at bf)
             (try rw[show 0 * 10=0 from rfl] at bf)
             (try rw[Addr.add_zero'] at bf)
             (try rw[show((0:Int)).toNat=0 from rfl] at bg)
             (try rw[show 0 * 10=0 from rfl] at bg)
             (try rw[Addr.add_zero'] at bg)
             (try rw[show((0:Int)).toNat=0 from rfl] at bh)
             (try rw[show 0 * 10=0 from rfl] at bh)
             (try rw[Addr.add_zero'] at bh)
             replace em:=eq_true em
             replace en:=eq_true en
             refine Zh (n:=12) (S:=fun w'=>w'.cell? ⟨ν,0,none⟩=some (.int .i64 Y)∧w'.cell? ⟨ν,1,none⟩=some (.int .i64 Z)∧w'.cell? ⟨ν,2,none⟩=some (.int .i64 aw)∧w'.cell? ⟨ν,3,none⟩=some (.int .i64 ζ)∧w'.cell? ⟨ν,4,none⟩=some (.int .i64 η)∧w'.cell? ⟨ν,5,none⟩=some (.int .i64 θ)∧w'.cell? ⟨ν,6,none⟩=some (.int .i64 ι)∧w'.cell? ⟨ν,7,none⟩=some (.int .i64 κ)∧w'.cell? ⟨ν,8,none⟩=some (.int .i64 ρ)∧w'.cell? ⟨ν,9,none⟩=some (.int .i64 φ)∧w'.cell? ⟨aj,0,none⟩=some (.int .i64 2)∧w'.cell? ⟨aj,1,none⟩=some (.int .i64 1)∧w'.cell? ⟨aj,2,none⟩=some (.int .i64 (-1))∧w'.cell? ay=some (.int .i64 ((Qd B 0).f0.f0))∧w'.cell? ⟨ay.block,ay.off+1,none⟩=some (.int .i64 ((Qd B 0).f0.f1))∧w'.cell? ⟨ay.block,ay.off+2,none⟩=some (.int .i64 ((Qd B 0).f0.f2))∧w'.cell? ⟨ay.block,ay.off+3,none⟩=some (.int .i64 ((Qd B 0).f0.f3))∧w'.cell? ⟨ay.block,ay.off+4,none⟩=some (.int .i64 ((Qd B 0).f0.f4.f0))∧w'.cell? ⟨ay.block,ay.off+5,none⟩=some (.int .i64 ((Qd B 0).f0.f4.f1))∧w'.cell? ⟨ay.block,ay.off+6,none⟩=some (.int .i64 ((Qd B 0).f0.f4.f2))∧w'.cell? ⟨ay.block,ay.off+7,none⟩=some (.int .i64 ((Qd B 0).f1))∧w'.cell? ⟨ay.block,ay.off+8,none⟩=some (.bool ((Qd B 0).f2))∧w'.cell? ⟨ay.block,ay.off+9,none⟩=some (.bool ((Qd B 0).f3))) (ds:=[]) #[false,false,false,false,false,false,false,false,false,false,false,false] kr rfl rfl ⟨(Qa ε.out 0).trans rfl,(Qa ε.out 1).trans rfl,(Qa ε.out 2).trans rfl,(Qa ε.out 3).trans rfl,(Qa ε.out 4).trans rfl,(Qa ε.out 5).trans rfl,(Qa ε.out 6).trans rfl,(Qa ε.out 7).trans rfl,(Qa ε.out 8).trans rfl,(Qa ε.out 9).trans rfl,(Qa O.out 0).trans rfl,(Qa O.out 1).trans rfl,(Qa O.out 2).trans rfl,d8,d9,da,b8,b9,ba,bd,bf,bg,bh⟩ (fun hHeld=>?_);refine Q8 newellaw21_awake.Eb newellaw21_awake.Lk (fun HT_ HW_=>?_)
             generalize kc.drew=j8 at γ τ ε O χ HB d8 d9 da b8 b9 ba bd bf bg bh hHeld ⊢
             refine qP 1 (some 24) (bN 12 2) HT_ ?_
             refine qP 2 (some 25) (bN 12 6) HT_ ?_
             refine qP 4 (some 27) (bN 12 22) HT_ ?_
             refine qT 0 (some 23) (bN 12 23) HT_ HW_ hHeld ?_
             refine qT 3 (some 26) (bN 12 31) HT_ HW_ hHeld ?_
             refine qT 5 (some 28) (bN 12 63) HT_ HW_ hHeld ?_
             refine qK 6 (some 29) (bN 12 127) HT_ fun K hK=>?_
             refine Q9 Try.func10 kr rfl #[.agg #[.int .i64 Y,.int .i64 Z,.int .i64 aw,.int .i64 ζ,.int .i64 η,.int .i64 θ,.int .i64 ι,.int .i64 κ,.int .i64 ρ,.int .i64 φ],.agg #[.int .i64 ((Qd B 0).f0.f0),.int .i64 ((Qd B 0).f0.f1),.int .i64 ((Qd B 0).f0.f2),.int .i64 ((Qd B 0).f0.f3),.int .i64 ((Qd B 0).f0.f4.f0),.int .i64 ((Qd B 0).f0.f4.f1),.int .i64 ((Qd B 0).f0.f4.f2),.int .i64 ((Qd B 0).f1),.bool ((Qd B 0).f2),.bool ((Qd B 0).f3)],.agg #[.slice none 0 0,.slice none 0 0,.slice none 0 0],.agg #[.int .i64 2,.int .i64 1,.int .i64 (-1)]] (by rfl) rfl rfl qM ?_
             refine(group_Cost.calls k Y Z aw ζ η θ ι κ ρ φ ((Qd B 0).f0.f0) ((Qd B 0).f0.f1) ((Qd B 0).f0.f2) ((Qd B 0).f0.f3) ((Qd B 0).f0.f4.f0) ((Qd B 0).f0.f4.f1) ((Qd B 0).f0.f4.f2) ((Qd B 0).f1) ((Qd B 0).f2) ((Qd B 0).f3) _ _ ([]:List Int) _ _ ([]:List Int) _ _ ([]:List Int) 2 1 (-1) cb cn _ ?side1 ?side2 ?side3 ?side4 ?side5 ?side6 A3.out).mono ?_
             (case side1=>exact Kd.Ja _ _)
             (case side2=>exact Nat.le_refl _)
             (case side3=>exact Kd.Ja _ _)
             (case side4=>exact Nat.le_refl _)
             (case side5=>exact Kd.Ja _ _)
             (case side6=>exact Nat.le_refl _)
             rintro e gg ⟨rfl,hb⟩
             have cv:=(hb.cell (World.block_lt_of_cell? _ _ (hHeld.2.2.2.2.2.2.2.2.2.2.2.2.2.1))).trans (hHeld.2.2.2.2.2.2.2.2.2.2.2.2.2.1)
             have d4:=(hb.cell (World.block_lt_of_cell? _ _ (hHeld.2.2.2.2.2.2.2.2.2.2.2.2.2.2.1))).trans (hHeld.2.2.2.2.2.2.2.2.2.2.2.2.2.2.1)
             have d5:=(hb.cell (World.block_lt_of_cell? _ _ (hHeld.2.2.2.2.2.2.2.2.2.2.2.2.2.2.2.1))).trans (hHeld.2.2.2.2.2.2.2.2.2.2.2.2.2.2.2.1)
             have db:=(hb.cell (World.block_lt_of_cell? _ _ (hHeld.2.2.2.2.2.2.2.2.2.2.2.2.2.2.2.2.1))).trans (hHeld.2.2.2.2.2.2.2.2.2.2.2.2.2.2.2.2.1)
             have dc:=(hb.cell (World.block_lt_of_cell? _ _ (hHeld.2.2.2.2.2.2.2.2.2.2.2.2.2.2.2.2.2.1))).trans (hHeld.2.2.2.2.2.2.2.2.2.2.2.2.2.2.2.2.2.1)
             have de:=(hb.cell (World.block_lt_of_cell? _ _ (hHeld.2.2.2.2.2.2.2.2.2.2.2.2.2.2.2.2.2.2.1))).trans (hHeld.2.2.2.2.2.2.2.2.2.2.2.2.2.2.2.2.2.2.1)
             have dh:=(hb.cell (World.block_lt_of_cell? _ _ (hHeld.2.2.2.2.2.2.2.2.2.2.2.2.2.2.2.2.2.2.2.1))).trans (hHeld.2.2.2.2.2.2.2.2.2.2.2.2.2.2.2.2.2.2.2.1)
             have di:=(hb.cell (World.block_lt_of_cell? _ _ (hHeld.2.2.2.2.2.2.2.2.2.2.2.2.2.2.2.2.2.2.2.2.1))).trans (hHeld.2.2.2.2.2.2.2.2.2.2.2.2.2.2.2.2.2.2.2.2.1)
             have dj:=(hb.cell (World.block_lt_of_cell? _ _ (hHeld.2.2.2.2.2.2.2.2.2.2.2.2.2.2.2.2.2.2.2.2.2.1))).trans (hHeld.2.2.2.2.2.2.2.2.2.2.2.2.2.2.2.2.2.2.2.2.2.1)
             have dk:=(hb.cell (World.block_lt_of_cell? _ _ (hHeld.2.2.2.2.2.2.2.2.2.2.2.2.2.2.2.2.2.2.2.2.2.2))).trans (hHeld.2.2.2.2.2.2.2.2.2.2.2.2.2.2.2.2.2.2.2.2.2.2)
             refine⟨_,rfl, ?_⟩
             replace γ:=sRb γ hb
             replace τ :=sRb τ hb
             replace ε :=sBk ε hb
             replace O:=sBk O hb
             replace χ :=sBk χ hb
             replace HB:=sHb hb
             (try clear hb)
             (try clear a6)
             (try clear hk)
             (try clear hi)
             refine hK.out _ _ ⟨qc ε,qc ε,qc ε,qc ε,qc ε,qc ε,qc ε,qc ε,qc ε,qc ε,qc O,qc O,qc O,cv,d4,d5,db,dc,de,dh,di,dj,dk⟩ (fun hHeld=>?_)
             clear hK K
             refine qN (some 29) ?_
             refine qP 7 (some 22) (bN 12 255) HT_ ?_
             refine qP 8 (some 30) (bN 12 511) HT_ ?_
             refine qP 9 (some 31) (bN 12 1023) HT_ ?_
             refine qP 10 (some 5) (bN 12 2047) HT_ ?_
             refine qP 11 (some 6) (bN 12 4095) HT_ ?_
             refine Z2 (Zf HT_.out kr) ?_
             try go_wp2
             replace γ:=Aside0.mk (Kd.Qs γ.out)
             replace τ :=Aside0.mk (Kd.Qs τ.out)
             replace ε :=Aside0.mk (Qe ε.out)
             replace O:=Aside0.mk (Qe O.out)
             replace χ :=Aside0.mk (Qe χ.out)
             replace HB:=Aside0.mk (Qg HB.out)
             have el:0≤(1:Int):=(by omega)
             have et:1<(B.length:Int):=of_decide_eq_true (by assumption)
             obtain⟨fu,fw,bi,bj,bl,bm,bp,bq,bu,bw,bz,ca⟩:=G3 (Kd.Qr γ.out).2.2 1 el et
             obtain rfl:ay=fu:=(by injection fw)
             (try simp only[show(1:Int).toNat=1 from rfl,Nat.reduceMul,Nat.reduceEqDiff,Go.Addr.add,↓reduceIte] at bi)
             (try simp only[show(1:Int).toNat=1 from rfl,Nat.reduceMul,Nat.reduceEqDiff,Go.Addr.add,↓reduceIte] at bj)
             (try simp only[show(1:Int).toNat=1 from rfl,Nat.reduceMul,Nat.reduceEqDiff,Go.Addr.add,↓reduceIte] at bl)
             (try simp only[show(1:Int).toNat=1 from rfl,Nat.reduceMul,Nat.reduceEqDiff,Go.Addr.add,↓reduceIte] at bm)
             (try simp only[show(1:Int).toNat=1 from rfl,Nat.reduceMul,Nat.reduceEqDiff,Go.Addr.add,↓reduceIte] at bp)
             (try simp only[show(1:Int).toNat=1 from rfl,Nat.reduceMul,Nat.reduceEqDiff,Go.Addr.add,↓reduceIte] at bq)
             (try simp only[show(1:Int).toNat=1 from rfl,Nat.reduceMul,Nat.reduceEqDiff,Go.Addr.add,↓reduceIte] at bu)
             (try simp only[show(1:Int).toNat=1 from rfl,Nat.reduceMul,Nat.reduceEqDiff,Go.Addr.add,↓reduceIte] at bw)
             (try simp only[show(1:Int).toNat=1 from rfl,Nat.reduceMul,Nat.reduceEqDiff,Go.Addr.add,↓reduceIte] at bz)
             (try simp only[show(1:Int).toNat=1 from rfl,Nat.reduceMul,Nat.reduceEqDiff,Go.Addr.add,↓reduceIte] at ca)
             have ib:(1<B.length)=True:=eq_true (by omega)
             (try rw[show((1:Int)).toNat=1 from rfl] at bi)
             (try rw[show 1 * 10=10 from rfl] at bi)
             (try rw[show((1:Int)).toNat=1 from rfl] at bj)
             (try rw[show 1 * 10=10 from rfl] at bj)
             (try rw[show((1:Int)).toNat=1 from rfl] at bl)
             (try rw[show 1 * 10=10 from rfl] at bl)
             (try rw[show((1:Int)).toNat=1 from rfl] at bm)
             (try rw[show 1 * 10=10 from rfl] at bm)
             (try rw[show((1:Int)).toNat=1 from rfl] at bp)
             (try rw[show 1 * 10=10 from rfl] at bp)
             (try rw[show((1:Int)).toNat=1 from rfl] at bq)
             (try rw[show 1 * 10=10 from rfl] at bq)
             (try rw[show((1:Int)).toNat=1 from rfl] at bu)
             (try rw[show 1 * 10=10 from rfl] at bu)
             (try rw[show((1:Int)).toNat=1 from rfl] at bw)
             (try rw[show 1 * 10=10 from rfl] at bw)
             (try rw[show((1:Int)).toNat=1 from rfl] at bz)
             (try rw[show 1 * 10=10 from rfl] at bz)
             (try rw[show((1:Int)).toNat=1 from rfl] at ca)
             (try rw[show 1 * 10=10 from rfl] at ca)
             replace el:=eq_true el
             replace et:=eq_true et
             refine Zh (n:=12) (S:=fun w'=>w'.cell? ⟨ν,0,none⟩=some (.int .i64 Y)∧w'.cell? ⟨ν,1,none⟩=some (.int .i64 Z)∧w'.cell? ⟨ν,2,none⟩=some (.int .i64 aw)∧w'.cell? ⟨ν,3,none⟩=some (.int .i64 ζ)∧w'.cell? ⟨ν,4,none⟩=some (.int .i64 η)∧w'.cell? ⟨ν,5,none⟩=some (.int .i64 θ)∧w'.cell? ⟨ν,6,none⟩=some (.int .i64 ι)∧w'.cell? ⟨ν,7,none⟩=some (.int .i64 κ)∧w'.cell? ⟨ν,8,none⟩=some (.int .i64 ρ)∧w'.cell? ⟨ν,9,none⟩=some (.int .i64 φ)∧w'.cell? ⟨aj,0,none⟩=some (.int .i64 2)∧w'.cell? ⟨aj,1,none⟩=some (.int .i64 1)∧w'.cell? ⟨aj,2,none⟩=some (.int .i64 (-1))∧w'.cell? ⟨ay.block,ay.off+10,none⟩=some (.int .i64 ((Qd B 1).f0.f0))∧w'.cell? ⟨ay.block,ay.off+10+1,none⟩=some (.int .i64 ((Qd B 1).f0.f1))∧w'.cell? ⟨ay.block,ay.off+10+2,none⟩=some (.int .i64 ((Qd B 1).f0.f2))∧w'.cell? ⟨ay.block,ay.off+10+3,none⟩=some (.int .i64 ((Qd B 1).f0.f3))∧w'.cell? ⟨ay.block,ay.off+10+4,none⟩=some (.int .i64 ((Qd B 1).f0.f4.f0))∧w'.cell? ⟨ay.block,ay.off+10+5,none⟩=some (.int .i64 ((Qd B 1).f0.f4.f1))∧w'.cell? ⟨ay.block,ay.off+10+6,none⟩=some (.int .i64 ((Qd B 1).f0.f4.f2))∧w'.cell? ⟨ay.block,ay.off+10+7,none⟩=some (.int .i64 ((Qd B 1).f1))∧w'.cell? ⟨ay.block,ay.off+10+8,none⟩=some (.bool ((Qd B 1).f2))∧w'.cell? ⟨ay.block,ay.off+10+9,none⟩=some (.bool ((Qd B 1).f3))) (ds:=[]) #[false,false,false,false,false,false,false,false,false,false,false,false] kr rfl rfl ⟨(Qa ε.out 0).trans rfl,(Qa ε.out 1).trans rfl,(Qa ε.out 2).trans rfl,(Qa ε.out 3).trans rfl,(Qa ε.out 4).trans rfl,(Qa ε.out 5).trans rfl,(Qa ε.out 6).trans rfl,(Qa ε.out 7).trans rfl,(Qa ε.out 8).trans rfl,(Qa ε.out 9).trans rfl,(Qa O.out 0).trans rfl,(Qa O.out 1).trans rfl,(Qa O.out 2).trans rfl,bi,bj,bl,bm,bp,bq,bu,bw,bz,ca⟩ (fun hHeld=>?_);refine Q8 newellaw21_awake.Dn newellaw21_awake.Ny (fun HT_ HW_=>?_)
             generalize gg.drew=j9 at γ τ ε O χ HB bi bj bl bm bp bq bu bw bz ca hHeld ⊢
             refine qP 1 (some 34) (bN 12 2) HT_ ?_
             refine qP 2 (some 35) (bN 12 6) HT_ ?_
             refine qP 4 (some 37) (bN 12 22) HT_ ?_
             refine qT 0 (some 33) (bN 12 23) HT_ HW_ hHeld ?_
             refine qT 3 (some 36) (bN 12 31) HT_ HW_ hHeld ?_
             refine qT 5 (some 38) (bN 12 63) HT_ HW_ hHeld ?_
             refine qK 6 (some 39) (bN 12 127) HT_ fun K hK=>?_
             refine Q9 Try.func10 kr rfl #[.agg #[.int .i64 Y,.int .i64 Z,.int .i64 aw,.int .i64 ζ,.int .i64 η,.int .i64 θ,.int .i64 ι,.int .i64 κ,.int .i64 ρ,.int .i64 φ],.agg #[.int .i64 ((Qd B 1).f0.f0),.int .i64 ((Qd B 1).f0.f1),.int .i64 ((Qd B 1).f0.f2),.int .i64 ((Qd B 1).f0.f3),.int .i64 ((Qd B 1).f0.f4.f0),.int .i64 ((Qd B 1).f0.f4.f1),.int .i64 ((Qd B 1).f0.f4.f2),.int .i64 ((Qd B 1).f1),.bool ((Qd B 1).f2),.bool ((Qd B 1).f3)],.agg #[.slice none 0 0,.slice none 0 0,.slice none 0 0],.agg #[.int .i64 2,.int .i64 1,.int .i64 (-1)]] (by rfl) rfl rfl qM ?_
             refine(group_Cost.calls k Y Z aw ζ η θ ι κ ρ φ ((Qd B 1).f0.f0) ((Qd B 1).f0.f1) ((Qd B 1).f0.f2) ((Qd B 1).f0.f3) ((Qd B 1).f0.f4.f0) ((Qd B 1).f0.f4.f1) ((Qd B 1).f0.f4.f2) ((Qd B 1).f1) ((Qd B 1).f2) ((Qd B 1).f3) _ _ ([]:List Int) _ _ ([]:List Int) _ _ ([]:List Int) 2 1 (-1) cf ch _ ?side1 ?side2 ?side3 ?side4 ?side5 ?side6 A5.out).mono ?_
             (case side1=>exact Kd.Ja _ _)
             (case side2=>exact Nat.le_refl _)
             (case side3=>exact Kd.Ja _ _)
             (case side4=>exact Nat.le_refl _)
             (case side5=>exact Kd.Ja _ _)
             (case side6=>exact Nat.le_refl _)
             rintro e sd ⟨rfl,hb⟩
             have cv:=(hb.cell (World.block_lt_of_cell? _ _ (hHeld.2.2.2.2.2.2.2.2.2.2.2.2.2.1))).trans (hHeld.2.2.2.2.2.2.2.2.2.2.2.2.2.1)
             have d4:=(hb.cell (World.block_lt_of_cell? _ _ (hHeld.2.2.2.2.2.2.2.2.2.2.2.2.2.2.1))).trans (hHeld.2.2.2.2.2.2.2.2.2.2.2.2.2.2.1)
             have d5:=(hb.cell (World.block_lt_of_cell? _ _ (hHeld.2.2.2.2.2.2.2.2.2.2.2.2.2.2.2.1))).trans (hHeld.2.2.2.2.2.2.2.2.2.2.2.2.2.2.2.1)
             have db:=(hb.cell (World.block_lt_of_cell? _ _ (hHeld.2.2.2.2.2.2.2.2.2.2.2.2.2.2.2.2.1))).trans (hHeld.2.2.2.2.2.2.2.2.2.2.2.2.2.2.2.2.1)
             have dc:=(hb.cell (World.block_lt_of_cell? _ _ (hHeld.2.2.2.2.2.2.2.2.2.2.2.2.2.2.2.2.2.1))).trans (hHeld.2.2.2.2.2.2.2.2.2.2.2.2.2.2.2.2.2.1)
             have de:=(hb.cell (World.block_lt_of_cell? _ _ (hHeld.2.2.2.2.2.2.2.2.2.2.2.2.2.2.2.2.2.2.1))).trans (hHeld.2.2.2.2.2.2.2.2.2.2.2.2.2.2.2.2.2.2.1)
             have dh:=(hb.cell (World.block_lt_of_cell? _ _ (hHeld.2.2.2.2.2.2.2.2.2.2.2.2.2.2.2.2.2.2.2.1))).trans (hHeld.2.2.2.2.2.2.2.2.2.2.2.2.2.2.2.2.2.2.2.1)
             have di:=(hb.cell (World.block_lt_of_cell? _ _ (hHeld.2.2.2.2.2.2.2.2.2.2.2.2.2.2.2.2.2.2.2.2.1))).trans (hHeld.2.2.2.2.2.2.2.2.2.2.2.2.2.2.2.2.2.2.2.2.1)
             have dj:=(hb.cell (World.block_lt_of_cell? _ _ (hHeld.2.2.2.2.2.2.2.2.2.2.2.2.2.2.2.2.2.2.2.2.2.1))).trans (hHeld.2.2.2.2.2.2.2.2.2.2.2.2.2.2.2.2.2.2.2.2.2.1)
             have dk:=(hb.cell (World.block_lt_of_cell? _ _ (hHeld.2.2.2.2.2.2.2.2.2.2.2.2.2.2.2.2.2.2.2.2.2.2))).trans (hHeld.2.2.2.2.2.2.2.2.2.2.2.2.2.2.2.2.2.2.2.2.2.2)
             refine⟨_,rfl, ?_⟩
             replace γ:=sRb γ hb
             replace τ :=sRb τ hb
             replace ε :=sBk ε hb
             replace O:=sBk O hb
             replace χ :=sBk χ hb
             replace HB:=sHb hb
             (try clear hb)
             (try clear a6)
             (try clear hk)
             (try clear hi)
             refine hK.out _ _ ⟨qc ε,qc ε,qc ε,qc ε,qc ε,qc ε,qc ε,qc ε,qc ε,qc ε,qc O,qc O,qc O,cv,d4,d5,db,dc,de,dh,di,dj,dk⟩ (fun hHeld=>?_)
             clear hK K
             refine qN (some 39) ?_
             refine qP 7 (some 32) (bN 12 255) HT_ ?_
             refine qP 8 (some 40) (bN 12 511) HT_ ?_
             refine qP 9 (some 41) (bN 12 1023) HT_ ?_
             refine qP 10 (some 7) (bN 12 2047) HT_ ?_
             refine qP 11 (some 8) (bN 12 4095) HT_ ?_
             refine Z2 (Zf HT_.out kr) ?_
             obtain⟨fc,fe,ff,fj,fk,fp,fq,fr,ft,gr,gy,h6,h9,ha,he,hh,hj,hl,ho,hu⟩:=Zl ε.out
             obtain⟨dr,dt,du,dv⟩:=qD2 χ.out
             obtain⟨dw,dx,e0,e3,e5,e6⟩:=qD3 O.out
             try go_wp2_with (first|((with_reducible refine Qp (f:=14) rfl ?_);refine Q4 (some 47) rfl rfl Try.func14 kr rfl #[.agg #[.int .i64 Y,.int .i64 Z,.int .i64 aw,.int .i64 ζ,.int .i64 η,.int .i64 θ,.int .i64 ι,.int .i64 κ,.int .i64 ρ,.int .i64 φ],.slice (some ay) B.length ek,.int .i64 0,.agg #[.slice bo δ.length bn,.slice none 0 0],.agg #[.int .i64 2,.int .i64 1,.int .i64 (-1)]] rfl qM ?_;(refine(group_Pick.calls k Y Z aw ζ η θ ι κ ρ φ _ _ B 0 _ _ δ _ _ ([]:List (S86)) 2 1 (-1) ck co _ ?side1 ?side2 ?side3 ?side4 ?side5 ?side6 A6.out).mono ?_);(case side1=>repeat(first|exact(Kd.Qr γ.out).2.2|(with_reducible refine Kd.Yf ?_ _)|(with_reducible refine Kd.Ye ?_ _)|(with_reducible refine Kd.Je ?_)));(case side2=>exact(Kd.Qr γ.out).2.1);(case side3=>repeat(first|exact(Kd.Qr τ.out).2.2|(with_reducible refine Kd.Yf ?_ _)|(with_reducible refine Kd.Ye ?_ _)|(with_reducible refine Kd.Je ?_)));(case side4=>exact(Kd.Qr τ.out).2.1);(case side5=>exact Kd.Ja _ _);(case side6=>exact Nat.le_refl _);rintro e kv ⟨rfl,hb⟩;refine⟨_,rfl, ?_⟩;replace γ:=sRb γ hb;replace τ :=sRb τ hb;replace ε :=sBk ε hb;replace O:=sBk O hb;replace χ :=sBk χ hb;replace HB:=sHb hb;(try clear hb);(try clear a6);(try clear hk);(try clear hi);obtain⟨cm,e7,jy,jz,ki,kj,kn,gq,gs,gt,dq,ed,ko,kp,ks,kt,ku,gu,gv,hx⟩:=Zl ε.out;obtain⟨gk,gl,gm,gw⟩:=qD2 χ.out)|((with_reducible refine Qp (f:=21) rfl ?_);refine Q4 (some 54) rfl rfl Try.func21 kr rfl #[.agg #[.int .i64 Y,.int .i64 Z,.int .i64 aw,.int .i64 ζ,.int .i64 η,.int .i64 θ,.int .i64 ι,.int .i64 κ,.int .i64 ρ,.int .i64 φ],.slice (some ay) B.length ek,.int .i64 0,.agg #[.slice bo δ.length bn,.slice none 0 0]] rfl qM ?_;(refine(group_Spread.calls k Y Z aw ζ η θ ι κ ρ φ _ _ B 0 _ _ δ _ _ ([]:List (S86)) ω cr ct _ ?side1 ?side2 ?side3 ?side4 ?side5 ?side6 A7.out).mono ?_);(case side1=>repeat(first|exact(Kd.Qr γ.out).2.2|(with_reducible refine Kd.Yf ?_ _)|(with_reducible refine Kd.Ye ?_ _)|(with_reducible refine Kd.Je ?_)));(case side2=>exact(Kd.Qr γ.out).2.1);(case side3=>repeat(first|exact(Kd.Qr τ.out).2.2|(with_reducible refine Kd.Yf ?_ _)|(with_reducible refine Kd.Ye ?_ _)|(with_reducible refine Kd.Je ?_)));(case side4=>exact(Kd.Qr τ.out).2.1);(case side5=>exact Kd.Ja _ _);(case side6=>exact Nat.le_refl _);rintro e io ⟨ik,il,rfl,ak,ax,hb⟩;refine⟨_,rfl, ?_⟩;have b5:=Aside0.mk (Kd.Q3 (Kd.Kl (Kd.Z1 ak (Kd.Xu (kra τ))) (g:=aj) (o:=.cells #[.int .i64 2,.int .i64 1,.int .i64 (-1)] 36 (0,0)) (bka O)) (Qh bel));have cd:=Aside0.mk (Kd.Q3 ax (Qh bel));replace γ:=sRb γ hb;replace τ :=Aside0.mk (Kd.Zb (kra τ) (Kd.Zy ak) hb);replace ε :=sBk ε hb;replace O:=sBk O hb;replace χ :=sBk χ hb;replace HB:=sHb hb;(try clear hb);(try clear a6);(try clear hk);(try clear hi);(try clear ak);(try clear ax))|((with_reducible refine Qf (N:=11) rfl ?_);(try(refine Zr (by rfl) ?_;dsimp only));refine qE 11 #[.slice none 0 0,.slice none 0 0] 50 ?_;intro b6 hg kk hbox hb;have am:=Aside0.mk hbox;have ic:=sGe hg;have ie:=sGe hg;have eb:=sNl ε hg;have ee:=sNg ε hg;have ef:=sNl O hg;have eg:=sNg O hg;have eh:=sNl χ hg;have ei:=sNg χ hg;replace γ:=sRb γ hb;replace τ :=sRb τ hb;replace b5:=sRb b5 hb;replace cd:=sRb cd hb;replace ε :=sBk ε hb;replace O:=sBk O hb;replace χ :=sBk χ hb;replace HB:=sHb hb;clear hb hbox hg;obtain⟨im,b2,fx⟩:=Kd.Q5 b5.out;subst fx;have h7:=ee.out;have h8:=eb.out;have ez:=eg.out;have f7:=ef.out;have jw:=ei.out;have jx:=eh.out;obtain⟨cy,cz,d6,dd⟩:=qD2 am.out;obtain⟨dn,dp,fy⟩:=Kd.Q5 cd.out;subst fy;have eu:0≤(0:Int):=(by omega);have ev:0<(ω.length:Int):=of_decide_eq_true (by assumption);obtain⟨af,fz,ao,av,b1⟩:=Z9 (Kd.Qr b5.out).2.2 0 eu ev;cases fz;have ig:(0 < ω.length)=True:=eq_true (by omega);(try rw[show((0:Int)).toNat=0 from rfl] at ao);(try rw[show 0 * 3=0 from rfl] at ao);(try rw[Addr.add_zero'] at ao);(try rw[show((0:Int)).toNat=0 from rfl] at av);(try rw[show 0 * 3=0 from rfl] at av);(try rw[Addr.add_zero'] at av);(try rw[show((0:Int)).toNat=0 from rfl] at b1);(try rw[show 0 * 3=0 from rfl] at b1);(try rw[Addr.add_zero'] at b1);have a9:af.block≠b6:=Kd.V5 (Kd.Z4 b5.out am.out (by decide));have aa:af.block≠b6:=Kd.V5 (Kd.Z4 b5.out am.out (by decide));replace ao:=(cell_far (p:=⟨b6,0,none⟩) (by first|(rw[add_block];exact a9)|(show(Addr.add _ _).block≠_;rw[add_block];exact a9)|exact a9) (.slice (some af) ω.length b2)).trans ao;replace av:=(cell_far (p:=⟨b6,0,none⟩) (by first|(rw[add_block];exact a9)|(show(Addr.add _ _).block≠_;rw[add_block];exact a9)|exact a9) (.slice (some af) ω.length b2)).trans av;replace b1:=(cell_far (p:=⟨b6,0,none⟩) (by first|(rw[add_block];exact a9)|(show(Addr.add _ _).block≠_;rw[add_block];exact a9)|exact a9) (.slice (some af) ω.length b2)).trans b1;replace ao:=(cell_far (p:=⟨b6,1,none⟩) (by first|(rw[add_block];exact aa)|(show(Addr.add _ _).block≠_;rw[add_block];exact aa)|exact aa) (.slice dn cr.length dp)).trans ao;replace av:=(cell_far (p:=⟨b6,1,none⟩) (by first|(rw[add_block];exact aa)|(show(Addr.add _ _).block≠_;rw[add_block];exact aa)|exact aa) (.slice dn cr.length dp)).trans av;replace b1:=(cell_far (p:=⟨b6,1,none⟩) (by first|(rw[add_block];exact aa)|(show(Addr.add _ _).block≠_;rw[add_block];exact aa)|exact aa) (.slice dn cr.length dp)).trans b1;clear a9;clear aa;replace eu:=eq_true eu;replace ev:=eq_true ev;obtain⟨l3,l4,l5,l6,l7,l8,l9,hy,i0,i1,lb,lc,lf,lg,lh,ll,lm,i2,i3,i4⟩:=Zl ε.out;obtain⟨gz,h0,h4,h5⟩:=qD2 χ.out)|(go_at_call 17;(refine(group_Check.calls k Y Z aw ζ η θ ι κ ρ φ _ _ B _ _ δ _ _ ([]:List (S86)) a8 _ ?side1 ?side2 ?side3 ?side4 ?side5 ?side6 cq.out).mono ?_);(case side1=>refine(Kd.Qr (e:=31) (base:=w.heap.size) (ok:=fun k_=>True) (n:=B.length) (c:=ek) ?_).2.2;exact(by(with_reducible repeat first|apply Kd.Qm|apply Kd.Ql|apply Kd.Qs);exact(Kd.Qw (Kd.Qz (Kd.Qz (Kd.Q7 γ.out am.out (by decide)) (fun _ hk=>hk.2) (.slice (some af) ω.length b2)) (fun _ hk=>hk.2) _) (fun _ h_=>h_.1))));(case side2=>exact(Kd.Qr γ.out).2.1);(case side3=>refine(Kd.Qr (e:=36) (base:=w.heap.size) (ok:=fun k_=>(k_≠aj∧some k_≠(.slice (some af) ω.length b2:Value).ownBlock)) (n:= δ.length) (c:=bn) ?_).2.2;exact(by(with_reducible repeat first|apply Kd.Qm|apply Kd.Ql|apply Kd.Qs);exact(Kd.Qw (Kd.Qz (Kd.Qz (Kd.Q7 τ.out am.out (by decide)) (fun _ hk=>hk.2) (.slice (some af) ω.length b2)) (fun _ hk=>hk.2) _) (fun _ h_=>h_.1))));(case side4=>exact(Kd.Qr τ.out).2.1);(case side5=>exact Kd.Ja _ _);(case side6=>exact Nat.le_refl _);rintro e d7 ⟨rfl,hb⟩;have μ :=Aside0.mk (Kd.Za (by(with_reducible repeat first|apply Kd.Qm|apply Kd.Ql|apply Kd.Qs);exact(Kd.Qw (Kd.Qz (Kd.Qz (Kd.Q7 γ.out am.out (by decide)) (fun _ hk=>hk.2) (.slice (some af) ω.length b2)) (fun _ hk=>hk.2) _) (fun _ h_=>h_.1))) hb);have ξ :=Aside0.mk (Kd.Za (by(with_reducible repeat first|apply Kd.Qm|apply Kd.Ql|apply Kd.Qs);exact(Kd.Qw (Kd.Qz (Kd.Qz (Kd.Q7 τ.out am.out (by decide)) (fun _ hk=>hk.2) (.slice (some af) ω.length b2)) (fun _ hk=>hk.2) _) (fun _ h_=>h_.1))) hb);have a3:=Aside0.mk (Kd.Za (by(with_reducible repeat first|apply Kd.Qm|apply Kd.Ql|apply Kd.Qs);exact(Kd.Qw (Kd.Qz (Kd.Qz (Kd.Q7 b5.out am.out (by decide)) (fun _ hk=>hk.2) (.slice (some af) ω.length b2)) (fun _ hk=>hk.2) _) (fun _ h_=>h_.1))) hb);have a4:=Aside0.mk (Kd.Za (by(with_reducible repeat first|apply Kd.Qm|apply Kd.Ql|apply Kd.Qs);exact(Kd.Qw (Kd.Qz (Kd.Qz (Kd.Q7 cd.out am.out (by decide)) (fun _ hk=>hk.2) (.slice (some af) ω.length b2)) (fun _ hk=>hk.2) _) (fun _ h_=>h_.1))) hb);have al:=Aside0.mk (Qy (g:= ν) (o:=.cells #[.int .i64 Y,.int .i64 Z,.int .i64 aw,.int .i64 ζ,.int .i64 η,.int .i64 θ,.int .i64 ι,.int .i64 κ,.int .i64 ρ,.int .i64 φ] 25 (0,0)) (bka ε) hb);have az:=Aside0.mk (Qy (g:=aj) (o:=.cells #[.int .i64 2,.int .i64 1,.int .i64 (-1)] 36 (0,0)) (bka O) hb);have b3:=Aside0.mk (Qy (g:=a7) (o:=.cells #[.slice bo δ.length bn,.slice none 0 0] 50 (0,0)) (bka χ) hb);have bb:=Aside0.mk (Qy (g:=b6) (o:=.cells #[.slice (some af) ω.length b2,.slice dn cr.length dp] 50 (0,0)) (by(with_reducible repeat first|refine Qn ?_ _|refine Qe ?_|refine Qo ?_ _);refine Qq (cs:=#[.slice (some af) ω.length b2,.slice none 0 0]) ?_ 1 _ rfl;(with_reducible repeat first|refine Qn ?_ _|refine Qe ?_|refine Qo ?_ _);refine Qq (cs:=#[.slice none 0 0,.slice none 0 0]) ?_ 0 _ rfl;(with_reducible repeat first|refine Qn ?_ _|refine Qe ?_|refine Qo ?_ _);exact am.out) hb);have bk:=Aside0.mk (Q0 bel hb);clear γ;clear τ;clear b5;clear cd;clear ε;clear O;clear χ;clear am;clear HB;have γ:= μ;have τ := ξ;have b5:=a3;have cd:=a4;have ε :=al;have O:=az;have χ :=b3;have am:=bb;have HB:=bk;clear μ ξ a3 a4 al az b3 bb bk;(try clear hb);(try clear a6);(try clear hk);(try clear hi)))
             go_ret
             exact⟨rfl,HB.out⟩
            ·rw[if_neg σ] at H
             exact absurd H (by simp)
           ·rw[if_neg ψ] at H
            exact absurd H (by simp)
          ·rw[if_neg b4] at H
           exact absurd H (by simp)
         ·rw[if_neg ag] at H
          exact absurd H (by simp)
        ·rw[if_neg be] at H
         exact absurd H (by simp)
       ·rw[if_neg ai] at H
        exact absurd H (by simp)
      ·rw[if_neg ah] at H
       exact absurd H (by simp)
     ·rw[if_neg c10] at H
      exact absurd H (by simp)
    ·rw[if_neg c9] at H
     exact absurd H (by simp)
   ·rw[if_neg c8] at H
    exact absurd H (by simp)
  ·rw[if_neg c4] at H
   exact absurd H (by simp)
 ·rw[if_neg c2] at H
  exact absurd H (by simp)
end Go.Proofs.Ytmfffemidlhcpaa.C
namespace Go.Proofs.Ytmfffemidlhcpaa.GrpPure
open Go.RowKit Go.Proofs.YtmfffemidlhcpaaW.PrintWords Go.Proofs.YtmfffemidlhcpaaW.PrintLast Go.Proofs.YtmfffemidlhcpaaW.PrintMore Go.Proofs.Ytmfffemidlhcpaa.C Go.Proofs.Ytmfffemidlhcpaa.DoorPure
set_option linter.unusedVariables false
set_option linter.unusedSimpArgs false
open Go.Proofs.Ytmfffemidlhcpaa.Call (i64 okB)
theorem Nz:newellaw21_awake.f 60=some true:=by kernel_rfl
theorem G2 (k:Nat) (hk:60≤k):newellaw21_awake.f k=some true:=Mt (g:=newellaw21_awake.f) newellaw21_awake.mono hk Nz
end Go.Proofs.Ytmfffemidlhcpaa.GrpPure
namespace Go.Proofs.Ytmfffemidlhcpaa.GrpPure
open Go.RowKit Go.Proofs.YtmfffemidlhcpaaW.PrintWords Go.Proofs.YtmfffemidlhcpaaW.PrintLast Go.Proofs.YtmfffemidlhcpaaW.PrintMore Go.Proofs.Ytmfffemidlhcpaa.C Go.Proofs.Ytmfffemidlhcpaa.DoorPure
set_option linter.unusedVariables false
set_option linter.unusedSimpArgs false
open Go.Proofs.Ytmfffemidlhcpaa.Call (i64 okB Y2 X5 X6 Hall Ins)
def Vq (g0 g1 g2 g3 g4 g5 g6 g7 g8 g9:Int) (y:S31):Prop:=U9 g0 g1 g2 g3 g4 g5 g6 g7 g8 g9 y.f0.f0 y.f0.f1 y.f0.f2 y.f0.f3 y.f0.f4.f0 y.f0.f4.f1 y.f0.f4.f2 y.f1
instance (g0 g1 g2 g3 g4 g5 g6 g7 g8 g9:Int) (y:S31):Decidable (Vq g0 g1 g2 g3 g4 g5 g6 g7 g8 g9 y):=by unfold Vq;exact inferInstance
def Vr (g0 g1 g2 g3 g4 g5 g6 g7 g8 g9:Int) (y:S31):Bool:=decide (Vq g0 g1 g2 g3 g4 g5 g6 g7 g8 g9 y)
def Jd (g0 g1 g2 g3 g4 g5 g6 g7 g8 g9:Int) (L:List S31) (H:List Hall) (I:List Ins):Int:=
  if 1≤L.length∧L.length≤8 then (if L.all (Vr g0 g1 g2 g3 g4 g5 g6 g7 g8 g9)=true then (if okB g0 L.length H I=true then 0 else 190) else 210) else 210
theorem rdL (l:List S31) (i:Nat) (h:i<l.length):Qd l (i:Int)=l[i]:=by
  unfold Qd
  rw[Int.toNat_natCast,List.getD_eq_getElem?_getD,List.getElem?_eq_getElem h]
  rfl
theorem up1 {i:Nat} (h:i≤1000000000):wrap64 ((i:Int)+1)=((i+1:Nat):Int):=by unfold wrap64;omega
theorem Df {n:Nat} (h:n≤1000000000):i64 (n:Int):=by unfold Call.i64;omega
theorem Wz (g0 g1 g2 g3 g4 g5 g6 g7 g8 g9:Int) (L:List S31) (H:List Hall) (I:List Ins) (hL:L.length≤100) (hH:H.length<900000000) (hI:I.length<900000000) (j:Nat):∀ (f i:Nat),i+j=L.length→j+20<f →
    group_Check.l0 f L L (L.length:Int) (i:Int) g0 g1 g2 g3 g4 g5 g6 g7 g8 g9 H I=some (if (L.drop i).all (Vr g0 g1 g2 g3 g4 g5 g6 g7 g8 g9)=true then (if okB g0 L.length H I=true then 0 else 190) else 210):=by
  induction j with
  |zero=>
    intro f i h hf
    obtain⟨f,rfl⟩:∃ m,f=m+2:=⟨f-2,by omega⟩
    simp only[group_Check.l0]
    rw[if_neg (by omega),List.drop_of_length_le (by omega)]
    unfold group_house.f
    simp only[Option.bind_some]
    rw[Call.Yu f g0 L.length H I hH hI (Df (by omega))]
    simp
  |succ j ih=>
    intro f i h hf
    obtain⟨f,rfl⟩:∃ m,f=m+1:=⟨f-1,by omega⟩
    have hlt:i<L.length:=by omega
    simp only[group_Check.l0]
    rw[if_pos (by omega),if_pos (by omega),if_pos (by omega),rdL L i hlt,Er _ _ _ _ _ _ _ _ _ _ _ _ _ _ _ _ _ _ _ _ f (by omega),up1 (by omega),ih f (i+1) (by omega) (by omega),List.drop_eq_getElem_cons hlt,List.all_cons]
    simp only[Option.bind_some]
    generalize hy:L[i]=y
    by_cases hc:Vq g0 g1 g2 g3 g4 g5 g6 g7 g8 g9 y
    · have hb:Vr g0 g1 g2 g3 g4 g5 g6 g7 g8 g9 y=true:=decide_eq_true hc
      rw[hb,Bool.true_and]
      rw[show decide (U9 g0 g1 g2 g3 g4 g5 g6 g7 g8 g9 y.f0.f0 y.f0.f1 y.f0.f2 y.f0.f3 y.f0.f4.f0 y.f0.f4.f1 y.f0.f4.f2 y.f1)=true from hb,if_pos rfl]
    · have hb:Vr g0 g1 g2 g3 g4 g5 g6 g7 g8 g9 y=false:=decide_eq_false hc
      rw[hb,Bool.false_and]
      rw[show decide (U9 g0 g1 g2 g3 g4 g5 g6 g7 g8 g9 y.f0.f0 y.f0.f1 y.f0.f2 y.f0.f3 y.f0.f4.f0 y.f0.f4.f1 y.f0.f4.f2 y.f1)=false from hb,if_neg (by decide),if_neg (by decide)]
theorem Mj (g0 g1 g2 g3 g4 g5 g6 g7 g8 g9:Int) (L:List S31) (H:List Hall) (I:List Ins) (hH:H.length<900000000) (hI:I.length<900000000) (f:Nat) (hf:200<f):
    group_Check.f f g0 g1 g2 g3 g4 g5 g6 g7 g8 g9 L H I=some (Jd g0 g1 g2 g3 g4 g5 g6 g7 g8 g9 L H I):=by
  obtain⟨f,rfl⟩:∃ m,f=m+1:=⟨f-1,by omega⟩
  unfold group_Check.f Jd
  by_cases h1:(L.length:Int)<1
  · rw[if_pos h1,if_neg (by omega)]
    simp[group_Check.j0]
  rw[if_neg h1]
  by_cases O:(L.length:Int)>8
  · rw[decide_eq_true O,if_neg (by omega)]
    simp[group_Check.j0]
  rw[decide_eq_false O,if_pos (by omega)]
  simp only[group_Check.j0]
  rw[if_neg (by decide)]
  have:=Wz g0 g1 g2 g3 g4 g5 g6 g7 g8 g9 L H I (by omega) hH hI L.length f 0 (by omega) (by omega)
  rw[List.drop_zero] at this
  exact this
structure Ok (g0 g1 g2 g3 g4 g5 g6 g7 g8 g9:Int) (L:List S31) (H:List Hall) (I:List Ins):Prop where
  n:1≤L.length∧L.length≤8
  l:∀ y ∈ L,Vq g0 g1 g2 g3 g4 g5 g6 g7 g8 g9 y
  c:okB g0 L.length H I=true
theorem De {g0 g1 g2 g3 g4 g5 g6 g7 g8 g9:Int} {L:List S31} {H:List Hall} {I:List Ins} (h:Jd g0 g1 g2 g3 g4 g5 g6 g7 g8 g9 L H I=0):Ok g0 g1 g2 g3 g4 g5 g6 g7 g8 g9 L H I:=by
  unfold Jd at h
  by_cases h1:1≤L.length∧L.length≤8
  · rw[if_pos h1] at h
    by_cases O:L.all (Vr g0 g1 g2 g3 g4 g5 g6 g7 g8 g9)=true
    · rw[if_pos O] at h
      by_cases Y:okB g0 L.length H I=true
      · exact⟨h1,fun y hy=>of_decide_eq_true (List.all_eq_true.1 O y hy),Y⟩
      · rw[if_neg Y] at h;exact absurd h (by decide)
    · rw[if_neg O] at h;exact absurd h (by decide)
  · rw[if_neg h1] at h;exact absurd h (by decide)
theorem Ok.check {g0 g1 g2 g3 g4 g5 g6 g7 g8 g9:Int} {L:List S31} {H:List Hall} {I:List Ins} (h:Ok g0 g1 g2 g3 g4 g5 g6 g7 g8 g9 L H I):Jd g0 g1 g2 g3 g4 g5 g6 g7 g8 g9 L H I=0:=by
  have ha:L.all (Vr g0 g1 g2 g3 g4 g5 g6 g7 g8 g9)=true:=List.all_eq_true.2 (fun y hy=>decide_eq_true (h.l y hy))
  unfold Jd
  rw[if_pos h.n,if_pos ha,if_pos h.c]
theorem Ok.f {g0 g1 g2 g3 g4 g5 g6 g7 g8 g9:Int} {L:List S31} {H:List Hall} {I:List Ins} (h:Ok g0 g1 g2 g3 g4 g5 g6 g7 g8 g9 L H I):2≤g0∧g0≤64:=(Call.Jx.1 h.c).1
abbrev costX (g0 g1 g2 g3 g4 g5 g6 g7 g8 g9:Int) (y:S31) (n B J:Int):Int:=Dh g0 g1 g2 g3 g6 g8 g9 y.f0.f0 y.f0.f1 y.f0.f2 y.f0.f3 y.f0.f4.f0 y.f0.f4.f1 y.f0.f4.f2 y.f1 n B J
def Jp (g0 g1 g2 g3 g4 g5 g6 g7 g8 g9:Int) (L:List S31) (H:List Hall) (I:List Ins) (B J i:Int):Int:=costX g0 g1 g2 g3 g4 g5 g6 g7 g8 g9 (Qd L i) (M2 (Y2 i I) (X5 i H) (X6 i H)) B J
theorem U6 {g0 g1 g2 g3 g4 g5 g6 g7 g8 g9:Int} {L:List S31} {H:List Hall} {I:List Ins} (h:Ok g0 g1 g2 g3 g4 g5 g6 g7 g8 g9 L H I) (hH:H.length≤1000) (hI:I.length≤1000) {B:Int} (J Z:Int) (hx:0≤B∧B<g0) (i:Nat) (hi:i<L.length) (f:Nat) (hf:3000<f):
    group_pick_1.f f (i:Int) g0 g1 g2 g3 g4 g5 g6 g7 g8 g9 L H I B J Z=some (Jp g0 g1 g2 g3 g4 g5 g6 g7 g8 g9 L H I B J i):=by
  have hn:=h.n
  unfold group_pick_1.f group_house.f Jp
  simp only[Option.bind_some]
  rw[Call.W9 f g0 L.length H I i (by omega) (by omega) (Df (by omega)) (by omega),if_pos h.c,if_pos (show(0:Int)≤(i:Int)∧(i:Int)≤(L.length:Int)-1 by omega)]
  simp only[Option.bind_some]
  rw[if_pos (by omega),if_pos (by omega),rdL L i hi]
  have hl:Vq g0 g1 g2 g3 g4 g5 g6 g7 g8 g9 L[i]:=h.l _ (List.getElem_mem hi)
  generalize L[i]=y at hl ⊢
  rw[E3 J Z _ _ _ _ _ f (by omega) hl hx]
  rfl
def Yl (a2 i:Int):Bool:=decide ((Go.bits .and .i64 (shr .i64 a2 i) 1)=1)
def Kt (bad:Int→Bool) (cost:Int→Int):Nat→Int→Int→Int
  |0,_,b=>b
  |j+1,i,b=>Kt bad cost j (i+1) (if bad i=true then b else if b<0 then i else if cost i<cost b then i else b)
abbrev In (L:List S31) (b:Int):Prop:=b = -1 ∨ ∃ m:Nat,b=(m:Int)∧m<L.length
theorem L2 {g0 g1 g2 g3 g4 g5 g6 g7 g8 g9:Int} {L:List S31} {H:List Hall} {I:List Ins} (h:Ok g0 g1 g2 g3 g4 g5 g6 g7 g8 g9 L H I) (hH:H.length≤1000) (hI:I.length≤1000) {B:Int} (J Z a2:Int) (hx:0≤B∧B<g0) (j:Nat):∀ (f i:Nat) (b:Int),i+j=L.length→j+3001<f→In L b →
    group_pick.l0 f a2 b (L.length:Int) (i:Int) g0 g1 g2 g3 g4 g5 g6 g7 g8 g9 L H I B J Z=some (Kt (Yl a2) (Jp g0 g1 g2 g3 g4 g5 g6 g7 g8 g9 L H I B J) j i b):=by
  have hn:=h.n
  induction j with
  |zero=>
    intro f i b hi hf hb
    obtain⟨f,rfl⟩:∃ m,f=m+1:=⟨f-1,by omega⟩
    simp only[group_pick.l0]
    rw[if_neg (by omega)]
    rfl
  |succ j ih=>
    intro f i b hi hf hb
    obtain⟨f,rfl⟩:∃ m,f=m+1:=⟨f-1,by omega⟩
    have hlt:i<L.length:=by omega
    simp only[group_pick.l0]
    rw[if_pos (by omega),if_pos (by omega),up1 (by omega),Kt]
    have O:=ih f (i+1) b (by omega) (by omega) hb
    have Y:=ih f (i+1) (i:Int) (by omega) (by omega) (Or.inr ⟨i,rfl,hlt⟩)
    rw[show(((i+1:Nat):Int))=(i:Int)+1 by omega] at O Y ⊢
    by_cases hc:(Go.bits .and .i64 (shr .i64 a2 (i:Int)) 1)=1
    · rw[if_pos hc,show Yl a2 (i:Int)=true from decide_eq_true hc,if_pos rfl]
      exact O
    · rw[if_neg hc,show Yl a2 (i:Int)=false from decide_eq_false hc]
      simp only[Bool.false_eq_true,if_false]
      by_cases X:b<0
      · rw[if_pos X,if_pos X]
        exact Y
      · rw[if_neg X,if_neg X]
        obtain⟨m,rfl,hm⟩:∃ m:Nat,b=(m:Int)∧m<L.length:=hb.resolve_left (by omega)
        rw[U6 h hH hI J Z hx i hlt f (by omega),U6 h hH hI J Z hx m hm f (by omega)]
        simp only[Option.bind_some]
        by_cases hl:Jp g0 g1 g2 g3 g4 g5 g6 g7 g8 g9 L H I B J (i:Int)<Jp g0 g1 g2 g3 g4 g5 g6 g7 g8 g9 L H I B J (m:Int)
        · rw[if_pos hl,if_pos hl]
          exact Y
        · rw[if_neg hl,if_neg hl]
          exact O
abbrev Gp (g0 g1 g2 g3 g4 g5 g6 g7 g8 g9:Int) (L:List S31) (a2:Int) (H:List Hall) (I:List Ins) (B J:Int):Int:=Kt (Yl a2) (Jp g0 g1 g2 g3 g4 g5 g6 g7 g8 g9 L H I B J) L.length 0 (-1)
theorem Ee {g0 g1 g2 g3 g4 g5 g6 g7 g8 g9:Int} {L:List S31} {H:List Hall} {I:List Ins} (h:Ok g0 g1 g2 g3 g4 g5 g6 g7 g8 g9 L H I) (hH:H.length≤1000) (hI:I.length≤1000) {B:Int} (J Z a2:Int) (hx:0≤B∧B<g0) (f:Nat) (hf:3100<f):
    group_pick.f f g0 g1 g2 g3 g4 g5 g6 g7 g8 g9 L a2 H I B J Z=some (Gp g0 g1 g2 g3 g4 g5 g6 g7 g8 g9 L a2 H I B J):=by
  have hn:=h.n
  unfold group_pick.f
  exact L2 h hH hI J Z a2 hx L.length f 0 (-1) (by omega) (by omega) (Or.inl rfl)
theorem Wu (g0 g1 g2 g3 g4 g5 g6 g7 g8 g9:Int) (L:List S31) (a2:Int) (H:List Hall) (I:List Ins):newellaw21_few.f g0 g1 g2 g3 g4 g5 g6 g7 g8 g9 L a2 H I=some false∨(newellaw21_few.f g0 g1 g2 g3 g4 g5 g6 g7 g8 g9 L a2 H I=some true∧L.length≤10∧H.length≤130∧I.length≤520):=by
  unfold newellaw21_few.f
  by_cases h:(L.length:Int)≤10
  · rw[if_pos h]
    rcases Call.Wu H I with e|⟨e,a,b⟩
    · rw[e];exact Or.inl rfl
    · rw[e];exact Or.inr ⟨rfl,by omega,a,b⟩
  · rw[if_neg h];exact Or.inl rfl
end Go.Proofs.Ytmfffemidlhcpaa.GrpPure
namespace Go.Proofs.Ytmfffemidlhcpaa.GrpPure
open Go.RowKit Go.Proofs.YtmfffemidlhcpaaW.PrintWords Go.Proofs.YtmfffemidlhcpaaW.PrintLast Go.Proofs.YtmfffemidlhcpaaW.PrintMore Go.Proofs.Ytmfffemidlhcpaa.C Go.Proofs.Ytmfffemidlhcpaa.DoorPure
set_option linter.unusedVariables false
set_option linter.unusedSimpArgs false
open Go.Proofs.Ytmfffemidlhcpaa.Call (i64 okB Y2 X5 X6 Hall Ins ltH)
abbrev at_ (A:List Hall) (i:Nat):Hall:=Qc A (i:Int)
abbrev put (A:List Hall) (i:Nat) (c:Int):List Hall:=A.set i ⟨(at_ A i).f0,(at_ A i).f1,c⟩
theorem V4 (A:List Hall) (i:Nat) (hi:i<A.length) (c:Int) (m:Nat) (hm:m<(put A i c).length) (hm':m<A.length):((put A i c)[m]).f0=A[m].f0∧((put A i c)[m]).f1=A[m].f1∧((put A i c)[m]).f2=if i=m then c else A[m].f2:=by
  unfold put at_
  simp only[List.getElem_set,Call.Yk A i hi]
  by_cases h:i=m
  · subst h
    simp
  · simp[h]
theorem Wp {A:List Hall} (hs:A.Pairwise (fun x y=>ltH x y=true)) (i:Nat) (hi:i<A.length) (c:Int):(put A i c).Pairwise (fun x y=>ltH x y=true):=by
  rw[List.pairwise_iff_getElem]
  intro a b ha hb hab
  have la:a<A.length:=by simpa[put] using ha
  have lb:b<A.length:=by simpa[put] using hb
  have:=List.pairwise_iff_getElem.1 hs a b la lb hab
  rw[Call.Ku] at this ⊢
  obtain⟨e1,B,-⟩:=V4 A i hi c a ha la
  obtain⟨Z,J,-⟩:=V4 A i hi c b hb lb
  rw[e1,B,Z,J]
  exact this
theorem Dp {F C:Int} {A:List Hall} {I:List Ins} (h:okB F C A I=true) (i:Nat) (hi:i<A.length) (c:Int) (hc: -1≤c∧c≤C-1):okB F C (put A i c) I=true:=by
  obtain⟨hF,hC,⟨h1,O⟩,Y⟩:=Call.Jx.1 h
  refine Call.Jx.2 ⟨hF,hC,⟨?_,Wp O i hi c⟩,Y⟩
  intro x hx
  obtain⟨m,hm,rfl⟩:=List.getElem_of_mem hx
  have lm:m<A.length:=by simpa[put] using hm
  obtain⟨e1,B,Z⟩:=V4 A i hi c m hm lm
  have:=(Call.Gu hF hC).1 (h1 A[m] (List.getElem_mem lm))
  refine(Call.Gu hF hC).2 ?_
  rw[e1,B,Z]
  refine⟨this.1,this.2.1,this.2.2.1, ?_⟩
  split
  · exact hc
  · exact this.2.2.2
theorem U5 (bad:Int→Bool) (cost:Int→Int) (n:Nat) (j:Nat):∀ (i:Nat) (b:Int),i+j=n→(-1≤b∧b≤(n:Int)-1) → -1≤Kt bad cost j i b∧Kt bad cost j i b≤(n:Int)-1:=by
  induction j with
  |zero=>intro i b _ h;exact h
  |succ j ih=>
    intro i b hi h
    rw[Kt]
    have e:(i:Int)+1=((i+1:Nat):Int):=by omega
    rw[e]
    refine ih (i+1) _ (by omega) ?_
    split
    · exact h
    · split
      · omega
      · split <;> omega
theorem Ok.put {g0 g1 g2 g3 g4 g5 g6 g7 g8 g9:Int} {L:List S31} {A:List Hall} {I:List Ins} (h:Ok g0 g1 g2 g3 g4 g5 g6 g7 g8 g9 L A I) (i:Nat) (hi:i<A.length) (c:Int) (hc: -1≤c∧c≤(L.length:Int)-1):Ok g0 g1 g2 g3 g4 g5 g6 g7 g8 g9 L (put A i c) I:=⟨h.n,h.l,Dp h.c i hi c hc⟩
theorem Ok.hall {g0 g1 g2 g3 g4 g5 g6 g7 g8 g9:Int} {L:List S31} {A:List Hall} {I:List Ins} (h:Ok g0 g1 g2 g3 g4 g5 g6 g7 g8 g9 L A I) (i:Nat) (hi:i<A.length):(0≤(at_ A i).f0∧(at_ A i).f0<g0)∧(-1≤(at_ A i).f2∧(at_ A i).f2≤(L.length:Int)-1):=by
  have hn:=h.n
  obtain⟨hF,hC,⟨h1,-⟩,-⟩:=Call.Jx.1 h.c
  have:=(Call.Gu hF hC).1 (h1 A[i] (List.getElem_mem hi))
  unfold at_
  rw[Call.Yk A i hi]
  omega
def Xz (a2:Int):Nat→Nat→List Hall→List Hall
  |0,_,A=>A
  |j+1,i,A=>Xz a2 j (i+1) (if (at_ A i).f2≥0∧Yl a2 (at_ A i).f2=true then put A i (-1) else A)
def X8 (g0 g1 g2 g3 g4 g5 g6 g7 g8 g9:Int) (L:List S31) (a2:Int) (I:List Ins):Nat→Nat→List Hall→List Hall
  |0,_,A=>A
  |j+1,i,A=>X8 g0 g1 g2 g3 g4 g5 g6 g7 g8 g9 L a2 I j (i+1) (if (at_ A i).f2<0 then put A i (Gp g0 g1 g2 g3 g4 g5 g6 g7 g8 g9 L a2 A I (at_ A i).f0 (at_ A i).f1) else A)
theorem Xk (A:List Hall) (i:Nat) (c:Int):(put A i c).length=A.length:=by simp[put]
theorem Lu {g0 g1 g2 g3 g4 g5 g6 g7 g8 g9:Int} {L:List S31} {I:List Ins} (a2:Int) (hI:I.length≤1000) (j:Nat):∀ (f i:Nat) (A:List Hall),Ok g0 g1 g2 g3 g4 g5 g6 g7 g8 g9 L A I→A.length≤1000→i+j=A.length→j+4001<f →
    group_Spread.l1 f L a2 (A.length:Int) (i:Int) g0 g1 g2 g3 g4 g5 g6 g7 g8 g9 A I=some (X8 g0 g1 g2 g3 g4 g5 g6 g7 g8 g9 L a2 I j i A,I,0):=by
  induction j with
  |zero=>
    intro f i A ok hA hi hf
    obtain⟨f,rfl⟩:∃ m,f=m+1:=⟨f-1,by omega⟩
    simp only[group_Spread.l1]
    rw[if_neg (by omega)]
    rfl
  |succ j ih=>
    intro f i A ok hA hi hf
    obtain⟨f,rfl⟩:∃ m,f=m+1:=⟨f-1,by omega⟩
    have hlt:i<A.length:=by omega
    have hh:=ok.hall i hlt
    simp only[group_Spread.l1]
    rw[if_pos (by omega),if_pos (by omega),if_pos (by omega),up1 (by omega),X8]
    by_cases X:(at_ A i).f2<0
    · rw[if_pos X,if_pos X,Ee ok hA hI _ _ a2 hh.1 f (by omega)]
      simp only[Option.bind_some,Int.toNat_natCast]
      have hp:=U5 (Yl a2) (Jp g0 g1 g2 g3 g4 g5 g6 g7 g8 g9 L A I (at_ A i).f0 (at_ A i).f1) L.length L.length 0 (-1) (by omega) (by have:=ok.n;omega)
      have:=ih f (i+1) (put A i (Gp g0 g1 g2 g3 g4 g5 g6 g7 g8 g9 L a2 A I (at_ A i).f0 (at_ A i).f1)) (ok.put i hlt _ hp) (by rw[Xk];exact hA) (by rw[Xk];omega) (by omega)
      rw[Xk] at this
      exact this
    · rw[if_neg X,if_neg X]
      exact ih f (i+1) A ok hA (by omega) (by omega)
theorem Lv {g0 g1 g2 g3 g4 g5 g6 g7 g8 g9:Int} {L:List S31} {I:List Ins} (a2:Int) (hI:I.length≤1000) (j:Nat):∀ (f i:Nat) (A:List Hall),Ok g0 g1 g2 g3 g4 g5 g6 g7 g8 g9 L A I→A.length≤1000→i+j=A.length→j+A.length+4101<f →
    group_Spread.l0 f L a2 (A.length:Int) (i:Int) g0 g1 g2 g3 g4 g5 g6 g7 g8 g9 A I=some (X8 g0 g1 g2 g3 g4 g5 g6 g7 g8 g9 L a2 I A.length 0 (Xz a2 j i A),I,0):=by
  induction j with
  |zero=>
    intro f i A ok hA hi hf
    obtain⟨f,rfl⟩:∃ m,f=m+1:=⟨f-1,by omega⟩
    simp only[group_Spread.l0]
    rw[if_neg (by omega)]
    exact Lu a2 hI A.length f 0 A ok hA (by omega) (by omega)
  |succ j ih=>
    intro f i A ok hA hi hf
    obtain⟨f,rfl⟩:∃ m,f=m+1:=⟨f-1,by omega⟩
    have hlt:i<A.length:=by omega
    have hh:=ok.hall i hlt
    simp only[group_Spread.l0]
    rw[if_pos (by omega),if_pos (by omega),if_pos (by omega),up1 (by omega),Xz]
    by_cases X:(at_ A i).f2≥0
    · rw[if_pos X,if_pos X]
      by_cases h1:(Go.bits .and .i64 (shr .i64 a2 (at_ A i).f2) 1)=1
      · rw[if_pos h1,if_pos (⟨X,decide_eq_true h1⟩:(at_ A i).f2≥0∧Yl a2 (at_ A i).f2=true)]
        simp only[Int.toNat_natCast]
        have:=ih f (i+1) (put A i (-1)) (ok.put i hlt _ (by have:=ok.n;omega)) (by rw[Xk];exact hA) (by rw[Xk];omega) (by rw[Xk];omega)
        rw[Xk] at this
        exact this
      · rw[if_neg h1,if_neg (fun q:(at_ A i).f2≥0∧Yl a2 (at_ A i).f2=true=>h1 (of_decide_eq_true q.2))]
        exact ih f (i+1) A ok hA (by omega) (by omega)
    · rw[if_neg X,if_neg (fun q:(at_ A i).f2≥0∧Yl a2 (at_ A i).f2=true=>X q.1)]
      exact ih f (i+1) A ok hA (by omega) (by omega)
def Xg (g0 g1 g2 g3 g4 g5 g6 g7 g8 g9:Int) (L:List S31) (a2:Int) (H:List Hall) (I:List Ins):List Hall:=X8 g0 g1 g2 g3 g4 g5 g6 g7 g8 g9 L a2 I H.length 0 (Xz a2 H.length 0 H)
theorem Vj (g0 g1 g2 g3 g4 g5 g6 g7 g8 g9:Int) (L:List S31) (a2:Int) (H:List Hall) (I:List Ins) (hH:H.length≤1000) (hI:I.length≤1000) (f:Nat) (hf:7000<f):
    group_Spread.f f g0 g1 g2 g3 g4 g5 g6 g7 g8 g9 L a2 H I=some (if Jd g0 g1 g2 g3 g4 g5 g6 g7 g8 g9 L H I=0 then (Xg g0 g1 g2 g3 g4 g5 g6 g7 g8 g9 L a2 H I,I,0) else ([],[],Jd g0 g1 g2 g3 g4 g5 g6 g7 g8 g9 L H I)):=by
  unfold group_Spread.f
  rw[Mj _ _ _ _ _ _ _ _ _ _ L H I (by omega) (by omega) f (by omega)]
  simp only[Option.bind_some,List.nil_append,List.length_nil,Nat.zero_add]
  by_cases h:Jd g0 g1 g2 g3 g4 g5 g6 g7 g8 g9 L H I=0
  · rw[if_pos h,if_pos h,if_pos (by omega),if_pos (by omega)]
    exact Lv a2 hI H.length f 0 H (De h) hH (by omega) (by omega)
  · rw[if_neg h,if_neg h]
theorem J6 (a2:Int) (j:Nat):∀ (i:Nat) (A:List Hall),(Xz a2 j i A).length=A.length:=by
  induction j with
  |zero=>intro i A;rfl
  |succ j ih=>
    intro i A
    rw[Xz,ih]
    split
    · rw[Xk]
    · rfl
theorem Nr (g0 g1 g2 g3 g4 g5 g6 g7 g8 g9:Int) (L:List S31) (a2:Int) (I:List Ins) (j:Nat):∀ (i:Nat) (A:List Hall),(X8 g0 g1 g2 g3 g4 g5 g6 g7 g8 g9 L a2 I j i A).length=A.length:=by
  induction j with
  |zero=>intro i A;rfl
  |succ j ih=>
    intro i A
    rw[X8,ih]
    split
    · rw[Xk]
    · rfl
theorem Kg (g0 g1 g2 g3 g4 g5 g6 g7 g8 g9:Int) (L:List S31) (a2:Int) (H:List Hall) (I:List Ins):(Xg g0 g1 g2 g3 g4 g5 g6 g7 g8 g9 L a2 H I).length=H.length:=by
  unfold Xg
  rw[Nr,J6]
end Go.Proofs.Ytmfffemidlhcpaa.GrpPure
namespace Go.Proofs.Ytmfffemidlhcpaa.GrpPure
open Go.RowKit Go.Proofs.YtmfffemidlhcpaaW.PrintWords Go.Proofs.YtmfffemidlhcpaaW.PrintLast Go.Proofs.YtmfffemidlhcpaaW.PrintMore Go.Proofs.Ytmfffemidlhcpaa.C Go.Proofs.Ytmfffemidlhcpaa.DoorPure
set_option linter.unusedVariables false
set_option linter.unusedSimpArgs false
open Go.Proofs.Ytmfffemidlhcpaa.Call (i64 okB Y2 X5 X6 Hall Ins ltH ltI)
theorem Dx (x:Int):Go.bits .and .i64 x 1=0∨Go.bits .and .i64 x 1=1:=by
  have h:((BitVec.ofInt 64 x &&& BitVec.ofInt 64 1).toNat)=(BitVec.ofInt 64 x).toNat % 2:=by
    rw[BitVec.toNat_and]
    exact Nat.and_one_is_mod _
  have e:Go.bits .and .i64 x 1=IntKind.i64.wrap (((BitVec.ofInt 64 x &&& BitVec.ofInt 64 1).toNat:Nat):Int):=rfl
  rw[e,h]
  rcases Nat.mod_two_eq_zero_or_one (BitVec.ofInt 64 x).toNat with q|q <;> rw[q]
  · left;decide
  · right;decide
theorem Vy (i:Nat) (h:i≤1000):IntKind.u64.wrap (i:Int)=(i:Int):=by
  simp[IntKind.wrap,IntKind.bits,IntKind.signed]
  omega
def W8 (bad:Int→Bool) (cost:Int→Int) (i:Nat) (b:Int):Prop:=
  (b = -1 ∧ ∀ m:Nat,m<i→bad m=true)∨(∃ n:Nat,b=n∧n<i∧bad n=false ∧ ∀ m:Nat,m<i→bad m=false→cost n≤cost m∧(cost m=cost n→n≤m))
theorem Wq (bad:Int→Bool) (cost:Int→Int) (j:Nat):∀ (i:Nat) (b:Int),W8 bad cost i b→W8 bad cost (i+j) (Kt bad cost j i b):=by
  induction j with
  |zero=>intro i b h;exact h
  |succ j ih=>
    intro i b h
    rw[Kt,show(i:Int)+1=((i+1:Nat):Int) by omega,show i+(j+1)=(i+1)+j by omega]
    apply ih
    rcases h with⟨rfl,h⟩|⟨n,rfl,hn,hb,h⟩
    · cases hc:bad (i:Int)
      · simp only[Bool.false_eq_true,if_false]
        rw[if_pos (by decide)]
        refine Or.inr ⟨i,rfl,by omega,hc,fun m hm hg=>?_⟩
        rcases Nat.lt_or_ge m i with q|q
        · rw[h m q] at hg;exact absurd hg (by decide)
        · have:m=i:=by omega
          subst this
          exact⟨Int.le_refl _,fun _=>Nat.le_refl _⟩
      · simp only[if_true]
        refine Or.inl ⟨rfl,fun m hm=>?_⟩
        rcases Nat.lt_or_ge m i with q|q
        · exact h m q
        · have:m=i:=by omega
          subst this
          exact hc
    · cases hc:bad (i:Int)
      · simp only[Bool.false_eq_true,if_false]
        rw[if_neg (by omega)]
        by_cases hl:cost (i:Int)<cost (n:Int)
        · rw[if_pos hl]
          refine Or.inr ⟨i,rfl,by omega,hc,fun m hm hg=>?_⟩
          rcases Nat.lt_or_ge m i with q|q
          · have:=h m q hg
            exact⟨by omega,fun e=>by omega⟩
          · have:m=i:=by omega
            subst this
            exact⟨Int.le_refl _,fun _=>Nat.le_refl _⟩
        · rw[if_neg hl]
          refine Or.inr ⟨n,rfl,by omega,hb,fun m hm hg=>?_⟩
          rcases Nat.lt_or_ge m i with q|q
          · exact h m q hg
          · have:m=i:=by omega
            subst this
            exact⟨by omega,fun _=>by omega⟩
      · simp only[if_true]
        refine Or.inr ⟨n,rfl,by omega,hb,fun m hm hg=>?_⟩
        rcases Nat.lt_or_ge m i with q|q
        · exact h m q hg
        · have:m=i:=by omega
          subst this
          rw[hc] at hg;exact absurd hg (by decide)
theorem L3 (g0 g1 g2 g3 g4 g5 g6 g7 g8 g9:Int) (L:List S31) (a2:Int) (H:List Hall) (I:List Ins) (B J:Int):W8 (Yl a2) (Jp g0 g1 g2 g3 g4 g5 g6 g7 g8 g9 L H I B J) L.length (Gp g0 g1 g2 g3 g4 g5 g6 g7 g8 g9 L a2 H I B J):=by
  have:=Wq (Yl a2) (Jp g0 g1 g2 g3 g4 g5 g6 g7 g8 g9 L H I B J) L.length 0 (-1) (Or.inl ⟨rfl,fun m hm=>absurd hm (Nat.not_lt_zero m)⟩)
  rwa[Nat.zero_add] at this
end Go.Proofs.Ytmfffemidlhcpaa.GrpPure
