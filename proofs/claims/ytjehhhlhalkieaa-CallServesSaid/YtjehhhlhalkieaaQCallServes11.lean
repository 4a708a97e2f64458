/- Texts of this claim, one behind the other: what the law's functions come to, walked (printed by a program, with the words that the print uses), and what that is, in plain Lean. No conditions of their own. -/
import Derived.Test.YtjehhhlhalkieaaQCallServes10
namespace Go.Proofs.Ytjehhhlhalkieaa.C
open Go.RowKit Go.Proofs.YtjehhhlhalkieaaW.PrintWords Go.Proofs.YtjehhhlhalkieaaW.PrintLast Go.Proofs.YtjehhhlhalkieaaW.PrintMore
attribute [local go_sem] Z3 Z1 Xb Xa Zt Zs Z2 Z0
set_option linter.unusedVariables false
set_option linter.unusedSimpArgs false
mutual
def newellaw19_CallServes.j0:Nat→Int→Int→Bool→Int→Int→List (S56)→List (S62)→Int→Int→Int→List (S56)→List (S62)→List Int→List Int→List Int→Option (Bool)
 |0,_,_,_,_,_,_,_,_,_,_,_,_,_,_,_=>none
 |k+1,O,J,η,Z,γ,L,U,B,X,Y,D,I,δ,ε,ζ =>if η = true then ((newellaw19_awake.f k).bind fun ga=>(if ga=true then (if O=191 then (if J=O then ((newelref19_Same.f k D I ([]:List (S56)) ([]:List (S62))).bind fun f5=>(if f5=true then ((newelref19_SameView.f k δ ε ζ ([]:List Int) ([]:List Int) ([]:List Int)).bind fun ef=>(some ef)) else (none))) else (none)) else (none)) else (none))) else (if J=0 then ((newelref19_View.f k L U B).bind fun en=>((newelref19_SameView.f k δ ε ζ en.1 en.2.1 en.2.2).bind fun fg=>(newellaw19_CallServes.j1 k O (!fg) Z γ L U B X Y D I))) else (none))
def newellaw19_CallServes.j1:Nat→Int→Bool→Int→Int→List (S56)→List (S62)→Int→Int→Int→List (S56)→List (S62)→Option (Bool)
 |0,_,_,_,_,_,_,_,_,_,_,_=>none
 |k+1,O,J,Z,γ,L,U,B,X,Y,D,I=>if J=true then (none) else ((newelref19_Stop.f Z γ B X Y).bind fun gb=>(if gb=true then ((newellaw19_awake.f k).bind fun f7=>(if f7=true then (if O=0 then ((newelref19_Serve.f k L U B X Y).bind fun cr=>((newelref19_Same.f k D I cr.1 cr.2).bind fun dp=>(some dp))) else (none)) else (none))) else ((newellaw19_awake.f k).bind fun f8=>(if f8=true then (if O=191 then ((newelref19_Same.f k D I ([]:List (S56)) ([]:List (S62))).bind fun eg=>(some eg)) else (none)) else (none)))))
end
def newellaw19_CallServes.f (k:Nat) (D:Int) (I:Int) (B:List (S56)) (J:List (S62)) (Y:Int) (X:Int) (θ :Int):Option (Bool):=(newelref19_Few.f B J).bind fun ho=>(if ho=true then ((newellaw19_Own.f B J).bind fun eo=>((call_Serve.f k D I eo.1 eo.2 Y X θ).bind fun b2=>((newellaw19_Own.f B J).bind fun d2=>((call_View.f k D I d2.1 d2.2 Y).bind fun ab=>((newelref19_May.f k D I B J).bind fun dq=>(if dq=true then (if Y<0 then (newellaw19_CallServes.j0 k b2.2.2 ab.2.2.2 true D I B J Y X θ b2.1 b2.2.1 ab.1 ab.2.1 ab.2.2.1) else (newellaw19_CallServes.j0 k b2.2.2 ab.2.2.2 (decide (Y≥I)) D I B J Y X θ b2.1 b2.2.1 ab.1 ab.2.1 ab.2.2.1)) else ((newellaw19_awake.f k).bind fun d0=>(if d0=true then (if b2.2.2=190 then (if ab.2.2.2=b2.2.2 then ((newelref19_Same.f k b2.1 b2.2.1 ([]:List (S56)) ([]:List (S62))).bind fun cq=>(if cq=true then ((newelref19_SameView.f k ab.1 ab.2.1 ab.2.2.1 ([]:List Int) ([]:List Int) ([]:List Int)).bind fun ce=>(some ce)) else (none))) else (none)) else (none)) else (none))))))))) else ((newellaw19_awake.f k).bind fun fr=>(some fr)))
theorem newellaw19_CallServes.Zk:∀ k,(∀ J L O D U X Y y7 y8 y9 γ Z δ ε ζ,LeO (newellaw19_CallServes.j0 k J L O D U X Y y7 y8 y9 γ Z δ ε ζ) (newellaw19_CallServes.j0 (k+1) J L O D U X Y y7 y8 y9 γ Z δ ε ζ))∧(∀ J L O D U X Y y7 y8 y9 γ,LeO (newellaw19_CallServes.j1 k J L O D U X Y y7 y8 y9 γ) (newellaw19_CallServes.j1 (k+1) J L O D U X Y y7 y8 y9 γ))
 |0=>⟨fun _ _ _ _ _ _ _ _ _ _ _ _ _ _ _ r h=>by simp[newellaw19_CallServes.j0] at h,fun _ _ _ _ _ _ _ _ _ _ _ r h=>by simp[newellaw19_CallServes.j1] at h⟩
 |k+1=>by
  obtain⟨B,I⟩:=newellaw19_CallServes.Zk k
  refine⟨?_, ?_⟩
  ·intro J L O D U X Y y7 y8 y9 γ Z δ ε ζ
   unfold newellaw19_CallServes.j0
   repeat' first
   |(with_reducible exact B _ _ _ _ _ _ _ _ _ _ _ _ _ _ _)
   |(with_reducible exact I _ _ _ _ _ _ _ _ _ _ _)
   |(with_reducible exact call_Serve.mono _ _ _ _ _ _ _ _)
   |(with_reducible exact call_View.mono _ _ _ _ _ _)
   |(with_reducible exact newellaw19_awake.mono _)
   |(with_reducible exact newelref19_May.mono _ _ _ _ _)
   |(with_reducible exact newelref19_Same.mono _ _ _ _ _)
   |(with_reducible exact newelref19_SameView.mono _ _ _ _ _ _ _)
   |(with_reducible exact newelref19_Serve.mono _ _ _ _ _ _)
   |(with_reducible exact newelref19_View.mono _ _ _ _)
   |(with_reducible exact LeO.refl _)
   |(with_reducible exact LeO.none _)
   |(with_reducible refine LeO.ite ?_ ?_)
   |(with_reducible refine LeO.bind ?_ (fun _=>?_))
   |exact B _ _ _ _ _ _ _ _ _ _ _ _ _ _ _
   |exact I _ _ _ _ _ _ _ _ _ _ _
   |exact call_Serve.mono _ _ _ _ _ _ _ _
   |exact call_View.mono _ _ _ _ _ _
   |exact newellaw19_awake.mono _
   |exact newelref19_May.mono _ _ _ _ _
   |exact newelref19_Same.mono _ _ _ _ _
   |exact newelref19_SameView.mono _ _ _ _ _ _ _
   |exact newelref19_Serve.mono _ _ _ _ _ _
   |exact newelref19_View.mono _ _ _ _
   |exact LeO.none _
   |refine LeO.ite ?_ ?_
   |refine LeO.bind ?_ (fun _=>?_)
  ·intro J L O D U X Y y7 y8 y9 γ
   unfold newellaw19_CallServes.j1
   repeat' first
   |(with_reducible exact B _ _ _ _ _ _ _ _ _ _ _ _ _ _ _)
   |(with_reducible exact I _ _ _ _ _ _ _ _ _ _ _)
   |(with_reducible exact call_Serve.mono _ _ _ _ _ _ _ _)
   |(with_reducible exact call_View.mono _ _ _ _ _ _)
   |(with_reducible exact newellaw19_awake.mono _)
   |(with_reducible exact newelref19_May.mono _ _ _ _ _)
   |(with_reducible exact newelref19_Same.mono _ _ _ _ _)
   |(with_reducible exact newelref19_SameView.mono _ _ _ _ _ _ _)
   |(with_reducible exact newelref19_Serve.mono _ _ _ _ _ _)
   |(with_reducible exact newelref19_View.mono _ _ _ _)
   |(with_reducible exact LeO.refl _)
   |(with_reducible exact LeO.none _)
   |(with_reducible refine LeO.ite ?_ ?_)
   |(with_reducible refine LeO.bind ?_ (fun _=>?_))
   |exact B _ _ _ _ _ _ _ _ _ _ _ _ _ _ _
   |exact I _ _ _ _ _ _ _ _ _ _ _
   |exact call_Serve.mono _ _ _ _ _ _ _ _
   |exact call_View.mono _ _ _ _ _ _
   |exact newellaw19_awake.mono _
   |exact newelref19_May.mono _ _ _ _ _
   |exact newelref19_Same.mono _ _ _ _ _
   |exact newelref19_SameView.mono _ _ _ _ _ _ _
   |exact newelref19_Serve.mono _ _ _ _ _ _
   |exact newelref19_View.mono _ _ _ _
   |exact LeO.none _
   |refine LeO.ite ?_ ?_
   |refine LeO.bind ?_ (fun _=>?_)
theorem newellaw19_CallServes.mono:∀ D J a2 X L a5 O k,LeO (newellaw19_CallServes.f k D J a2 X L a5 O) (newellaw19_CallServes.f (k+1) D J a2 X L a5 O):=by
 intro D J a2 X L a5 O k
 obtain⟨B,I⟩:=newellaw19_CallServes.Zk k
 unfold newellaw19_CallServes.f
 repeat' first
   |(with_reducible exact B _ _ _ _ _ _ _ _ _ _ _ _ _ _ _)
   |(with_reducible exact I _ _ _ _ _ _ _ _ _ _ _)
   |(with_reducible exact call_Serve.mono _ _ _ _ _ _ _ _)
   |(with_reducible exact call_View.mono _ _ _ _ _ _)
   |(with_reducible exact newellaw19_awake.mono _)
   |(with_reducible exact newelref19_May.mono _ _ _ _ _)
   |(with_reducible exact newelref19_Same.mono _ _ _ _ _)
   |(with_reducible exact newelref19_SameView.mono _ _ _ _ _ _ _)
   |(with_reducible exact newelref19_Serve.mono _ _ _ _ _ _)
   |(with_reducible exact newelref19_View.mono _ _ _ _)
   |(with_reducible exact LeO.refl _)
   |(with_reducible exact LeO.none _)
   |(with_reducible refine LeO.ite ?_ ?_)
   |(with_reducible refine LeO.bind ?_ (fun _=>?_))
   |exact B _ _ _ _ _ _ _ _ _ _ _ _ _ _ _
   |exact I _ _ _ _ _ _ _ _ _ _ _
   |exact call_Serve.mono _ _ _ _ _ _ _ _
   |exact call_View.mono _ _ _ _ _ _
   |exact newellaw19_awake.mono _
   |exact newelref19_May.mono _ _ _ _ _
   |exact newelref19_Same.mono _ _ _ _ _
   |exact newelref19_SameView.mono _ _ _ _ _ _ _
   |exact newelref19_Serve.mono _ _ _ _ _ _
   |exact newelref19_View.mono _ _ _ _
   |exact LeO.none _
   |refine LeO.ite ?_ ?_
   |refine LeO.bind ?_ (fun _=>?_)
def newellaw19_CallServes.T3:Bool×List (List Nat×List Nat):=(true,[([],[]),([],[]),([1],[1]),([],[]),([0,2,3,2],[0,2,3]),([4],[4]),([5],[5]),([5],[5]),([],[]),([8,6,4,0,1,2,3,4,5,6,8],[6,8]),([7,9,0,1,2,3,4,5,6,7,8,9],[7])])
def newellaw19_CallServes.B3:List Nat:=[0,0,2,0,15,31,63,63,0,383,1023]
theorem newellaw19_CallServes.Lu:rtab .any (opsOf Try.f4 3)=newellaw19_CallServes.T3:=by kernel_rfl
theorem newellaw19_CallServes.Uv:Zp newellaw19_CallServes.T3.2 newellaw19_CallServes.B3=true:=by kernel_rfl
def newellaw19_CallServes.T4:Bool×List (List Nat×List Nat):=(true,[([],[]),([],[]),([1],[1]),([],[]),([3],[3]),([0,2,4,2],[0,2,4]),([5],[5]),([6],[6]),([6],[6]),([],[]),([9,7,5,0,1,2,3,4,5,6,7,9],[7,9]),([8,10,0,1,2,3,4,5,6,7,8,9,10],[8])])
def newellaw19_CallServes.B4:List Nat:=[0,0,2,0,8,31,63,127,127,0,767,2047]
theorem newellaw19_CallServes.Kj:rtab .any (opsOf Try.f4 4)=newellaw19_CallServes.T4:=by kernel_rfl
theorem newellaw19_CallServes.Jf:Zp newellaw19_CallServes.T4.2 newellaw19_CallServes.B4=true:=by kernel_rfl
def newellaw19_CallServes.T9:Bool×List (List Nat×List Nat):=(true,[([],[]),([0],[0]),([1],[1]),([2],[2]),([2],[2]),([2],[2]),([5,2],[2,5]),([4,6,2,2],[2,4,6]),([3,7,7,2],[2,3,7]),([8,2],[2,8]),([2,9],[2,9])])
def newellaw19_CallServes.B9:List Nat:=[0,1,3,7,7,7,39,119,255,511,1023]
theorem newellaw19_CallServes.Nu:rtab .any (opsOf Try.f4 9)=newellaw19_CallServes.T9:=by kernel_rfl
theorem newellaw19_CallServes.Mi:Zp newellaw19_CallServes.T9.2 newellaw19_CallServes.B9=true:=by kernel_rfl
def newellaw19_CallServes.T13:Bool×List (List Nat×List Nat):=(true,[([],[]),([0,0],[0]),([1],[1]),([2,1],[1,2]),([1,3],[1,3]),([4,1],[4]),([5],[5]),([5],[5]),([5],[5]),([7,8,5,5],[5,7,8]),([6,9,9,5],[5,6,9]),([5,10],[5,10]),([11,10,0,1,2,3,4,5,6,7,8,9,10,11],[11])])
def newellaw19_CallServes.B13:List Nat:=[0,1,3,7,15,31,63,63,63,447,1023,2047,4095]
theorem newellaw19_CallServes.tab13:rtab .any (opsOf Try.f4 13)=newellaw19_CallServes.T13:=by kernel_rfl
theorem newellaw19_CallServes.N3:Zp newellaw19_CallServes.T13.2 newellaw19_CallServes.B13=true:=by kernel_rfl
set_option maxHeartbeats 8000000 in
set_option maxRecDepth 100000 in
theorem newellaw19_CallServes.calls (k:Nat) (D:Int) (I:Int) (ζ :Option Addr) (γ:Nat) (B:List (S56)) (η :Option Addr) (δ :Nat) (J:List (S62)) (Y:Int) (X:Int) (θ :Int) (r:Bool) (w:World) (bj:Kd.C k56 w ζ B.length B) (bk:B.length≤γ) (bl:Kd.C k62 w η J.length J) (bm:J.length ≤ δ) (h:newellaw19_CallServes.f k D I B J Y X θ = some r):
  Calls Try.prog 4 #[.agg #[.int .i64 D,.int .i64 I],.agg #[.slice ζ B.length γ,.slice η J.length δ],.agg #[.int .i64 Y,.int .i64 X,.int .i64 θ]] w fun e w'=>e = .returned (.bool r)∧Below w.heap.size w w':=by
 have et:=Try.underlying23
 have eh:=Try.underlying27
 have k4:=Try.underlying43
 have jx:=Try.underlying47
 have ai:=Aside0.mk bj
 have ay:=Aside0.mk bk
 clear bj bk
 have ak:=Aside0.mk bl
 have az:=Aside0.mk bm
 clear bl bm
 have HB:=Aside0.mk (Below.refl w.heap.size w)
 have H:((newelref19_Few.f B J).bind fun ho=>(if ho=true then ((newellaw19_Own.f B J).bind fun eo=>((call_Serve.f k D I eo.1 eo.2 Y X θ).bind fun b2=>((newellaw19_Own.f B J).bind fun d2=>((call_View.f k D I d2.1 d2.2 Y).bind fun ab=>((newelref19_May.f k D I B J).bind fun dq=>(if dq=true then (if Y<0 then (newellaw19_CallServes.j0 k b2.2.2 ab.2.2.2 true D I B J Y X θ b2.1 b2.2.1 ab.1 ab.2.1 ab.2.2.1) else (newellaw19_CallServes.j0 k b2.2.2 ab.2.2.2 (decide (Y≥I)) D I B J Y X θ b2.1 b2.2.1 ab.1 ab.2.1 ab.2.2.1)) else ((newellaw19_awake.f k).bind fun d0=>(if d0=true then (if b2.2.2=190 then (if ab.2.2.2=b2.2.2 then ((newelref19_Same.f k b2.1 b2.2.1 ([]:List (S56)) ([]:List (S62))).bind fun cq=>(if cq=true then ((newelref19_SameView.f k ab.1 ab.2.1 ab.2.2.1 ([]:List Int) ([]:List Int) ([]:List Int)).bind fun ce=>(some ce)) else (none))) else (none)) else (none)) else (none))))))))) else ((newellaw19_awake.f k).bind fun fr=>(some fr))))=some r:=h
 clear h
 replace H:=Option.bind_eq_some_iff.mp H
 obtain⟨ho,cy,H⟩:=H
 replace H:(if ho=true then ((newellaw19_Own.f B J).bind fun eo=>((call_Serve.f k D I eo.1 eo.2 Y X θ).bind fun b2=>((newellaw19_Own.f B J).bind fun d2=>((call_View.f k D I d2.1 d2.2 Y).bind fun ab=>((newelref19_May.f k D I B J).bind fun dq=>(if dq=true then (if Y<0 then (newellaw19_CallServes.j0 k b2.2.2 ab.2.2.2 true D I B J Y X θ b2.1 b2.2.1 ab.1 ab.2.1 ab.2.2.1) else (newellaw19_CallServes.j0 k b2.2.2 ab.2.2.2 (decide (Y≥I)) D I B J Y X θ b2.1 b2.2.1 ab.1 ab.2.1 ab.2.2.1)) else ((newellaw19_awake.f k).bind fun d0=>(if d0=true then (if b2.2.2=190 then (if ab.2.2.2=b2.2.2 then ((newelref19_Same.f k b2.1 b2.2.1 ([]:List (S56)) ([]:List (S62))).bind fun cq=>(if cq=true then ((newelref19_SameView.f k ab.1 ab.2.1 ab.2.2.1 ([]:List Int) ([]:List Int) ([]:List Int)).bind fun ce=>(some ce)) else (none))) else (none)) else (none)) else (none))))))))) else ((newellaw19_awake.f k).bind fun fr=>(some fr)))=some r:=H
 have A4:=Aside0.mk cy
 clear cy
 by_cases c5:ho=true
 ·subst c5
  have H1:((newellaw19_Own.f B J).bind fun eo=>((call_Serve.f k D I eo.1 eo.2 Y X θ).bind fun b2=>((newellaw19_Own.f B J).bind fun d2=>((call_View.f k D I d2.1 d2.2 Y).bind fun ab=>((newelref19_May.f k D I B J).bind fun dq=>(if dq=true then (if Y<0 then (newellaw19_CallServes.j0 k b2.2.2 ab.2.2.2 true D I B J Y X θ b2.1 b2.2.1 ab.1 ab.2.1 ab.2.2.1) else (newellaw19_CallServes.j0 k b2.2.2 ab.2.2.2 (decide (Y≥I)) D I B J Y X θ b2.1 b2.2.1 ab.1 ab.2.1 ab.2.2.1)) else ((newellaw19_awake.f k).bind fun d0=>(if d0=true then (if b2.2.2=190 then (if ab.2.2.2=b2.2.2 then ((newelref19_Same.f k b2.1 b2.2.1 ([]:List (S56)) ([]:List (S62))).bind fun cq=>(if cq=true then ((newelref19_SameView.f k ab.1 ab.2.1 ab.2.2.1 ([]:List Int) ([]:List Int) ([]:List Int)).bind fun ce=>(some ce)) else (none))) else (none)) else (none)) else (none)))))))))=some r:=by rw[if_pos rfl] at H;exact H
  clear H
  have H:=H1
  clear H1
  replace H:=Option.bind_eq_some_iff.mp H
  obtain⟨⟨bw,bz⟩,ei,H⟩:=H
  replace H:((call_Serve.f k D I bw bz Y X θ).bind fun b2=>((newellaw19_Own.f B J).bind fun d2=>((call_View.f k D I d2.1 d2.2 Y).bind fun ab=>((newelref19_May.f k D I B J).bind fun dq=>(if dq=true then (if Y<0 then (newellaw19_CallServes.j0 k b2.2.2 ab.2.2.2 true D I B J Y X θ b2.1 b2.2.1 ab.1 ab.2.1 ab.2.2.1) else (newellaw19_CallServes.j0 k b2.2.2 ab.2.2.2 (decide (Y≥I)) D I B J Y X θ b2.1 b2.2.1 ab.1 ab.2.1 ab.2.2.1)) else ((newellaw19_awake.f k).bind fun d0=>(if d0=true then (if b2.2.2=190 then (if ab.2.2.2=b2.2.2 then ((newelref19_Same.f k b2.1 b2.2.1 ([]:List (S56)) ([]:List (S62))).bind fun cq=>(if cq=true then ((newelref19_SameView.f k ab.1 ab.2.1 ab.2.2.1 ([]:List Int) ([]:List Int) ([]:List Int)).bind fun ce=>(some ce)) else (none))) else (none)) else (none)) else (none))))))))=some r:=H
  have A6:=Aside0.mk ei
  clear ei
  replace H:=Option.bind_eq_some_iff.mp H
  obtain⟨⟨aa,ac,av⟩,i5,H⟩:=H
  replace H:((newellaw19_Own.f B J).bind fun d2=>((call_View.f k D I d2.1 d2.2 Y).bind fun ab=>((newelref19_May.f k D I B J).bind fun dq=>(if dq=true then (if Y<0 then (newellaw19_CallServes.j0 k av ab.2.2.2 true D I B J Y X θ aa ac ab.1 ab.2.1 ab.2.2.1) else (newellaw19_CallServes.j0 k av ab.2.2.2 (decide (Y≥I)) D I B J Y X θ aa ac ab.1 ab.2.1 ab.2.2.1)) else ((newellaw19_awake.f k).bind fun d0=>(if d0=true then (if av=190 then (if ab.2.2.2=av then ((newelref19_Same.f k aa ac ([]:List (S56)) ([]:List (S62))).bind fun cq=>(if cq=true then ((newelref19_SameView.f k ab.1 ab.2.1 ab.2.2.1 ([]:List Int) ([]:List Int) ([]:List Int)).bind fun ce=>(some ce)) else (none))) else (none)) else (none)) else (none)))))))=some r:=H
  have A7:=Aside0.mk i5
  clear i5
  replace H:=Option.bind_eq_some_iff.mp H
  obtain⟨⟨cn,co⟩,g2,H⟩:=H
  replace H:((call_View.f k D I cn co Y).bind fun ab=>((newelref19_May.f k D I B J).bind fun dq=>(if dq=true then (if Y<0 then (newellaw19_CallServes.j0 k av ab.2.2.2 true D I B J Y X θ aa ac ab.1 ab.2.1 ab.2.2.1) else (newellaw19_CallServes.j0 k av ab.2.2.2 (decide (Y≥I)) D I B J Y X θ aa ac ab.1 ab.2.1 ab.2.2.1)) else ((newellaw19_awake.f k).bind fun d0=>(if d0=true then (if av=190 then (if ab.2.2.2=av then ((newelref19_Same.f k aa ac ([]:List (S56)) ([]:List (S62))).bind fun cq=>(if cq=true then ((newelref19_SameView.f k ab.1 ab.2.1 ab.2.2.1 ([]:List Int) ([]:List Int) ([]:List Int)).bind fun ce=>(some ce)) else (none))) else (none)) else (none)) else (none))))))=some r:=H
  have A8:=Aside0.mk g2
  clear g2
  replace H:=Option.bind_eq_some_iff.mp H
  obtain⟨⟨b7,b9,ba,bv⟩,ft,H⟩:=H
  replace H:((newelref19_May.f k D I B J).bind fun dq=>(if dq=true then (if Y<0 then (newellaw19_CallServes.j0 k av bv true D I B J Y X θ aa ac b7 b9 ba) else (newellaw19_CallServes.j0 k av bv (decide (Y≥I)) D I B J Y X θ aa ac b7 b9 ba)) else ((newellaw19_awake.f k).bind fun d0=>(if d0=true then (if av=190 then (if bv=av then ((newelref19_Same.f k aa ac ([]:List (S56)) ([]:List (S62))).bind fun cq=>(if cq=true then ((newelref19_SameView.f k b7 b9 ba ([]:List Int) ([]:List Int) ([]:List Int)).bind fun ce=>(some ce)) else (none))) else (none)) else (none)) else (none)))))=some r:=H
  have A9:=Aside0.mk ft
  clear ft
  replace H:=Option.bind_eq_some_iff.mp H
  obtain⟨dq,im,H⟩:=H
  replace H:(if dq=true then (if Y<0 then (newellaw19_CallServes.j0 k av bv true D I B J Y X θ aa ac b7 b9 ba) else (newellaw19_CallServes.j0 k av bv (decide (Y≥I)) D I B J Y X θ aa ac b7 b9 ba)) else ((newellaw19_awake.f k).bind fun d0=>(if d0=true then (if av=190 then (if bv=av then ((newelref19_Same.f k aa ac ([]:List (S56)) ([]:List (S62))).bind fun cq=>(if cq=true then ((newelref19_SameView.f k b7 b9 ba ([]:List Int) ([]:List Int) ([]:List Int)).bind fun ce=>(some ce)) else (none))) else (none)) else (none)) else (none))))=some r:=H
  have i4:=Aside0.mk im
  clear im
  by_cases ca:dq=true
  ·subst ca
   have H1:(if Y<0 then (newellaw19_CallServes.j0 k av bv true D I B J Y X θ aa ac b7 b9 ba) else (newellaw19_CallServes.j0 k av bv (decide (Y≥I)) D I B J Y X θ aa ac b7 b9 ba))=some r:=by rw[if_pos rfl] at H;exact H
   clear H
   have H:=H1
   clear H1
   have l7:=Aside0.mk H
   clear H
   go_enter Try.func4,Try.ntmps4
   try go_wp2_with (first|((with_reducible refine Qs (N:=3) rfl ?_);refine qE 3 #[.int .i64 D,.int .i64 I] 23 ?_;intro aw hg fa hbox hb;have U:=Aside0.mk hbox;have lz:=sGe hg;have m0:=sGe hg;replace HB:=sHb hb;clear hb hbox hg)|((with_reducible refine Qs (N:=4) rfl ?_);refine qE 4 #[.slice ζ B.length γ,.slice η J.length δ] 27 ?_;intro an hg f9 hbox hb;have O:=Aside0.mk hbox;have m1:=sGe hg;have m2:=sGe hg;have df:=sNl U hg;have dh:=sNg U hg;replace U:=sBk U hb;replace HB:=sHb hb;clear hb hbox hg)|((with_reducible refine Qs (N:=5) rfl ?_);refine qE 5 #[.int .i64 Y,.int .i64 X,.int .i64 θ] 43 ?_;intro af hg jc hbox hb;have L:=Aside0.mk hbox;have m3:=sGe hg;have m4:=sGe hg;have di:=sNl U hg;have dj:=sNg U hg;have d3:=sNl O hg;have d4:=sNg O hg;replace U:=sBk U hb;replace O:=sBk O hb;replace HB:=sHb hb;clear hb hbox hg;have lg:=dh.out;have lh:=df.out;have gq:=d3.out;have gr:=d4.out;obtain⟨ej,ek,el,em⟩:=qD2 O.out)|((with_reducible refine Q0 (f:=9) rfl ?_);refine Zl (some 12) rfl rfl Try.func9 kr rfl #[.agg #[.slice ζ B.length γ,.slice η J.length δ]] rfl qM ?_;(with_reducible refine(newelref19_Few.calls _ _ B _ _ J true _ ?side1 ?side2 ?side3 ?side4 A4.out).mono ?_);(case side1=>exact(Kd.Qx ai.out HB.out));(case side2=>exact ay.out);(case side3=>exact(Kd.Qx ak.out HB.out));(case side4=>exact az.out);rintro e fb ⟨rfl,hb⟩;refine⟨_,rfl, ?_⟩;replace U:=sBk U hb;replace O:=sBk O hb;replace L:=sBk L hb;replace HB:=sHb hb;(try clear hb);(try clear a4);(try clear hk);(try clear hi)))
   replace U:=Aside0.mk (Qa U.out)
   replace O:=Aside0.mk (Qa O.out)
   replace L:=Aside0.mk (Qa L.out)
   replace HB:=Aside0.mk (Qf HB.out)
   refine Zm (n:=11) (S:=fun w'=>w'.cell? ⟨aw,0,none⟩=some (.int .i64 D)∧w'.cell? ⟨aw,1,none⟩=some (.int .i64 I)∧w'.cell? ⟨an,0,none⟩=some (.slice ζ B.length γ)∧w'.cell? ⟨an,1,none⟩=some (.slice η J.length δ)∧w'.cell? ⟨af,0,none⟩=some (.int .i64 Y)∧w'.cell? ⟨af,1,none⟩=some (.int .i64 X)∧w'.cell? ⟨af,2,none⟩=some (.int .i64 θ)) (ds:=[]) #[false,false,false,false,false,false,false,false,false,false,false] kr rfl rfl ⟨(Qi U.out 0).trans rfl,(Qi U.out 1).trans rfl,(Qi O.out 0).trans rfl,(Qi O.out 1).trans rfl,(Qi L.out 0).trans rfl,(Qi L.out 1).trans rfl,(Qi L.out 2).trans rfl⟩ (fun hHeld=>?_);refine Q7 newellaw19_CallServes.Lu newellaw19_CallServes.Uv (fun HT_ HW_=>?_)
   generalize fb.drew=eu at U O L HB hHeld ⊢
   refine qT 0 (some 16) (bN 11 1) HT_ HW_ hHeld ?_
   refine qT 1 (some 17) (bN 11 3) HT_ HW_ hHeld ?_
   refine qT 3 (some 19) (bN 11 11) HT_ HW_ hHeld ?_
   refine Ku (σ:=Value×Value×Value×Value×Nat) 2 (bN 11 511) (fun s_=>[(18,.agg #[s_.1,s_.2.1]),(20,.tuple #[.agg #[s_.2.2.1,s_.2.2.2.1],.int .i64 av]),(7,.pointer (some ⟨s_.2.2.2.2,0,none⟩)),(15,.tuple #[.agg #[s_.2.2.1,s_.2.2.2.1],.int .i64 av]),(21,.agg #[s_.2.2.1,s_.2.2.2.1]),(22,.int .i64 av)]) (fun s_ w'=>(w'.cell? ⟨aw,0,none⟩=some (.int .i64 D)∧w'.cell? ⟨aw,1,none⟩=some (.int .i64 I)∧w'.cell? ⟨an,0,none⟩=some (.slice ζ B.length γ)∧w'.cell? ⟨an,1,none⟩=some (.slice η J.length δ)∧w'.cell? ⟨af,0,none⟩=some (.int .i64 Y)∧w'.cell? ⟨af,1,none⟩=some (.int .i64 X)∧w'.cell? ⟨af,2,none⟩=some (.int .i64 θ))∧(Kd.R k56 56 w' w.heap.size (fun k_=>some k_≠(s_.2.2.1:Value).ownBlock) s_.1 bw)∧(Kd.R k62 62 w' w.heap.size (fun k_=>some k_≠(s_.2.2.2.1:Value).ownBlock) s_.2.1 bz)∧(Kd.R k56 56 w' w.heap.size (fun k_=>some k_≠(s_.1:Value).ownBlock) s_.2.2.1 aa)∧(Kd.R k62 62 w' w.heap.size (fun k_=>some k_≠(s_.2.1:Value).ownBlock) s_.2.2.2.1 ac)∧(w'.heap[aw]?=some (.cells #[.int .i64 D,.int .i64 I] 23 (0,0)))∧(w'.heap[an]?=some (.cells #[.slice ζ B.length γ,.slice η J.length δ] 27 (0,0)))∧(w'.heap[af]?=some (.cells #[.int .i64 Y,.int .i64 X,.int .i64 θ] 43 (0,0)))∧(w'.heap[s_.2.2.2.2]?=some (.cells #[.slice none 0 0,.slice none 0 0] 27 (0,0)))∧(w.heap.size≤s_.2.2.2.2)∧(w.heap.size≤s_.2.2.2.2)∧(aw≠s_.2.2.2.2)∧(s_.2.2.2.2≠aw)∧(an≠s_.2.2.2.2)∧(s_.2.2.2.2≠an)∧(af≠s_.2.2.2.2)∧(s_.2.2.2.2≠af)∧(Below w.heap.size w w')) ?_ ?_
   rotate_left
   ·intro hCont
    refine J8 (i:=2) (j:=8) (Ni:=some 18) (Nj:=some 7) (bN 11 15) (bN 11 267) rfl rfl rfl rfl (X6 HT_.out kr) (by decide) (by decide) (fun K hK=>?_) (fun K hK=>?_)
    ·skip
     refine Zh Try.func12 kr rfl #[.agg #[.slice ζ B.length γ,.slice η J.length δ]] (by rfl) rfl rfl qM ?_
     with_reducible refine(newellaw19_Own.calls _ _ B _ _ J bw bz _ ?side1 ?side2 ?side3 ?side4 A6.out).mono ?_
     (case side1=>exact(Kd.Qx ai.out HB.out))
     (case side2=>exact ay.out)
     (case side3=>exact(Kd.Qx ak.out HB.out))
     (case side4=>exact az.out)
     rintro e d1 ⟨cu,cv,rfl,ψ,a2,hb⟩
     refine⟨_,rfl, ?_⟩
     have τ :=Aside0.mk (Kd.Q1 ψ (Ql HB.out))
     have φ :=Aside0.mk (Kd.Q1 a2 (Ql HB.out))
     replace U:=sBk U hb
     replace O:=sBk O hb
     replace L:=sBk L hb
     replace HB:=sHb hb
     (try clear hb)
     (try clear a4)
     (try clear hk)
     (try clear hi)
     (try clear ψ)
     (try clear a2)
     obtain⟨g4,g5,g6⟩:=Kd.Q3 τ.out
     (first|subst g6|(injection g6 with ν a7 ξ;have a8:= ν.symm;have a9:= ξ.symm;clear ν a7 ξ;subst a8;subst a9))
     obtain⟨ge,gf,gg⟩:=Kd.Q3 φ.out
     (first|subst gg|(injection gg with ν a7 ξ;have a8:= ν.symm;have a9:= ξ.symm;clear ν a7 ξ;subst a8;subst a9))
     refine hK.out _ _ ⟨qc U,qc U,qc O,qc O,qc L,qc L,qc L⟩ (fun hHeld=>?_)
     clear hK K
     refine qN (some 18) ?_
     refine J8 (i:=4) (j:=8) (Ni:=some 20) (Nj:=some 7) (bN 11 31) (bN 11 271) rfl rfl rfl rfl (X6 HT_.out kr) (by decide) (by decide) (fun K hK=>?_) (fun K hK=>?_)
     ·skip
      refine Zh Try.func18 kr rfl #[.agg #[.int .i64 D,.int .i64 I],.agg #[.slice g4 bw.length g5,.slice ge bz.length gf],.agg #[.int .i64 Y,.int .i64 X,.int .i64 θ]] (by rfl) rfl rfl qM ?_
      with_reducible refine(call_Serve.calls k D I _ _ bw _ _ bz Y X θ aa ac av _ ?side1 ?side2 ?side3 ?side4 A7.out).mono ?_
      (case side1=>exact(Kd.Qp τ.out).2.2)
      (case side2=>exact(Kd.Qp τ.out).2.1)
      (case side3=>exact(Kd.Qp φ.out).2.2)
      (case side4=>exact(Kd.Qp φ.out).2.1)
      rintro e cx ⟨e6,e7,rfl,ψ,a2,hb⟩
      refine⟨_,rfl, ?_⟩
      have a5:=Aside0.mk (Kd.Q1 (Kd.Zf ψ (Kd.Zq τ.out)) (Ql HB.out))
      have a6:=Aside0.mk (Kd.Q1 (Kd.Zf a2 (Kd.Zq φ.out)) (Ql HB.out))
      replace τ :=Aside0.mk (Kd.Za τ.out (Kd.Zg ψ) hb)
      replace φ :=Aside0.mk (Kd.Za φ.out (Kd.Zg a2) hb)
      replace U:=sBk U hb
      replace O:=sBk O hb
      replace L:=sBk L hb
      replace HB:=sHb hb
      (try clear hb)
      (try clear a4)
      (try clear hk)
      (try clear hi)
      (try clear ψ)
      (try clear a2)
      refine hK.out _ _ ⟨qc U,qc U,qc O,qc O,qc L,qc L,qc L⟩ (fun hHeld=>?_)
      clear hK K
      refine qN (some 20) ?_
      refine qP 5 (some 15) (bN 11 63) HT_ ?_
      refine qP 6 (some 21) (bN 11 127) HT_ ?_
      refine qP 7 (some 22) (bN 11 255) HT_ ?_
      refine Zi (i:=8) (N:=some 7) (bN 11 511) rfl rfl (Q2 HT_.out kr) (by decide) (fun K hK=>?_)
      refine Xc ?hg (N:=7) ?hd (cs:=#[.slice none 0 0,.slice none 0 0]) (t:=27) ?hr ?_;(case hd=>rfl);(case hg=>rfl);(case hr=>go_simp <;> rfl)
      intro ρ hg fu hbox hb
      have μ :=Aside0.mk hbox
      have e8:=sGe hg
      have e9:=sGe hg
      have b0:=sNl U hg
      have bb:=sNg U hg
      have b4:=sNl O hg
      have bi:=sNg O hg
      have am:=sNl L hg
      have bc:=sNg L hg
      replace τ :=sRb τ hb
      replace φ :=sRb φ hb
      replace a5:=sRb a5 hb
      replace a6:=sRb a6 hb
      replace U:=sBk U hb
      replace O:=sBk O hb
      replace L:=sBk L hb
      replace HB:=sHb hb
      clear hb hbox hg
      refine hK.out _ _ ⟨qc U,qc U,qc O,qc O,qc L,qc L,qc L⟩ (fun hHeld=>?_)
      clear hK K
      refine qN (some 7) ?_
      exact Xe (by simp only[Zv,Act.put,qS]) (hCont (.slice g4 bw.length g5,.slice ge bz.length gf,e6,e7,ρ) _ ⟨hHeld,(by(with_reducible repeat first|apply Kd.Qk|apply Kd.Qj|apply Kd.Qm);exact Kd.Qq τ.out (fun _ hk=>hk.2)),(by(with_reducible repeat first|apply Kd.Qk|apply Kd.Qj|apply Kd.Qm);exact Kd.Qq φ.out (fun _ hk=>hk.2)),(by(with_reducible repeat first|apply Kd.Qk|apply Kd.Qj|apply Kd.Qm);exact Kd.Qq a5.out (fun _ hk=>hk.2)),(by(with_reducible repeat first|apply Kd.Qk|apply Kd.Qj|apply Kd.Qm);exact Kd.Qq a6.out (fun _ hk=>hk.2)),U.out,O.out,L.out,μ.out,e8.out,e9.out,b0.out,bb.out,b4.out,bi.out,am.out,bc.out,HB.out⟩)
     ·skip
      refine Xc ?hg (N:=7) ?hd (cs:=#[.slice none 0 0,.slice none 0 0]) (t:=27) ?hr ?_;(case hd=>rfl);(case hg=>rfl);(case hr=>go_simp <;> rfl)
      intro ρ hg fc hbox hb
      have μ :=Aside0.mk hbox
      have e8:=sGe hg
      have e9:=sGe hg
      have b0:=sNl U hg
      have bb:=sNg U hg
      have b4:=sNl O hg
      have bi:=sNg O hg
      have am:=sNl L hg
      have bc:=sNg L hg
      replace τ :=sRb τ hb
      replace φ :=sRb φ hb
      replace U:=sBk U hb
      replace O:=sBk O hb
      replace L:=sBk L hb
      replace HB:=sHb hb
      clear hb hbox hg
      obtain⟨ge,gf,gg⟩:=Kd.Q3 τ.out
      (first|subst gg|(injection gg with ν a7 ξ;have a8:= ν.symm;have a9:= ξ.symm;clear ν a7 ξ;subst a8;subst a9))
      obtain⟨ee,dv,gk⟩:=Kd.Q3 φ.out
      (first|subst gk|(injection gk with ν a7 ξ;have a8:= ν.symm;have a9:= ξ.symm;clear ν a7 ξ;subst a8;subst a9))
      refine hK.out _ _ ⟨qc U,qc U,qc O,qc O,qc L,qc L,qc L⟩ (fun hHeld=>?_)
      clear hK K
      refine qN (some 7) ?_
      refine Zi (i:=4) (N:=some 20) (bN 11 287) rfl rfl (Q2 HT_.out kr) (by decide) (fun K hK=>?_)
      refine Zh Try.func18 kr rfl #[.agg #[.int .i64 D,.int .i64 I],.agg #[.slice ge bw.length gf,.slice ee bz.length dv],.agg #[.int .i64 Y,.int .i64 X,.int .i64 θ]] (by rfl) rfl rfl qM ?_
      with_reducible refine(call_Serve.calls k D I _ _ bw _ _ bz Y X θ aa ac av _ ?side1 ?side2 ?side3 ?side4 A7.out).mono ?_
      (case side1=>exact(Kd.Qp τ.out).2.2)
      (case side2=>exact(Kd.Qp τ.out).2.1)
      (case side3=>exact(Kd.Qp φ.out).2.2)
      (case side4=>exact(Kd.Qp φ.out).2.1)
      rintro e fu ⟨e6,e7,rfl,ψ,a2,hb⟩
      refine⟨_,rfl, ?_⟩
      have a5:=Aside0.mk (Kd.Q1 (Kd.Zf ψ (Kd.Zq τ.out)) (Ql HB.out))
      have a6:=Aside0.mk (Kd.Q1 (Kd.Zf a2 (Kd.Zq φ.out)) (Ql HB.out))
      replace τ :=Aside0.mk (Kd.Za τ.out (Kd.Zg ψ) hb)
      replace φ :=Aside0.mk (Kd.Za φ.out (Kd.Zg a2) hb)
      replace U:=sBk U hb
      replace O:=sBk O hb
      replace L:=sBk L hb
      replace μ :=sBk μ hb
      replace HB:=sHb hb
      (try clear hb)
      (try clear a4)
      (try clear hk)
      (try clear hi)
      (try clear ψ)
      (try clear a2)
      refine hK.out _ _ ⟨qc U,qc U,qc O,qc O,qc L,qc L,qc L⟩ (fun hHeld=>?_)
      clear hK K
      refine qN (some 20) ?_
      refine qP 5 (some 15) (bN 11 319) HT_ ?_
      refine qP 6 (some 21) (bN 11 383) HT_ ?_
      refine qP 7 (some 22) (bN 11 511) HT_ ?_
      exact Xe (by simp only[Zv,Act.put,qS]) (hCont (.slice ge bw.length gf,.slice ee bz.length dv,e6,e7,ρ) _ ⟨hHeld,(by(with_reducible repeat first|apply Kd.Qk|apply Kd.Qj|apply Kd.Qm);exact Kd.Qq τ.out (fun _ hk=>hk.2)),(by(with_reducible repeat first|apply Kd.Qk|apply Kd.Qj|apply Kd.Qm);exact Kd.Qq φ.out (fun _ hk=>hk.2)),(by(with_reducible repeat first|apply Kd.Qk|apply Kd.Qj|apply Kd.Qm);exact Kd.Qq a5.out (fun _ hk=>hk.2)),(by(with_reducible repeat first|apply Kd.Qk|apply Kd.Qj|apply Kd.Qm);exact Kd.Qq a6.out (fun _ hk=>hk.2)),U.out,O.out,L.out,μ.out,e8.out,e9.out,b0.out,bb.out,b4.out,bi.out,am.out,bc.out,HB.out⟩)
    ·skip
     refine Xc ?hg (N:=7) ?hd (cs:=#[.slice none 0 0,.slice none 0 0]) (t:=27) ?hr ?_;(case hd=>rfl);(case hg=>rfl);(case hr=>go_simp <;> rfl)
     intro ρ hg d1 hbox hb
     have μ :=Aside0.mk hbox
     have e8:=sGe hg
     have e9:=sGe hg
     have b0:=sNl U hg
     have bb:=sNg U hg
     have b4:=sNl O hg
     have bi:=sNg O hg
     have am:=sNl L hg
     have bc:=sNg L hg
     replace U:=sBk U hb
     replace O:=sBk O hb
     replace L:=sBk L hb
     replace HB:=sHb hb
     clear hb hbox hg
     refine hK.out _ _ ⟨qc U,qc U,qc O,qc O,qc L,qc L,qc L⟩ (fun hHeld=>?_)
     clear hK K
     refine qN (some 7) ?_
     refine Zi (i:=2) (N:=some 18) (bN 11 271) rfl rfl (Q2 HT_.out kr) (by decide) (fun K hK=>?_)
     refine Zh Try.func12 kr rfl #[.agg #[.slice ζ B.length γ,.slice η J.length δ]] (by rfl) rfl rfl qM ?_
     with_reducible refine(newellaw19_Own.calls _ _ B _ _ J bw bz _ ?side1 ?side2 ?side3 ?side4 A6.out).mono ?_
     (case side1=>exact(Kd.Qx ai.out HB.out))
     (case side2=>exact ay.out)
     (case side3=>exact(Kd.Qx ak.out HB.out))
     (case side4=>exact az.out)
     rintro e fc ⟨cu,cv,rfl,ψ,a2,hb⟩
     refine⟨_,rfl, ?_⟩
     have τ :=Aside0.mk (Kd.Q1 ψ (Ql HB.out))
     have φ :=Aside0.mk (Kd.Q1 a2 (Ql HB.out))
     replace U:=sBk U hb
     replace O:=sBk O hb
     replace L:=sBk L hb
     replace μ :=sBk μ hb
     replace HB:=sHb hb
     (try clear hb)
     (try clear a4)
     (try clear hk)
     (try clear hi)
     (try clear ψ)
     (try clear a2)
     obtain⟨ge,gf,gg⟩:=Kd.Q3 τ.out
     (first|subst gg|(injection gg with ν a7 ξ;have a8:= ν.symm;have a9:= ξ.symm;clear ν a7 ξ;subst a8;subst a9))
     obtain⟨ee,dv,gk⟩:=Kd.Q3 φ.out
     (first|subst gk|(injection gk with ν a7 ξ;have a8:= ν.symm;have a9:= ξ.symm;clear ν a7 ξ;subst a8;subst a9))
     refine hK.out _ _ ⟨qc U,qc U,qc O,qc O,qc L,qc L,qc L⟩ (fun hHeld=>?_)
     clear hK K
     refine qN (some 18) ?_
     refine Zi (i:=4) (N:=some 20) (bN 11 287) rfl rfl (Q2 HT_.out kr) (by decide) (fun K hK=>?_)
     refine Zh Try.func18 kr rfl #[.agg #[.int .i64 D,.int .i64 I],.agg #[.slice ge bw.length gf,.slice ee bz.length dv],.agg #[.int .i64 Y,.int .i64 X,.int .i64 θ]] (by rfl) rfl rfl qM ?_
     with_reducible refine(call_Serve.calls k D I _ _ bw _ _ bz Y X θ aa ac av _ ?side1 ?side2 ?side3 ?side4 A7.out).mono ?_
     (case side1=>exact(Kd.Qp τ.out).2.2)
     (case side2=>exact(Kd.Qp τ.out).2.1)
     (case side3=>exact(Kd.Qp φ.out).2.2)
     (case side4=>exact(Kd.Qp φ.out).2.1)
     rintro e fu ⟨e6,e7,rfl,ψ,a2,hb⟩
     refine⟨_,rfl, ?_⟩
     have a5:=Aside0.mk (Kd.Q1 (Kd.Zf ψ (Kd.Zq τ.out)) (Ql HB.out))
     have a6:=Aside0.mk (Kd.Q1 (Kd.Zf a2 (Kd.Zq φ.out)) (Ql HB.out))
     replace τ :=Aside0.mk (Kd.Za τ.out (Kd.Zg ψ) hb)
     replace φ :=Aside0.mk (Kd.Za φ.out (Kd.Zg a2) hb)
     replace U:=sBk U hb
     replace O:=sBk O hb
     replace L:=sBk L hb
     replace μ :=sBk μ hb
     replace HB:=sHb hb
     (try clear hb)
     (try clear a4)
     (try clear hk)
     (try clear hi)
     (try clear ψ)
     (try clear a2)
     refine hK.out _ _ ⟨qc U,qc U,qc O,qc O,qc L,qc L,qc L⟩ (fun hHeld=>?_)
     clear hK K
     refine qN (some 20) ?_
     refine qP 5 (some 15) (bN 11 319) HT_ ?_
     refine qP 6 (some 21) (bN 11 383) HT_ ?_
     refine qP 7 (some 22) (bN 11 511) HT_ ?_
     exact Xe (by simp only[Zv,Act.put,qS]) (hCont (.slice ge bw.length gf,.slice ee bz.length dv,e6,e7,ρ) _ ⟨hHeld,(by(with_reducible repeat first|apply Kd.Qk|apply Kd.Qj|apply Kd.Qm);exact Kd.Qq τ.out (fun _ hk=>hk.2)),(by(with_reducible repeat first|apply Kd.Qk|apply Kd.Qj|apply Kd.Qm);exact Kd.Qq φ.out (fun _ hk=>hk.2)),(by(with_reducible repeat first|apply Kd.Qk|apply Kd.Qj|apply Kd.Qm);exact Kd.Qq a5.out (fun _ hk=>hk.2)),(by(with_reducible repeat first|apply Kd.Qk|apply Kd.Qj|apply Kd.Qm);exact Kd.Qq a6.out (fun _ hk=>hk.2)),U.out,O.out,L.out,μ.out,e8.out,e9.out,b0.out,bb.out,b4.out,bi.out,am.out,bc.out,HB.out⟩)
   rintro⟨cu,cv,e6,e7,ρ⟩ bq ⟨hS_,da,db,dc,dd,de,ev,ew,ey,ez,f3,dx,dy,dz,e0,e3,e4,e5⟩
   have Z:Aside0 (Kd.R k56 56 bq w.heap.size (fun k_=>some k_≠(e6:Value).ownBlock) cu bw):=⟨da⟩
   have ε :Aside0 (Kd.R k62 62 bq w.heap.size (fun k_=>some k_≠(e7:Value).ownBlock) cv bz):=⟨db⟩
   have ι :Aside0 (Kd.R k56 56 bq w.heap.size (fun k_=>some k_≠(cu:Value).ownBlock) e6 aa):=⟨dc⟩
   have κ :Aside0 (Kd.R k62 62 bq w.heap.size (fun k_=>some k_≠(cv:Value).ownBlock) e7 ac):=⟨dd⟩
   have χ :Aside0 (bq.heap[aw]?=some (.cells #[.int .i64 D,.int .i64 I] 23 (0,0))):=⟨de⟩
   have ω :Aside0 (bq.heap[an]?=some (.cells #[.slice ζ B.length γ,.slice η J.length δ] 27 (0,0))):=⟨ev⟩
   have a1:Aside0 (bq.heap[af]?=some (.cells #[.int .i64 Y,.int .i64 X,.int .i64 θ] 43 (0,0))):=⟨ew⟩
   have ag:Aside0 (bq.heap[ρ]?=some (.cells #[.slice none 0 0,.slice none 0 0] 27 (0,0))):=⟨ey⟩
   have ah:Aside0 (w.heap.size≤ρ):=⟨ez⟩
   have ax:Aside0 (w.heap.size≤ρ):=⟨f3⟩
   have aj:Aside0 (aw≠ρ):=⟨dx⟩
   have ap:Aside0 (ρ≠aw):=⟨dy⟩
   have b8:Aside0 (an≠ρ):=⟨dz⟩
   have bg:Aside0 (ρ≠an):=⟨e0⟩
   have bh:Aside0 (af≠ρ):=⟨e3⟩
   have bs:Aside0 (ρ≠af):=⟨e4⟩
   have bu:Aside0 (Below w.heap.size w bq):=⟨e5⟩
   clear U
   clear O
   clear L
   clear HB
   clear da db dc dd de ev ew ey ez f3 dx dy dz e0 e3 e4 e5
   have τ :=Z
   have φ := ε
   have a5:= ι
   have a6:= κ
   have U:= χ
   have O:= ω
   have L:=a1
   have μ :=ag
   have e8:=ah
   have e9:=ax
   have b0:=aj
   have bb:=ap
   have b4:=b8
   have bi:=bg
   have am:=bh
   have bc:=bs
   have HB:=bu
   clear Z ε ι κ χ ω a1 ag ah ax aj ap b8 bg bh bs bu
   have hHeld:bq.cell? ⟨aw,0,none⟩=some (.int .i64 D)∧bq.cell? ⟨aw,1,none⟩=some (.int .i64 I)∧bq.cell? ⟨an,0,none⟩=some (.slice ζ B.length γ)∧bq.cell? ⟨an,1,none⟩=some (.slice η J.length δ)∧bq.cell? ⟨af,0,none⟩=some (.int .i64 Y)∧bq.cell? ⟨af,1,none⟩=some (.int .i64 X)∧bq.cell? ⟨af,2,none⟩=some (.int .i64 θ):=hS_
   obtain⟨b3,b1,gp⟩:=Kd.Q3 a5.out
   (first|subst gp|(injection gp with ν a7 ξ;have a8:= ν.symm;have a9:= ξ.symm;clear ν a7 ξ;subst a8;subst a9))
   obtain⟨cf,cg,nh⟩:=Kd.Q3 a6.out
   (first|subst nh|(injection nh with ν a7 ξ;have a8:= ν.symm;have a9:= ξ.symm;clear ν a7 ξ;subst a8;subst a9))
   refine Xe (a':=?_) ?_ ?_
   rotate_left
   ·simp only[Zv,Act.put,qS]
    rfl
   refine Zi (i:=9) (N:=none) (bN 11 1023) rfl rfl (Q2 HT_.out kr) (by decide) (fun K hK=>?_)
   have oi:bq.cell? ⟨ρ,0,none⟩=some (.slice none 0 0):=(Qi μ.out 0).trans rfl
   have ny:=Q6 μ.out 0
   have mw:=b0.out
   have mx:=b4.out
   have my:=am.out
   have mz:=bb.out
   have n0:=bi.out
   have n1:=bc.out
   have v2:bq.cell? ⟨ρ,1,none⟩=some (.slice none 0 0):=(Qi μ.out 1).trans rfl
   have uo:=Q6 μ.out 1
   have rn:=b0.out
   have rp:=b4.out
   have rq:=am.out
   have rr:=bb.out
   have rs:=bi.out
   have rt:=bc.out
   refine Yl (w1:=?_) (by rfl) rfl ?_ ?_
   rotate_left
   ·go_simp
    rfl
   refine hK.out _ _ ⟨((cell_far (p:=⟨ρ,_,none⟩) b0.out _).trans (((cell_far (p:=⟨ρ,_,none⟩) b0.out _).trans (hHeld.1)))),((cell_far (p:=⟨ρ,_,none⟩) b0.out _).trans (((cell_far (p:=⟨ρ,_,none⟩) b0.out _).trans (hHeld.2.1)))),((cell_far (p:=⟨ρ,_,none⟩) b4.out _).trans (((cell_far (p:=⟨ρ,_,none⟩) b4.out _).trans (hHeld.2.2.1)))),((cell_far (p:=⟨ρ,_,none⟩) b4.out _).trans (((cell_far (p:=⟨ρ,_,none⟩) b4.out _).trans (hHeld.2.2.2.1)))),((cell_far (p:=⟨ρ,_,none⟩) am.out _).trans (((cell_far (p:=⟨ρ,_,none⟩) am.out _).trans (hHeld.2.2.2.2.1)))),((cell_far (p:=⟨ρ,_,none⟩) am.out _).trans (((cell_far (p:=⟨ρ,_,none⟩) am.out _).trans (hHeld.2.2.2.2.2.1)))),((cell_far (p:=⟨ρ,_,none⟩) am.out _).trans (((cell_far (p:=⟨ρ,_,none⟩) am.out _).trans (hHeld.2.2.2.2.2.2))))⟩ (fun hHeld=>?_)
   clear hK K
   refine qP 10 (some 8) (bN 11 2047) HT_ ?_
   refine Zr (Ze HT_.out kr) ?_
   try go_wp2
   have Z:Aside0 (Kd.R k56 56 ((bq.setCell ⟨ρ,0,none⟩ (.slice b3 aa.length b1)).setCell ⟨ρ,1,none⟩ (.slice cf ac.length cg)) w.heap.size (fun k_=>some k_≠(.slice b3 aa.length b1:Value).ownBlock) cu bw):=⟨by(with_reducible repeat first|apply Kd.Qk|apply Kd.Qj|apply Kd.Qm);exact Kd.Qq (Kd.Qr (Kd.Qr (Kd.Qu τ.out μ.out (by decide)) (fun _ hk=>hk.2) _) (fun _ hk=>hk.2) _) (fun _ hk=>hk.1)⟩
   have ε :Aside0 (Kd.R k62 62 ((bq.setCell ⟨ρ,0,none⟩ (.slice b3 aa.length b1)).setCell ⟨ρ,1,none⟩ (.slice cf ac.length cg)) w.heap.size (fun k_=>some k_≠(.slice cf ac.length cg:Value).ownBlock) cv bz):=⟨by(with_reducible repeat first|apply Kd.Qk|apply Kd.Qj|apply Kd.Qm);exact Kd.Qq (Kd.Qr (Kd.Qr (Kd.Qu φ.out μ.out (by decide)) (fun _ hk=>hk.2) _) (fun _ hk=>hk.2) _) (fun _ hk=>hk.1)⟩
   have ι :Aside0 (Kd.R k56 56 ((bq.setCell ⟨ρ,0,none⟩ (.slice b3 aa.length b1)).setCell ⟨ρ,1,none⟩ (.slice cf ac.length cg)) w.heap.size (fun k_=>some k_≠(cu:Value).ownBlock) (.slice b3 aa.length b1) aa):=⟨by(with_reducible repeat first|apply Kd.Qk|apply Kd.Qj|apply Kd.Qm);exact Kd.Qq (Kd.Qr (Kd.Qr (Kd.Qu a5.out μ.out (by decide)) (fun _ hk=>hk.2) _) (fun _ hk=>hk.2) _) (fun _ hk=>hk.1)⟩
   have κ :Aside0 (Kd.R k62 62 ((bq.setCell ⟨ρ,0,none⟩ (.slice b3 aa.length b1)).setCell ⟨ρ,1,none⟩ (.slice cf ac.length cg)) w.heap.size (fun k_=>some k_≠(cv:Value).ownBlock) (.slice cf ac.length cg) ac):=⟨by(with_reducible repeat first|apply Kd.Qk|apply Kd.Qj|apply Kd.Qm);exact Kd.Qq (Kd.Qr (Kd.Qr (Kd.Qu a6.out μ.out (by decide)) (fun _ hk=>hk.2) _) (fun _ hk=>hk.2) _) (fun _ hk=>hk.1)⟩
   have χ :Aside0 (((bq.setCell ⟨ρ,0,none⟩ (.slice b3 aa.length b1)).setCell ⟨ρ,1,none⟩ (.slice cf ac.length cg)).heap[aw]?=some (.cells #[.int .i64 D,.int .i64 I] 23 (0,0))):=⟨bka U⟩
   have ω :Aside0 (((bq.setCell ⟨ρ,0,none⟩ (.slice b3 aa.length b1)).setCell ⟨ρ,1,none⟩ (.slice cf ac.length cg)).heap[an]?=some (.cells #[.slice ζ B.length γ,.slice η J.length δ] 27 (0,0))):=⟨bka O⟩
   have a1:Aside0 (((bq.setCell ⟨ρ,0,none⟩ (.slice b3 aa.length b1)).setCell ⟨ρ,1,none⟩ (.slice cf ac.length cg)).heap[af]?=some (.cells #[.int .i64 Y,.int .i64 X,.int .i64 θ] 43 (0,0))):=⟨bka L⟩
   have ag:Aside0 (((bq.setCell ⟨ρ,0,none⟩ (.slice b3 aa.length b1)).setCell ⟨ρ,1,none⟩ (.slice cf ac.length cg)).heap[ρ]?=some (.cells #[.slice b3 aa.length b1,.slice cf ac.length cg] 27 (0,0))):=⟨by refine Qw (cs:=#[.slice b3 aa.length b1,.slice none 0 0]) ?_ 1 _ rfl;refine Qw (cs:=#[.slice none 0 0,.slice none 0 0]) ?_ 0 _ rfl;exact μ.out⟩
   have ah:Aside0 (Below w.heap.size w ((bq.setCell ⟨ρ,0,none⟩ (.slice b3 aa.length b1)).setCell ⟨ρ,1,none⟩ (.slice cf ac.length cg))):=⟨bel⟩
   (try clear τ)
   (try clear φ)
   (try clear a5)
   (try clear a6)
   (try clear U)
   (try clear O)
   (try clear L)
   (try clear μ)
   (try clear HB)
   generalize((bq.setCell ⟨ρ,0,none⟩ (.slice b3 aa.length b1)).setCell ⟨ρ,1,none⟩ (.slice cf ac.length cg))=n2 at Z ε ι κ χ ω a1 ag ah ⊢
   have τ :=Z
   have φ := ε
   have a5:= ι
   have a6:= κ
   have U:= χ
   have O:= ω
   have L:=a1
   have μ :=ag
   have HB:=ah
   clear Z ε ι κ χ ω a1 ag ah
   replace τ :=Aside0.mk (Kd.Qm τ.out)
   replace φ :=Aside0.mk (Kd.Qm φ.out)
   replace a5:=Aside0.mk (Kd.Qm a5.out)
   replace a6:=Aside0.mk (Kd.Qm a6.out)
   replace U:=Aside0.mk (Qa U.out)
   replace O:=Aside0.mk (Qa O.out)
   replace L:=Aside0.mk (Qa L.out)
   replace μ :=Aside0.mk (Qa μ.out)
   replace HB:=Aside0.mk (Qf HB.out)
   refine Zm (n:=12) (S:=fun w'=>w'.cell? ⟨aw,0,none⟩=some (.int .i64 D)∧w'.cell? ⟨aw,1,none⟩=some (.int .i64 I)∧w'.cell? ⟨an,0,none⟩=some (.slice ζ B.length γ)∧w'.cell? ⟨an,1,none⟩=some (.slice η J.length δ)∧w'.cell? ⟨af,0,none⟩=some (.int .i64 Y)∧w'.cell? ⟨af,1,none⟩=some (.int .i64 X)∧w'.cell? ⟨af,2,none⟩=some (.int .i64 θ)) (ds:=[]) #[false,false,false,false,false,false,false,false,false,false,false,false] kr rfl rfl ⟨(Qi U.out 0).trans rfl,(Qi U.out 1).trans rfl,(Qi O.out 0).trans rfl,(Qi O.out 1).trans rfl,(Qi L.out 0).trans rfl,(Qi L.out 1).trans rfl,(Qi L.out 2).trans rfl⟩ (fun hHeld=>?_);refine Q7 newellaw19_CallServes.Kj newellaw19_CallServes.Jf (fun HT_ HW_=>?_)
   generalize n2.drew=o9 at τ φ a5 a6 U O L μ HB hHeld ⊢
   refine qP 3 (some 27) (bN 12 8) HT_ ?_
   refine qT 0 (some 24) (bN 12 9) HT_ HW_ hHeld ?_
   refine qT 1 (some 25) (bN 12 11) HT_ HW_ hHeld ?_
   refine qT 4 (some 28) (bN 12 27) HT_ HW_ hHeld ?_
   refine Ku (σ:=Value×Value×Value×Value×Value×Nat) 2 (bN 12 1023) (fun s_=>[(26,.agg #[s_.1,s_.2.1]),(29,.tuple #[.agg #[s_.2.2.1,s_.2.2.2.1,s_.2.2.2.2.1],.int .i64 bv]),(9,.pointer (some ⟨s_.2.2.2.2.2,0,none⟩)),(23,.tuple #[.agg #[s_.2.2.1,s_.2.2.2.1,s_.2.2.2.2.1],.int .i64 bv]),(30,.agg #[s_.2.2.1,s_.2.2.2.1,s_.2.2.2.2.1]),(31,.int .i64 bv)]) (fun s_ w'=>(w'.cell? ⟨aw,0,none⟩=some (.int .i64 D)∧w'.cell? ⟨aw,1,none⟩=some (.int .i64 I)∧w'.cell? ⟨an,0,none⟩=some (.slice ζ B.length γ)∧w'.cell? ⟨an,1,none⟩=some (.slice η J.length δ)∧w'.cell? ⟨af,0,none⟩=some (.int .i64 Y)∧w'.cell? ⟨af,1,none⟩=some (.int .i64 X)∧w'.cell? ⟨af,2,none⟩=some (.int .i64 θ))∧(Kd.R k56 56 w' w.heap.size (fun k_=>some k_≠(.slice b3 aa.length b1:Value).ownBlock∧some k_≠(s_.1:Value).ownBlock) cu bw)∧(Kd.R k62 62 w' w.heap.size (fun k_=>some k_≠(.slice cf ac.length cg:Value).ownBlock∧some k_≠(s_.2.1:Value).ownBlock) cv bz)∧(Kd.R k56 56 w' w.heap.size (fun k_=>some k_≠(cu:Value).ownBlock∧some k_≠(s_.1:Value).ownBlock) (.slice b3 aa.length b1) aa)∧(Kd.R k62 62 w' w.heap.size (fun k_=>some k_≠(cv:Value).ownBlock∧some k_≠(s_.2.1:Value).ownBlock) (.slice cf ac.length cg) ac)∧(Kd.R k56 56 w' w.heap.size (fun k_=>some k_≠(cu:Value).ownBlock∧some k_≠(.slice b3 aa.length b1:Value).ownBlock) s_.1 cn)∧(Kd.R k62 62 w' w.heap.size (fun k_=>some k_≠(cv:Value).ownBlock∧some k_≠(.slice cf ac.length cg:Value).ownBlock) s_.2.1 co)∧(Kd.R (Kd.int .i64) 3 w' w.heap.size (fun k_=>some k_≠(s_.2.2.2.1:Value).ownBlock∧some k_≠(s_.2.2.2.2.1:Value).ownBlock) s_.2.2.1 b7)∧(Kd.R (Kd.int .i64) 3 w' w.heap.size (fun k_=>some k_≠(s_.2.2.1:Value).ownBlock∧some k_≠(s_.2.2.2.2.1:Value).ownBlock) s_.2.2.2.1 b9)∧(Kd.R (Kd.int .i64) 3 w' w.heap.size (fun k_=>some k_≠(s_.2.2.1:Value).ownBlock∧some k_≠(s_.2.2.2.1:Value).ownBlock) s_.2.2.2.2.1 ba)∧(w'.heap[aw]?=some (.cells #[.int .i64 D,.int .i64 I] 23 (0,0)))∧(w'.heap[an]?=some (.cells #[.slice ζ B.length γ,.slice η J.length δ] 27 (0,0)))∧(w'.heap[af]?=some (.cells #[.int .i64 Y,.int .i64 X,.int .i64 θ] 43 (0,0)))∧(w'.heap[ρ]?=some (.cells #[.slice b3 aa.length b1,.slice cf ac.length cg] 27 (0,0)))∧(w'.heap[s_.2.2.2.2.2]?=some (.cells #[.slice none 0 0,.slice none 0 0,.slice none 0 0] 47 (0,0)))∧(w.heap.size≤s_.2.2.2.2.2)∧(w.heap.size≤s_.2.2.2.2.2)∧(aw≠s_.2.2.2.2.2)∧(s_.2.2.2.2.2≠aw)∧(an≠s_.2.2.2.2.2)∧(s_.2.2.2.2.2≠an)∧(af≠s_.2.2.2.2.2)∧(s_.2.2.2.2.2≠af)∧(ρ≠s_.2.2.2.2.2)∧(s_.2.2.2.2.2≠ρ)∧(Below w.heap.size w w')) ?_ ?_
   rotate_left
   ·intro hCont
    refine J8 (i:=2) (j:=9) (Ni:=some 26) (Nj:=some 9) (bN 12 31) (bN 12 539) rfl rfl rfl rfl (X6 HT_.out kr) (by decide) (by decide) (fun K hK=>?_) (fun K hK=>?_)
    ·skip
     refine Zh Try.func12 kr rfl #[.agg #[.slice ζ B.length γ,.slice η J.length δ]] (by rfl) rfl rfl qM ?_
     with_reducible refine(newellaw19_Own.calls _ _ B _ _ J cn co _ ?side1 ?side2 ?side3 ?side4 A8.out).mono ?_
     (case side1=>exact(Kd.Qx ai.out HB.out))
     (case side2=>exact ay.out)
     (case side3=>exact(Kd.Qx ak.out HB.out))
     (case side4=>exact az.out)
     rintro e oa ⟨fh,fi,rfl,ψ,a2,hb⟩
     refine⟨_,rfl, ?_⟩
     have ar:=Aside0.mk (Kd.Q1 (Kd.Zf (Kd.Zf ψ (Kd.Zq τ.out)) (Kd.Zq a5.out)) (Ql HB.out))
     have au:=Aside0.mk (Kd.Q1 (Kd.Zf (Kd.Zf a2 (Kd.Zq φ.out)) (Kd.Zq a6.out)) (Ql HB.out))
     replace τ :=Aside0.mk (Kd.Za τ.out (Kd.Zg ψ) hb)
     replace φ :=Aside0.mk (Kd.Za φ.out (Kd.Zg a2) hb)
     replace a5:=Aside0.mk (Kd.Za a5.out (Kd.Zg ψ) hb)
     replace a6:=Aside0.mk (Kd.Za a6.out (Kd.Zg a2) hb)
     replace U:=sBk U hb
     replace O:=sBk O hb
     replace L:=sBk L hb
     replace μ :=sBk μ hb
     replace HB:=sHb hb
     (try clear hb)
     (try clear a4)
     (try clear hk)
     (try clear hi)
     (try clear ψ)
     (try clear a2)
     obtain⟨ni,nj,nk⟩:=Kd.Q3 ar.out
     (first|subst nk|(injection nk with ν a7 ξ;have a8:= ν.symm;have a9:= ξ.symm;clear ν a7 ξ;subst a8;subst a9))
     obtain⟨dw,dn,fq⟩:=Kd.Q3 au.out
     (first|subst fq|(injection fq with ν a7 ξ;have a8:= ν.symm;have a9:= ξ.symm;clear ν a7 ξ;subst a8;subst a9))
     refine hK.out _ _ ⟨qc U,qc U,qc O,qc O,qc L,qc L,qc L⟩ (fun hHeld=>?_)
     clear hK K
     refine qN (some 26) ?_
     refine J8 (i:=5) (j:=9) (Ni:=some 29) (Nj:=some 9) (bN 12 63) (bN 12 543) rfl rfl rfl rfl (X6 HT_.out kr) (by decide) (by decide) (fun K hK=>?_) (fun K hK=>?_)
     ·skip
      refine Zh Try.func19 kr rfl #[.agg #[.int .i64 D,.int .i64 I],.agg #[.slice ni cn.length nj,.slice dw co.length dn],.int .i64 Y] (by rfl) rfl rfl qM ?_
      with_reducible refine(call_View.calls k D I _ _ cn _ _ co Y b7 b9 ba bv _ ?side1 ?side2 ?side3 ?side4 A9.out).mono ?_
      (case side1=>exact(Kd.Qp ar.out).2.2)
      (case side2=>exact(Kd.Qp ar.out).2.1)
      (case side3=>exact(Kd.Qp au.out).2.2)
      (case side4=>exact(Kd.Qp au.out).2.1)
      rintro e nf ⟨dk,dl,dm,rfl,ψ,a2,cz,hb⟩
      refine⟨_,rfl, ?_⟩
      have bn:=Aside0.mk (Kd.Q1 ψ (Ql HB.out))
      have bo:=Aside0.mk (Kd.Q1 a2 (Ql HB.out))
      have bp:=Aside0.mk (Kd.Q1 cz (Ql HB.out))
      replace τ :=sRb τ hb
      replace φ :=sRb φ hb
      replace a5:=sRb a5 hb
      replace a6:=sRb a6 hb
      replace ar:=sRb ar hb
      replace au:=sRb au hb
      replace U:=sBk U hb
      replace O:=sBk O hb
      replace L:=sBk L hb
      replace μ :=sBk μ hb
      replace HB:=sHb hb
      (try clear hb)
      (try clear a4)
      (try clear hk)
      (try clear hi)
      (try clear ψ)
      (try clear a2)
      (try clear cz)
      refine hK.out _ _ ⟨qc U,qc U,qc O,qc O,qc L,qc L,qc L⟩ (fun hHeld=>?_)
      clear hK K
      refine qN (some 29) ?_
      refine qP 6 (some 23) (bN 12 127) HT_ ?_
      refine qP 7 (some 30) (bN 12 255) HT_ ?_
      refine qP 8 (some 31) (bN 12 511) HT_ ?_
      refine Zi (i:=9) (N:=some 9) (bN 12 1023) rfl rfl (Q2 HT_.out kr) (by decide) (fun K hK=>?_)
      refine Xc ?hg (N:=9) ?hd (cs:=#[.slice none 0 0,.slice none 0 0,.slice none 0 0]) (t:=47) ?hr ?_;(case hd=>rfl);(case hg=>rfl);(case hr=>go_simp <;> rfl)
      intro a3 hg il hbox hb
      have a0:=Aside0.mk hbox
      have ea:=sGe hg
      have eb:=sGe hg
      have al:=sNl U hg
      have b5:=sNg U hg
      have ao:=sNl O hg
      have bd:=sNg O hg
      have ae:=sNl L hg
      have b6:=sNg L hg
      have be:=sNl μ hg
      have bf:=sNg μ hg
      replace τ :=sRb τ hb
      replace φ :=sRb φ hb
      replace a5:=sRb a5 hb
      replace a6:=sRb a6 hb
      replace ar:=sRb ar hb
      replace au:=sRb au hb
      replace bn:=sRb bn hb
      replace bo:=sRb bo hb
      replace bp:=sRb bp hb
      replace U:=sBk U hb
      replace O:=sBk O hb
      replace L:=sBk L hb
      replace μ :=sBk μ hb
      replace HB:=sHb hb
      clear hb hbox hg
      refine hK.out _ _ ⟨qc U,qc U,qc O,qc O,qc L,qc L,qc L⟩ (fun hHeld=>?_)
      clear hK K
      refine qN (some 9) ?_
      exact Xe (by simp only[Zv,Act.put,qS]) (hCont (.slice ni cn.length nj,.slice dw co.length dn,dk,dl,dm,a3) _ ⟨hHeld,τ.out,φ.out,a5.out,a6.out,(by(with_reducible repeat first|apply Kd.Qk|apply Kd.Qj|apply Kd.Qm);exact Kd.Qq ar.out (fun _ hk=>⟨hk.1.2,hk.2⟩)),(by(with_reducible repeat first|apply Kd.Qk|apply Kd.Qj|apply Kd.Qm);exact Kd.Qq au.out (fun _ hk=>⟨hk.1.2,hk.2⟩)),bn.out,bo.out,bp.out,U.out,O.out,L.out,μ.out,a0.out,ea.out,eb.out,al.out,b5.out,ao.out,bd.out,ae.out,b6.out,be.out,bf.out,HB.out⟩)
     ·skip
      refine Xc ?hg (N:=9) ?hd (cs:=#[.slice none 0 0,.slice none 0 0,.slice none 0 0]) (t:=47) ?hr ?_;(case hd=>rfl);(case hg=>rfl);(case hr=>go_simp <;> rfl)
      intro a3 hg n3 hbox hb
      have a0:=Aside0.mk hbox
      have ea:=sGe hg
      have eb:=sGe hg
      have al:=sNl U hg
      have b5:=sNg U hg
      have ao:=sNl O hg
      have bd:=sNg O hg
      have ae:=sNl L hg
      have b6:=sNg L hg
      have be:=sNl μ hg
      have bf:=sNg μ hg
      replace τ :=sRb τ hb
      replace φ :=sRb φ hb
      replace a5:=sRb a5 hb
      replace a6:=sRb a6 hb
      replace ar:=sRb ar hb
      replace au:=sRb au hb
      replace U:=sBk U hb
      replace O:=sBk O hb
      replace L:=sBk L hb
      replace μ :=sBk μ hb
      replace HB:=sHb hb
      clear hb hbox hg
      obtain⟨dw,dn,fq⟩:=Kd.Q3 ar.out
      (first|subst fq|(injection fq with ν a7 ξ;have a8:= ν.symm;have a9:= ξ.symm;clear ν a7 ξ;subst a8;subst a9))
      obtain⟨iq,ir,it⟩:=Kd.Q3 au.out
      (first|subst it|(injection it with ν a7 ξ;have a8:= ν.symm;have a9:= ξ.symm;clear ν a7 ξ;subst a8;subst a9))
      refine hK.out _ _ ⟨qc U,qc U,qc O,qc O,qc L,qc L,qc L⟩ (fun hHeld=>?_)
      clear hK K
      refine qN (some 9) ?_
      refine Zi (i:=5) (N:=some 29) (bN 12 575) rfl rfl (Q2 HT_.out kr) (by decide) (fun K hK=>?_)
      refine Zh Try.func19 kr rfl #[.agg #[.int .i64 D,.int .i64 I],.agg #[.slice dw cn.length dn,.slice iq co.length ir],.int .i64 Y] (by rfl) rfl rfl qM ?_
      with_reducible refine(call_View.calls k D I _ _ cn _ _ co Y b7 b9 ba bv _ ?side1 ?side2 ?side3 ?side4 A9.out).mono ?_
      (case side1=>exact(Kd.Qp ar.out).2.2)
      (case side2=>exact(Kd.Qp ar.out).2.1)
      (case side3=>exact(Kd.Qp au.out).2.2)
      (case side4=>exact(Kd.Qp au.out).2.1)
      rintro e il ⟨dk,dl,dm,rfl,ψ,a2,cz,hb⟩
      refine⟨_,rfl, ?_⟩
      have bn:=Aside0.mk (Kd.Q1 ψ (Ql HB.out))
      have bo:=Aside0.mk (Kd.Q1 a2 (Ql HB.out))
      have bp:=Aside0.mk (Kd.Q1 cz (Ql HB.out))
      replace τ :=sRb τ hb
      replace φ :=sRb φ hb
      replace a5:=sRb a5 hb
      replace a6:=sRb a6 hb
      replace ar:=sRb ar hb
      replace au:=sRb au hb
      replace U:=sBk U hb
      replace O:=sBk O hb
      replace L:=sBk L hb
      replace μ :=sBk μ hb
      replace a0:=sBk a0 hb
      replace HB:=sHb hb
      (try clear hb)
      (try clear a4)
      (try clear hk)
      (try clear hi)
      (try clear ψ)
      (try clear a2)
      (try clear cz)
      refine hK.out _ _ ⟨qc U,qc U,qc O,qc O,qc L,qc L,qc L⟩ (fun hHeld=>?_)
      clear hK K
      refine qN (some 29) ?_
      refine qP 6 (some 23) (bN 12 639) HT_ ?_
      refine qP 7 (some 30) (bN 12 767) HT_ ?_
      refine qP 8 (some 31) (bN 12 1023) HT_ ?_
      exact Xe (by simp only[Zv,Act.put,qS]) (hCont (.slice dw cn.length dn,.slice iq co.length ir,dk,dl,dm,a3) _ ⟨hHeld,τ.out,φ.out,a5.out,a6.out,(by(with_reducible repeat first|apply Kd.Qk|apply Kd.Qj|apply Kd.Qm);exact Kd.Qq ar.out (fun _ hk=>⟨hk.1.2,hk.2⟩)),(by(with_reducible repeat first|apply Kd.Qk|apply Kd.Qj|apply Kd.Qm);exact Kd.Qq au.out (fun _ hk=>⟨hk.1.2,hk.2⟩)),bn.out,bo.out,bp.out,U.out,O.out,L.out,μ.out,a0.out,ea.out,eb.out,al.out,b5.out,ao.out,bd.out,ae.out,b6.out,be.out,bf.out,HB.out⟩)
    ·skip
     refine Xc ?hg (N:=9) ?hd (cs:=#[.slice none 0 0,.slice none 0 0,.slice none 0 0]) (t:=47) ?hr ?_;(case hd=>rfl);(case hg=>rfl);(case hr=>go_simp <;> rfl)
     intro a3 hg oa hbox hb
     have a0:=Aside0.mk hbox
     have ea:=sGe hg
     have eb:=sGe hg
     have al:=sNl U hg
     have b5:=sNg U hg
     have ao:=sNl O hg
     have bd:=sNg O hg
     have ae:=sNl L hg
     have b6:=sNg L hg
     have be:=sNl μ hg
     have bf:=sNg μ hg
     replace τ :=sRb τ hb
     replace φ :=sRb φ hb
     replace a5:=sRb a5 hb
     replace a6:=sRb a6 hb
     replace U:=sBk U hb
     replace O:=sBk O hb
     replace L:=sBk L hb
     replace μ :=sBk μ hb
     replace HB:=sHb hb
     clear hb hbox hg
     refine hK.out _ _ ⟨qc U,qc U,qc O,qc O,qc L,qc L,qc L⟩ (fun hHeld=>?_)
     clear hK K
     refine qN (some 9) ?_
     refine Zi (i:=2) (N:=some 26) (bN 12 543) rfl rfl (Q2 HT_.out kr) (by decide) (fun K hK=>?_)
     refine Zh Try.func12 kr rfl #[.agg #[.slice ζ B.length γ,.slice η J.length δ]] (by rfl) rfl rfl qM ?_
     with_reducible refine(newellaw19_Own.calls _ _ B _ _ J cn co _ ?side1 ?side2 ?side3 ?side4 A8.out).mono ?_
     (case side1=>exact(Kd.Qx ai.out HB.out))
     (case side2=>exact ay.out)
     (case side3=>exact(Kd.Qx ak.out HB.out))
     (case side4=>exact az.out)
     rintro e n3 ⟨fh,fi,rfl,ψ,a2,hb⟩
     refine⟨_,rfl, ?_⟩
     have ar:=Aside0.mk (Kd.Q1 (Kd.Zf (Kd.Zf ψ (Kd.Zq τ.out)) (Kd.Zq a5.out)) (Ql HB.out))
     have au:=Aside0.mk (Kd.Q1 (Kd.Zf (Kd.Zf a2 (Kd.Zq φ.out)) (Kd.Zq a6.out)) (Ql HB.out))
     replace τ :=Aside0.mk (Kd.Za τ.out (Kd.Zg ψ) hb)
     replace φ :=Aside0.mk (Kd.Za φ.out (Kd.Zg a2) hb)
     replace a5:=Aside0.mk (Kd.Za a5.out (Kd.Zg ψ) hb)
     replace a6:=Aside0.mk (Kd.Za a6.out (Kd.Zg a2) hb)
     replace U:=sBk U hb
     replace O:=sBk O hb
     replace L:=sBk L hb
     replace μ :=sBk μ hb
     replace a0:=sBk a0 hb
     replace HB:=sHb hb
     (try clear hb)
     (try clear a4)
     (try clear hk)
     (try clear hi)
     (try clear ψ)
     (try clear a2)
     obtain⟨dw,dn,fq⟩:=Kd.Q3 ar.out
     (first|subst fq|(injection fq with ν a7 ξ;have a8:= ν.symm;have a9:= ξ.symm;clear ν a7 ξ;subst a8;subst a9))
     obtain⟨iq,ir,it⟩:=Kd.Q3 au.out
     (first|subst it|(injection it with ν a7 ξ;have a8:= ν.symm;have a9:= ξ.symm;clear ν a7 ξ;subst a8;subst a9))
     refine hK.out _ _ ⟨qc U,qc U,qc O,qc O,qc L,qc L,qc L⟩ (fun hHeld=>?_)
     clear hK K
     refine qN (some 26) ?_
     refine Zi (i:=5) (N:=some 29) (bN 12 575) rfl rfl (Q2 HT_.out kr) (by decide) (fun K hK=>?_)
     refine Zh Try.func19 kr rfl #[.agg #[.int .i64 D,.int .i64 I],.agg #[.slice dw cn.length dn,.slice iq co.length ir],.int .i64 Y] (by rfl) rfl rfl qM ?_
     with_reducible refine(call_View.calls k D I _ _ cn _ _ co Y b7 b9 ba bv _ ?side1 ?side2 ?side3 ?side4 A9.out).mono ?_
     (case side1=>exact(Kd.Qp ar.out).2.2)
     (case side2=>exact(Kd.Qp ar.out).2.1)
     (case side3=>exact(Kd.Qp au.out).2.2)
     (case side4=>exact(Kd.Qp au.out).2.1)
     rintro e il ⟨dk,dl,dm,rfl,ψ,a2,cz,hb⟩
     refine⟨_,rfl, ?_⟩
     have bn:=Aside0.mk (Kd.Q1 ψ (Ql HB.out))
     have bo:=Aside0.mk (Kd.Q1 a2 (Ql HB.out))
     have bp:=Aside0.mk (Kd.Q1 cz (Ql HB.out))
     replace τ :=sRb τ hb
     replace φ :=sRb φ hb
     replace a5:=sRb a5 hb
     replace a6:=sRb a6 hb
     replace ar:=sRb ar hb
     replace au:=sRb au hb
     replace U:=sBk U hb
     replace O:=sBk O hb
     replace L:=sBk L hb
     replace μ :=sBk μ hb
     replace a0:=sBk a0 hb
     replace HB:=sHb hb
     (try clear hb)
     (try clear a4)
     (try clear hk)
     (try clear hi)
     (try clear ψ)
     (try clear a2)
     (try clear cz)
     refine hK.out _ _ ⟨qc U,qc U,qc O,qc O,qc L,qc L,qc L⟩ (fun hHeld=>?_)
     clear hK K
     refine qN (some 29) ?_
     refine qP 6 (some 23) (bN 12 639) HT_ ?_
     refine qP 7 (some 30) (bN 12 767) HT_ ?_
     refine qP 8 (some 31) (bN 12 1023) HT_ ?_
     exact Xe (by simp only[Zv,Act.put,qS]) (hCont (.slice dw cn.length dn,.slice iq co.length ir,dk,dl,dm,a3) _ ⟨hHeld,τ.out,φ.out,a5.out,a6.out,(by(with_reducible repeat first|apply Kd.Qk|apply Kd.Qj|apply Kd.Qm);exact Kd.Qq ar.out (fun _ hk=>⟨hk.1.2,hk.2⟩)),(by(with_reducible repeat first|apply Kd.Qk|apply Kd.Qj|apply Kd.Qm);exact Kd.Qq au.out (fun _ hk=>⟨hk.1.2,hk.2⟩)),bn.out,bo.out,bp.out,U.out,O.out,L.out,μ.out,a0.out,ea.out,eb.out,al.out,b5.out,ao.out,bd.out,ae.out,b6.out,be.out,bf.out,HB.out⟩)
   rintro⟨fh,fi,dk,dl,dm,a3⟩ d6 ⟨hS_,da,db,dc,dd,de,ev,ew,ey,ez,f3,dx,dy,dz,e0,e3,e4,e5,iu,iv,iw,ix,iy,iz,j3,j4⟩
   have Z:Aside0 (Kd.R k56 56 d6 w.heap.size (fun k_=>some k_≠(.slice b3 aa.length b1:Value).ownBlock∧some k_≠(fh:Value).ownBlock) cu bw):=⟨da⟩
   have ε :Aside0 (Kd.R k62 62 d6 w.heap.size (fun k_=>some k_≠(.slice cf ac.length cg:Value).ownBlock∧some k_≠(fi:Value).ownBlock) cv bz):=⟨db⟩
   have ι :Aside0 (Kd.R k56 56 d6 w.heap.size (fun k_=>some k_≠(cu:Value).ownBlock∧some k_≠(fh:Value).ownBlock) (.slice b3 aa.length b1) aa):=⟨dc⟩
   have κ :Aside0 (Kd.R k62 62 d6 w.heap.size (fun k_=>some k_≠(cv:Value).ownBlock∧some k_≠(fi:Value).ownBlock) (.slice cf ac.length cg) ac):=⟨dd⟩
   have χ :Aside0 (Kd.R k56 56 d6 w.heap.size (fun k_=>some k_≠(cu:Value).ownBlock∧some k_≠(.slice b3 aa.length b1:Value).ownBlock) fh cn):=⟨de⟩
   have ω :Aside0 (Kd.R k62 62 d6 w.heap.size (fun k_=>some k_≠(cv:Value).ownBlock∧some k_≠(.slice cf ac.length cg:Value).ownBlock) fi co):=⟨ev⟩
   have a1:Aside0 (Kd.R (Kd.int .i64) 3 d6 w.heap.size (fun k_=>some k_≠(dl:Value).ownBlock∧some k_≠(dm:Value).ownBlock) dk b7):=⟨ew⟩
   have ag:Aside0 (Kd.R (Kd.int .i64) 3 d6 w.heap.size (fun k_=>some k_≠(dk:Value).ownBlock∧some k_≠(dm:Value).ownBlock) dl b9):=⟨ey⟩
   have ah:Aside0 (Kd.R (Kd.int .i64) 3 d6 w.heap.size (fun k_=>some k_≠(dk:Value).ownBlock∧some k_≠(dl:Value).ownBlock) dm ba):=⟨ez⟩
   have ax:Aside0 (d6.heap[aw]?=some (.cells #[.int .i64 D,.int .i64 I] 23 (0,0))):=⟨f3⟩
   have aj:Aside0 (d6.heap[an]?=some (.cells #[.slice ζ B.length γ,.slice η J.length δ] 27 (0,0))):=⟨dx⟩
   have ap:Aside0 (d6.heap[af]?=some (.cells #[.int .i64 Y,.int .i64 X,.int .i64 θ] 43 (0,0))):=⟨dy⟩
   have b8:Aside0 (d6.heap[ρ]?=some (.cells #[.slice b3 aa.length b1,.slice cf ac.length cg] 27 (0,0))):=⟨dz⟩
   have bg:Aside0 (d6.heap[a3]?=some (.cells #[.slice none 0 0,.slice none 0 0,.slice none 0 0] 47 (0,0))):=⟨e0⟩
   have bh:Aside0 (w.heap.size≤a3):=⟨e3⟩
   have bs:Aside0 (w.heap.size≤a3):=⟨e4⟩
   have bu:Aside0 (aw≠a3):=⟨e5⟩
   have d8:Aside0 (a3≠aw):=⟨iu⟩
   have d9:Aside0 (an≠a3):=⟨iv⟩
   have g7:Aside0 (a3≠an):=⟨iw⟩
   have g8:Aside0 (af≠a3):=⟨ix⟩
   have g9:Aside0 (a3≠af):=⟨iy⟩
   have j5:Aside0 (ρ≠a3):=⟨iz⟩
   have j6:Aside0 (a3≠ρ):=⟨j3⟩
   have j7:Aside0 (Below w.heap.size w d6):=⟨j4⟩
   clear τ
   clear φ
   clear a5
   clear a6
   clear U
   clear O
   clear L
   clear μ
   clear HB
   clear da db dc dd de ev ew ey ez f3 dx dy dz e0 e3 e4 e5 iu iv iw ix iy iz j3 j4
   have τ :=Z
   have φ := ε
   have a5:= ι
   have a6:= κ
   have ar:= χ
   have au:= ω
   have bn:=a1
   have bo:=ag
   have bp:=ah
   have U:=ax
   have O:=aj
   have L:=ap
   have μ :=b8
   have a0:=bg
   have ea:=bh
   have eb:=bs
   have al:=bu
   have b5:=d8
   have ao:=d9
   have bd:=g7
   have ae:=g8
   have b6:=g9
   have be:=j5
   have bf:=j6
   have HB:=j7
   clear Z ε ι κ χ ω a1 ag ah ax aj ap b8 bg bh bs bu d8 d9 g7 g8 g9 j5 j6 j7
   have hHeld:d6.cell? ⟨aw,0,none⟩=some (.int .i64 D)∧d6.cell? ⟨aw,1,none⟩=some (.int .i64 I)∧d6.cell? ⟨an,0,none⟩=some (.slice ζ B.length γ)∧d6.cell? ⟨an,1,none⟩=some (.slice η J.length δ)∧d6.cell? ⟨af,0,none⟩=some (.int .i64 Y)∧d6.cell? ⟨af,1,none⟩=some (.int .i64 X)∧d6.cell? ⟨af,2,none⟩=some (.int .i64 θ):=hS_
   obtain⟨ct,cm,k1⟩:=Kd.Q3 bn.out
   (first|subst k1|(injection k1 with ν a7 ξ;have a8:= ν.symm;have a9:= ξ.symm;clear ν a7 ξ;subst a8;subst a9))
   obtain⟨dt,du,k7⟩:=Kd.Q3 bo.out
   (first|subst k7|(injection k7 with ν a7 ξ;have a8:= ν.symm;have a9:= ξ.symm;clear ν a7 ξ;subst a8;subst a9))
   obtain⟨ep,er,nl⟩:=Kd.Q3 bp.out
   (first|subst nl|(injection nl with ν a7 ξ;have a8:= ν.symm;have a9:= ξ.symm;clear ν a7 ξ;subst a8;subst a9))
   refine Xe (a':=?_) ?_ ?_
   rotate_left
   ·simp only[Zv,Act.put,qS]
    rfl
   refine Zi (i:=10) (N:=none) (bN 12 2047) rfl rfl (Q2 HT_.out kr) (by decide) (fun K hK=>?_)
   have v3:d6.cell? ⟨a3,0,none⟩=some (.slice none 0 0):=(Qi a0.out 0).trans rfl
   have uq:=Q6 a0.out 0
   have ru:=al.out
   have rv:=ao.out
   have rx:=ae.out
   have ry:=be.out
   have rz:=b5.out
   have s0:=bd.out
   have s1:=b6.out
   have s2:=bf.out
   have v4:d6.cell? ⟨a3,1,none⟩=some (.slice none 0 0):=(Qi a0.out 1).trans rfl
   have us:=Q6 a0.out 1
   have s3:=al.out
   have s4:=ao.out
   have s5:=ae.out
   have s6:=be.out
   have s7:=b5.out
   have s8:=bd.out
   have s9:=b6.out
   have sa:=bf.out
   have v5:d6.cell? ⟨a3,2,none⟩=some (.slice none 0 0):=(Qi a0.out 2).trans rfl
   have ut:=Q6 a0.out 2
   have sb:=al.out
   have sc:=ao.out
   have sd:=ae.out
   have se:=be.out
   have sf:=b5.out
   have sg:=bd.out
   have sh:=b6.out
   have si:=bf.out
   refine Yl (w1:=?_) (by rfl) rfl ?_ ?_
   rotate_left
   ·go_simp
    rfl
   refine hK.out _ _ ⟨((cell_far (p:=⟨a3,_,none⟩) al.out _).trans (((cell_far (p:=⟨a3,_,none⟩) al.out _).trans (((cell_far (p:=⟨a3,_,none⟩) al.out _).trans (hHeld.1)))))),((cell_far (p:=⟨a3,_,none⟩) al.out _).trans (((cell_far (p:=⟨a3,_,none⟩) al.out _).trans (((cell_far (p:=⟨a3,_,none⟩) al.out _).trans (hHeld.2.1)))))),((cell_far (p:=⟨a3,_,none⟩) ao.out _).trans (((cell_far (p:=⟨a3,_,none⟩) ao.out _).trans (((cell_far (p:=⟨a3,_,none⟩) ao.out _).trans (hHeld.2.2.1)))))),((cell_far (p:=⟨a3,_,none⟩) ao.out _).trans (((cell_far (p:=⟨a3,_,none⟩) ao.out _).trans (((cell_far (p:=⟨a3,_,none⟩) ao.out _).trans (hHeld.2.2.2.1)))))),((cell_far (p:=⟨a3,_,none⟩) ae.out _).trans (((cell_far (p:=⟨a3,_,none⟩) ae.out _).trans (((cell_far (p:=⟨a3,_,none⟩) ae.out _).trans (hHeld.2.2.2.2.1)))))),((cell_far (p:=⟨a3,_,none⟩) ae.out _).trans (((cell_far (p:=⟨a3,_,none⟩) ae.out _).trans (((cell_far (p:=⟨a3,_,none⟩) ae.out _).trans (hHeld.2.2.2.2.2.1)))))),((cell_far (p:=⟨a3,_,none⟩) ae.out _).trans (((cell_far (p:=⟨a3,_,none⟩) ae.out _).trans (((cell_far (p:=⟨a3,_,none⟩) ae.out _).trans (hHeld.2.2.2.2.2.2))))))⟩ (fun hHeld=>?_)
   clear hK K
   refine qP 11 (some 10) (bN 12 4095) HT_ ?_
   refine Zr (Ze HT_.out kr) ?_
   have ll:=di.out
   have lm:=dj.out
   have ln:=b0.out
   have lp:=bb.out
   have lq:=al.out
   have lr:=b5.out
   obtain⟨fv,fw,fx,fy⟩:=qD2 U.out
   have k5:=b4.out
   have k6:=bi.out
   have ie:=ao.out
   have ig:=bd.out
   obtain⟨hj,hl,hu,hx⟩:=qD2 O.out
   go_upto_region 7 with(first|((with_reducible refine Q0 (f:=13) rfl ?_);refine Zl (some 34) rfl rfl Try.func13 kr rfl #[.agg #[.int .i64 D,.int .i64 I],.agg #[.slice ζ B.length γ,.slice η J.length δ]] rfl qM ?_;(with_reducible refine(newelref19_May.calls k D I _ _ B _ _ J true _ ?side1 ?side2 ?side3 ?side4 i4.out).mono ?_);(case side1=>exact Kd.Qx ai.out bel);(case side2=>exact ay.out);(case side3=>exact Kd.Qx ak.out bel);(case side4=>exact az.out);rintro e sk ⟨rfl,hb⟩;refine⟨_,rfl, ?_⟩;replace τ :=Aside0.mk (Kd.Qt (by(with_reducible repeat first|apply Kd.Qk|apply Kd.Qj|apply Kd.Qm);exact(Kd.Qq (Kd.Qr (Kd.Qr (Kd.Qr (Kd.Qu τ.out a0.out (by decide)) (fun _ hk=>hk.2) _) (fun _ hk=>hk.2) _) (fun _ hk=>hk.2) _) (fun _ h_=>h_.1))) hb);replace φ :=Aside0.mk (Kd.Qt (by(with_reducible repeat first|apply Kd.Qk|apply Kd.Qj|apply Kd.Qm);exact(Kd.Qq (Kd.Qr (Kd.Qr (Kd.Qr (Kd.Qu φ.out a0.out (by decide)) (fun _ hk=>hk.2) _) (fun _ hk=>hk.2) _) (fun _ hk=>hk.2) _) (fun _ h_=>h_.1))) hb);replace a5:=Aside0.mk (Kd.Qt (by(with_reducible repeat first|apply Kd.Qk|apply Kd.Qj|apply Kd.Qm);exact(Kd.Qq (Kd.Qr (Kd.Qr (Kd.Qr (Kd.Qu a5.out a0.out (by decide)) (fun _ hk=>hk.2) _) (fun _ hk=>hk.2) _) (fun _ hk=>hk.2) _) (fun _ h_=>h_.1))) hb);replace a6:=Aside0.mk (Kd.Qt (by(with_reducible repeat first|apply Kd.Qk|apply Kd.Qj|apply Kd.Qm);exact(Kd.Qq (Kd.Qr (Kd.Qr (Kd.Qr (Kd.Qu a6.out a0.out (by decide)) (fun _ hk=>hk.2) _) (fun _ hk=>hk.2) _) (fun _ hk=>hk.2) _) (fun _ h_=>h_.1))) hb);replace ar:=Aside0.mk (Kd.Qt (by(with_reducible repeat first|apply Kd.Qk|apply Kd.Qj|apply Kd.Qm);exact(Kd.Qq (Kd.Qr (Kd.Qr (Kd.Qr (Kd.Qu ar.out a0.out (by decide)) (fun _ hk=>hk.2) _) (fun _ hk=>hk.2) _) (fun _ hk=>hk.2) _) (fun _ h_=>h_.1))) hb);replace au:=Aside0.mk (Kd.Qt (by(with_reducible repeat first|apply Kd.Qk|apply Kd.Qj|apply Kd.Qm);exact(Kd.Qq (Kd.Qr (Kd.Qr (Kd.Qr (Kd.Qu au.out a0.out (by decide)) (fun _ hk=>hk.2) _) (fun _ hk=>hk.2) _) (fun _ hk=>hk.2) _) (fun _ h_=>h_.1))) hb);replace bn:=Aside0.mk (Kd.Qt (by(with_reducible repeat first|apply Kd.Qk|apply Kd.Qj|apply Kd.Qm);exact(Kd.Qq (Kd.Qr (Kd.Qr (Kd.Qr (Kd.Qu bn.out a0.out (by decide)) (fun _ hk=>hk.2) _) (fun _ hk=>hk.2) _) (fun _ hk=>hk.2) _) (fun _ h_=>h_.1))) hb);replace bo:=Aside0.mk (Kd.Qt (by(with_reducible repeat first|apply Kd.Qk|apply Kd.Qj|apply Kd.Qm);exact(Kd.Qq (Kd.Qr (Kd.Qr (Kd.Qr (Kd.Qu bo.out a0.out (by decide)) (fun _ hk=>hk.2) _) (fun _ hk=>hk.2) _) (fun _ hk=>hk.2) _) (fun _ h_=>h_.1))) hb);replace bp:=Aside0.mk (Kd.Qt (by(with_reducible repeat first|apply Kd.Qk|apply Kd.Qj|apply Kd.Qm);exact(Kd.Qq (Kd.Qr (Kd.Qr (Kd.Qr (Kd.Qu bp.out a0.out (by decide)) (fun _ hk=>hk.2) _) (fun _ hk=>hk.2) _) (fun _ hk=>hk.2) _) (fun _ h_=>h_.1))) hb);replace U:=sBk U hb;replace O:=sBk O hb;replace L:=sBk L hb;replace μ :=sBk μ hb;replace a0:=Aside0.mk (Qn (g:=a3) (o:=.cells #[.slice ct b7.length cm,.slice dt b9.length du,.slice ep ba.length er] 47 (0,0)) (by(with_reducible repeat first|apply Qe|apply Qa|apply Qb);refine Qw (cs:=#[.slice ct b7.length cm,.slice dt b9.length du,.slice none 0 0]) ?_ 2 _ rfl;(with_reducible repeat first|apply Qe|apply Qa|apply Qb);refine Qw (cs:=#[.slice ct b7.length cm,.slice none 0 0,.slice none 0 0]) ?_ 1 _ rfl;(with_reducible repeat first|apply Qe|apply Qa|apply Qb);refine Qw (cs:=#[.slice none 0 0,.slice none 0 0,.slice none 0 0]) ?_ 0 _ rfl;(with_reducible repeat first|apply Qe|apply Qa|apply Qb);exact a0.out) hb);replace HB:=sHb hb;(try clear hb);(try clear a4);(try clear hk);(try clear hi)))
   (try simp only[Act.put,qS])
   go_cut [65] (fun su wc=>∃ (kq:Nat) (gv:Bool),su = .bool gv∧Aside0 (newellaw19_CallServes.j0 kq av bv gv D I B J Y X θ aa ac b7 b9 ba=some r)∧Aside0 (kq≤k)∧Aside0 (Kd.R k56 56 wc w.heap.size (fun _=>True) (.slice b3 aa.length b1) aa)∧Aside0 (Kd.R k62 62 wc w.heap.size (fun _=>True) (.slice cf ac.length cg) ac)∧Aside0 (Kd.R (Kd.int .i64) 3 wc w.heap.size (fun k_=>some k_≠((.slice dt b9.length du):Value).ownBlock∧some k_≠((.slice ep ba.length er):Value).ownBlock) (.slice ct b7.length cm) b7)∧Aside0 (Kd.R (Kd.int .i64) 3 wc w.heap.size (fun k_=>some k_≠((.slice ct b7.length cm):Value).ownBlock∧some k_≠((.slice ep ba.length er):Value).ownBlock) (.slice dt b9.length du) b9)∧Aside0 (Kd.R (Kd.int .i64) 3 wc w.heap.size (fun k_=>some k_≠((.slice ct b7.length cm):Value).ownBlock∧some k_≠((.slice dt b9.length du):Value).ownBlock) (.slice ep ba.length er) ba)∧Aside0 (wc.heap[aw]?=some (.cells #[.int .i64 D,.int .i64 I] 23 (0,0)))∧Aside0 (wc.heap[an]?=some (.cells #[(.slice ζ B.length γ),(.slice η J.length δ)] 27 (0,0)))∧Aside0 (wc.heap[af]?=some (.cells #[.int .i64 Y,.int .i64 X,.int .i64 θ] 43 (0,0)))∧Aside0 (wc.heap[ρ]?=some (.cells #[(.slice b3 aa.length b1),(.slice cf ac.length cg)] 27 (0,0)))∧Aside0 (wc.heap[a3]?=some (.cells #[(.slice ct b7.length cm),(.slice dt b9.length du),(.slice ep ba.length er)] 47 (0,0)))∧Aside0 (Below w.heap.size w wc))
   case first=>
    have H:=l7.out
    clear l7
    by_cases d7:Y<0
    ·rw[if_pos d7] at H
     have c53b0:decide (Y<0)=true:=decide_eq_true d7
     clear d7
     (first|rw[c53b0]|(simp only[Xm,Ya];rw[c53b0])|skip)
     have H':=Aside0.mk H
     clear H
     have nw:=dj.out
     have nx:=di.out
     have l9:=d4.out
     have lb:=d3.out
     have jy:=am.out
     have jz:=bc.out
     have nz:=ae.out
     have o0:=b6.out
     obtain⟨jl,jm,jn,jo,jp,jq⟩:=qD3 L.out
     go_wp2
     go_meet
     case rel=>exact⟨_,(true),rfl,H',⟨by first|omega|exact Nat.le_refl _⟩,⟨by(with_reducible repeat first|apply Kd.Qk|apply Kd.Qj|apply Kd.Qm);exact Kd.Qq a5.out (fun _ hk=>trivial)⟩,⟨by(with_reducible repeat first|apply Kd.Qk|apply Kd.Qj|apply Kd.Qm);exact Kd.Qq a6.out (fun _ hk=>trivial)⟩,⟨by(with_reducible repeat first|apply Kd.Qk|apply Kd.Qj|apply Kd.Qm);exact bn.out⟩,⟨by(with_reducible repeat first|apply Kd.Qk|apply Kd.Qj|apply Kd.Qm);exact bo.out⟩,⟨by(with_reducible repeat first|apply Kd.Qk|apply Kd.Qj|apply Kd.Qm);exact bp.out⟩,U,O,L,μ,a0,HB⟩
    ·rw[if_neg d7] at H
     have c53b0:decide (Y<0)=false:=decide_eq_false d7
     clear d7
     (first|rw[c53b0]|(simp only[Xm,Ya];rw[c53b0])|skip)
     have H':=Aside0.mk H
     clear H
     have ls:=dj.out
     have lu:=di.out
     have lv:=d4.out
     have lw:=d3.out
     have ih:=am.out
     have ii:=bc.out
     have k8:=ae.out
     have k9:=b6.out
     obtain⟨jr,js,jt,ju,jv,jw⟩:=qD3 L.out
     have i6:=df.out
     have i7:=dh.out
     have gs:=b0.out
     have gt:=bb.out
     have i9:=al.out
     have ia:=b5.out
     obtain⟨hy,i0,i1,i2⟩:=qD2 U.out
     go_wp2
     go_meet
     case rel=>exact⟨_,(decide (Y≥I)),rfl,H',⟨by first|omega|exact Nat.le_refl _⟩,⟨by(with_reducible repeat first|apply Kd.Qk|apply Kd.Qj|apply Kd.Qm);exact Kd.Qq a5.out (fun _ hk=>trivial)⟩,⟨by(with_reducible repeat first|apply Kd.Qk|apply Kd.Qj|apply Kd.Qm);exact Kd.Qq a6.out (fun _ hk=>trivial)⟩,⟨by(with_reducible repeat first|apply Kd.Qk|apply Kd.Qj|apply Kd.Qm);exact bn.out⟩,⟨by(with_reducible repeat first|apply Kd.Qk|apply Kd.Qj|apply Kd.Qm);exact bo.out⟩,⟨by(with_reducible repeat first|apply Kd.Qk|apply Kd.Qj|apply Kd.Qm);exact bp.out⟩,U,O,L,μ,a0,HB⟩
   case rest=>
    clear l7
    try clear c1
    try clear p2
    try clear c4
    try clear c5
    try clear c6
    try clear cj
    try clear br
    try clear gm
    try clear g0
    try clear ec
    try clear fe
    try clear ed
    try clear i3
    try clear d7
    try clear c53b0
    try clear ff
    try clear jf
    try clear gn
    try clear gu
    try clear ob
    try clear sv
    try clear oc
    try clear od
    try clear sw
    try clear sx
    try clear oe
    try clear fv
    try clear fw
    try clear hj
    try clear hl
    try clear jl
    try clear jm
    try clear jn
    try clear jr
    try clear js
    try clear jt
    try clear hy
    try clear i0
    try clear fx
    try clear fy
    try clear hu
    try clear hx
    try clear jo
    try clear jp
    try clear jq
    try clear ju
    try clear jv
    try clear jw
    try clear i1
    try clear i2
    obtain⟨kq,gv,rfl,HA,ol,HO_294000,HO_294001,HO_311000,HO_311001,HO_311002,U,O,L,μ,a0,HB⟩:=hcut
    cases kq with
    |zero=>exact absurd HA.out (by simp[newellaw19_CallServes.j0])
    |succ d5=>
     have H:=HA.out
     clear HA
     simp only[newellaw19_CallServes.j0] at H
     by_cases ks:gv=true
     ·subst ks
      have H1:((newellaw19_awake.f d5).bind fun ga=>(if ga=true then (if av=191 then (if bv=av then ((newelref19_Same.f d5 aa ac ([]:List (S56)) ([]:List (S62))).bind fun f5=>(if f5=true then ((newelref19_SameView.f d5 b7 b9 ba ([]:List Int) ([]:List Int) ([]:List Int)).bind fun ef=>(some ef)) else (none))) else (none)) else (none)) else (none)))=some r:=by rw[if_pos rfl] at H;exact H
      clear H
      have H:=H1
      clear H1
      replace H:=Option.bind_eq_some_iff.mp H
      obtain⟨ga,nm,H⟩:=H
      replace H:(if ga=true then (if av=191 then (if bv=av then ((newelref19_Same.f d5 aa ac ([]:List (S56)) ([]:List (S62))).bind fun f5=>(if f5=true then ((newelref19_SameView.f d5 b7 b9 ba ([]:List Int) ([]:List Int) ([]:List Int)).bind fun ef=>(some ef)) else (none))) else (none)) else (none)) else (none))=some r:=H
      have sy:=Aside0.mk nm
      clear nm
      by_cases kt:ga=true
      ·subst kt
       have H1:(if av=191 then (if bv=av then ((newelref19_Same.f d5 aa ac ([]:List (S56)) ([]:List (S62))).bind fun f5=>(if f5=true then ((newelref19_SameView.f d5 b7 b9 ba ([]:List Int) ([]:List Int) ([]:List Int)).bind fun ef=>(some ef)) else (none))) else (none)) else (none))=some r:=by rw[if_pos rfl] at H;exact H
       clear H
       have H:=H1
       clear H1
       by_cases fz:av=191
       ·rw[if_pos fz] at H
        have c71b0:(av==191)=true:=beq_iff_eq.mpr fz
        have c71b1:(av != 191)=false:=bne_eq_false_iff_eq.mpr fz
        clear fz
        by_cases g3:bv=av
        ·rw[if_pos g3] at H
         have c72b0:(bv==av)=true:=beq_iff_eq.mpr g3
         have c72b1:(bv != av)=false:=bne_eq_false_iff_eq.mpr g3
         clear g3
         replace H:=Option.bind_eq_some_iff.mp H
         obtain⟨f5,nn,H⟩:=H
         replace H:(if f5=true then ((newelref19_SameView.f d5 b7 b9 ba ([]:List Int) ([]:List Int) ([]:List Int)).bind fun ef=>(some ef)) else (none))=some r:=H
         have t0:=Aside0.mk nn
         clear nn
         by_cases jk:f5=true
         ·subst jk
          have H1:((newelref19_SameView.f d5 b7 b9 ba ([]:List Int) ([]:List Int) ([]:List Int)).bind fun ef=>(some ef))=some r:=by rw[if_pos rfl] at H;exact H
          clear H
          have H:=H1
          clear H1
          replace H:=Option.bind_eq_some_iff.mp H
          obtain⟨ef,no,H⟩:=H
          replace H:(some ef)=some r:=H
          have t1:=Aside0.mk no
          clear no
          obtain rfl:=Option.some.inj H
          go_wp2_with (first|((with_reducible refine Q0 (f:=10) rfl ?_);refine Zl (some 66) rfl rfl Try.func10 kr rfl #[] rfl qM ?_;(with_reducible refine(newellaw19_awake.calls d5  true _ sy.out).mono ?_);rintro e sl ⟨rfl,hb⟩;refine⟨_,rfl, ?_⟩;replace HO_294000:=sRb HO_294000 hb;replace HO_294001:=sRb HO_294001 hb;replace HO_311000:=sRb HO_311000 hb;replace HO_311001:=sRb HO_311001 hb;replace HO_311002:=sRb HO_311002 hb;replace U:=sBk U hb;replace O:=sBk O hb;replace L:=sBk L hb;replace μ :=sBk μ hb;replace a0:=sBk a0 hb;replace HB:=sHb hb;(try clear hb);(try clear a4);(try clear hk);(try clear hi);have ib:=bb.out;have ic:=b0.out;have lc:=bi.out;have lf:=b4.out;have lx:=bc.out;have ly:=am.out;have k0:=be.out;have k3:=bf.out;obtain⟨jg,jh,ji,jj⟩:=qD2 μ.out)|(go_at_call 15;(refine(newelref19_Same.calls d5 _ _ aa _ _ ac _ _ ([]:List (S56)) _ _ ([]:List (S62)) true _ ?side1 ?side2 ?side3 ?side4 ?side5 ?side6 ?side7 ?side8 t0.out).mono ?_);(case side1=>exact(Kd.Qp HO_294000.out).2.2);(case side2=>exact(Kd.Qp HO_294000.out).2.1);(case side3=>exact(Kd.Qp HO_294001.out).2.2);(case side4=>exact(Kd.Qp HO_294001.out).2.1);(case side5=>exact Kd.Y1 _ _);(case side6=>exact Nat.le_refl _);(case side7=>exact Kd.Y1 _ _);(case side8=>exact Nat.le_refl _);rintro e sn ⟨rfl,hb⟩;have Z:=Aside0.mk (Kd.Qt HO_294000.out hb);have ε :=Aside0.mk (Kd.Qt HO_294001.out hb);have ι :=Aside0.mk (Kd.Qt HO_311000.out hb);have κ :=Aside0.mk (Kd.Qt HO_311001.out hb);have χ :=Aside0.mk (Kd.Qt HO_311002.out hb);have ω :=Aside0.mk (Qn (g:=aw) (o:=.cells #[.int .i64 D,.int .i64 I] 23 (0,0)) U.out hb);have a1:=Aside0.mk (Qn (g:=an) (o:=.cells #[.slice ζ B.length γ,.slice η J.length δ] 27 (0,0)) O.out hb);have ag:=Aside0.mk (Qn (g:=af) (o:=.cells #[.int .i64 Y,.int .i64 X,.int .i64 θ] 43 (0,0)) L.out hb);have ah:=Aside0.mk (Qn (g:=ρ) (o:=.cells #[.slice b3 aa.length b1,.slice cf ac.length cg] 27 (0,0)) μ.out hb);have ax:=Aside0.mk (Qn (g:=a3) (o:=.cells #[.slice ct b7.length cm,.slice dt b9.length du,.slice ep ba.length er] 47 (0,0)) a0.out hb);have aj:=Aside0.mk (Qv HB.out hb);clear HO_294000;clear HO_294001;clear HO_311000;clear HO_311001;clear HO_311002;clear U;clear O;clear L;clear μ;clear a0;clear HB;have HO_294000:=Z;have HO_294001:= ε;have HO_311000:= ι;have HO_311001:= κ;have HO_311002:= χ;have U:= ω;have O:=a1;have L:=ag;have μ :=ah;have a0:=ax;have HB:=aj;clear Z ε ι κ χ ω a1 ag ah ax aj;(try clear hb);(try clear a4);(try clear hk);(try clear hi);have uu:=b5.out;have uv:=al.out;have o1:=bd.out;have o2:=ao.out;have o3:=b6.out;have o4:=ae.out;obtain⟨gh,gi,jd,gj,gl,je⟩:=qD3 a0.out)|(go_at_call 20;(refine(newelref19_SameView.calls d5 _ _ b7 _ _ b9 _ _ ba _ _ ([]:List Int) _ _ ([]:List Int) _ _ ([]:List Int) ef _ ?side1 ?side2 ?side3 ?side4 ?side5 ?side6 ?side7 ?side8 ?side9 ?side10 ?side11 ?side12 t1.out).mono ?_);(case side1=>exact(Kd.Qp HO_311000.out).2.2);(case side2=>exact(Kd.Qp HO_311000.out).2.1);(case side3=>exact(Kd.Qp HO_311001.out).2.2);(case side4=>exact(Kd.Qp HO_311001.out).2.1);(case side5=>exact(Kd.Qp HO_311002.out).2.2);(case side6=>exact(Kd.Qp HO_311002.out).2.1);(case side7=>exact Kd.Y1 _ _);(case side8=>exact Nat.le_refl _);(case side9=>exact Kd.Y1 _ _);(case side10=>exact Nat.le_refl _);(case side11=>exact Kd.Y1 _ _);(case side12=>exact Nat.le_refl _);rintro e vx ⟨rfl,hb⟩;have Z:=Aside0.mk (Kd.Qt HO_294000.out hb);have ε :=Aside0.mk (Kd.Qt HO_294001.out hb);have ι :=Aside0.mk (Kd.Qt HO_311000.out hb);have κ :=Aside0.mk (Kd.Qt HO_311001.out hb);have χ :=Aside0.mk (Kd.Qt HO_311002.out hb);have ω :=Aside0.mk (Qn (g:=aw) (o:=.cells #[.int .i64 D,.int .i64 I] 23 (0,0)) U.out hb);have a1:=Aside0.mk (Qn (g:=an) (o:=.cells #[.slice ζ B.length γ,.slice η J.length δ] 27 (0,0)) O.out hb);have ag:=Aside0.mk (Qn (g:=af) (o:=.cells #[.int .i64 Y,.int .i64 X,.int .i64 θ] 43 (0,0)) L.out hb);have ah:=Aside0.mk (Qn (g:=ρ) (o:=.cells #[.slice b3 aa.length b1,.slice cf ac.length cg] 27 (0,0)) μ.out hb);have ax:=Aside0.mk (Qn (g:=a3) (o:=.cells #[.slice ct b7.length cm,.slice dt b9.length du,.slice ep ba.length er] 47 (0,0)) a0.out hb);have aj:=Aside0.mk (Qv HB.out hb);clear HO_294000;clear HO_294001;clear HO_311000;clear HO_311001;clear HO_311002;clear U;clear O;clear L;clear μ;clear a0;clear HB;have HO_294000:=Z;have HO_294001:= ε;have HO_311000:= ι;have HO_311001:= κ;have HO_311002:= χ;have U:= ω;have O:=a1;have L:=ag;have μ :=ah;have a0:=ax;have HB:=aj;clear Z ε ι κ χ ω a1 ag ah ax aj;(try clear hb);(try clear a4);(try clear hk);(try clear hi)))
          go_ret
          exact⟨rfl,HB.out⟩
         ·replace jk:=Bool.eq_false_iff.mpr jk
          subst jk
          have H1:(none)=some r:=by rw[if_neg (show ¬ (false=true) by decide)] at H;exact H
          clear H
          have H:=H1
          clear H1
          exact absurd H (by simp)
        ·rw[if_neg g3] at H
         exact absurd H (by simp)
       ·rw[if_neg fz] at H
        exact absurd H (by simp)
      ·replace kt:=Bool.eq_false_iff.mpr kt
       subst kt
       have H1:(none)=some r:=by rw[if_neg (show ¬ (false=true) by decide)] at H;exact H
       clear H
       have H:=H1
       clear H1
       exact absurd H (by simp)
     ·replace ks:=Bool.eq_false_iff.mpr ks
      subst ks
      have H1:(if bv=0 then ((newelref19_View.f d5 B J Y).bind fun en=>((newelref19_SameView.f d5 b7 b9 ba en.1 en.2.1 en.2.2).bind fun fg=>(newellaw19_CallServes.j1 d5 av (!fg) D I B J Y X θ aa ac))) else (none))=some r:=by rw[if_neg (show ¬ (false=true) by decide)] at H;exact H
      clear H
      have H:=H1
      clear H1
      have l8:=Aside0.mk H
      clear H
      go_upto_region 9 with(fail)
      go_cut [96] (fun t2 wc=>∃ (kq:Nat) (gw:Bool),t2 = .bool gw∧Aside0 (newellaw19_CallServes.j1 kq av gw D I B J Y X θ aa ac=some r)∧Aside0 (kq≤d5)∧Aside0 (Kd.R k56 56 wc w.heap.size (fun _=>True) (.slice b3 aa.length b1) aa)∧Aside0 (Kd.R k62 62 wc w.heap.size (fun _=>True) (.slice cf ac.length cg) ac)∧Aside0 (Kd.R (Kd.int .i64) 3 wc w.heap.size (fun k_=>some k_≠((.slice dt b9.length du):Value).ownBlock∧some k_≠((.slice ep ba.length er):Value).ownBlock) (.slice ct b7.length cm) b7)∧Aside0 (Kd.R (Kd.int .i64) 3 wc w.heap.size (fun k_=>some k_≠((.slice ct b7.length cm):Value).ownBlock∧some k_≠((.slice ep ba.length er):Value).ownBlock) (.slice dt b9.length du) b9)∧Aside0 (Kd.R (Kd.int .i64) 3 wc w.heap.size (fun k_=>some k_≠((.slice ct b7.length cm):Value).ownBlock∧some k_≠((.slice dt b9.length du):Value).ownBlock) (.slice ep ba.length er) ba)∧Aside0 (wc.heap[aw]?=some (.cells #[.int .i64 D,.int .i64 I] 23 (0,0)))∧Aside0 (wc.heap[an]?=some (.cells #[(.slice ζ B.length γ),(.slice η J.length δ)] 27 (0,0)))∧Aside0 (wc.heap[af]?=some (.cells #[.int .i64 Y,.int .i64 X,.int .i64 θ] 43 (0,0)))∧Aside0 (wc.heap[ρ]?=some (.cells #[(.slice b3 aa.length b1),(.slice cf ac.length cg)] 27 (0,0)))∧Aside0 (wc.heap[a3]?=some (.cells #[(.slice ct b7.length cm),(.slice dt b9.length du),(.slice ep ba.length er)] 47 (0,0)))∧Aside0 (Below w.heap.size w wc))
      case first=>
       have H:=l8.out
       clear l8
       by_cases g1:bv=0
       ·rw[if_pos g1] at H
        have c89b0:(bv==0)=true:=beq_iff_eq.mpr g1
        have c89b1:(bv != 0)=false:=bne_eq_false_iff_eq.mpr g1
        clear g1
        (first|rw[c89b0]|(simp only[Xm,Ya];rw[c89b0])|skip)
        replace H:=Option.bind_eq_some_iff.mp H
        obtain⟨⟨k2,kb,kc⟩,np,H⟩:=H
        replace H:((newelref19_SameView.f d5 b7 b9 ba k2 kb kc).bind fun fg=>(newellaw19_CallServes.j1 d5 av (!fg) D I B J Y X θ aa ac))=some r:=H
        have ft:=Aside0.mk np
        clear np
        replace H:=Option.bind_eq_some_iff.mp H
        obtain⟨fg,nq,H⟩:=H
        replace H:(newellaw19_CallServes.j1 d5 av (!fg) D I B J Y X θ aa ac)=some r:=H
        have t3:=Aside0.mk nq
        clear nq
        have H':=Aside0.mk H
        clear H
        try go_wp2
        replace HO_294000:=Aside0.mk (Kd.Qm HO_294000.out)
        replace HO_294001:=Aside0.mk (Kd.Qm HO_294001.out)
        replace HO_311000:=Aside0.mk (Kd.Qm HO_311000.out)
        replace HO_311001:=Aside0.mk (Kd.Qm HO_311001.out)
        replace HO_311002:=Aside0.mk (Kd.Qm HO_311002.out)
        replace U:=Aside0.mk (Qa U.out)
        replace O:=Aside0.mk (Qa O.out)
        replace L:=Aside0.mk (Qa L.out)
        replace μ :=Aside0.mk (Qa μ.out)
        replace a0:=Aside0.mk (Qa a0.out)
        replace HB:=Aside0.mk (Qf HB.out)
        refine Zm (n:=11) (S:=fun w'=>w'.cell? ⟨a3,0,none⟩=some (.slice ct b7.length cm)∧w'.cell? ⟨a3,1,none⟩=some (.slice dt b9.length du)∧w'.cell? ⟨a3,2,none⟩=some (.slice ep ba.length er)∧w'.cell? ⟨an,0,none⟩=some (.slice ζ B.length γ)∧w'.cell? ⟨an,1,none⟩=some (.slice η J.length δ)∧w'.cell? ⟨af,0,none⟩=some (.int .i64 Y)∧w'.cell? ⟨af,1,none⟩=some (.int .i64 X)∧w'.cell? ⟨af,2,none⟩=some (.int .i64 θ)) (ds:=[]) #[false,false,false,false,false,false,false,false,false,false,false] kr rfl rfl ⟨(Qi a0.out 0).trans rfl,(Qi a0.out 1).trans rfl,(Qi a0.out 2).trans rfl,(Qi O.out 0).trans rfl,(Qi O.out 1).trans rfl,(Qi L.out 0).trans rfl,(Qi L.out 1).trans rfl,(Qi L.out 2).trans rfl⟩ (fun hHeld=>?_);refine Q7 newellaw19_CallServes.Nu newellaw19_CallServes.Mi (fun HT_ HW_=>?_)
        generalize wc.drew=so at HO_294000 HO_294001 HO_311000 HO_311001 HO_311002 U O L μ a0 HB hHeld ⊢
        refine qP 0 (some 86) (bN 11 1) HT_ ?_
        refine qP 1 (some 87) (bN 11 3) HT_ ?_
        refine qP 2 (some 88) (bN 11 7) HT_ ?_
        refine qP 5 (some 91) (bN 11 39) HT_ ?_
        refine qT 3 (some 89) (bN 11 47) HT_ HW_ hHeld ?_
        refine qT 4 (some 90) (bN 11 63) HT_ HW_ hHeld ?_
        refine qT 6 (some 92) (bN 11 127) HT_ HW_ hHeld ?_
        refine Zi (i:=7) (N:=some 93) (bN 11 255) rfl rfl (Q2 HT_.out kr) (by decide) (fun K hK=>?_)
        refine Zh Try.func21 kr rfl #[.agg #[.slice ζ B.length γ,.slice η J.length δ],.int .i64 Y] (by rfl) rfl rfl qM ?_
        with_reducible refine(newelref19_View.calls d5 _ _ B _ _ J Y k2 kb kc _ ?side1 ?side2 ?side3 ?side4 ft.out).mono ?_
        (case side1=>exact(Kd.Qx ai.out HB.out))
        (case side2=>exact ay.out)
        (case side3=>exact(Kd.Qx ak.out HB.out))
        (case side4=>exact az.out)
        rintro e vy ⟨v6,v7,v8,rfl,ψ,a2,cz,hb⟩
        refine⟨_,rfl, ?_⟩
        have gx:=Aside0.mk (Kd.Q1 (Kd.Zf (Kd.Zf (Kd.Zf ψ (Kd.Zq HO_311000.out)) (Kd.Zq HO_311001.out)) (Kd.Zq HO_311002.out)) (Ql HB.out))
        have gy:=Aside0.mk (Kd.Q1 (Kd.Zf (Kd.Zf (Kd.Zf a2 (Kd.Zq HO_311000.out)) (Kd.Zq HO_311001.out)) (Kd.Zq HO_311002.out)) (Ql HB.out))
        have gz:=Aside0.mk (Kd.Q1 (Kd.Zf (Kd.Zf (Kd.Zf cz (Kd.Zq HO_311000.out)) (Kd.Zq HO_311001.out)) (Kd.Zq HO_311002.out)) (Ql HB.out))
        replace HO_294000:=sRb HO_294000 hb
        replace HO_294001:=sRb HO_294001 hb
        replace HO_311000:=Aside0.mk (Kd.Qq (Kd.Jt (Kd.Jt (Kd.Jt (Kd.Mp HO_311000.out hb) (Kd.Zg ψ)) (Kd.Zg a2)) (Kd.Zg cz)) (fun _ h_=>h_.1))
        replace HO_311001:=Aside0.mk (Kd.Qq (Kd.Jt (Kd.Jt (Kd.Jt (Kd.Mp HO_311001.out hb) (Kd.Zg ψ)) (Kd.Zg a2)) (Kd.Zg cz)) (fun _ h_=>h_.1))
        replace HO_311002:=Aside0.mk (Kd.Qq (Kd.Jt (Kd.Jt (Kd.Jt (Kd.Mp HO_311002.out hb) (Kd.Zg ψ)) (Kd.Zg a2)) (Kd.Zg cz)) (fun _ h_=>h_.1))
        replace U:=sBk U hb
        replace O:=sBk O hb
        replace L:=sBk L hb
        replace μ :=sBk μ hb
        replace a0:=sBk a0 hb
        replace HB:=sHb hb
        (try clear hb)
        (try clear a4)
        (try clear hk)
        (try clear hi)
        (try clear ψ)
        (try clear a2)
        (try clear cz)
        obtain⟨om,oo,nr⟩:=Kd.Q3 gx.out
        (first|subst nr|(injection nr with ν a7 ξ;have a8:= ν.symm;have a9:= ξ.symm;clear ν a7 ξ;subst a8;subst a9))
        obtain⟨oq,ot,ns⟩:=Kd.Q3 gy.out
        (first|subst ns|(injection ns with ν a7 ξ;have a8:= ν.symm;have a9:= ξ.symm;clear ν a7 ξ;subst a8;subst a9))
        obtain⟨io,ip,ka⟩:=Kd.Q3 gz.out
        (first|subst ka|(injection ka with ν a7 ξ;have a8:= ν.symm;have a9:= ξ.symm;clear ν a7 ξ;subst a8;subst a9))
        refine hK.out _ _ ⟨qc a0,qc a0,qc a0,qc O,qc O,qc L,qc L,qc L⟩ (fun hHeld=>?_)
        clear hK K
        refine qN (some 93) ?_
        refine Zi (i:=8) (N:=some 94) (bN 11 511) rfl rfl (Q2 HT_.out kr) (by decide) (fun K hK=>?_)
        refine Zh Try.func20 kr rfl #[.agg #[.slice ct b7.length cm,.slice dt b9.length du,.slice ep ba.length er],.agg #[.slice om k2.length oo,.slice oq kb.length ot,.slice io kc.length ip]] (by rfl) rfl rfl qM ?_
        with_reducible refine(newelref19_SameView.calls d5 _ _ b7 _ _ b9 _ _ ba _ _ k2 _ _ kb _ _ kc fg _ ?side1 ?side2 ?side3 ?side4 ?side5 ?side6 ?side7 ?side8 ?side9 ?side10 ?side11 ?side12 t3.out).mono ?_
        (case side1=>exact(Kd.Qp HO_311000.out).2.2)
        (case side2=>exact(Kd.Qp HO_311000.out).2.1)
        (case side3=>exact(Kd.Qp HO_311001.out).2.2)
        (case side4=>exact(Kd.Qp HO_311001.out).2.1)
        (case side5=>exact(Kd.Qp HO_311002.out).2.2)
        (case side6=>exact(Kd.Qp HO_311002.out).2.1)
        (case side7=>exact(Kd.Qp gx.out).2.2)
        (case side8=>exact(Kd.Qp gx.out).2.1)
        (case side9=>exact(Kd.Qp gy.out).2.2)
        (case side10=>exact(Kd.Qp gy.out).2.1)
        (case side11=>exact(Kd.Qp gz.out).2.2)
        (case side12=>exact(Kd.Qp gz.out).2.1)
        rintro e sj ⟨rfl,hb⟩
        refine⟨_,rfl, ?_⟩
        replace HO_294000:=sRb HO_294000 hb
        replace HO_294001:=sRb HO_294001 hb
        replace HO_311000:=sRb HO_311000 hb
        replace HO_311001:=sRb HO_311001 hb
        replace HO_311002:=sRb HO_311002 hb
        replace gx:=sRb gx hb
        replace gy:=sRb gy hb
        replace gz:=sRb gz hb
        replace U:=sBk U hb
        replace O:=sBk O hb
        replace L:=sBk L hb
        replace μ :=sBk μ hb
        replace a0:=sBk a0 hb
        replace HB:=sHb hb
        (try clear hb)
        (try clear a4)
        (try clear hk)
        (try clear hi)
        refine hK.out _ _ ⟨qc a0,qc a0,qc a0,qc O,qc O,qc L,qc L,qc L⟩ (fun hHeld=>?_)
        clear hK K
        refine qN (some 94) ?_
        refine qP 9 (some 95) (bN 11 1023) HT_ ?_
        refine qP 10 (some 96) (bN 11 2047) HT_ ?_
        refine Zr (Ze HT_.out kr) ?_
        try go_wp2
        go_meet
        case rel=>exact⟨_,(!fg),rfl,H',⟨by have:=ol.out;omega⟩,⟨by(with_reducible repeat first|apply Kd.Qk|apply Kd.Qj|apply Kd.Qm);exact HO_294000.out⟩,⟨by(with_reducible repeat first|apply Kd.Qk|apply Kd.Qj|apply Kd.Qm);exact HO_294001.out⟩,⟨by(with_reducible repeat first|apply Kd.Qk|apply Kd.Qj|apply Kd.Qm);exact Kd.Qq HO_311000.out (fun _ hk=>⟨hk.1.1.1.1,hk.1.1.1.2⟩)⟩,⟨by(with_reducible repeat first|apply Kd.Qk|apply Kd.Qj|apply Kd.Qm);exact Kd.Qq HO_311001.out (fun _ hk=>⟨hk.1.1.1.1,hk.1.1.1.2⟩)⟩,⟨by(with_reducible repeat first|apply Kd.Qk|apply Kd.Qj|apply Kd.Qm);exact Kd.Qq HO_311002.out (fun _ hk=>⟨hk.1.1.1.1,hk.1.1.1.2⟩)⟩,U,O,L,μ,a0,HB⟩
       ·rw[if_neg g1] at H
        exact absurd H (by simp)
      case rest=>
       clear l8
       try clear c1
       try clear c2
       try clear p2
       try clear c4
       try clear c5
       try clear c6
       try clear c7
       try clear c8
       try clear c10
       try clear cj
       try clear br
       try clear gm
       try clear dr
       try clear fj
       try clear g0
       try clear ec
       try clear fe
       try clear ed
       try clear i3
       try clear d7
       try clear c53b0
       try clear ff
       try clear jf
       try clear gn
       try clear gu
       try clear ob
       try clear sv
       try clear oc
       try clear od
       try clear sw
       try clear sx
       try clear oe
       try clear ks
       try clear kt
       try clear fz
       try clear c71b0
       try clear c71b1
       try clear g3
       try clear c72b0
       try clear c72b1
       try clear jk
       try clear sp
       try clear vz
       try clear sq
       try clear sr
       try clear w3
       try clear ss
       try clear st
       try clear g1
       try clear c89b0
       try clear c89b1
       try clear fv
       try clear fw
       try clear hj
       try clear hl
       try clear jl
       try clear jm
       try clear jn
       try clear jr
       try clear js
       try clear jt
       try clear hy
       try clear i0
       try clear jg
       try clear jh
       try clear gh
       try clear gi
       try clear jd
       try clear fx
       try clear fy
       try clear hu
       try clear hx
       try clear jo
       try clear jp
       try clear jq
       try clear ju
       try clear jv
       try clear jw
       try clear i1
       try clear i2
       try clear ji
       try clear jj
       try clear gj
       try clear gl
       try clear je
       try clear p2
       obtain⟨kq,gw,rfl,HA,v9,HO_294000,HO_294001,HO_311000,HO_311001,HO_311002,U,O,L,μ,a0,HB⟩:=hcut
       cases kq with
       |zero=>exact absurd HA.out (by simp[newellaw19_CallServes.j1])
       |succ cp=>
        have H:=HA.out
        clear HA
        simp only[newellaw19_CallServes.j1] at H
        by_cases m5:gw=true
        ·subst m5
         have H1:(none)=some r:=by rw[if_pos rfl] at H;exact H
         clear H
         have H:=H1
         clear H1
         exact absurd H (by simp)
        ·replace m5:=Bool.eq_false_iff.mpr m5
         subst m5
         have H1:((newelref19_Stop.f D I Y X θ).bind fun gb=>(if gb=true then ((newellaw19_awake.f cp).bind fun f7=>(if f7=true then (if av=0 then ((newelref19_Serve.f cp B J Y X θ).bind fun cr=>((newelref19_Same.f cp aa ac cr.1 cr.2).bind fun dp=>(some dp))) else (none)) else (none))) else ((newellaw19_awake.f cp).bind fun f8=>(if f8=true then (if av=191 then ((newelref19_Same.f cp aa ac ([]:List (S56)) ([]:List (S62))).bind fun eg=>(some eg)) else (none)) else (none)))))=some r:=by rw[if_neg (show ¬ (false=true) by decide)] at H;exact H
         clear H
         have H:=H1
         clear H1
         replace H:=Option.bind_eq_some_iff.mp H
         obtain⟨gb,nt,H⟩:=H
         replace H:(if gb=true then ((newellaw19_awake.f cp).bind fun f7=>(if f7=true then (if av=0 then ((newelref19_Serve.f cp B J Y X θ).bind fun cr=>((newelref19_Same.f cp aa ac cr.1 cr.2).bind fun dp=>(some dp))) else (none)) else (none))) else ((newellaw19_awake.f cp).bind fun f8=>(if f8=true then (if av=191 then ((newelref19_Same.f cp aa ac ([]:List (S56)) ([]:List (S62))).bind fun eg=>(some eg)) else (none)) else (none))))=some r:=H
         have oh:=Aside0.mk nt
         clear nt
         by_cases kd:gb=true
         ·subst kd
          have H1:((newellaw19_awake.f cp).bind fun f7=>(if f7=true then (if av=0 then ((newelref19_Serve.f cp B J Y X θ).bind fun cr=>((newelref19_Same.f cp aa ac cr.1 cr.2).bind fun dp=>(some dp))) else (none)) else (none)))=some r:=by rw[if_pos rfl] at H;exact H
          clear H
          have H:=H1
          clear H1
          replace H:=Option.bind_eq_some_iff.mp H
          obtain⟨f7,m6,H⟩:=H
          replace H:(if f7=true then (if av=0 then ((newelref19_Serve.f cp B J Y X θ).bind fun cr=>((newelref19_Same.f cp aa ac cr.1 cr.2).bind fun dp=>(some dp))) else (none)) else (none))=some r:=H
          have ou:=Aside0.mk m6
          clear m6
          by_cases ke:f7=true
          ·subst ke
           have H1:(if av=0 then ((newelref19_Serve.f cp B J Y X θ).bind fun cr=>((newelref19_Same.f cp aa ac cr.1 cr.2).bind fun dp=>(some dp))) else (none))=some r:=by rw[if_pos rfl] at H;exact H
           clear H
           have H:=H1
           clear H1
           by_cases j8:av=0
           ·rw[if_pos j8] at H
            have c103b0:(av==0)=true:=beq_iff_eq.mpr j8
            have c103b1:(av != 0)=false:=bne_eq_false_iff_eq.mpr j8
            clear j8
            replace H:=Option.bind_eq_some_iff.mp H
            obtain⟨⟨kf,kg⟩,m7,H⟩:=H
            replace H:((newelref19_Same.f cp aa ac kf kg).bind fun dp=>(some dp))=some r:=H
            have ov:=Aside0.mk m7
            clear m7
            replace H:=Option.bind_eq_some_iff.mp H
            obtain⟨dp,m8,H⟩:=H
            replace H:(some dp)=some r:=H
            have ow:=Aside0.mk m8
            clear m8
            obtain rfl:=Option.some.inj H
            have km:=df.out
            have kn:=dh.out
            have t4:=di.out
            have t5:=dj.out
            have ko:=b0.out
            have kp:=bb.out
            have na:=al.out
            have nb:=b5.out
            obtain⟨ku,kv,kw,kx⟩:=qD2 U.out
            have nc:=d4.out
            have nd:=d3.out
            have t6:=am.out
            have t7:=bc.out
            have t8:=ae.out
            have t9:=b6.out
            obtain⟨ky,kz,l2,l3,l4,l5⟩:=qD3 L.out
            try go_wp2_with (first|((with_reducible refine Q0 (f:=22) rfl ?_);refine Zl (some 99) rfl rfl Try.func22 kr rfl #[.agg #[.int .i64 D,.int .i64 I],.agg #[.int .i64 Y,.int .i64 X,.int .i64 θ]] rfl qM ?_;(with_reducible refine(newelref19_Stop.calls D I Y X θ true _ oh.out).mono ?_);rintro e l6 ⟨rfl,hb⟩;refine⟨_,rfl, ?_⟩;replace HO_294000:=sRb HO_294000 hb;replace HO_294001:=sRb HO_294001 hb;replace HO_311000:=sRb HO_311000 hb;replace HO_311001:=sRb HO_311001 hb;replace HO_311002:=sRb HO_311002 hb;replace U:=sBk U hb;replace O:=sBk O hb;replace L:=sBk L hb;replace μ :=sBk μ hb;replace a0:=sBk a0 hb;replace HB:=sHb hb;(try clear hb);(try clear a4);(try clear hk);(try clear hi)))
            replace HO_294000:=Aside0.mk (Kd.Qm HO_294000.out)
            replace HO_294001:=Aside0.mk (Kd.Qm HO_294001.out)
            replace HO_311000:=Aside0.mk (Kd.Qm HO_311000.out)
            replace HO_311001:=Aside0.mk (Kd.Qm HO_311001.out)
            replace HO_311002:=Aside0.mk (Kd.Qm HO_311002.out)
            replace U:=Aside0.mk (Qa U.out)
            replace O:=Aside0.mk (Qa O.out)
            replace L:=Aside0.mk (Qa L.out)
            replace μ :=Aside0.mk (Qa μ.out)
            replace a0:=Aside0.mk (Qa a0.out)
            replace HB:=Aside0.mk (Qf HB.out)
            refine Zm (n:=13) (S:=fun w'=>w'.cell? ⟨ρ,0,none⟩=some (.slice b3 aa.length b1)∧w'.cell? ⟨ρ,1,none⟩=some (.slice cf ac.length cg)∧w'.cell? ⟨an,0,none⟩=some (.slice ζ B.length γ)∧w'.cell? ⟨an,1,none⟩=some (.slice η J.length δ)∧w'.cell? ⟨af,0,none⟩=some (.int .i64 Y)∧w'.cell? ⟨af,1,none⟩=some (.int .i64 X)∧w'.cell? ⟨af,2,none⟩=some (.int .i64 θ)) (ds:=[]) #[false,false,false,false,false,false,false,false,false,false,false,false,false] kr rfl rfl ⟨(Qi μ.out 0).trans rfl,(Qi μ.out 1).trans rfl,(Qi O.out 0).trans rfl,(Qi O.out 1).trans rfl,(Qi L.out 0).trans rfl,(Qi L.out 1).trans rfl,(Qi L.out 2).trans rfl⟩ (fun hHeld=>?_);refine Q7 newellaw19_CallServes.tab13 newellaw19_CallServes.N3 (fun HT_ HW_=>?_)
            generalize l6.drew=ng at HO_294000 HO_294001 HO_311000 HO_311001 HO_311002 U O L μ a0 HB hHeld ⊢
            refine Zi (i:=0) (N:=some 111) (bN 13 1) rfl rfl (Q2 HT_.out kr) (by decide) (fun K hK=>?_)
            refine Zh Try.func10 kr rfl #[] (by rfl) rfl rfl qM ?_
            with_reducible refine(newellaw19_awake.calls cp  true _ ou.out).mono ?_
            rintro e va ⟨rfl,hb⟩
            refine⟨_,rfl, ?_⟩
            replace HO_294000:=sRb HO_294000 hb
            replace HO_294001:=sRb HO_294001 hb
            replace HO_311000:=sRb HO_311000 hb
            replace HO_311001:=sRb HO_311001 hb
            replace HO_311002:=sRb HO_311002 hb
            replace U:=sBk U hb
            replace O:=sBk O hb
            replace L:=sBk L hb
            replace μ :=sBk μ hb
            replace a0:=sBk a0 hb
            replace HB:=sHb hb
            (try clear hb)
            (try clear a4)
            (try clear hk)
            (try clear hi)
            refine hK.out _ _ ⟨qc μ,qc μ,qc O,qc O,qc L,qc L,qc L⟩ (fun hHeld=>?_)
            clear hK K
            refine qN (some 111) ?_
            refine qP 1 (some 112) (bN 13 3) HT_ ?_
            refine qP 2 (some 113) (bN 13 7) HT_ ?_
            refine qP 3 (some 114) (bN 13 15) HT_ ?_
            refine qP 4 (some 115) (bN 13 31) HT_ ?_
            refine qP 5 (some 116) (bN 13 63) HT_ ?_
            refine qT 6 (some 117) (bN 13 127) HT_ HW_ hHeld ?_
            refine qT 7 (some 118) (bN 13 255) HT_ HW_ hHeld ?_
            refine qT 8 (some 119) (bN 13 511) HT_ HW_ hHeld ?_
            refine Zi (i:=9) (N:=some 120) (bN 13 1023) rfl rfl (Q2 HT_.out kr) (by decide) (fun K hK=>?_)
            refine Zh Try.func23 kr rfl #[.agg #[.slice ζ B.length γ,.slice η J.length δ],.agg #[.int .i64 Y,.int .i64 X,.int .i64 θ]] (by rfl) rfl rfl qM ?_
            with_reducible refine(newelref19_Serve.calls cp _ _ B _ _ J Y X θ kf kg _ ?side1 ?side2 ?side3 ?side4 ov.out).mono ?_
            (case side1=>exact(Kd.Qx ai.out HB.out))
            (case side2=>exact ay.out)
            (case side3=>exact(Kd.Qx ak.out HB.out))
            (case side4=>exact az.out)
            rintro e vb ⟨vc,vd,rfl,ψ,a2,hb⟩
            refine⟨_,rfl, ?_⟩
            have h0:=Aside0.mk (Kd.Q1 (Kd.Zf ψ (Kd.Zq HO_294000.out)) (Ql HB.out))
            have h4:=Aside0.mk (Kd.Q1 (Kd.Zf a2 (Kd.Zq HO_294001.out)) (Ql HB.out))
            replace HO_294000:=Aside0.mk (Kd.Za HO_294000.out (Kd.Zg ψ) hb)
            replace HO_294001:=Aside0.mk (Kd.Za HO_294001.out (Kd.Zg a2) hb)
            replace HO_311000:=sRb HO_311000 hb
            replace HO_311001:=sRb HO_311001 hb
            replace HO_311002:=sRb HO_311002 hb
            replace U:=sBk U hb
            replace O:=sBk O hb
            replace L:=sBk L hb
            replace μ :=sBk μ hb
            replace a0:=sBk a0 hb
            replace HB:=sHb hb
            (try clear hb)
            (try clear a4)
            (try clear hk)
            (try clear hi)
            (try clear ψ)
            (try clear a2)
            obtain⟨o5,o6,m9⟩:=Kd.Q3 h0.out
            (first|subst m9|(injection m9 with ν a7 ξ;have a8:= ν.symm;have a9:= ξ.symm;clear ν a7 ξ;subst a8;subst a9))
            obtain⟨o7,o8,ma⟩:=Kd.Q3 h4.out
            (first|subst ma|(injection ma with ν a7 ξ;have a8:= ν.symm;have a9:= ξ.symm;clear ν a7 ξ;subst a8;subst a9))
            refine hK.out _ _ ⟨qc μ,qc μ,qc O,qc O,qc L,qc L,qc L⟩ (fun hHeld=>?_)
            clear hK K
            refine qN (some 120) ?_
            refine Zi (i:=10) (N:=some 121) (bN 13 2047) rfl rfl (Q2 HT_.out kr) (by decide) (fun K hK=>?_)
            refine Zh Try.func15 kr rfl #[.agg #[.slice b3 aa.length b1,.slice cf ac.length cg],.agg #[.slice o5 kf.length o6,.slice o7 kg.length o8]] (by rfl) rfl rfl qM ?_
            with_reducible refine(newelref19_Same.calls cp _ _ aa _ _ ac _ _ kf _ _ kg dp _ ?side1 ?side2 ?side3 ?side4 ?side5 ?side6 ?side7 ?side8 ow.out).mono ?_
            (case side1=>exact(Kd.Qp HO_294000.out).2.2)
            (case side2=>exact(Kd.Qp HO_294000.out).2.1)
            (case side3=>exact(Kd.Qp HO_294001.out).2.2)
            (case side4=>exact(Kd.Qp HO_294001.out).2.1)
            (case side5=>exact(Kd.Qp h0.out).2.2)
            (case side6=>exact(Kd.Qp h0.out).2.1)
            (case side7=>exact(Kd.Qp h4.out).2.2)
            (case side8=>exact(Kd.Qp h4.out).2.1)
            rintro e oj ⟨rfl,hb⟩
            refine⟨_,rfl, ?_⟩
            replace HO_294000:=sRb HO_294000 hb
            replace HO_294001:=sRb HO_294001 hb
            replace HO_311000:=sRb HO_311000 hb
            replace HO_311001:=sRb HO_311001 hb
            replace HO_311002:=sRb HO_311002 hb
            replace h0:=sRb h0 hb
            replace h4:=sRb h4 hb
            replace U:=sBk U hb
            replace O:=sBk O hb
            replace L:=sBk L hb
            replace μ :=sBk μ hb
            replace a0:=sBk a0 hb
            replace HB:=sHb hb
            (try clear hb)
            (try clear a4)
            (try clear hk)
            (try clear hi)
            refine hK.out _ _ ⟨qc μ,qc μ,qc O,qc O,qc L,qc L,qc L⟩ (fun hHeld=>?_)
            clear hK K
            refine qN (some 121) ?_
            refine qP 11 (some 122) (bN 13 4095) HT_ ?_
            refine qP 12 (some 6) (bN 13 8191) HT_ ?_
            refine Zr (Ze HT_.out kr) ?_
            try go_wp2
            go_ret
            exact⟨rfl,HB.out⟩
           ·rw[if_neg j8] at H
            exact absurd H (by simp)
          ·replace ke:=Bool.eq_false_iff.mpr ke
           subst ke
           have H1:(none)=some r:=by rw[if_neg (show ¬ (false=true) by decide)] at H;exact H
           clear H
           have H:=H1
           clear H1
           exact absurd H (by simp)
         ·replace kd:=Bool.eq_false_iff.mpr kd
          subst kd
          have H1:((newellaw19_awake.f cp).bind fun f8=>(if f8=true then (if av=191 then ((newelref19_Same.f cp aa ac ([]:List (S56)) ([]:List (S62))).bind fun eg=>(some eg)) else (none)) else (none)))=some r:=by rw[if_neg (show ¬ (false=true) by decide)] at H;exact H
          clear H
          have H:=H1
          clear H1
          replace H:=Option.bind_eq_some_iff.mp H
          obtain⟨f8,mb,H⟩:=H
          replace H:(if f8=true then (if av=191 then ((newelref19_Same.f cp aa ac ([]:List (S56)) ([]:List (S62))).bind fun eg=>(some eg)) else (none)) else (none))=some r:=H
          have ox:=Aside0.mk mb
          clear mb
          by_cases kh:f8=true
          ·subst kh
           have H1:(if av=191 then ((newelref19_Same.f cp aa ac ([]:List (S56)) ([]:List (S62))).bind fun eg=>(some eg)) else (none))=some r:=by rw[if_pos rfl] at H;exact H
           clear H
           have H:=H1
           clear H1
           by_cases j9:av=191
           ·rw[if_pos j9] at H
            have c124b0:(av==191)=true:=beq_iff_eq.mpr j9
            have c124b1:(av != 191)=false:=bne_eq_false_iff_eq.mpr j9
            clear j9
            replace H:=Option.bind_eq_some_iff.mp H
            obtain⟨eg,mc,H⟩:=H
            replace H:(some eg)=some r:=H
            have oy:=Aside0.mk mc
            clear mc
            obtain rfl:=Option.some.inj H
            have ta:=df.out
            have tb:=dh.out
            have tc:=di.out
            have td:=dj.out
            have te:=b0.out
            have tf:=bb.out
            have tg:=al.out
            have ti:=b5.out
            obtain⟨oz,p0,p1,p5⟩:=qD2 U.out
            have tj:=d4.out
            have tk:=d3.out
            have tl:=am.out
            have tm:=bc.out
            have tn:=ae.out
            have tp:=b6.out
            obtain⟨p6,p7,p8,p9,pa,pb⟩:=qD3 L.out
            go_wp2_with (first|((with_reducible refine Q0 (f:=22) rfl ?_);refine Zl (some 99) rfl rfl Try.func22 kr rfl #[.agg #[.int .i64 D,.int .i64 I],.agg #[.int .i64 Y,.int .i64 X,.int .i64 θ]] rfl qM ?_;(with_reducible refine(newelref19_Stop.calls D I Y X θ false _ oh.out).mono ?_);rintro e ve ⟨rfl,hb⟩;refine⟨_,rfl, ?_⟩;replace HO_294000:=sRb HO_294000 hb;replace HO_294001:=sRb HO_294001 hb;replace HO_311000:=sRb HO_311000 hb;replace HO_311001:=sRb HO_311001 hb;replace HO_311002:=sRb HO_311002 hb;replace U:=sBk U hb;replace O:=sBk O hb;replace L:=sBk L hb;replace μ :=sBk μ hb;replace a0:=sBk a0 hb;replace HB:=sHb hb;(try clear hb);(try clear a4);(try clear hk);(try clear hi))|((with_reducible refine Q0 (f:=10) rfl ?_);refine Zl (some 101) rfl rfl Try.func10 kr rfl #[] rfl qM ?_;(with_reducible refine(newellaw19_awake.calls cp  true _ ox.out).mono ?_);rintro e vf ⟨rfl,hb⟩;refine⟨_,rfl, ?_⟩;replace HO_294000:=sRb HO_294000 hb;replace HO_294001:=sRb HO_294001 hb;replace HO_311000:=sRb HO_311000 hb;replace HO_311001:=sRb HO_311001 hb;replace HO_311002:=sRb HO_311002 hb;replace U:=sBk U hb;replace O:=sBk O hb;replace L:=sBk L hb;replace μ :=sBk μ hb;replace a0:=sBk a0 hb;replace HB:=sHb hb;(try clear hb);(try clear a4);(try clear hk);(try clear hi);have tq:=bi.out;have tr:=b4.out;have ts:=be.out;have tt:=bf.out;obtain⟨pc,pd,pe,pf⟩:=qD2 μ.out)|(go_at_call 15;(refine(newelref19_Same.calls cp _ _ aa _ _ ac _ _ ([]:List (S56)) _ _ ([]:List (S62)) eg _ ?side1 ?side2 ?side3 ?side4 ?side5 ?side6 ?side7 ?side8 oy.out).mono ?_);(case side1=>exact(Kd.Qp HO_294000.out).2.2);(case side2=>exact(Kd.Qp HO_294000.out).2.1);(case side3=>exact(Kd.Qp HO_294001.out).2.2);(case side4=>exact(Kd.Qp HO_294001.out).2.1);(case side5=>exact Kd.Y1 _ _);(case side6=>exact Nat.le_refl _);(case side7=>exact Kd.Y1 _ _);(case side8=>exact Nat.le_refl _);rintro e vg ⟨rfl,hb⟩;have Z:=Aside0.mk (Kd.Qt HO_294000.out hb);have ε :=Aside0.mk (Kd.Qt HO_294001.out hb);have ι :=Aside0.mk (Kd.Qt HO_311000.out hb);have κ :=Aside0.mk (Kd.Qt HO_311001.out hb);have χ :=Aside0.mk (Kd.Qt HO_311002.out hb);have ω :=Aside0.mk (Qn (g:=aw) (o:=.cells #[.int .i64 D,.int .i64 I] 23 (0,0)) U.out hb);have a1:=Aside0.mk (Qn (g:=an) (o:=.cells #[.slice ζ B.length γ,.slice η J.length δ] 27 (0,0)) O.out hb);have ag:=Aside0.mk (Qn (g:=af) (o:=.cells #[.int .i64 Y,.int .i64 X,.int .i64 θ] 43 (0,0)) L.out hb);have ah:=Aside0.mk (Qn (g:=ρ) (o:=.cells #[.slice b3 aa.length b1,.slice cf ac.length cg] 27 (0,0)) μ.out hb);have ax:=Aside0.mk (Qn (g:=a3) (o:=.cells #[.slice ct b7.length cm,.slice dt b9.length du,.slice ep ba.length er] 47 (0,0)) a0.out hb);have aj:=Aside0.mk (Qv HB.out hb);clear HO_294000;clear HO_294001;clear HO_311000;clear HO_311001;clear HO_311002;clear U;clear O;clear L;clear μ;clear a0;clear HB;have HO_294000:=Z;have HO_294001:= ε;have HO_311000:= ι;have HO_311001:= κ;have HO_311002:= χ;have U:= ω;have O:=a1;have L:=ag;have μ :=ah;have a0:=ax;have HB:=aj;clear Z ε ι κ χ ω a1 ag ah ax aj;(try clear hb);(try clear a4);(try clear hk);(try clear hi)))
            go_ret
            exact⟨rfl,HB.out⟩
           ·rw[if_neg j9] at H
            exact absurd H (by simp)
          ·replace kh:=Bool.eq_false_iff.mpr kh
           subst kh
           have H1:(none)=some r:=by rw[if_neg (show ¬ (false=true) by decide)] at H;exact H
           clear H
           have H:=H1
           clear H1
           exact absurd H (by simp)
  ·replace ca:=Bool.eq_false_iff.mpr ca
   subst ca
   have H1:((newellaw19_awake.f k).bind fun d0=>(if d0=true then (if av=190 then (if bv=av then ((newelref19_Same.f k aa ac ([]:List (S56)) ([]:List (S62))).bind fun cq=>(if cq=true then ((newelref19_SameView.f k b7 b9 ba ([]:List Int) ([]:List Int) ([]:List Int)).bind fun ce=>(some ce)) else (none))) else (none)) else (none)) else (none)))=some r:=by rw[if_neg (show ¬ (false=true) by decide)] at H;exact H
   clear H
   have H:=H1
   clear H1
   replace H:=Option.bind_eq_some_iff.mp H
   obtain⟨d0,me,H⟩:=H
   replace H:(if d0=true then (if av=190 then (if bv=av then ((newelref19_Same.f k aa ac ([]:List (S56)) ([]:List (S62))).bind fun cq=>(if cq=true then ((newelref19_SameView.f k b7 b9 ba ([]:List Int) ([]:List Int) ([]:List Int)).bind fun ce=>(some ce)) else (none))) else (none)) else (none)) else (none))=some r:=H
   have pg:=Aside0.mk me
   clear me
   by_cases ki:d0=true
   ·subst ki
    have H1:(if av=190 then (if bv=av then ((newelref19_Same.f k aa ac ([]:List (S56)) ([]:List (S62))).bind fun cq=>(if cq=true then ((newelref19_SameView.f k b7 b9 ba ([]:List Int) ([]:List Int) ([]:List Int)).bind fun ce=>(some ce)) else (none))) else (none)) else (none))=some r:=by rw[if_pos rfl] at H;exact H
    clear H
    have H:=H1
    clear H1
    by_cases ja:av=190
    ·rw[if_pos ja] at H
     have c143b0:(av==190)=true:=beq_iff_eq.mpr ja
     have c143b1:(av != 190)=false:=bne_eq_false_iff_eq.mpr ja
     clear ja
     by_cases jb:bv=av
     ·rw[if_pos jb] at H
      have c144b0:(bv==av)=true:=beq_iff_eq.mpr jb
      have c144b1:(bv != av)=false:=bne_eq_false_iff_eq.mpr jb
      clear jb
      replace H:=Option.bind_eq_some_iff.mp H
      obtain⟨cq,mf,H⟩:=H
      replace H:(if cq=true then ((newelref19_SameView.f k b7 b9 ba ([]:List Int) ([]:List Int) ([]:List Int)).bind fun ce=>(some ce)) else (none))=some r:=H
      have pi:=Aside0.mk mf
      clear mf
      by_cases kj:cq=true
      ·subst kj
       have H1:((newelref19_SameView.f k b7 b9 ba ([]:List Int) ([]:List Int) ([]:List Int)).bind fun ce=>(some ce))=some r:=by rw[if_pos rfl] at H;exact H
       clear H
       have H:=H1
       clear H1
       replace H:=Option.bind_eq_some_iff.mp H
       obtain⟨ce,mg,H⟩:=H
       replace H:(some ce)=some r:=H
       have pj:=Aside0.mk mg
       clear mg
       obtain rfl:=Option.some.inj H
       go_enter Try.func4,Try.ntmps4
       try go_wp2_with (first|((with_reducible refine Qs (N:=3) rfl ?_);refine qE 3 #[.int .i64 D,.int .i64 I] 23 ?_;intro aw hg vh hbox hb;have U:=Aside0.mk hbox;have lz:=sGe hg;have m0:=sGe hg;replace HB:=sHb hb;clear hb hbox hg)|((with_reducible refine Qs (N:=4) rfl ?_);refine qE 4 #[.slice ζ B.length γ,.slice η J.length δ] 27 ?_;intro an hg vi hbox hb;have O:=Aside0.mk hbox;have m1:=sGe hg;have m2:=sGe hg;have df:=sNl U hg;have dh:=sNg U hg;replace U:=sBk U hb;replace HB:=sHb hb;clear hb hbox hg)|((with_reducible refine Qs (N:=5) rfl ?_);refine qE 5 #[.int .i64 Y,.int .i64 X,.int .i64 θ] 43 ?_;intro af hg vj hbox hb;have L:=Aside0.mk hbox;have m3:=sGe hg;have m4:=sGe hg;have di:=sNl U hg;have dj:=sNg U hg;have d3:=sNl O hg;have d4:=sNg O hg;replace U:=sBk U hb;replace O:=sBk O hb;replace HB:=sHb hb;clear hb hbox hg;have tu:=dh.out;have tv:=df.out;have tw:=d3.out;have tx:=d4.out;obtain⟨pk,pm,pn,po⟩:=qD2 O.out)|((with_reducible refine Q0 (f:=9) rfl ?_);refine Zl (some 12) rfl rfl Try.func9 kr rfl #[.agg #[.slice ζ B.length γ,.slice η J.length δ]] rfl qM ?_;(with_reducible refine(newelref19_Few.calls _ _ B _ _ J true _ ?side1 ?side2 ?side3 ?side4 A4.out).mono ?_);(case side1=>exact(Kd.Qx ai.out HB.out));(case side2=>exact ay.out);(case side3=>exact(Kd.Qx ak.out HB.out));(case side4=>exact az.out);rintro e pp ⟨rfl,hb⟩;refine⟨_,rfl, ?_⟩;replace U:=sBk U hb;replace O:=sBk O hb;replace L:=sBk L hb;replace HB:=sHb hb;(try clear hb);(try clear a4);(try clear hk);(try clear hi)))
       replace U:=Aside0.mk (Qa U.out)
       replace O:=Aside0.mk (Qa O.out)
       replace L:=Aside0.mk (Qa L.out)
       replace HB:=Aside0.mk (Qf HB.out)
       refine Zm (n:=11) (S:=fun w'=>w'.cell? ⟨aw,0,none⟩=some (.int .i64 D)∧w'.cell? ⟨aw,1,none⟩=some (.int .i64 I)∧w'.cell? ⟨an,0,none⟩=some (.slice ζ B.length γ)∧w'.cell? ⟨an,1,none⟩=some (.slice η J.length δ)∧w'.cell? ⟨af,0,none⟩=some (.int .i64 Y)∧w'.cell? ⟨af,1,none⟩=some (.int .i64 X)∧w'.cell? ⟨af,2,none⟩=some (.int .i64 θ)) (ds:=[]) #[false,false,false,false,false,false,false,false,false,false,false] kr rfl rfl ⟨(Qi U.out 0).trans rfl,(Qi U.out 1).trans rfl,(Qi O.out 0).trans rfl,(Qi O.out 1).trans rfl,(Qi L.out 0).trans rfl,(Qi L.out 1).trans rfl,(Qi L.out 2).trans rfl⟩ (fun hHeld=>?_);refine Q7 newellaw19_CallServes.Lu newellaw19_CallServes.Uv (fun HT_ HW_=>?_)
       generalize pp.drew=vk at U O L HB hHeld ⊢
       refine qT 0 (some 16) (bN 11 1) HT_ HW_ hHeld ?_
       refine qT 1 (some 17) (bN 11 3) HT_ HW_ hHeld ?_
       refine qT 3 (some 19) (bN 11 11) HT_ HW_ hHeld ?_
       refine Ku (σ:=Value×Value×Value×Value×Nat) 2 (bN 11 511) (fun s_=>[(18,.agg #[s_.1,s_.2.1]),(20,.tuple #[.agg #[s_.2.2.1,s_.2.2.2.1],.int .i64 av]),(7,.pointer (some ⟨s_.2.2.2.2,0,none⟩)),(15,.tuple #[.agg #[s_.2.2.1,s_.2.2.2.1],.int .i64 av]),(21,.agg #[s_.2.2.1,s_.2.2.2.1]),(22,.int .i64 av)]) (fun s_ w'=>(w'.cell? ⟨aw,0,none⟩=some (.int .i64 D)∧w'.cell? ⟨aw,1,none⟩=some (.int .i64 I)∧w'.cell? ⟨an,0,none⟩=some (.slice ζ B.length γ)∧w'.cell? ⟨an,1,none⟩=some (.slice η J.length δ)∧w'.cell? ⟨af,0,none⟩=some (.int .i64 Y)∧w'.cell? ⟨af,1,none⟩=some (.int .i64 X)∧w'.cell? ⟨af,2,none⟩=some (.int .i64 θ))∧(Kd.R k56 56 w' w.heap.size (fun k_=>some k_≠(s_.2.2.1:Value).ownBlock) s_.1 bw)∧(Kd.R k62 62 w' w.heap.size (fun k_=>some k_≠(s_.2.2.2.1:Value).ownBlock) s_.2.1 bz)∧(Kd.R k56 56 w' w.heap.size (fun k_=>some k_≠(s_.1:Value).ownBlock) s_.2.2.1 aa)∧(Kd.R k62 62 w' w.heap.size (fun k_=>some k_≠(s_.2.1:Value).ownBlock) s_.2.2.2.1 ac)∧(w'.heap[aw]?=some (.cells #[.int .i64 D,.int .i64 I] 23 (0,0)))∧(w'.heap[an]?=some (.cells #[.slice ζ B.length γ,.slice η J.length δ] 27 (0,0)))∧(w'.heap[af]?=some (.cells #[.int .i64 Y,.int .i64 X,.int .i64 θ] 43 (0,0)))∧(w'.heap[s_.2.2.2.2]?=some (.cells #[.slice none 0 0,.slice none 0 0] 27 (0,0)))∧(w.heap.size≤s_.2.2.2.2)∧(w.heap.size≤s_.2.2.2.2)∧(aw≠s_.2.2.2.2)∧(s_.2.2.2.2≠aw)∧(an≠s_.2.2.2.2)∧(s_.2.2.2.2≠an)∧(af≠s_.2.2.2.2)∧(s_.2.2.2.2≠af)∧(Below w.heap.size w w')) ?_ ?_
       rotate_left
       ·intro hCont
        refine J8 (i:=2) (j:=8) (Ni:=some 18) (Nj:=some 7) (bN 11 15) (bN 11 267) rfl rfl rfl rfl (X6 HT_.out kr) (by decide) (by decide) (fun K hK=>?_) (fun K hK=>?_)
        ·skip
         refine Zh Try.func12 kr rfl #[.agg #[.slice ζ B.length γ,.slice η J.length δ]] (by rfl) rfl rfl qM ?_
         with_reducible refine(newellaw19_Own.calls _ _ B _ _ J bw bz _ ?side1 ?side2 ?side3 ?side4 A6.out).mono ?_
         (case side1=>exact(Kd.Qx ai.out HB.out))
         (case side2=>exact ay.out)
         (case side3=>exact(Kd.Qx ak.out HB.out))
         (case side4=>exact az.out)
         rintro e pq ⟨cu,cv,rfl,ψ,a2,hb⟩
         refine⟨_,rfl, ?_⟩
         have τ :=Aside0.mk (Kd.Q1 ψ (Ql HB.out))
         have φ :=Aside0.mk (Kd.Q1 a2 (Ql HB.out))
         replace U:=sBk U hb
         replace O:=sBk O hb
         replace L:=sBk L hb
         replace HB:=sHb hb
         (try clear hb)
         (try clear a4)
         (try clear hk)
         (try clear hi)
         (try clear ψ)
         (try clear a2)
         obtain⟨mh,mi,mj⟩:=Kd.Q3 τ.out
         (first|subst mj|(injection mj with ν a7 ξ;have a8:= ν.symm;have a9:= ξ.symm;clear ν a7 ξ;subst a8;subst a9))
         obtain⟨fk,fl,fm⟩:=Kd.Q3 φ.out
         (first|subst fm|(injection fm with ν a7 ξ;have a8:= ν.symm;have a9:= ξ.symm;clear ν a7 ξ;subst a8;subst a9))
         refine hK.out _ _ ⟨qc U,qc U,qc O,qc O,qc L,qc L,qc L⟩ (fun hHeld=>?_)
         clear hK K
         refine qN (some 18) ?_
         refine J8 (i:=4) (j:=8) (Ni:=some 20) (Nj:=some 7) (bN 11 31) (bN 11 271) rfl rfl rfl rfl (X6 HT_.out kr) (by decide) (by decide) (fun K hK=>?_) (fun K hK=>?_)
         ·skip
          refine Zh Try.func18 kr rfl #[.agg #[.int .i64 D,.int .i64 I],.agg #[.slice mh bw.length mi,.slice fk bz.length fl],.agg #[.int .i64 Y,.int .i64 X,.int .i64 θ]] (by rfl) rfl rfl qM ?_
          with_reducible refine(call_Serve.calls k D I _ _ bw _ _ bz Y X θ aa ac av _ ?side1 ?side2 ?side3 ?side4 A7.out).mono ?_
          (case side1=>exact(Kd.Qp τ.out).2.2)
          (case side2=>exact(Kd.Qp τ.out).2.1)
          (case side3=>exact(Kd.Qp φ.out).2.2)
          (case side4=>exact(Kd.Qp φ.out).2.1)
          rintro e vl ⟨e6,e7,rfl,ψ,a2,hb⟩
          refine⟨_,rfl, ?_⟩
          have a5:=Aside0.mk (Kd.Q1 (Kd.Zf ψ (Kd.Zq τ.out)) (Ql HB.out))
          have a6:=Aside0.mk (Kd.Q1 (Kd.Zf a2 (Kd.Zq φ.out)) (Ql HB.out))
          replace τ :=Aside0.mk (Kd.Za τ.out (Kd.Zg ψ) hb)
          replace φ :=Aside0.mk (Kd.Za φ.out (Kd.Zg a2) hb)
          replace U:=sBk U hb
          replace O:=sBk O hb
          replace L:=sBk L hb
          replace HB:=sHb hb
          (try clear hb)
          (try clear a4)
          (try clear hk)
          (try clear hi)
          (try clear ψ)
          (try clear a2)
          refine hK.out _ _ ⟨qc U,qc U,qc O,qc O,qc L,qc L,qc L⟩ (fun hHeld=>?_)
          clear hK K
          refine qN (some 20) ?_
          refine qP 5 (some 15) (bN 11 63) HT_ ?_
          refine qP 6 (some 21) (bN 11 127) HT_ ?_
          refine qP 7 (some 22) (bN 11 255) HT_ ?_
          refine Zi (i:=8) (N:=some 7) (bN 11 511) rfl rfl (Q2 HT_.out kr) (by decide) (fun K hK=>?_)
          refine Xc ?hg (N:=7) ?hd (cs:=#[.slice none 0 0,.slice none 0 0]) (t:=27) ?hr ?_;(case hd=>rfl);(case hg=>rfl);(case hr=>go_simp <;> rfl)
          intro ρ hg nu hbox hb
          have μ :=Aside0.mk hbox
          have e8:=sGe hg
          have e9:=sGe hg
          have b0:=sNl U hg
          have bb:=sNg U hg
          have b4:=sNl O hg
          have bi:=sNg O hg
          have am:=sNl L hg
          have bc:=sNg L hg
          replace τ :=sRb τ hb
          replace φ :=sRb φ hb
          replace a5:=sRb a5 hb
          replace a6:=sRb a6 hb
          replace U:=sBk U hb
          replace O:=sBk O hb
          replace L:=sBk L hb
          replace HB:=sHb hb
          clear hb hbox hg
          refine hK.out _ _ ⟨qc U,qc U,qc O,qc O,qc L,qc L,qc L⟩ (fun hHeld=>?_)
          clear hK K
          refine qN (some 7) ?_
          exact Xe (by simp only[Zv,Act.put,qS]) (hCont (.slice mh bw.length mi,.slice fk bz.length fl,e6,e7,ρ) _ ⟨hHeld,(by(with_reducible repeat first|apply Kd.Qk|apply Kd.Qj|apply Kd.Qm);exact Kd.Qq τ.out (fun _ hk=>hk.2)),(by(with_reducible repeat first|apply Kd.Qk|apply Kd.Qj|apply Kd.Qm);exact Kd.Qq φ.out (fun _ hk=>hk.2)),(by(with_reducible repeat first|apply Kd.Qk|apply Kd.Qj|apply Kd.Qm);exact Kd.Qq a5.out (fun _ hk=>hk.2)),(by(with_reducible repeat first|apply Kd.Qk|apply Kd.Qj|apply Kd.Qm);exact Kd.Qq a6.out (fun _ hk=>hk.2)),U.out,O.out,L.out,μ.out,e8.out,e9.out,b0.out,bb.out,b4.out,bi.out,am.out,bc.out,HB.out⟩)
         ·skip
          refine Xc ?hg (N:=7) ?hd (cs:=#[.slice none 0 0,.slice none 0 0]) (t:=27) ?hr ?_;(case hd=>rfl);(case hg=>rfl);(case hr=>go_simp <;> rfl)
          intro ρ hg pr hbox hb
          have μ :=Aside0.mk hbox
          have e8:=sGe hg
          have e9:=sGe hg
          have b0:=sNl U hg
          have bb:=sNg U hg
          have b4:=sNl O hg
          have bi:=sNg O hg
          have am:=sNl L hg
          have bc:=sNg L hg
          replace τ :=sRb τ hb
          replace φ :=sRb φ hb
          replace U:=sBk U hb
          replace O:=sBk O hb
          replace L:=sBk L hb
          replace HB:=sHb hb
          clear hb hbox hg
          obtain⟨fk,fl,fm⟩:=Kd.Q3 τ.out
          (first|subst fm|(injection fm with ν a7 ξ;have a8:= ν.symm;have a9:= ξ.symm;clear ν a7 ξ;subst a8;subst a9))
          obtain⟨h5,h6,h7⟩:=Kd.Q3 φ.out
          (first|subst h7|(injection h7 with ν a7 ξ;have a8:= ν.symm;have a9:= ξ.symm;clear ν a7 ξ;subst a8;subst a9))
          refine hK.out _ _ ⟨qc U,qc U,qc O,qc O,qc L,qc L,qc L⟩ (fun hHeld=>?_)
          clear hK K
          refine qN (some 7) ?_
          refine Zi (i:=4) (N:=some 20) (bN 11 287) rfl rfl (Q2 HT_.out kr) (by decide) (fun K hK=>?_)
          refine Zh Try.func18 kr rfl #[.agg #[.int .i64 D,.int .i64 I],.agg #[.slice fk bw.length fl,.slice h5 bz.length h6],.agg #[.int .i64 Y,.int .i64 X,.int .i64 θ]] (by rfl) rfl rfl qM ?_
          with_reducible refine(call_Serve.calls k D I _ _ bw _ _ bz Y X θ aa ac av _ ?side1 ?side2 ?side3 ?side4 A7.out).mono ?_
          (case side1=>exact(Kd.Qp τ.out).2.2)
          (case side2=>exact(Kd.Qp τ.out).2.1)
          (case side3=>exact(Kd.Qp φ.out).2.2)
          (case side4=>exact(Kd.Qp φ.out).2.1)
          rintro e nu ⟨e6,e7,rfl,ψ,a2,hb⟩
          refine⟨_,rfl, ?_⟩
          have a5:=Aside0.mk (Kd.Q1 (Kd.Zf ψ (Kd.Zq τ.out)) (Ql HB.out))
          have a6:=Aside0.mk (Kd.Q1 (Kd.Zf a2 (Kd.Zq φ.out)) (Ql HB.out))
          replace τ :=Aside0.mk (Kd.Za τ.out (Kd.Zg ψ) hb)
          replace φ :=Aside0.mk (Kd.Za φ.out (Kd.Zg a2) hb)
          replace U:=sBk U hb
          replace O:=sBk O hb
          replace L:=sBk L hb
          replace μ :=sBk μ hb
          replace HB:=sHb hb
          (try clear hb)
          (try clear a4)
          (try clear hk)
          (try clear hi)
          (try clear ψ)
          (try clear a2)
          refine hK.out _ _ ⟨qc U,qc U,qc O,qc O,qc L,qc L,qc L⟩ (fun hHeld=>?_)
          clear hK K
          refine qN (some 20) ?_
          refine qP 5 (some 15) (bN 11 319) HT_ ?_
          refine qP 6 (some 21) (bN 11 383) HT_ ?_
          refine qP 7 (some 22) (bN 11 511) HT_ ?_
          exact Xe (by simp only[Zv,Act.put,qS]) (hCont (.slice fk bw.length fl,.slice h5 bz.length h6,e6,e7,ρ) _ ⟨hHeld,(by(with_reducible repeat first|apply Kd.Qk|apply Kd.Qj|apply Kd.Qm);exact Kd.Qq τ.out (fun _ hk=>hk.2)),(by(with_reducible repeat first|apply Kd.Qk|apply Kd.Qj|apply Kd.Qm);exact Kd.Qq φ.out (fun _ hk=>hk.2)),(by(with_reducible repeat first|apply Kd.Qk|apply Kd.Qj|apply Kd.Qm);exact Kd.Qq a5.out (fun _ hk=>hk.2)),(by(with_reducible repeat first|apply Kd.Qk|apply Kd.Qj|apply Kd.Qm);exact Kd.Qq a6.out (fun _ hk=>hk.2)),U.out,O.out,L.out,μ.out,e8.out,e9.out,b0.out,bb.out,b4.out,bi.out,am.out,bc.out,HB.out⟩)
        ·skip
         refine Xc ?hg (N:=7) ?hd (cs:=#[.slice none 0 0,.slice none 0 0]) (t:=27) ?hr ?_;(case hd=>rfl);(case hg=>rfl);(case hr=>go_simp <;> rfl)
         intro ρ hg pq hbox hb
         have μ :=Aside0.mk hbox
         have e8:=sGe hg
         have e9:=sGe hg
         have b0:=sNl U hg
         have bb:=sNg U hg
         have b4:=sNl O hg
         have bi:=sNg O hg
         have am:=sNl L hg
         have bc:=sNg L hg
         replace U:=sBk U hb
         replace O:=sBk O hb
         replace L:=sBk L hb
         replace HB:=sHb hb
         clear hb hbox hg
         refine hK.out _ _ ⟨qc U,qc U,qc O,qc O,qc L,qc L,qc L⟩ (fun hHeld=>?_)
         clear hK K
         refine qN (some 7) ?_
         refine Zi (i:=2) (N:=some 18) (bN 11 271) rfl rfl (Q2 HT_.out kr) (by decide) (fun K hK=>?_)
         refine Zh Try.func12 kr rfl #[.agg #[.slice ζ B.length γ,.slice η J.length δ]] (by rfl) rfl rfl qM ?_
         with_reducible refine(newellaw19_Own.calls _ _ B _ _ J bw bz _ ?side1 ?side2 ?side3 ?side4 A6.out).mono ?_
         (case side1=>exact(Kd.Qx ai.out HB.out))
         (case side2=>exact ay.out)
         (case side3=>exact(Kd.Qx ak.out HB.out))
         (case side4=>exact az.out)
         rintro e pr ⟨cu,cv,rfl,ψ,a2,hb⟩
         refine⟨_,rfl, ?_⟩
         have τ :=Aside0.mk (Kd.Q1 ψ (Ql HB.out))
         have φ :=Aside0.mk (Kd.Q1 a2 (Ql HB.out))
         replace U:=sBk U hb
         replace O:=sBk O hb
         replace L:=sBk L hb
         replace μ :=sBk μ hb
         replace HB:=sHb hb
         (try clear hb)
         (try clear a4)
         (try clear hk)
         (try clear hi)
         (try clear ψ)
         (try clear a2)
         obtain⟨fk,fl,fm⟩:=Kd.Q3 τ.out
         (first|subst fm|(injection fm with ν a7 ξ;have a8:= ν.symm;have a9:= ξ.symm;clear ν a7 ξ;subst a8;subst a9))
         obtain⟨h5,h6,h7⟩:=Kd.Q3 φ.out
         (first|subst h7|(injection h7 with ν a7 ξ;have a8:= ν.symm;have a9:= ξ.symm;clear ν a7 ξ;subst a8;subst a9))
         refine hK.out _ _ ⟨qc U,qc U,qc O,qc O,qc L,qc L,qc L⟩ (fun hHeld=>?_)
         clear hK K
         refine qN (some 18) ?_
         refine Zi (i:=4) (N:=some 20) (bN 11 287) rfl rfl (Q2 HT_.out kr) (by decide) (fun K hK=>?_)
         refine Zh Try.func18 kr rfl #[.agg #[.int .i64 D,.int .i64 I],.agg #[.slice fk bw.length fl,.slice h5 bz.length h6],.agg #[.int .i64 Y,.int .i64 X,.int .i64 θ]] (by rfl) rfl rfl qM ?_
         with_reducible refine(call_Serve.calls k D I _ _ bw _ _ bz Y X θ aa ac av _ ?side1 ?side2 ?side3 ?side4 A7.out).mono ?_
         (case side1=>exact(Kd.Qp τ.out).2.2)
         (case side2=>exact(Kd.Qp τ.out).2.1)
         (case side3=>exact(Kd.Qp φ.out).2.2)
         (case side4=>exact(Kd.Qp φ.out).2.1)
         rintro e nu ⟨e6,e7,rfl,ψ,a2,hb⟩
         refine⟨_,rfl, ?_⟩
         have a5:=Aside0.mk (Kd.Q1 (Kd.Zf ψ (Kd.Zq τ.out)) (Ql HB.out))
         have a6:=Aside0.mk (Kd.Q1 (Kd.Zf a2 (Kd.Zq φ.out)) (Ql HB.out))
         replace τ :=Aside0.mk (Kd.Za τ.out (Kd.Zg ψ) hb)
         replace φ :=Aside0.mk (Kd.Za φ.out (Kd.Zg a2) hb)
         replace U:=sBk U hb
         replace O:=sBk O hb
         replace L:=sBk L hb
         replace μ :=sBk μ hb
         replace HB:=sHb hb
         (try clear hb)
         (try clear a4)
         (try clear hk)
         (try clear hi)
         (try clear ψ)
         (try clear a2)
         refine hK.out _ _ ⟨qc U,qc U,qc O,qc O,qc L,qc L,qc L⟩ (fun hHeld=>?_)
         clear hK K
         refine qN (some 20) ?_
         refine qP 5 (some 15) (bN 11 319) HT_ ?_
         refine qP 6 (some 21) (bN 11 383) HT_ ?_
         refine qP 7 (some 22) (bN 11 511) HT_ ?_
         exact Xe (by simp only[Zv,Act.put,qS]) (hCont (.slice fk bw.length fl,.slice h5 bz.length h6,e6,e7,ρ) _ ⟨hHeld,(by(with_reducible repeat first|apply Kd.Qk|apply Kd.Qj|apply Kd.Qm);exact Kd.Qq τ.out (fun _ hk=>hk.2)),(by(with_reducible repeat first|apply Kd.Qk|apply Kd.Qj|apply Kd.Qm);exact Kd.Qq φ.out (fun _ hk=>hk.2)),(by(with_reducible repeat first|apply Kd.Qk|apply Kd.Qj|apply Kd.Qm);exact Kd.Qq a5.out (fun _ hk=>hk.2)),(by(with_reducible repeat first|apply Kd.Qk|apply Kd.Qj|apply Kd.Qm);exact Kd.Qq a6.out (fun _ hk=>hk.2)),U.out,O.out,L.out,μ.out,e8.out,e9.out,b0.out,bb.out,b4.out,bi.out,am.out,bc.out,HB.out⟩)
       rintro⟨cu,cv,e6,e7,ρ⟩ ck ⟨hS_,da,db,dc,dd,de,ev,ew,ey,ez,f3,dx,dy,dz,e0,e3,e4,e5⟩
       have Z:Aside0 (Kd.R k56 56 ck w.heap.size (fun k_=>some k_≠(e6:Value).ownBlock) cu bw):=⟨da⟩
       have ε :Aside0 (Kd.R k62 62 ck w.heap.size (fun k_=>some k_≠(e7:Value).ownBlock) cv bz):=⟨db⟩
       have ι :Aside0 (Kd.R k56 56 ck w.heap.size (fun k_=>some k_≠(cu:Value).ownBlock) e6 aa):=⟨dc⟩
       have κ :Aside0 (Kd.R k62 62 ck w.heap.size (fun k_=>some k_≠(cv:Value).ownBlock) e7 ac):=⟨dd⟩
       have χ :Aside0 (ck.heap[aw]?=some (.cells #[.int .i64 D,.int .i64 I] 23 (0,0))):=⟨de⟩
       have ω :Aside0 (ck.heap[an]?=some (.cells #[.slice ζ B.length γ,.slice η J.length δ] 27 (0,0))):=⟨ev⟩
       have a1:Aside0 (ck.heap[af]?=some (.cells #[.int .i64 Y,.int .i64 X,.int .i64 θ] 43 (0,0))):=⟨ew⟩
       have ag:Aside0 (ck.heap[ρ]?=some (.cells #[.slice none 0 0,.slice none 0 0] 27 (0,0))):=⟨ey⟩
       have ah:Aside0 (w.heap.size≤ρ):=⟨ez⟩
       have ax:Aside0 (w.heap.size≤ρ):=⟨f3⟩
       have aj:Aside0 (aw≠ρ):=⟨dx⟩
       have ap:Aside0 (ρ≠aw):=⟨dy⟩
       have b8:Aside0 (an≠ρ):=⟨dz⟩
       have bg:Aside0 (ρ≠an):=⟨e0⟩
       have bh:Aside0 (af≠ρ):=⟨e3⟩
       have bs:Aside0 (ρ≠af):=⟨e4⟩
       have bu:Aside0 (Below w.heap.size w ck):=⟨e5⟩
       clear U
       clear O
       clear L
       clear HB
       clear da db dc dd de ev ew ey ez f3 dx dy dz e0 e3 e4 e5
       have τ :=Z
       have φ := ε
       have a5:= ι
       have a6:= κ
       have U:= χ
       have O:= ω
       have L:=a1
       have μ :=ag
       have e8:=ah
       have e9:=ax
       have b0:=aj
       have bb:=ap
       have b4:=b8
       have bi:=bg
       have am:=bh
       have bc:=bs
       have HB:=bu
       clear Z ε ι κ χ ω a1 ag ah ax aj ap b8 bg bh bs bu
       have hHeld:ck.cell? ⟨aw,0,none⟩=some (.int .i64 D)∧ck.cell? ⟨aw,1,none⟩=some (.int .i64 I)∧ck.cell? ⟨an,0,none⟩=some (.slice ζ B.length γ)∧ck.cell? ⟨an,1,none⟩=some (.slice η J.length δ)∧ck.cell? ⟨af,0,none⟩=some (.int .i64 Y)∧ck.cell? ⟨af,1,none⟩=some (.int .i64 X)∧ck.cell? ⟨af,2,none⟩=some (.int .i64 θ):=hS_
       obtain⟨cb,cd,ml⟩:=Kd.Q3 a5.out
       (first|subst ml|(injection ml with ν a7 ξ;have a8:= ν.symm;have a9:= ξ.symm;clear ν a7 ξ;subst a8;subst a9))
       obtain⟨ch,ci,mm⟩:=Kd.Q3 a6.out
       (first|subst mm|(injection mm with ν a7 ξ;have a8:= ν.symm;have a9:= ξ.symm;clear ν a7 ξ;subst a8;subst a9))
       refine Xe (a':=?_) ?_ ?_
       rotate_left
       ·simp only[Zv,Act.put,qS]
        rfl
       refine Zi (i:=9) (N:=none) (bN 11 1023) rfl rfl (Q2 HT_.out kr) (by decide) (fun K hK=>?_)
       have uw:ck.cell? ⟨ρ,0,none⟩=some (.slice none 0 0):=(Qi μ.out 0).trans rfl
       have ty:=Q6 μ.out 0
       have pt:=b0.out
       have pu:=b4.out
       have pv:=am.out
       have pw:=bb.out
       have px:=bi.out
       have py:=bc.out
       have ux:ck.cell? ⟨ρ,1,none⟩=some (.slice none 0 0):=(Qi μ.out 1).trans rfl
       have tz:=Q6 μ.out 1
       have pz:=b0.out
       have q0:=b4.out
       have q1:=am.out
       have q2:=bb.out
       have q3:=bi.out
       have q4:=bc.out
       refine Yl (w1:=?_) (by rfl) rfl ?_ ?_
       rotate_left
       ·go_simp
        rfl
       refine hK.out _ _ ⟨((cell_far (p:=⟨ρ,_,none⟩) b0.out _).trans (((cell_far (p:=⟨ρ,_,none⟩) b0.out _).trans (hHeld.1)))),((cell_far (p:=⟨ρ,_,none⟩) b0.out _).trans (((cell_far (p:=⟨ρ,_,none⟩) b0.out _).trans (hHeld.2.1)))),((cell_far (p:=⟨ρ,_,none⟩) b4.out _).trans (((cell_far (p:=⟨ρ,_,none⟩) b4.out _).trans (hHeld.2.2.1)))),((cell_far (p:=⟨ρ,_,none⟩) b4.out _).trans (((cell_far (p:=⟨ρ,_,none⟩) b4.out _).trans (hHeld.2.2.2.1)))),((cell_far (p:=⟨ρ,_,none⟩) am.out _).trans (((cell_far (p:=⟨ρ,_,none⟩) am.out _).trans (hHeld.2.2.2.2.1)))),((cell_far (p:=⟨ρ,_,none⟩) am.out _).trans (((cell_far (p:=⟨ρ,_,none⟩) am.out _).trans (hHeld.2.2.2.2.2.1)))),((cell_far (p:=⟨ρ,_,none⟩) am.out _).trans (((cell_far (p:=⟨ρ,_,none⟩) am.out _).trans (hHeld.2.2.2.2.2.2))))⟩ (fun hHeld=>?_)
       clear hK K
       refine qP 10 (some 8) (bN 11 2047) HT_ ?_
       refine Zr (Ze HT_.out kr) ?_
       try go_wp2
       have Z:Aside0 (Kd.R k56 56 ((ck.setCell ⟨ρ,0,none⟩ (.slice cb aa.length cd)).setCell ⟨ρ,1,none⟩ (.slice ch ac.length ci)) w.heap.size (fun k_=>some k_≠(.slice cb aa.length cd:Value).ownBlock) cu bw):=⟨by(with_reducible repeat first|apply Kd.Qk|apply Kd.Qj|apply Kd.Qm);exact Kd.Qq (Kd.Qr (Kd.Qr (Kd.Qu τ.out μ.out (by decide)) (fun _ hk=>hk.2) _) (fun _ hk=>hk.2) _) (fun _ hk=>hk.1)⟩
       have ε :Aside0 (Kd.R k62 62 ((ck.setCell ⟨ρ,0,none⟩ (.slice cb aa.length cd)).setCell ⟨ρ,1,none⟩ (.slice ch ac.length ci)) w.heap.size (fun k_=>some k_≠(.slice ch ac.length ci:Value).ownBlock) cv bz):=⟨by(with_reducible repeat first|apply Kd.Qk|apply Kd.Qj|apply Kd.Qm);exact Kd.Qq (Kd.Qr (Kd.Qr (Kd.Qu φ.out μ.out (by decide)) (fun _ hk=>hk.2) _) (fun _ hk=>hk.2) _) (fun _ hk=>hk.1)⟩
       have ι :Aside0 (Kd.R k56 56 ((ck.setCell ⟨ρ,0,none⟩ (.slice cb aa.length cd)).setCell ⟨ρ,1,none⟩ (.slice ch ac.length ci)) w.heap.size (fun k_=>some k_≠(cu:Value).ownBlock) (.slice cb aa.length cd) aa):=⟨by(with_reducible repeat first|apply Kd.Qk|apply Kd.Qj|apply Kd.Qm);exact Kd.Qq (Kd.Qr (Kd.Qr (Kd.Qu a5.out μ.out (by decide)) (fun _ hk=>hk.2) _) (fun _ hk=>hk.2) _) (fun _ hk=>hk.1)⟩
       have κ :Aside0 (Kd.R k62 62 ((ck.setCell ⟨ρ,0,none⟩ (.slice cb aa.length cd)).setCell ⟨ρ,1,none⟩ (.slice ch ac.length ci)) w.heap.size (fun k_=>some k_≠(cv:Value).ownBlock) (.slice ch ac.length ci) ac):=⟨by(with_reducible repeat first|apply Kd.Qk|apply Kd.Qj|apply Kd.Qm);exact Kd.Qq (Kd.Qr (Kd.Qr (Kd.Qu a6.out μ.out (by decide)) (fun _ hk=>hk.2) _) (fun _ hk=>hk.2) _) (fun _ hk=>hk.1)⟩
       have χ :Aside0 (((ck.setCell ⟨ρ,0,none⟩ (.slice cb aa.length cd)).setCell ⟨ρ,1,none⟩ (.slice ch ac.length ci)).heap[aw]?=some (.cells #[.int .i64 D,.int .i64 I] 23 (0,0))):=⟨bka U⟩
       have ω :Aside0 (((ck.setCell ⟨ρ,0,none⟩ (.slice cb aa.length cd)).setCell ⟨ρ,1,none⟩ (.slice ch ac.length ci)).heap[an]?=some (.cells #[.slice ζ B.length γ,.slice η J.length δ] 27 (0,0))):=⟨bka O⟩
       have a1:Aside0 (((ck.setCell ⟨ρ,0,none⟩ (.slice cb aa.length cd)).setCell ⟨ρ,1,none⟩ (.slice ch ac.length ci)).heap[af]?=some (.cells #[.int .i64 Y,.int .i64 X,.int .i64 θ] 43 (0,0))):=⟨bka L⟩
       have ag:Aside0 (((ck.setCell ⟨ρ,0,none⟩ (.slice cb aa.length cd)).setCell ⟨ρ,1,none⟩ (.slice ch ac.length ci)).heap[ρ]?=some (.cells #[.slice cb aa.length cd,.slice ch ac.length ci] 27 (0,0))):=⟨by refine Qw (cs:=#[.slice cb aa.length cd,.slice none 0 0]) ?_ 1 _ rfl;refine Qw (cs:=#[.slice none 0 0,.slice none 0 0]) ?_ 0 _ rfl;exact μ.out⟩
       have ah:Aside0 (Below w.heap.size w ((ck.setCell ⟨ρ,0,none⟩ (.slice cb aa.length cd)).setCell ⟨ρ,1,none⟩ (.slice ch ac.length ci))):=⟨bel⟩
       (try clear τ)
       (try clear φ)
       (try clear a5)
       (try clear a6)
       (try clear U)
       (try clear O)
       (try clear L)
       (try clear μ)
       (try clear HB)
       generalize((ck.setCell ⟨ρ,0,none⟩ (.slice cb aa.length cd)).setCell ⟨ρ,1,none⟩ (.slice ch ac.length ci))=q5 at Z ε ι κ χ ω a1 ag ah ⊢
       have τ :=Z
       have φ := ε
       have a5:= ι
       have a6:= κ
       have U:= χ
       have O:= ω
       have L:=a1
       have μ :=ag
       have HB:=ah
       clear Z ε ι κ χ ω a1 ag ah
       replace τ :=Aside0.mk (Kd.Qm τ.out)
       replace φ :=Aside0.mk (Kd.Qm φ.out)
       replace a5:=Aside0.mk (Kd.Qm a5.out)
       replace a6:=Aside0.mk (Kd.Qm a6.out)
       replace U:=Aside0.mk (Qa U.out)
       replace O:=Aside0.mk (Qa O.out)
       replace L:=Aside0.mk (Qa L.out)
       replace μ :=Aside0.mk (Qa μ.out)
       replace HB:=Aside0.mk (Qf HB.out)
       refine Zm (n:=12) (S:=fun w'=>w'.cell? ⟨aw,0,none⟩=some (.int .i64 D)∧w'.cell? ⟨aw,1,none⟩=some (.int .i64 I)∧w'.cell? ⟨an,0,none⟩=some (.slice ζ B.length γ)∧w'.cell? ⟨an,1,none⟩=some (.slice η J.length δ)∧w'.cell? ⟨af,0,none⟩=some (.int .i64 Y)∧w'.cell? ⟨af,1,none⟩=some (.int .i64 X)∧w'.cell? ⟨af,2,none⟩=some (.int .i64 θ)) (ds:=[]) #[false,false,false,false,false,false,false,false,false,false,false,false] kr rfl rfl ⟨(Qi U.out 0).trans rfl,(Qi U.out 1).trans rfl,(Qi O.out 0).trans rfl,(Qi O.out 1).trans rfl,(Qi L.out 0).trans rfl,(Qi L.out 1).trans rfl,(Qi L.out 2).trans rfl⟩ (fun hHeld=>?_);refine Q7 newellaw19_CallServes.Kj newellaw19_CallServes.Jf (fun HT_ HW_=>?_)
       generalize q5.drew=vm at τ φ a5 a6 U O L μ HB hHeld ⊢
       refine qP 3 (some 27) (bN 12 8) HT_ ?_
       refine qT 0 (some 24) (bN 12 9) HT_ HW_ hHeld ?_
       refine qT 1 (some 25) (bN 12 11) HT_ HW_ hHeld ?_
       refine qT 4 (some 28) (bN 12 27) HT_ HW_ hHeld ?_
       refine Ku (σ:=Value×Value×Value×Value×Value×Nat) 2 (bN 12 1023) (fun s_=>[(26,.agg #[s_.1,s_.2.1]),(29,.tuple #[.agg #[s_.2.2.1,s_.2.2.2.1,s_.2.2.2.2.1],.int .i64 bv]),(9,.pointer (some ⟨s_.2.2.2.2.2,0,none⟩)),(23,.tuple #[.agg #[s_.2.2.1,s_.2.2.2.1,s_.2.2.2.2.1],.int .i64 bv]),(30,.agg #[s_.2.2.1,s_.2.2.2.1,s_.2.2.2.2.1]),(31,.int .i64 bv)]) (fun s_ w'=>(w'.cell? ⟨aw,0,none⟩=some (.int .i64 D)∧w'.cell? ⟨aw,1,none⟩=some (.int .i64 I)∧w'.cell? ⟨an,0,none⟩=some (.slice ζ B.length γ)∧w'.cell? ⟨an,1,none⟩=some (.slice η J.length δ)∧w'.cell? ⟨af,0,none⟩=some (.int .i64 Y)∧w'.cell? ⟨af,1,none⟩=some (.int .i64 X)∧w'.cell? ⟨af,2,none⟩=some (.int .i64 θ))∧(Kd.R k56 56 w' w.heap.size (fun k_=>some k_≠(.slice cb aa.length cd:Value).ownBlock∧some k_≠(s_.1:Value).ownBlock) cu bw)∧(Kd.R k62 62 w' w.heap.size (fun k_=>some k_≠(.slice ch ac.length ci:Value).ownBlock∧some k_≠(s_.2.1:Value).ownBlock) cv bz)∧(Kd.R k56 56 w' w.heap.size (fun k_=>some k_≠(cu:Value).ownBlock∧some k_≠(s_.1:Value).ownBlock) (.slice cb aa.length cd) aa)∧(Kd.R k62 62 w' w.heap.size (fun k_=>some k_≠(cv:Value).ownBlock∧some k_≠(s_.2.1:Value).ownBlock) (.slice ch ac.length ci) ac)∧(Kd.R k56 56 w' w.heap.size (fun k_=>some k_≠(cu:Value).ownBlock∧some k_≠(.slice cb aa.length cd:Value).ownBlock) s_.1 cn)∧(Kd.R k62 62 w' w.heap.size (fun k_=>some k_≠(cv:Value).ownBlock∧some k_≠(.slice ch ac.length ci:Value).ownBlock) s_.2.1 co)∧(Kd.R (Kd.int .i64) 3 w' w.heap.size (fun k_=>some k_≠(s_.2.2.2.1:Value).ownBlock∧some k_≠(s_.2.2.2.2.1:Value).ownBlock) s_.2.2.1 b7)∧(Kd.R (Kd.int .i64) 3 w' w.heap.size (fun k_=>some k_≠(s_.2.2.1:Value).ownBlock∧some k_≠(s_.2.2.2.2.1:Value).ownBlock) s_.2.2.2.1 b9)∧(Kd.R (Kd.int .i64) 3 w' w.heap.size (fun k_=>some k_≠(s_.2.2.1:Value).ownBlock∧some k_≠(s_.2.2.2.1:Value).ownBlock) s_.2.2.2.2.1 ba)∧(w'.heap[aw]?=some (.cells #[.int .i64 D,.int .i64 I] 23 (0,0)))∧(w'.heap[an]?=some (.cells #[.slice ζ B.length γ,.slice η J.length δ] 27 (0,0)))∧(w'.heap[af]?=some (.cells #[.int .i64 Y,.int .i64 X,.int .i64 θ] 43 (0,0)))∧(w'.heap[ρ]?=some (.cells #[.slice cb aa.length cd,.slice ch ac.length ci] 27 (0,0)))∧(w'.heap[s_.2.2.2.2.2]?=some (.cells #[.slice none 0 0,.slice none 0 0,.slice none 0 0] 47 (0,0)))∧(w.heap.size≤s_.2.2.2.2.2)∧(w.heap.size≤s_.2.2.2.2.2)∧(aw≠s_.2.2.2.2.2)∧(s_.2.2.2.2.2≠aw)∧(an≠s_.2.2.2.2.2)∧(s_.2.2.2.2.2≠an)∧(af≠s_.2.2.2.2.2)∧(s_.2.2.2.2.2≠af)∧(ρ≠s_.2.2.2.2.2)∧(s_.2.2.2.2.2≠ρ)∧(Below w.heap.size w w')) ?_ ?_
       rotate_left
       ·intro hCont
        refine J8 (i:=2) (j:=9) (Ni:=some 26) (Nj:=some 9) (bN 12 31) (bN 12 539) rfl rfl rfl rfl (X6 HT_.out kr) (by decide) (by decide) (fun K hK=>?_) (fun K hK=>?_)
        ·skip
         refine Zh Try.func12 kr rfl #[.agg #[.slice ζ B.length γ,.slice η J.length δ]] (by rfl) rfl rfl qM ?_
         with_reducible refine(newellaw19_Own.calls _ _ B _ _ J cn co _ ?side1 ?side2 ?side3 ?side4 A8.out).mono ?_
         (case side1=>exact(Kd.Qx ai.out HB.out))
         (case side2=>exact ay.out)
         (case side3=>exact(Kd.Qx ak.out HB.out))
         (case side4=>exact az.out)
         rintro e q6 ⟨fh,fi,rfl,ψ,a2,hb⟩
         refine⟨_,rfl, ?_⟩
         have ar:=Aside0.mk (Kd.Q1 (Kd.Zf (Kd.Zf ψ (Kd.Zq τ.out)) (Kd.Zq a5.out)) (Ql HB.out))
         have au:=Aside0.mk (Kd.Q1 (Kd.Zf (Kd.Zf a2 (Kd.Zq φ.out)) (Kd.Zq a6.out)) (Ql HB.out))
         replace τ :=Aside0.mk (Kd.Za τ.out (Kd.Zg ψ) hb)
         replace φ :=Aside0.mk (Kd.Za φ.out (Kd.Zg a2) hb)
         replace a5:=Aside0.mk (Kd.Za a5.out (Kd.Zg ψ) hb)
         replace a6:=Aside0.mk (Kd.Za a6.out (Kd.Zg a2) hb)
         replace U:=sBk U hb
         replace O:=sBk O hb
         replace L:=sBk L hb
         replace μ :=sBk μ hb
         replace HB:=sHb hb
         (try clear hb)
         (try clear a4)
         (try clear hk)
         (try clear hi)
         (try clear ψ)
         (try clear a2)
         obtain⟨mn,mo,mq⟩:=Kd.Q3 ar.out
         (first|subst mq|(injection mq with ν a7 ξ;have a8:= ν.symm;have a9:= ξ.symm;clear ν a7 ξ;subst a8;subst a9))
         obtain⟨fn,fo,fp⟩:=Kd.Q3 au.out
         (first|subst fp|(injection fp with ν a7 ξ;have a8:= ν.symm;have a9:= ξ.symm;clear ν a7 ξ;subst a8;subst a9))
         refine hK.out _ _ ⟨qc U,qc U,qc O,qc O,qc L,qc L,qc L⟩ (fun hHeld=>?_)
         clear hK K
         refine qN (some 26) ?_
         refine J8 (i:=5) (j:=9) (Ni:=some 29) (Nj:=some 9) (bN 12 63) (bN 12 543) rfl rfl rfl rfl (X6 HT_.out kr) (by decide) (by decide) (fun K hK=>?_) (fun K hK=>?_)
         ·skip
          refine Zh Try.func19 kr rfl #[.agg #[.int .i64 D,.int .i64 I],.agg #[.slice mn cn.length mo,.slice fn co.length fo],.int .i64 Y] (by rfl) rfl rfl qM ?_
          with_reducible refine(call_View.calls k D I _ _ cn _ _ co Y b7 b9 ba bv _ ?side1 ?side2 ?side3 ?side4 A9.out).mono ?_
          (case side1=>exact(Kd.Qp ar.out).2.2)
          (case side2=>exact(Kd.Qp ar.out).2.1)
          (case side3=>exact(Kd.Qp au.out).2.2)
          (case side4=>exact(Kd.Qp au.out).2.1)
          rintro e vn ⟨dk,dl,dm,rfl,ψ,a2,cz,hb⟩
          refine⟨_,rfl, ?_⟩
          have bn:=Aside0.mk (Kd.Q1 ψ (Ql HB.out))
          have bo:=Aside0.mk (Kd.Q1 a2 (Ql HB.out))
          have bp:=Aside0.mk (Kd.Q1 cz (Ql HB.out))
          replace τ :=sRb τ hb
          replace φ :=sRb φ hb
          replace a5:=sRb a5 hb
          replace a6:=sRb a6 hb
          replace ar:=sRb ar hb
          replace au:=sRb au hb
          replace U:=sBk U hb
          replace O:=sBk O hb
          replace L:=sBk L hb
          replace μ :=sBk μ hb
          replace HB:=sHb hb
          (try clear hb)
          (try clear a4)
          (try clear hk)
          (try clear hi)
          (try clear ψ)
          (try clear a2)
          (try clear cz)
          refine hK.out _ _ ⟨qc U,qc U,qc O,qc O,qc L,qc L,qc L⟩ (fun hHeld=>?_)
          clear hK K
          refine qN (some 29) ?_
          refine qP 6 (some 23) (bN 12 127) HT_ ?_
          refine qP 7 (some 30) (bN 12 255) HT_ ?_
          refine qP 8 (some 31) (bN 12 511) HT_ ?_
          refine Zi (i:=9) (N:=some 9) (bN 12 1023) rfl rfl (Q2 HT_.out kr) (by decide) (fun K hK=>?_)
          refine Xc ?hg (N:=9) ?hd (cs:=#[.slice none 0 0,.slice none 0 0,.slice none 0 0]) (t:=47) ?hr ?_;(case hd=>rfl);(case hg=>rfl);(case hr=>go_simp <;> rfl)
          intro a3 hg nv hbox hb
          have a0:=Aside0.mk hbox
          have ea:=sGe hg
          have eb:=sGe hg
          have al:=sNl U hg
          have b5:=sNg U hg
          have ao:=sNl O hg
          have bd:=sNg O hg
          have ae:=sNl L hg
          have b6:=sNg L hg
          have be:=sNl μ hg
          have bf:=sNg μ hg
          replace τ :=sRb τ hb
          replace φ :=sRb φ hb
          replace a5:=sRb a5 hb
          replace a6:=sRb a6 hb
          replace ar:=sRb ar hb
          replace au:=sRb au hb
          replace bn:=sRb bn hb
          replace bo:=sRb bo hb
          replace bp:=sRb bp hb
          replace U:=sBk U hb
          replace O:=sBk O hb
          replace L:=sBk L hb
          replace μ :=sBk μ hb
          replace HB:=sHb hb
          clear hb hbox hg
          refine hK.out _ _ ⟨qc U,qc U,qc O,qc O,qc L,qc L,qc L⟩ (fun hHeld=>?_)
          clear hK K
          refine qN (some 9) ?_
          exact Xe (by simp only[Zv,Act.put,qS]) (hCont (.slice mn cn.length mo,.slice fn co.length fo,dk,dl,dm,a3) _ ⟨hHeld,τ.out,φ.out,a5.out,a6.out,(by(with_reducible repeat first|apply Kd.Qk|apply Kd.Qj|apply Kd.Qm);exact Kd.Qq ar.out (fun _ hk=>⟨hk.1.2,hk.2⟩)),(by(with_reducible repeat first|apply Kd.Qk|apply Kd.Qj|apply Kd.Qm);exact Kd.Qq au.out (fun _ hk=>⟨hk.1.2,hk.2⟩)),bn.out,bo.out,bp.out,U.out,O.out,L.out,μ.out,a0.out,ea.out,eb.out,al.out,b5.out,ao.out,bd.out,ae.out,b6.out,be.out,bf.out,HB.out⟩)
         ·skip
          refine Xc ?hg (N:=9) ?hd (cs:=#[.slice none 0 0,.slice none 0 0,.slice none 0 0]) (t:=47) ?hr ?_;(case hd=>rfl);(case hg=>rfl);(case hr=>go_simp <;> rfl)
          intro a3 hg q7 hbox hb
          have a0:=Aside0.mk hbox
          have ea:=sGe hg
          have eb:=sGe hg
          have al:=sNl U hg
          have b5:=sNg U hg
          have ao:=sNl O hg
          have bd:=sNg O hg
          have ae:=sNl L hg
          have b6:=sNg L hg
          have be:=sNl μ hg
          have bf:=sNg μ hg
          replace τ :=sRb τ hb
          replace φ :=sRb φ hb
          replace a5:=sRb a5 hb
          replace a6:=sRb a6 hb
          replace ar:=sRb ar hb
          replace au:=sRb au hb
          replace U:=sBk U hb
          replace O:=sBk O hb
          replace L:=sBk L hb
          replace μ :=sBk μ hb
          replace HB:=sHb hb
          clear hb hbox hg
          obtain⟨fn,fo,fp⟩:=Kd.Q3 ar.out
          (first|subst fp|(injection fp with ν a7 ξ;have a8:= ν.symm;have a9:= ξ.symm;clear ν a7 ξ;subst a8;subst a9))
          obtain⟨h8,h9,ha⟩:=Kd.Q3 au.out
          (first|subst ha|(injection ha with ν a7 ξ;have a8:= ν.symm;have a9:= ξ.symm;clear ν a7 ξ;subst a8;subst a9))
          refine hK.out _ _ ⟨qc U,qc U,qc O,qc O,qc L,qc L,qc L⟩ (fun hHeld=>?_)
          clear hK K
          refine qN (some 9) ?_
          refine Zi (i:=5) (N:=some 29) (bN 12 575) rfl rfl (Q2 HT_.out kr) (by decide) (fun K hK=>?_)
          refine Zh Try.func19 kr rfl #[.agg #[.int .i64 D,.int .i64 I],.agg #[.slice fn cn.length fo,.slice h8 co.length h9],.int .i64 Y] (by rfl) rfl rfl qM ?_
          with_reducible refine(call_View.calls k D I _ _ cn _ _ co Y b7 b9 ba bv _ ?side1 ?side2 ?side3 ?side4 A9.out).mono ?_
          (case side1=>exact(Kd.Qp ar.out).2.2)
          (case side2=>exact(Kd.Qp ar.out).2.1)
          (case side3=>exact(Kd.Qp au.out).2.2)
          (case side4=>exact(Kd.Qp au.out).2.1)
          rintro e nv ⟨dk,dl,dm,rfl,ψ,a2,cz,hb⟩
          refine⟨_,rfl, ?_⟩
          have bn:=Aside0.mk (Kd.Q1 ψ (Ql HB.out))
          have bo:=Aside0.mk (Kd.Q1 a2 (Ql HB.out))
          have bp:=Aside0.mk (Kd.Q1 cz (Ql HB.out))
          replace τ :=sRb τ hb
          replace φ :=sRb φ hb
          replace a5:=sRb a5 hb
          replace a6:=sRb a6 hb
          replace ar:=sRb ar hb
          replace au:=sRb au hb
          replace U:=sBk U hb
          replace O:=sBk O hb
          replace L:=sBk L hb
          replace μ :=sBk μ hb
          replace a0:=sBk a0 hb
          replace HB:=sHb hb
          (try clear hb)
          (try clear a4)
          (try clear hk)
          (try clear hi)
          (try clear ψ)
          (try clear a2)
          (try clear cz)
          refine hK.out _ _ ⟨qc U,qc U,qc O,qc O,qc L,qc L,qc L⟩ (fun hHeld=>?_)
          clear hK K
          refine qN (some 29) ?_
          refine qP 6 (some 23) (bN 12 639) HT_ ?_
          refine qP 7 (some 30) (bN 12 767) HT_ ?_
          refine qP 8 (some 31) (bN 12 1023) HT_ ?_
          exact Xe (by simp only[Zv,Act.put,qS]) (hCont (.slice fn cn.length fo,.slice h8 co.length h9,dk,dl,dm,a3) _ ⟨hHeld,τ.out,φ.out,a5.out,a6.out,(by(with_reducible repeat first|apply Kd.Qk|apply Kd.Qj|apply Kd.Qm);exact Kd.Qq ar.out (fun _ hk=>⟨hk.1.2,hk.2⟩)),(by(with_reducible repeat first|apply Kd.Qk|apply Kd.Qj|apply Kd.Qm);exact Kd.Qq au.out (fun _ hk=>⟨hk.1.2,hk.2⟩)),bn.out,bo.out,bp.out,U.out,O.out,L.out,μ.out,a0.out,ea.out,eb.out,al.out,b5.out,ao.out,bd.out,ae.out,b6.out,be.out,bf.out,HB.out⟩)
        ·skip
         refine Xc ?hg (N:=9) ?hd (cs:=#[.slice none 0 0,.slice none 0 0,.slice none 0 0]) (t:=47) ?hr ?_;(case hd=>rfl);(case hg=>rfl);(case hr=>go_simp <;> rfl)
         intro a3 hg q6 hbox hb
         have a0:=Aside0.mk hbox
         have ea:=sGe hg
         have eb:=sGe hg
         have al:=sNl U hg
         have b5:=sNg U hg
         have ao:=sNl O hg
         have bd:=sNg O hg
         have ae:=sNl L hg
         have b6:=sNg L hg
         have be:=sNl μ hg
         have bf:=sNg μ hg
         replace τ :=sRb τ hb
         replace φ :=sRb φ hb
         replace a5:=sRb a5 hb
         replace a6:=sRb a6 hb
         replace U:=sBk U hb
         replace O:=sBk O hb
         replace L:=sBk L hb
         replace μ :=sBk μ hb
         replace HB:=sHb hb
         clear hb hbox hg
         refine hK.out _ _ ⟨qc U,qc U,qc O,qc O,qc L,qc L,qc L⟩ (fun hHeld=>?_)
         clear hK K
         refine qN (some 9) ?_
         refine Zi (i:=2) (N:=some 26) (bN 12 543) rfl rfl (Q2 HT_.out kr) (by decide) (fun K hK=>?_)
         refine Zh Try.func12 kr rfl #[.agg #[.slice ζ B.length γ,.slice η J.length δ]] (by rfl) rfl rfl qM ?_
         with_reducible refine(newellaw19_Own.calls _ _ B _ _ J cn co _ ?side1 ?side2 ?side3 ?side4 A8.out).mono ?_
         (case side1=>exact(Kd.Qx ai.out HB.out))
         (case side2=>exact ay.out)
         (case side3=>exact(Kd.Qx ak.out HB.out))
         (case side4=>exact az.out)
         rintro e q7 ⟨fh,fi,rfl,ψ,a2,hb⟩
         refine⟨_,rfl, ?_⟩
         have ar:=Aside0.mk (Kd.Q1 (Kd.Zf (Kd.Zf ψ (Kd.Zq τ.out)) (Kd.Zq a5.out)) (Ql HB.out))
         have au:=Aside0.mk (Kd.Q1 (Kd.Zf (Kd.Zf a2 (Kd.Zq φ.out)) (Kd.Zq a6.out)) (Ql HB.out))
         replace τ :=Aside0.mk (Kd.Za τ.out (Kd.Zg ψ) hb)
         replace φ :=Aside0.mk (Kd.Za φ.out (Kd.Zg a2) hb)
         replace a5:=Aside0.mk (Kd.Za a5.out (Kd.Zg ψ) hb)
         replace a6:=Aside0.mk (Kd.Za a6.out (Kd.Zg a2) hb)
         replace U:=sBk U hb
         replace O:=sBk O hb
         replace L:=sBk L hb
         replace μ :=sBk μ hb
         replace a0:=sBk a0 hb
         replace HB:=sHb hb
         (try clear hb)
         (try clear a4)
         (try clear hk)
         (try clear hi)
         (try clear ψ)
         (try clear a2)
         obtain⟨fn,fo,fp⟩:=Kd.Q3 ar.out
         (first|subst fp|(injection fp with ν a7 ξ;have a8:= ν.symm;have a9:= ξ.symm;clear ν a7 ξ;subst a8;subst a9))
         obtain⟨h8,h9,ha⟩:=Kd.Q3 au.out
         (first|subst ha|(injection ha with ν a7 ξ;have a8:= ν.symm;have a9:= ξ.symm;clear ν a7 ξ;subst a8;subst a9))
         refine hK.out _ _ ⟨qc U,qc U,qc O,qc O,qc L,qc L,qc L⟩ (fun hHeld=>?_)
         clear hK K
         refine qN (some 26) ?_
         refine Zi (i:=5) (N:=some 29) (bN 12 575) rfl rfl (Q2 HT_.out kr) (by decide) (fun K hK=>?_)
         refine Zh Try.func19 kr rfl #[.agg #[.int .i64 D,.int .i64 I],.agg #[.slice fn cn.length fo,.slice h8 co.length h9],.int .i64 Y] (by rfl) rfl rfl qM ?_
         with_reducible refine(call_View.calls k D I _ _ cn _ _ co Y b7 b9 ba bv _ ?side1 ?side2 ?side3 ?side4 A9.out).mono ?_
         (case side1=>exact(Kd.Qp ar.out).2.2)
         (case side2=>exact(Kd.Qp ar.out).2.1)
         (case side3=>exact(Kd.Qp au.out).2.2)
         (case side4=>exact(Kd.Qp au.out).2.1)
         rintro e nv ⟨dk,dl,dm,rfl,ψ,a2,cz,hb⟩
         refine⟨_,rfl, ?_⟩
         have bn:=Aside0.mk (Kd.Q1 ψ (Ql HB.out))
         have bo:=Aside0.mk (Kd.Q1 a2 (Ql HB.out))
         have bp:=Aside0.mk (Kd.Q1 cz (Ql HB.out))
         replace τ :=sRb τ hb
         replace φ :=sRb φ hb
         replace a5:=sRb a5 hb
         replace a6:=sRb a6 hb
         replace ar:=sRb ar hb
         replace au:=sRb au hb
         replace U:=sBk U hb
         replace O:=sBk O hb
         replace L:=sBk L hb
         replace μ :=sBk μ hb
         replace a0:=sBk a0 hb
         replace HB:=sHb hb
         (try clear hb)
         (try clear a4)
         (try clear hk)
         (try clear hi)
         (try clear ψ)
         (try clear a2)
         (try clear cz)
         refine hK.out _ _ ⟨qc U,qc U,qc O,qc O,qc L,qc L,qc L⟩ (fun hHeld=>?_)
         clear hK K
         refine qN (some 29) ?_
         refine qP 6 (some 23) (bN 12 639) HT_ ?_
         refine qP 7 (some 30) (bN 12 767) HT_ ?_
         refine qP 8 (some 31) (bN 12 1023) HT_ ?_
         exact Xe (by simp only[Zv,Act.put,qS]) (hCont (.slice fn cn.length fo,.slice h8 co.length h9,dk,dl,dm,a3) _ ⟨hHeld,τ.out,φ.out,a5.out,a6.out,(by(with_reducible repeat first|apply Kd.Qk|apply Kd.Qj|apply Kd.Qm);exact Kd.Qq ar.out (fun _ hk=>⟨hk.1.2,hk.2⟩)),(by(with_reducible repeat first|apply Kd.Qk|apply Kd.Qj|apply Kd.Qm);exact Kd.Qq au.out (fun _ hk=>⟨hk.1.2,hk.2⟩)),bn.out,bo.out,bp.out,U.out,O.out,L.out,μ.out,a0.out,ea.out,eb.out,al.out,b5.out,ao.out,bd.out,ae.out,b6.out,be.out,bf.out,HB.out⟩)
       rintro⟨fh,fi,dk,dl,dm,a3⟩ cw ⟨hS_,da,db,dc,dd,de,ev,ew,ey,ez,f3,dx,dy,dz,e0,e3,e4,e5,iu,iv,iw,ix,iy,iz,j3,j4⟩
       have Z:Aside0 (Kd.R k56 56 cw w.heap.size (fun k_=>some k_≠(.slice cb aa.length cd:Value).ownBlock∧some k_≠(fh:Value).ownBlock) cu bw):=⟨da⟩
       have ε :Aside0 (Kd.R k62 62 cw w.heap.size (fun k_=>some k_≠(.slice ch ac.length ci:Value).ownBlock∧some k_≠(fi:Value).ownBlock) cv bz):=⟨db⟩
       have ι :Aside0 (Kd.R k56 56 cw w.heap.size (fun k_=>some k_≠(cu:Value).ownBlock∧some k_≠(fh:Value).ownBlock) (.slice cb aa.length cd) aa):=⟨dc⟩
       have κ :Aside0 (Kd.R k62 62 cw w.heap.size (fun k_=>some k_≠(cv:Value).ownBlock∧some k_≠(fi:Value).ownBlock) (.slice ch ac.length ci) ac):=⟨dd⟩
       have χ :Aside0 (Kd.R k56 56 cw w.heap.size (fun k_=>some k_≠(cu:Value).ownBlock∧some k_≠(.slice cb aa.length cd:Value).ownBlock) fh cn):=⟨de⟩
       have ω :Aside0 (Kd.R k62 62 cw w.heap.size (fun k_=>some k_≠(cv:Value).ownBlock∧some k_≠(.slice ch ac.length ci:Value).ownBlock) fi co):=⟨ev⟩
       have a1:Aside0 (Kd.R (Kd.int .i64) 3 cw w.heap.size (fun k_=>some k_≠(dl:Value).ownBlock∧some k_≠(dm:Value).ownBlock) dk b7):=⟨ew⟩
       have ag:Aside0 (Kd.R (Kd.int .i64) 3 cw w.heap.size (fun k_=>some k_≠(dk:Value).ownBlock∧some k_≠(dm:Value).ownBlock) dl b9):=⟨ey⟩
       have ah:Aside0 (Kd.R (Kd.int .i64) 3 cw w.heap.size (fun k_=>some k_≠(dk:Value).ownBlock∧some k_≠(dl:Value).ownBlock) dm ba):=⟨ez⟩
       have ax:Aside0 (cw.heap[aw]?=some (.cells #[.int .i64 D,.int .i64 I] 23 (0,0))):=⟨f3⟩
       have aj:Aside0 (cw.heap[an]?=some (.cells #[.slice ζ B.length γ,.slice η J.length δ] 27 (0,0))):=⟨dx⟩
       have ap:Aside0 (cw.heap[af]?=some (.cells #[.int .i64 Y,.int .i64 X,.int .i64 θ] 43 (0,0))):=⟨dy⟩
       have b8:Aside0 (cw.heap[ρ]?=some (.cells #[.slice cb aa.length cd,.slice ch ac.length ci] 27 (0,0))):=⟨dz⟩
       have bg:Aside0 (cw.heap[a3]?=some (.cells #[.slice none 0 0,.slice none 0 0,.slice none 0 0] 47 (0,0))):=⟨e0⟩
       have bh:Aside0 (w.heap.size≤a3):=⟨e3⟩
       have bs:Aside0 (w.heap.size≤a3):=⟨e4⟩
       have bu:Aside0 (aw≠a3):=⟨e5⟩
       have d8:Aside0 (a3≠aw):=⟨iu⟩
       have d9:Aside0 (an≠a3):=⟨iv⟩
       have g7:Aside0 (a3≠an):=⟨iw⟩
       have g8:Aside0 (af≠a3):=⟨ix⟩
       have g9:Aside0 (a3≠af):=⟨iy⟩
       have j5:Aside0 (ρ≠a3):=⟨iz⟩
       have j6:Aside0 (a3≠ρ):=⟨j3⟩
       have j7:Aside0 (Below w.heap.size w cw):=⟨j4⟩
       clear τ
       clear φ
       clear a5
       clear a6
       clear U
       clear O
       clear L
       clear μ
       clear HB
       clear da db dc dd de ev ew ey ez f3 dx dy dz e0 e3 e4 e5 iu iv iw ix iy iz j3 j4
       have τ :=Z
       have φ := ε
       have a5:= ι
       have a6:= κ
       have ar:= χ
       have au:= ω
       have bn:=a1
       have bo:=ag
       have bp:=ah
       have U:=ax
       have O:=aj
       have L:=ap
       have μ :=b8
       have a0:=bg
       have ea:=bh
       have eb:=bs
       have al:=bu
       have b5:=d8
       have ao:=d9
       have bd:=g7
       have ae:=g8
       have b6:=g9
       have be:=j5
       have bf:=j6
       have HB:=j7
       clear Z ε ι κ χ ω a1 ag ah ax aj ap b8 bg bh bs bu d8 d9 g7 g8 g9 j5 j6 j7
       have hHeld:cw.cell? ⟨aw,0,none⟩=some (.int .i64 D)∧cw.cell? ⟨aw,1,none⟩=some (.int .i64 I)∧cw.cell? ⟨an,0,none⟩=some (.slice ζ B.length γ)∧cw.cell? ⟨an,1,none⟩=some (.slice η J.length δ)∧cw.cell? ⟨af,0,none⟩=some (.int .i64 Y)∧cw.cell? ⟨af,1,none⟩=some (.int .i64 X)∧cw.cell? ⟨af,2,none⟩=some (.int .i64 θ):=hS_
       obtain⟨he,hh,mr⟩:=Kd.Q3 bn.out
       (first|subst mr|(injection mr with ν a7 ξ;have a8:= ν.symm;have a9:= ξ.symm;clear ν a7 ξ;subst a8;subst a9))
       obtain⟨ij,ik,ms⟩:=Kd.Q3 bo.out
       (first|subst ms|(injection ms with ν a7 ξ;have a8:= ν.symm;have a9:= ξ.symm;clear ν a7 ξ;subst a8;subst a9))
       obtain⟨kk,kl,mt⟩:=Kd.Q3 bp.out
       (first|subst mt|(injection mt with ν a7 ξ;have a8:= ν.symm;have a9:= ξ.symm;clear ν a7 ξ;subst a8;subst a9))
       refine Xe (a':=?_) ?_ ?_
       rotate_left
       ·simp only[Zv,Act.put,qS]
        rfl
       refine Zi (i:=10) (N:=none) (bN 12 2047) rfl rfl (Q2 HT_.out kr) (by decide) (fun K hK=>?_)
       have uy:cw.cell? ⟨a3,0,none⟩=some (.slice none 0 0):=(Qi a0.out 0).trans rfl
       have u0:=Q6 a0.out 0
       have q8:=al.out
       have q9:=ao.out
       have qa:=ae.out
       have qb:=be.out
       have qd:=b5.out
       have qe:=bd.out
       have qf:=b6.out
       have qg:=bf.out
       have uz:cw.cell? ⟨a3,1,none⟩=some (.slice none 0 0):=(Qi a0.out 1).trans rfl
       have u1:=Q6 a0.out 1
       have qh:=al.out
       have qi:=ao.out
       have qj:=ae.out
       have qk:=be.out
       have ql:=b5.out
       have qm:=bd.out
       have qn:=b6.out
       have qo:=bf.out
       have v0:cw.cell? ⟨a3,2,none⟩=some (.slice none 0 0):=(Qi a0.out 2).trans rfl
       have u2:=Q6 a0.out 2
       have qp:=al.out
       have qq:=ao.out
       have qs:=ae.out
       have qt:=be.out
       have qu:=b5.out
       have qv:=bd.out
       have qw:=b6.out
       have qx:=bf.out
       refine Yl (w1:=?_) (by rfl) rfl ?_ ?_
       rotate_left
       ·go_simp
        rfl
       refine hK.out _ _ ⟨((cell_far (p:=⟨a3,_,none⟩) al.out _).trans (((cell_far (p:=⟨a3,_,none⟩) al.out _).trans (((cell_far (p:=⟨a3,_,none⟩) al.out _).trans (hHeld.1)))))),((cell_far (p:=⟨a3,_,none⟩) al.out _).trans (((cell_far (p:=⟨a3,_,none⟩) al.out _).trans (((cell_far (p:=⟨a3,_,none⟩) al.out _).trans (hHeld.2.1)))))),((cell_far (p:=⟨a3,_,none⟩) ao.out _).trans (((cell_far (p:=⟨a3,_,none⟩) ao.out _).trans (((cell_far (p:=⟨a3,_,none⟩) ao.out _).trans (hHeld.2.2.1)))))),((cell_far (p:=⟨a3,_,none⟩) ao.out _).trans (((cell_far (p:=⟨a3,_,none⟩) ao.out _).trans (((cell_far (p:=⟨a3,_,none⟩) ao.out _).trans (hHeld.2.2.2.1)))))),((cell_far (p:=⟨a3,_,none⟩) ae.out _).trans (((cell_far (p:=⟨a3,_,none⟩) ae.out _).trans (((cell_far (p:=⟨a3,_,none⟩) ae.out _).trans (hHeld.2.2.2.2.1)))))),((cell_far (p:=⟨a3,_,none⟩) ae.out _).trans (((cell_far (p:=⟨a3,_,none⟩) ae.out _).trans (((cell_far (p:=⟨a3,_,none⟩) ae.out _).trans (hHeld.2.2.2.2.2.1)))))),((cell_far (p:=⟨a3,_,none⟩) ae.out _).trans (((cell_far (p:=⟨a3,_,none⟩) ae.out _).trans (((cell_far (p:=⟨a3,_,none⟩) ae.out _).trans (hHeld.2.2.2.2.2.2))))))⟩ (fun hHeld=>?_)
       clear hK K
       refine qP 11 (some 10) (bN 12 4095) HT_ ?_
       refine Zr (Ze HT_.out kr) ?_
       have u3:=di.out
       have u4:=dj.out
       have u5:=b0.out
       have u6:=bb.out
       have u7:=al.out
       have u9:=b5.out
       obtain⟨qy,qz,r0,r1⟩:=qD2 U.out
       have ua:=b4.out
       have ub:=bi.out
       have uc:=ao.out
       have ud:=bd.out
       obtain⟨r2,r3,r4,r5⟩:=qD2 O.out
       try go_wp2_with (first|((with_reducible refine Q0 (f:=13) rfl ?_);refine Zl (some 34) rfl rfl Try.func13 kr rfl #[.agg #[.int .i64 D,.int .i64 I],.agg #[.slice ζ B.length γ,.slice η J.length δ]] rfl qM ?_;(with_reducible refine(newelref19_May.calls k D I _ _ B _ _ J false _ ?side1 ?side2 ?side3 ?side4 i4.out).mono ?_);(case side1=>exact Kd.Qx ai.out bel);(case side2=>exact ay.out);(case side3=>exact Kd.Qx ak.out bel);(case side4=>exact az.out);rintro e vo ⟨rfl,hb⟩;refine⟨_,rfl, ?_⟩;replace τ :=Aside0.mk (Kd.Qt (by(with_reducible repeat first|apply Kd.Qk|apply Kd.Qj|apply Kd.Qm);exact(Kd.Qq (Kd.Qr (Kd.Qr (Kd.Qr (Kd.Qu τ.out a0.out (by decide)) (fun _ hk=>hk.2) _) (fun _ hk=>hk.2) _) (fun _ hk=>hk.2) _) (fun _ h_=>h_.1))) hb);replace φ :=Aside0.mk (Kd.Qt (by(with_reducible repeat first|apply Kd.Qk|apply Kd.Qj|apply Kd.Qm);exact(Kd.Qq (Kd.Qr (Kd.Qr (Kd.Qr (Kd.Qu φ.out a0.out (by decide)) (fun _ hk=>hk.2) _) (fun _ hk=>hk.2) _) (fun _ hk=>hk.2) _) (fun _ h_=>h_.1))) hb);replace a5:=Aside0.mk (Kd.Qt (by(with_reducible repeat first|apply Kd.Qk|apply Kd.Qj|apply Kd.Qm);exact(Kd.Qq (Kd.Qr (Kd.Qr (Kd.Qr (Kd.Qu a5.out a0.out (by decide)) (fun _ hk=>hk.2) _) (fun _ hk=>hk.2) _) (fun _ hk=>hk.2) _) (fun _ h_=>h_.1))) hb);replace a6:=Aside0.mk (Kd.Qt (by(with_reducible repeat first|apply Kd.Qk|apply Kd.Qj|apply Kd.Qm);exact(Kd.Qq (Kd.Qr (Kd.Qr (Kd.Qr (Kd.Qu a6.out a0.out (by decide)) (fun _ hk=>hk.2) _) (fun _ hk=>hk.2) _) (fun _ hk=>hk.2) _) (fun _ h_=>h_.1))) hb);replace ar:=Aside0.mk (Kd.Qt (by(with_reducible repeat first|apply Kd.Qk|apply Kd.Qj|apply Kd.Qm);exact(Kd.Qq (Kd.Qr (Kd.Qr (Kd.Qr (Kd.Qu ar.out a0.out (by decide)) (fun _ hk=>hk.2) _) (fun _ hk=>hk.2) _) (fun _ hk=>hk.2) _) (fun _ h_=>h_.1))) hb);replace au:=Aside0.mk (Kd.Qt (by(with_reducible repeat first|apply Kd.Qk|apply Kd.Qj|apply Kd.Qm);exact(Kd.Qq (Kd.Qr (Kd.Qr (Kd.Qr (Kd.Qu au.out a0.out (by decide)) (fun _ hk=>hk.2) _) (fun _ hk=>hk.2) _) (fun _ hk=>hk.2) _) (fun _ h_=>h_.1))) hb);replace bn:=Aside0.mk (Kd.Qt (by(with_reducible repeat first|apply Kd.Qk|apply Kd.Qj|apply Kd.Qm);exact(Kd.Qq (Kd.Qr (Kd.Qr (Kd.Qr (Kd.Qu bn.out a0.out (by decide)) (fun _ hk=>hk.2) _) (fun _ hk=>hk.2) _) (fun _ hk=>hk.2) _) (fun _ h_=>h_.1))) hb);replace bo:=Aside0.mk (Kd.Qt (by(with_reducible repeat first|apply Kd.Qk|apply Kd.Qj|apply Kd.Qm);exact(Kd.Qq (Kd.Qr (Kd.Qr (Kd.Qr (Kd.Qu bo.out a0.out (by decide)) (fun _ hk=>hk.2) _) (fun _ hk=>hk.2) _) (fun _ hk=>hk.2) _) (fun _ h_=>h_.1))) hb);replace bp:=Aside0.mk (Kd.Qt (by(with_reducible repeat first|apply Kd.Qk|apply Kd.Qj|apply Kd.Qm);exact(Kd.Qq (Kd.Qr (Kd.Qr (Kd.Qr (Kd.Qu bp.out a0.out (by decide)) (fun _ hk=>hk.2) _) (fun _ hk=>hk.2) _) (fun _ hk=>hk.2) _) (fun _ h_=>h_.1))) hb);replace U:=sBk U hb;replace O:=sBk O hb;replace L:=sBk L hb;replace μ :=sBk μ hb;replace a0:=Aside0.mk (Qn (g:=a3) (o:=.cells #[.slice he b7.length hh,.slice ij b9.length ik,.slice kk ba.length kl] 47 (0,0)) (by(with_reducible repeat first|apply Qe|apply Qa|apply Qb);refine Qw (cs:=#[.slice he b7.length hh,.slice ij b9.length ik,.slice none 0 0]) ?_ 2 _ rfl;(with_reducible repeat first|apply Qe|apply Qa|apply Qb);refine Qw (cs:=#[.slice he b7.length hh,.slice none 0 0,.slice none 0 0]) ?_ 1 _ rfl;(with_reducible repeat first|apply Qe|apply Qa|apply Qb);refine Qw (cs:=#[.slice none 0 0,.slice none 0 0,.slice none 0 0]) ?_ 0 _ rfl;(with_reducible repeat first|apply Qe|apply Qa|apply Qb);exact a0.out) hb);replace HB:=sHb hb;(try clear hb);(try clear a4);(try clear hk);(try clear hi))|((with_reducible refine Q0 (f:=10) rfl ?_);refine Zl (some 36) rfl rfl Try.func10 kr rfl #[] rfl qM ?_;(with_reducible refine(newellaw19_awake.calls k  true _ pg.out).mono ?_);rintro e vp ⟨rfl,hb⟩;refine⟨_,rfl, ?_⟩;replace τ :=sRb τ hb;replace φ :=sRb φ hb;replace a5:=sRb a5 hb;replace a6:=sRb a6 hb;replace ar:=sRb ar hb;replace au:=sRb au hb;replace bn:=sRb bn hb;replace bo:=sRb bo hb;replace bp:=sRb bp hb;replace U:=sBk U hb;replace O:=sBk O hb;replace L:=sBk L hb;replace μ :=sBk μ hb;replace a0:=sBk a0 hb;replace HB:=sHb hb;(try clear hb);(try clear a4);(try clear hk);(try clear hi);have ue:=bc.out;have uf:=am.out;have ug:=be.out;have uh:=bf.out;obtain⟨r6,r7,r8,r9⟩:=qD2 μ.out)|(go_at_call 15;(refine(newelref19_Same.calls k _ _ aa _ _ ac _ _ ([]:List (S56)) _ _ ([]:List (S62)) true _ ?side1 ?side2 ?side3 ?side4 ?side5 ?side6 ?side7 ?side8 pi.out).mono ?_);(case side1=>repeat(first|exact(Kd.Qp a5.out).2.2|(with_reducible refine Kd.Q9 ?_ _)|(with_reducible refine Kd.Q8 ?_ _)|(with_reducible refine Kd.Zc ?_)));(case side2=>exact(Kd.Qp a5.out).2.1);(case side3=>repeat(first|exact(Kd.Qp a6.out).2.2|(with_reducible refine Kd.Q9 ?_ _)|(with_reducible refine Kd.Q8 ?_ _)|(with_reducible refine Kd.Zc ?_)));(case side4=>exact(Kd.Qp a6.out).2.1);(case side5=>exact Kd.Y1 _ _);(case side6=>exact Nat.le_refl _);(case side7=>exact Kd.Y1 _ _);(case side8=>exact Nat.le_refl _);rintro e vq ⟨rfl,hb⟩;have Z:=Aside0.mk (Kd.Qt (kra τ) hb);have ε :=Aside0.mk (Kd.Qt (kra φ) hb);have ι :=Aside0.mk (Kd.Qt (kra a5) hb);have κ :=Aside0.mk (Kd.Qt (kra a6) hb);have χ :=Aside0.mk (Kd.Qt (kra ar) hb);have ω :=Aside0.mk (Kd.Qt (kra au) hb);have a1:=Aside0.mk (Kd.Qt (kra bn) hb);have ag:=Aside0.mk (Kd.Qt (kra bo) hb);have ah:=Aside0.mk (Kd.Qt (kra bp) hb);have ax:=Aside0.mk (Qn (g:=aw) (o:=.cells #[.int .i64 D,.int .i64 I] 23 (0,0)) (bka U) hb);have aj:=Aside0.mk (Qn (g:=an) (o:=.cells #[.slice ζ B.length γ,.slice η J.length δ] 27 (0,0)) (bka O) hb);have ap:=Aside0.mk (Qn (g:=af) (o:=.cells #[.int .i64 Y,.int .i64 X,.int .i64 θ] 43 (0,0)) (bka L) hb);have b8:=Aside0.mk (Qn (g:=ρ) (o:=.cells #[.slice cb aa.length cd,.slice ch ac.length ci] 27 (0,0)) (bka μ) hb);have bg:=Aside0.mk (Qn (g:=a3) (o:=.cells #[.slice he b7.length hh,.slice ij b9.length ik,.slice kk ba.length kl] 47 (0,0)) (bka a0) hb);have bh:=Aside0.mk (Qv bel hb);clear τ;clear φ;clear a5;clear a6;clear ar;clear au;clear bn;clear bo;clear bp;clear U;clear O;clear L;clear μ;clear a0;clear HB;have τ :=Z;have φ := ε;have a5:= ι;have a6:= κ;have ar:= χ;have au:= ω;have bn:=a1;have bo:=ag;have bp:=ah;have U:=ax;have O:=aj;have L:=ap;have μ :=b8;have a0:=bg;have HB:=bh;clear Z ε ι κ χ ω a1 ag ah ax aj ap b8 bg bh;(try clear hb);(try clear a4);(try clear hk);(try clear hi);have ui:=b6.out;have uj:=ae.out;obtain⟨ra,rb,rc,re,rf,rh⟩:=qD3 a0.out)|(go_at_call 20;(refine(newelref19_SameView.calls k _ _ b7 _ _ b9 _ _ ba _ _ ([]:List Int) _ _ ([]:List Int) _ _ ([]:List Int) ce _ ?side1 ?side2 ?side3 ?side4 ?side5 ?side6 ?side7 ?side8 ?side9 ?side10 ?side11 ?side12 pj.out).mono ?_);(case side1=>repeat(first|exact(Kd.Qp bn.out).2.2|(with_reducible refine Kd.Q9 ?_ _)|(with_reducible refine Kd.Q8 ?_ _)|(with_reducible refine Kd.Zc ?_)));(case side2=>exact(Kd.Qp bn.out).2.1);(case side3=>repeat(first|exact(Kd.Qp bo.out).2.2|(with_reducible refine Kd.Q9 ?_ _)|(with_reducible refine Kd.Q8 ?_ _)|(with_reducible refine Kd.Zc ?_)));(case side4=>exact(Kd.Qp bo.out).2.1);(case side5=>repeat(first|exact(Kd.Qp bp.out).2.2|(with_reducible refine Kd.Q9 ?_ _)|(with_reducible refine Kd.Q8 ?_ _)|(with_reducible refine Kd.Zc ?_)));(case side6=>exact(Kd.Qp bp.out).2.1);(case side7=>exact Kd.Y1 _ _);(case side8=>exact Nat.le_refl _);(case side9=>exact Kd.Y1 _ _);(case side10=>exact Nat.le_refl _);(case side11=>exact Kd.Y1 _ _);(case side12=>exact Nat.le_refl _);rintro e vr ⟨rfl,hb⟩;have Z:=Aside0.mk (Kd.Qt (kra τ) hb);have ε :=Aside0.mk (Kd.Qt (kra φ) hb);have ι :=Aside0.mk (Kd.Qt (kra a5) hb);have κ :=Aside0.mk (Kd.Qt (kra a6) hb);have χ :=Aside0.mk (Kd.Qt (kra ar) hb);have ω :=Aside0.mk (Kd.Qt (kra au) hb);have a1:=Aside0.mk (Kd.Qt (kra bn) hb);have ag:=Aside0.mk (Kd.Qt (kra bo) hb);have ah:=Aside0.mk (Kd.Qt (kra bp) hb);have ax:=Aside0.mk (Qn (g:=aw) (o:=.cells #[.int .i64 D,.int .i64 I] 23 (0,0)) (bka U) hb);have aj:=Aside0.mk (Qn (g:=an) (o:=.cells #[.slice ζ B.length γ,.slice η J.length δ] 27 (0,0)) (bka O) hb);have ap:=Aside0.mk (Qn (g:=af) (o:=.cells #[.int .i64 Y,.int .i64 X,.int .i64 θ] 43 (0,0)) (bka L) hb);have b8:=Aside0.mk (Qn (g:=ρ) (o:=.cells #[.slice cb aa.length cd,.slice ch ac.length ci] 27 (0,0)) (bka μ) hb);have bg:=Aside0.mk (Qn (g:=a3) (o:=.cells #[.slice he b7.length hh,.slice ij b9.length ik,.slice kk ba.length kl] 47 (0,0)) (bka a0) hb);have bh:=Aside0.mk (Qv bel hb);clear τ;clear φ;clear a5;clear a6;clear ar;clear au;clear bn;clear bo;clear bp;clear U;clear O;clear L;clear μ;clear a0;clear HB;have τ :=Z;have φ := ε;have a5:= ι;have a6:= κ;have ar:= χ;have au:= ω;have bn:=a1;have bo:=ag;have bp:=ah;have U:=ax;have O:=aj;have L:=ap;have μ :=b8;have a0:=bg;have HB:=bh;clear Z ε ι κ χ ω a1 ag ah ax aj ap b8 bg bh;(try clear hb);(try clear a4);(try clear hk);(try clear hi)))
       go_ret
       exact⟨rfl,HB.out⟩
      ·replace kj:=Bool.eq_false_iff.mpr kj
       subst kj
       have H1:(none)=some r:=by rw[if_neg (show ¬ (false=true) by decide)] at H;exact H
       clear H
       have H:=H1
       clear H1
       exact absurd H (by simp)
     ·rw[if_neg jb] at H
      exact absurd H (by simp)
    ·rw[if_neg ja] at H
     exact absurd H (by simp)
   ·replace ki:=Bool.eq_false_iff.mpr ki
    subst ki
    have H1:(none)=some r:=by rw[if_neg (show ¬ (false=true) by decide)] at H;exact H
    clear H
    have H:=H1
    clear H1
    exact absurd H (by simp)
 ·replace c5:=Bool.eq_false_iff.mpr c5
  subst c5
  have H1:((newellaw19_awake.f k).bind fun fr=>(some fr))=some r:=by rw[if_neg (show ¬ (false=true) by decide)] at H;exact H
  clear H
  have H:=H1
  clear H1
  replace H:=Option.bind_eq_some_iff.mp H
  obtain⟨fr,mu,H⟩:=H
  replace H:(some fr)=some r:=H
  have ri:=Aside0.mk mu
  clear mu
  obtain rfl:=Option.some.inj H
  go_enter Try.func4,Try.ntmps4
  go_wp2_with (first|((with_reducible refine Qs (N:=3) rfl ?_);refine qE 3 #[.int .i64 D,.int .i64 I] 23 ?_;intro aw hg vs hbox hb;have U:=Aside0.mk hbox;have lz:=sGe hg;have m0:=sGe hg;replace HB:=sHb hb;clear hb hbox hg)|((with_reducible refine Qs (N:=4) rfl ?_);refine qE 4 #[.slice ζ B.length γ,.slice η J.length δ] 27 ?_;intro an hg vt hbox hb;have O:=Aside0.mk hbox;have m1:=sGe hg;have m2:=sGe hg;have df:=sNl U hg;have dh:=sNg U hg;replace U:=sBk U hb;replace HB:=sHb hb;clear hb hbox hg)|((with_reducible refine Qs (N:=5) rfl ?_);refine qE 5 #[.int .i64 Y,.int .i64 X,.int .i64 θ] 43 ?_;intro af hg vu hbox hb;have L:=Aside0.mk hbox;have m3:=sGe hg;have m4:=sGe hg;have di:=sNl U hg;have dj:=sNg U hg;have d3:=sNl O hg;have d4:=sNg O hg;replace U:=sBk U hb;replace O:=sBk O hb;replace HB:=sHb hb;clear hb hbox hg;have uk:=dh.out;have ul:=df.out;have um:=d3.out;have un:=d4.out;obtain⟨rj,rk,rl,rm⟩:=qD2 O.out)|((with_reducible refine Q0 (f:=9) rfl ?_);refine Zl (some 12) rfl rfl Try.func9 kr rfl #[.agg #[.slice ζ B.length γ,.slice η J.length δ]] rfl qM ?_;(with_reducible refine(newelref19_Few.calls _ _ B _ _ J false _ ?side1 ?side2 ?side3 ?side4 A4.out).mono ?_);(case side1=>exact(Kd.Qx ai.out HB.out));(case side2=>exact ay.out);(case side3=>exact(Kd.Qx ak.out HB.out));(case side4=>exact az.out);rintro e vv ⟨rfl,hb⟩;refine⟨_,rfl, ?_⟩;replace U:=sBk U hb;replace O:=sBk O hb;replace L:=sBk L hb;replace HB:=sHb hb;(try clear hb);(try clear a4);(try clear hk);(try clear hi))|((with_reducible refine Q0 (f:=10) rfl ?_);refine Zl (some 14) rfl rfl Try.func10 kr rfl #[] rfl qM ?_;(with_reducible refine(newellaw19_awake.calls k  fr _ ri.out).mono ?_);rintro e vw ⟨rfl,hb⟩;refine⟨_,rfl, ?_⟩;replace U:=sBk U hb;replace O:=sBk O hb;replace L:=sBk L hb;replace HB:=sHb hb;(try clear hb);(try clear a4);(try clear hk);(try clear hi)))
  go_ret
  exact⟨rfl,HB.out⟩
end Go.Proofs.Ytjehhhlhalkieaa.C
