/- Texts of this claim, one behind the other: what the law's functions come to, walked (printed by a program, with the words that the print uses), and what that is, in plain Lean. No conditions of their own. -/
import Derived.Test.YtjehhhlhalkieaaQCallGives9
namespace Go.Proofs.Ytjehhhlhalkieaa.C
open Go.RowKit Go.Proofs.YtjehhhlhalkieaaW.PrintWords Go.Proofs.YtjehhhlhalkieaaW.PrintLast Go.Proofs.YtjehhhlhalkieaaW.PrintMore
attribute [local go_sem] Zk Zi Zt Zs Zd Zc Zj Zh
set_option linter.unusedVariables false
set_option linter.unusedSimpArgs false
def newellaw19_CallGives.f (k:Nat) (I:Int) (J:Int) (B:List (S56)) (D:List (S62)) (ζ :Int) (L:Int) (η :Int):Option (Bool):=(newelref19_Few.f B D).bind fun ej=>(if ej=true then ((newellaw19_Own.f B D).bind fun d1=>((call_Give.f k I J d1.1 d1.2 ζ L η).bind fun a9=>((newelref19_May.f k I J B D).bind fun d2=>(if d2=true then ((newelref19_Hall.f k I J ζ L η).bind fun bw=>(if bw=true then ((newellaw19_awake.f k).bind fun bm=>(if bm=true then (if a9.2.2=0 then ((newelref19_Give.f k B D ζ L η).bind fun b1=>((newelref19_Same.f k a9.1 a9.2.1 b1.1 b1.2).bind fun bd=>(if bd=true then ((call_Same.f k B D a9.1 a9.2.1).bind fun b9=>((newelref19_Same.f k B D a9.1 a9.2.1).bind fun b4=>(some (b9==b4)))) else (none)))) else (none)) else (none))) else ((newellaw19_awake.f k).bind fun bn=>(if bn=true then (if a9.2.2=191 then ((newelref19_Same.f k a9.1 a9.2.1 ([]:List (S56)) ([]:List (S62))).bind fun bh=>(some bh)) else (none)) else (none))))) else ((newellaw19_awake.f k).bind fun cd=>(if cd=true then (if a9.2.2=190 then ((newelref19_Same.f k a9.1 a9.2.1 ([]:List (S56)) ([]:List (S62))).bind fun bo=>(some bo)) else (none)) else (none))))))) else ((newellaw19_awake.f k).bind fun d7=>(some d7)))
theorem newellaw19_CallGives.mono:∀ I D a2 a3 J a5 L k,LeO (newellaw19_CallGives.f k I D a2 a3 J a5 L) (newellaw19_CallGives.f (k+1) I D a2 a3 J a5 L):=by
 intro I D a2 a3 J a5 L k
 unfold newellaw19_CallGives.f
 repeat' first
   |(with_reducible exact call_Give.mono _ _ _ _ _ _ _ _)
   |(with_reducible exact call_Same.mono _ _ _ _ _)
   |(with_reducible exact newellaw19_awake.mono _)
   |(with_reducible exact newelref19_Give.mono _ _ _ _ _ _)
   |(with_reducible exact newelref19_Hall.mono _ _ _ _ _ _)
   |(with_reducible exact newelref19_May.mono _ _ _ _ _)
   |(with_reducible exact newelref19_Same.mono _ _ _ _ _)
   |(with_reducible exact LeO.refl _)
   |(with_reducible exact LeO.none _)
   |(with_reducible refine LeO.ite ?_ ?_)
   |(with_reducible refine LeO.bind ?_ (fun _=>?_))
   |exact call_Give.mono _ _ _ _ _ _ _ _
   |exact call_Same.mono _ _ _ _ _
   |exact newellaw19_awake.mono _
   |exact newelref19_Give.mono _ _ _ _ _ _
   |exact newelref19_Hall.mono _ _ _ _ _ _
   |exact newelref19_May.mono _ _ _ _ _
   |exact newelref19_Same.mono _ _ _ _ _
   |exact LeO.none _
   |refine LeO.ite ?_ ?_
   |refine LeO.bind ?_ (fun _=>?_)
def newellaw19_CallGives.T3:Bool×List (List Nat×List Nat):=(true,[([],[]),([],[]),([1],[1]),([],[]),([0,2,3,2],[0,2,3]),([4],[4]),([5],[5]),([5],[5]),([],[]),([8,6,4,0,1,2,3,4,5,6,8],[6,8]),([7,9,0,1,2,3,4,5,6,7,8,9],[7])])
def newellaw19_CallGives.B3:List Nat:=[0,0,2,0,15,31,63,63,0,383,1023]
theorem newellaw19_CallGives.Wn:rtab .any (opsOf Try.f5 3)=newellaw19_CallGives.T3:=by kernel_rfl
theorem newellaw19_CallGives.Vh:Zx newellaw19_CallGives.T3.2 newellaw19_CallGives.B3=true:=by kernel_rfl
def newellaw19_CallGives.T8:Bool×List (List Nat×List Nat):=(true,[([],[]),([0,0],[0]),([1],[1]),([2,1],[1,2]),([1,3],[1,3]),([4,1],[4]),([5],[5]),([5],[5]),([5],[5]),([7,8,5,5],[5,7,8]),([6,9,9,5],[5,6,9]),([5,10],[5,10]),([11,10],[11]),([12],[12]),([12],[12]),([13,14,12,12],[12,13,14]),([12],[12]),([12],[12]),([16,17,15,12],[12,16,17]),([15,18,12],[12,15,18]),([12,19],[12,19]),([20,18,0,1,2,3,4,5,6,7,8,9,10,11,12,13,14,15,16,17,18,19,20],[20])])
def newellaw19_CallGives.B8:List Nat:=[0,1,3,7,15,31,63,63,63,447,1023,2047,4095,8191,8191,32767,8191,8191,262143,524287,1048575,2097151]
theorem newellaw19_CallGives.Um:rtab .any (opsOf Try.f5 8)=newellaw19_CallGives.T8:=by kernel_rfl
theorem newellaw19_CallGives.G0:Zx newellaw19_CallGives.T8.2 newellaw19_CallGives.B8=true:=by kernel_rfl
set_option maxHeartbeats 8000000 in
set_option maxRecDepth 100000 in
theorem newellaw19_CallGives.calls (k:Nat) (I:Int) (J:Int) (Z:Option Addr) (U:Nat) (B:List (S56)) (γ:Option Addr) (X:Nat) (D:List (S62)) (ζ :Int) (L:Int) (η :Int) (r:Bool) (w:World) (b5:Kd.C k56 w Z B.length B) (b6:B.length≤U) (b7:Kd.C k62 w γ D.length D) (b8:D.length≤X) (h:newellaw19_CallGives.f k I J B D ζ L η = some r):
  Calls Try.prog 5 #[.agg #[.int .i64 I,.int .i64 J],.agg #[.slice Z B.length U,.slice γ D.length X],.agg #[.int .i64 ζ,.int .i64 L,.int .i64 η]] w fun e w'=>e = .returned (.bool r)∧Below w.heap.size w w':=by
 have dx:=Try.underlying23
 have db:=Try.underlying27
 have bu:=Try.underlying56
 have ag:=Aside0.mk b5
 have ar:=Aside0.mk b6
 clear b5 b6
 have ah:=Aside0.mk b7
 have aw:=Aside0.mk b8
 clear b7 b8
 have HB:=Aside0.mk (Below.refl w.heap.size w)
 have H:((newelref19_Few.f B D).bind fun ej=>(if ej=true then ((newellaw19_Own.f B D).bind fun d1=>((call_Give.f k I J d1.1 d1.2 ζ L η).bind fun a9=>((newelref19_May.f k I J B D).bind fun d2=>(if d2=true then ((newelref19_Hall.f k I J ζ L η).bind fun bw=>(if bw=true then ((newellaw19_awake.f k).bind fun bm=>(if bm=true then (if a9.2.2=0 then ((newelref19_Give.f k B D ζ L η).bind fun b1=>((newelref19_Same.f k a9.1 a9.2.1 b1.1 b1.2).bind fun bd=>(if bd=true then ((call_Same.f k B D a9.1 a9.2.1).bind fun b9=>((newelref19_Same.f k B D a9.1 a9.2.1).bind fun b4=>(some (b9==b4)))) else (none)))) else (none)) else (none))) else ((newellaw19_awake.f k).bind fun bn=>(if bn=true then (if a9.2.2=191 then ((newelref19_Same.f k a9.1 a9.2.1 ([]:List (S56)) ([]:List (S62))).bind fun bh=>(some bh)) else (none)) else (none))))) else ((newellaw19_awake.f k).bind fun cd=>(if cd=true then (if a9.2.2=190 then ((newelref19_Same.f k a9.1 a9.2.1 ([]:List (S56)) ([]:List (S62))).bind fun bo=>(some bo)) else (none)) else (none))))))) else ((newellaw19_awake.f k).bind fun d7=>(some d7))))=some r:=h
 clear h
 replace H:=Option.bind_eq_some_iff.mp H
 obtain⟨ej,bz,H⟩:=H
 replace H:(if ej=true then ((newellaw19_Own.f B D).bind fun d1=>((call_Give.f k I J d1.1 d1.2 ζ L η).bind fun a9=>((newelref19_May.f k I J B D).bind fun d2=>(if d2=true then ((newelref19_Hall.f k I J ζ L η).bind fun bw=>(if bw=true then ((newellaw19_awake.f k).bind fun bm=>(if bm=true then (if a9.2.2=0 then ((newelref19_Give.f k B D ζ L η).bind fun b1=>((newelref19_Same.f k a9.1 a9.2.1 b1.1 b1.2).bind fun bd=>(if bd=true then ((call_Same.f k B D a9.1 a9.2.1).bind fun b9=>((newelref19_Same.f k B D a9.1 a9.2.1).bind fun b4=>(some (b9==b4)))) else (none)))) else (none)) else (none))) else ((newellaw19_awake.f k).bind fun bn=>(if bn=true then (if a9.2.2=191 then ((newelref19_Same.f k a9.1 a9.2.1 ([]:List (S56)) ([]:List (S62))).bind fun bh=>(some bh)) else (none)) else (none))))) else ((newellaw19_awake.f k).bind fun cd=>(if cd=true then (if a9.2.2=190 then ((newelref19_Same.f k a9.1 a9.2.1 ([]:List (S56)) ([]:List (S62))).bind fun bo=>(some bo)) else (none)) else (none))))))) else ((newellaw19_awake.f k).bind fun d7=>(some d7)))=some r:=H
 have A4:=Aside0.mk bz
 clear bz
 by_cases c5:ej=true
 ·subst c5
  have H1:((newellaw19_Own.f B D).bind fun d1=>((call_Give.f k I J d1.1 d1.2 ζ L η).bind fun a9=>((newelref19_May.f k I J B D).bind fun d2=>(if d2=true then ((newelref19_Hall.f k I J ζ L η).bind fun bw=>(if bw=true then ((newellaw19_awake.f k).bind fun bm=>(if bm=true then (if a9.2.2=0 then ((newelref19_Give.f k B D ζ L η).bind fun b1=>((newelref19_Same.f k a9.1 a9.2.1 b1.1 b1.2).bind fun bd=>(if bd=true then ((call_Same.f k B D a9.1 a9.2.1).bind fun b9=>((newelref19_Same.f k B D a9.1 a9.2.1).bind fun b4=>(some (b9==b4)))) else (none)))) else (none)) else (none))) else ((newellaw19_awake.f k).bind fun bn=>(if bn=true then (if a9.2.2=191 then ((newelref19_Same.f k a9.1 a9.2.1 ([]:List (S56)) ([]:List (S62))).bind fun bh=>(some bh)) else (none)) else (none))))) else ((newellaw19_awake.f k).bind fun cd=>(if cd=true then (if a9.2.2=190 then ((newelref19_Same.f k a9.1 a9.2.1 ([]:List (S56)) ([]:List (S62))).bind fun bo=>(some bo)) else (none)) else (none)))))))=some r:=by rw[if_pos rfl] at H;exact H
  clear H
  have H:=H1
  clear H1
  replace H:=Option.bind_eq_some_iff.mp H
  obtain⟨⟨b2,b3⟩,d8,H⟩:=H
  replace H:((call_Give.f k I J b2 b3 ζ L η).bind fun a9=>((newelref19_May.f k I J B D).bind fun d2=>(if d2=true then ((newelref19_Hall.f k I J ζ L η).bind fun bw=>(if bw=true then ((newellaw19_awake.f k).bind fun bm=>(if bm=true then (if a9.2.2=0 then ((newelref19_Give.f k B D ζ L η).bind fun b1=>((newelref19_Same.f k a9.1 a9.2.1 b1.1 b1.2).bind fun bd=>(if bd=true then ((call_Same.f k B D a9.1 a9.2.1).bind fun b9=>((newelref19_Same.f k B D a9.1 a9.2.1).bind fun b4=>(some (b9==b4)))) else (none)))) else (none)) else (none))) else ((newellaw19_awake.f k).bind fun bn=>(if bn=true then (if a9.2.2=191 then ((newelref19_Same.f k a9.1 a9.2.1 ([]:List (S56)) ([]:List (S62))).bind fun bh=>(some bh)) else (none)) else (none))))) else ((newellaw19_awake.f k).bind fun cd=>(if cd=true then (if a9.2.2=190 then ((newelref19_Same.f k a9.1 a9.2.1 ([]:List (S56)) ([]:List (S62))).bind fun bo=>(some bo)) else (none)) else (none))))))=some r:=H
  have A6:=Aside0.mk d8
  clear d8
  replace H:=Option.bind_eq_some_iff.mp H
  obtain⟨⟨aa,af,ax⟩,g7,H⟩:=H
  replace H:((newelref19_May.f k I J B D).bind fun d2=>(if d2=true then ((newelref19_Hall.f k I J ζ L η).bind fun bw=>(if bw=true then ((newellaw19_awake.f k).bind fun bm=>(if bm=true then (if ax=0 then ((newelref19_Give.f k B D ζ L η).bind fun b1=>((newelref19_Same.f k aa af b1.1 b1.2).bind fun bd=>(if bd=true then ((call_Same.f k B D aa af).bind fun b9=>((newelref19_Same.f k B D aa af).bind fun b4=>(some (b9==b4)))) else (none)))) else (none)) else (none))) else ((newellaw19_awake.f k).bind fun bn=>(if bn=true then (if ax=191 then ((newelref19_Same.f k aa af ([]:List (S56)) ([]:List (S62))).bind fun bh=>(some bh)) else (none)) else (none))))) else ((newellaw19_awake.f k).bind fun cd=>(if cd=true then (if ax=190 then ((newelref19_Same.f k aa af ([]:List (S56)) ([]:List (S62))).bind fun bo=>(some bo)) else (none)) else (none)))))=some r:=H
  have A7:=Aside0.mk g7
  clear g7
  replace H:=Option.bind_eq_some_iff.mp H
  obtain⟨d2,df,H⟩:=H
  replace H:(if d2=true then ((newelref19_Hall.f k I J ζ L η).bind fun bw=>(if bw=true then ((newellaw19_awake.f k).bind fun bm=>(if bm=true then (if ax=0 then ((newelref19_Give.f k B D ζ L η).bind fun b1=>((newelref19_Same.f k aa af b1.1 b1.2).bind fun bd=>(if bd=true then ((call_Same.f k B D aa af).bind fun b9=>((newelref19_Same.f k B D aa af).bind fun b4=>(some (b9==b4)))) else (none)))) else (none)) else (none))) else ((newellaw19_awake.f k).bind fun bn=>(if bn=true then (if ax=191 then ((newelref19_Same.f k aa af ([]:List (S56)) ([]:List (S62))).bind fun bh=>(some bh)) else (none)) else (none))))) else ((newellaw19_awake.f k).bind fun cd=>(if cd=true then (if ax=190 then ((newelref19_Same.f k aa af ([]:List (S56)) ([]:List (S62))).bind fun bo=>(some bo)) else (none)) else (none))))=some r:=H
  have A8:=Aside0.mk df
  clear df
  by_cases c9:d2=true
  ·subst c9
   have H1:((newelref19_Hall.f k I J ζ L η).bind fun bw=>(if bw=true then ((newellaw19_awake.f k).bind fun bm=>(if bm=true then (if ax=0 then ((newelref19_Give.f k B D ζ L η).bind fun b1=>((newelref19_Same.f k aa af b1.1 b1.2).bind fun bd=>(if bd=true then ((call_Same.f k B D aa af).bind fun b9=>((newelref19_Same.f k B D aa af).bind fun b4=>(some (b9==b4)))) else (none)))) else (none)) else (none))) else ((newellaw19_awake.f k).bind fun bn=>(if bn=true then (if ax=191 then ((newelref19_Same.f k aa af ([]:List (S56)) ([]:List (S62))).bind fun bh=>(some bh)) else (none)) else (none)))))=some r:=by rw[if_pos rfl] at H;exact H
   clear H
   have H:=H1
   clear H1
   replace H:=Option.bind_eq_some_iff.mp H
   obtain⟨bw,f3,H⟩:=H
   replace H:(if bw=true then ((newellaw19_awake.f k).bind fun bm=>(if bm=true then (if ax=0 then ((newelref19_Give.f k B D ζ L η).bind fun b1=>((newelref19_Same.f k aa af b1.1 b1.2).bind fun bd=>(if bd=true then ((call_Same.f k B D aa af).bind fun b9=>((newelref19_Same.f k B D aa af).bind fun b4=>(some (b9==b4)))) else (none)))) else (none)) else (none))) else ((newellaw19_awake.f k).bind fun bn=>(if bn=true then (if ax=191 then ((newelref19_Same.f k aa af ([]:List (S56)) ([]:List (S62))).bind fun bh=>(some bh)) else (none)) else (none))))=some r:=H
   have em:=Aside0.mk f3
   clear f3
   by_cases cg:bw=true
   ·subst cg
    have H1:((newellaw19_awake.f k).bind fun bm=>(if bm=true then (if ax=0 then ((newelref19_Give.f k B D ζ L η).bind fun b1=>((newelref19_Same.f k aa af b1.1 b1.2).bind fun bd=>(if bd=true then ((call_Same.f k B D aa af).bind fun b9=>((newelref19_Same.f k B D aa af).bind fun b4=>(some (b9==b4)))) else (none)))) else (none)) else (none)))=some r:=by rw[if_pos rfl] at H;exact H
    clear H
    have H:=H1
    clear H1
    replace H:=Option.bind_eq_some_iff.mp H
    obtain⟨bm,ci,H⟩:=H
    replace H:(if bm=true then (if ax=0 then ((newelref19_Give.f k B D ζ L η).bind fun b1=>((newelref19_Same.f k aa af b1.1 b1.2).bind fun bd=>(if bd=true then ((call_Same.f k B D aa af).bind fun b9=>((newelref19_Same.f k B D aa af).bind fun b4=>(some (b9==b4)))) else (none)))) else (none)) else (none))=some r:=H
    have cx:=Aside0.mk ci
    clear ci
    by_cases bc:bm=true
    ·subst bc
     have H1:(if ax=0 then ((newelref19_Give.f k B D ζ L η).bind fun b1=>((newelref19_Same.f k aa af b1.1 b1.2).bind fun bd=>(if bd=true then ((call_Same.f k B D aa af).bind fun b9=>((newelref19_Same.f k B D aa af).bind fun b4=>(some (b9==b4)))) else (none)))) else (none))=some r:=by rw[if_pos rfl] at H;exact H
     clear H
     have H:=H1
     clear H1
     by_cases ay:ax=0
     ·rw[if_pos ay] at H
      have c14b0:(ax==0)=true:=beq_iff_eq.mpr ay
      have c14b1:(ax != 0)=false:=bne_eq_false_iff_eq.mpr ay
      clear ay
      replace H:=Option.bind_eq_some_iff.mp H
      obtain⟨⟨fo,fx⟩,fa,H⟩:=H
      replace H:((newelref19_Same.f k aa af fo fx).bind fun bd=>(if bd=true then ((call_Same.f k B D aa af).bind fun b9=>((newelref19_Same.f k B D aa af).bind fun b4=>(some (b9==b4)))) else (none)))=some r:=H
      have il:=Aside0.mk fa
      clear fa
      replace H:=Option.bind_eq_some_iff.mp H
      obtain⟨bd,ib,H⟩:=H
      replace H:(if bd=true then ((call_Same.f k B D aa af).bind fun b9=>((newelref19_Same.f k B D aa af).bind fun b4=>(some (b9==b4)))) else (none))=some r:=H
      have lr:=Aside0.mk ib
      clear ib
      by_cases au:bd=true
      ·subst au
       have H1:((call_Same.f k B D aa af).bind fun b9=>((newelref19_Same.f k B D aa af).bind fun b4=>(some (b9==b4))))=some r:=by rw[if_pos rfl] at H;exact H
       clear H
       have H:=H1
       clear H1
       replace H:=Option.bind_eq_some_iff.mp H
       obtain⟨b9,ce,H⟩:=H
       replace H:((newelref19_Same.f k B D aa af).bind fun b4=>(some (b9==b4)))=some r:=H
       have dc:=Aside0.mk ce
       clear ce
       replace H:=Option.bind_eq_some_iff.mp H
       obtain⟨b4,fb,H⟩:=H
       replace H:(some (b9==b4))=some r:=H
       have iq:=Aside0.mk fb
       clear fb
       obtain rfl:=Option.some.inj H
       go_enter Try.func5,Try.ntmps5
       try go_wp2_with (first|((with_reducible refine Qt (N:=3) rfl ?_);refine Qp ?hg (N:=3) ?hd (cs:=#[.int .i64 I,.int .i64 J]) (t:=23) ?hr ?_;(case hd=>rfl);(case hg=>rfl);(case hr=>go_simp <;> rfl);intro aj hg ca hbox hb;have δ :=Aside0.mk hbox;have er:=sGe hg;have fy:=sGe hg;replace HB:=sHb hb;clear hb hbox hg)|((with_reducible refine Qt (N:=4) rfl ?_);refine Qp ?hg (N:=4) ?hd (cs:=#[.slice Z B.length U,.slice γ D.length X]) (t:=27) ?hr ?_;(case hd=>rfl);(case hg=>rfl);(case hr=>go_simp <;> rfl);intro ai hg bl hbox hb;have Y:=Aside0.mk hbox;have et:=sGe hg;have fz:=sGe hg;have ch:=sNl δ hg;have cj:=sNg δ hg;replace δ :=sBk δ hb;replace HB:=sHb hb;clear hb hbox hg)|((with_reducible refine Qt (N:=5) rfl ?_);refine Qp ?hg (N:=5) ?hd (cs:=#[.int .i64 ζ,.int .i64 L,.int .i64 η]) (t:=56) ?hr ?_;(case hd=>rfl);(case hg=>rfl);(case hr=>go_simp <;> rfl);intro φ hg dt hbox hb;have O:=Aside0.mk hbox;have ew:=sGe hg;have g8:=sGe hg;have cz:=sNl δ hg;have d0:=sNg δ hg;have ck:=sNl Y hg;have cp:=sNg Y hg;replace δ :=sBk δ hb;replace Y:=sBk Y hb;replace HB:=sHb hb;clear hb hbox hg;have fv:=cj.out;have fw:=ch.out;have eo:=ck.out;have ep:=cp.out;have f9:dt.cell? ⟨ai,0,none⟩=some (.slice Z B.length U):=(Qa Y.out 0).trans rfl;have fc:dt.cell? ⟨ai,1,none⟩=some (.slice γ D.length X):=(Qa Y.out 1).trans rfl;have fe:=Qb Y.out 0;have ff:=Qb Y.out 1)|((with_reducible refine Q2 (f:=9) rfl ?_);refine Zq (some 10) rfl rfl Try.func9 kr rfl #[.agg #[.slice Z B.length U,.slice γ D.length X]] rfl (by simp only[List.map_toArray,List.map_cons,List.map_nil] <;> rfl) ?_;(with_reducible refine(newelref19_Few.calls _ _ B _ _ D true _ ?side1 ?side2 ?side3 ?side4 A4.out).mono ?_);(case side1=>exact(Kd.Qz ag.out HB.out));(case side2=>exact ar.out);(case side3=>exact(Kd.Qz ah.out HB.out));(case side4=>exact aw.out);rintro e bs ⟨rfl,hb⟩;refine⟨_,rfl, ?_⟩;replace δ :=sBk δ hb;replace Y:=sBk Y hb;replace O:=sBk O hb;replace HB:=sHb hb;(try clear hb);(try clear a4);(try clear hk);(try clear hi)))
       replace δ :=Aside0.mk (Qc δ.out)
       replace Y:=Aside0.mk (Qc Y.out)
       replace O:=Aside0.mk (Qc O.out)
       replace HB:=Aside0.mk (Qh HB.out)
       refine Zv (n:=11) (S:=fun w'=>w'.cell? ⟨aj,0,none⟩=some (.int .i64 I)∧w'.cell? ⟨aj,1,none⟩=some (.int .i64 J)∧w'.cell? ⟨ai,0,none⟩=some (.slice Z B.length U)∧w'.cell? ⟨ai,1,none⟩=some (.slice γ D.length X)∧w'.cell? ⟨φ,0,none⟩=some (.int .i64 ζ)∧w'.cell? ⟨φ,1,none⟩=some (.int .i64 L)∧w'.cell? ⟨φ,2,none⟩=some (.int .i64 η)) (ds:=[]) #[false,false,false,false,false,false,false,false,false,false,false] kr rfl rfl ⟨(Qa δ.out 0).trans rfl,(Qa δ.out 1).trans rfl,(Qa Y.out 0).trans rfl,(Qa Y.out 1).trans rfl,(Qa O.out 0).trans rfl,(Qa O.out 1).trans rfl,(Qa O.out 2).trans rfl⟩ (fun hHeld=>?_);refine Q8 newellaw19_CallGives.Wn newellaw19_CallGives.Vh (fun HT_ HW_=>?_)
       generalize bs.drew=f8 at δ Y O HB hHeld ⊢
       refine qT 0 (some 14) (bN 11 1) HT_ HW_ hHeld ?_
       refine qT 1 (some 15) (bN 11 3) HT_ HW_ hHeld ?_
       refine qT 3 (some 17) (bN 11 11) HT_ HW_ hHeld ?_
       refine K9 (σ:=Value×Value×Value×Value×Nat) 2 (bN 11 511) (fun s_=>[(16,.agg #[s_.1,s_.2.1]),(18,.tuple #[.agg #[s_.2.2.1,s_.2.2.2.1],.int .i64 ax]),(7,.pointer (some ⟨s_.2.2.2.2,0,none⟩)),(13,.tuple #[.agg #[s_.2.2.1,s_.2.2.2.1],.int .i64 ax]),(19,.agg #[s_.2.2.1,s_.2.2.2.1]),(20,.int .i64 ax)]) (fun s_ w'=>(w'.cell? ⟨aj,0,none⟩=some (.int .i64 I)∧w'.cell? ⟨aj,1,none⟩=some (.int .i64 J)∧w'.cell? ⟨ai,0,none⟩=some (.slice Z B.length U)∧w'.cell? ⟨ai,1,none⟩=some (.slice γ D.length X)∧w'.cell? ⟨φ,0,none⟩=some (.int .i64 ζ)∧w'.cell? ⟨φ,1,none⟩=some (.int .i64 L)∧w'.cell? ⟨φ,2,none⟩=some (.int .i64 η))∧(Kd.R k56 56 w' w.heap.size (fun k_=>some k_≠(s_.2.2.1:Value).ownBlock∧k_ ≠ φ) s_.1 b2)∧(Kd.R k62 62 w' w.heap.size (fun k_=>some k_≠(s_.2.2.2.1:Value).ownBlock) s_.2.1 b3)∧(Kd.R k56 56 w' w.heap.size (fun k_=>some k_≠(s_.1:Value).ownBlock∧k_ ≠ φ) s_.2.2.1 aa)∧(Kd.R k62 62 w' w.heap.size (fun k_=>some k_≠(s_.2.1:Value).ownBlock) s_.2.2.2.1 af)∧(w'.heap[aj]?=some (.cells #[.int .i64 I,.int .i64 J] 23 (0,0)))∧(w'.heap[ai]?=some (.cells #[.slice Z B.length U,.slice γ D.length X] 27 (0,0)))∧(w'.heap[φ]?=some (.cells #[.int .i64 ζ,.int .i64 L,.int .i64 η] 56 (0,0)))∧(w'.heap[s_.2.2.2.2]?=some (.cells #[.slice none 0 0,.slice none 0 0] 27 (0,0)))∧(w.heap.size≤s_.2.2.2.2)∧(w.heap.size≤s_.2.2.2.2)∧(aj≠s_.2.2.2.2)∧(s_.2.2.2.2≠aj)∧(ai≠s_.2.2.2.2)∧(s_.2.2.2.2≠ai)∧(φ ≠ s_.2.2.2.2)∧(s_.2.2.2.2 ≠ φ)∧(Below w.heap.size w w')) ?_ ?_
       rotate_left
       ·intro hCont
        refine Kj (i:=2) (j:=8) (Ni:=some 16) (Nj:=some 7) (bN 11 15) (bN 11 267) rfl rfl rfl rfl (Ye HT_.out kr) (by decide) (by decide) (fun K hK=>?_) (fun K hK=>?_)
        ·skip
         refine Zg Try.func12 kr rfl #[.agg #[.slice Z B.length U,.slice γ D.length X]] (by rfl) rfl rfl (by simp only[List.map_toArray,List.map_cons,List.map_nil] <;> rfl) ?_
         with_reducible refine(newellaw19_Own.calls _ _ B _ _ D b2 b3 _ ?side1 ?side2 ?side3 ?side4 A6.out).mono ?_
         (case side1=>exact(Kd.Qz ag.out HB.out))
         (case side2=>exact ar.out)
         (case side3=>exact(Kd.Qz ah.out HB.out))
         (case side4=>exact aw.out)
         rintro e gl ⟨cw,cy,rfl,χ,a7,hb⟩
         refine⟨_,rfl, ?_⟩
         have μ :=Aside0.mk (Kd.Q4 (Kd.Zy χ (g:= φ) (o:=.cells #[.int .i64 ζ,.int .i64 L,.int .i64 η] 56 (0,0)) O.out) (Qk HB.out))
         have ν :=Aside0.mk (Kd.Q4 a7 (Qk HB.out))
         replace δ :=sBk δ hb
         replace Y:=sBk Y hb
         replace O:=sBk O hb
         replace HB:=sHb hb
         (try clear hb)
         (try clear a4)
         (try clear hk)
         (try clear hi)
         (try clear χ)
         (try clear a7)
         obtain⟨ig,ih,io⟩:=Kd.Q6 μ.out
         (first|subst io|(injection io with ω ab a0;have ac:= ω.symm;have ae:=a0.symm;clear ω ab a0;subst ac;subst ae))
         obtain⟨dw,dy,e7⟩:=Kd.Q6 ν.out
         (first|subst e7|(injection e7 with ω ab a0;have ac:= ω.symm;have ae:=a0.symm;clear ω ab a0;subst ac;subst ae))
         refine hK.out _ _ ⟨(Qa δ.out 0).trans rfl,(Qa δ.out 1).trans rfl,(Qa Y.out 0).trans rfl,(Qa Y.out 1).trans rfl,(Qa O.out 0).trans rfl,(Qa O.out 1).trans rfl,(Qa O.out 2).trans rfl⟩ (fun hHeld=>?_)
         clear hK K
         refine qN (some 16) ?_
         refine Kj (i:=4) (j:=8) (Ni:=some 18) (Nj:=some 7) (bN 11 31) (bN 11 271) rfl rfl rfl rfl (Ye HT_.out kr) (by decide) (by decide) (fun K hK=>?_) (fun K hK=>?_)
         ·skip
          refine Zg Try.func24 kr rfl #[.agg #[.int .i64 I,.int .i64 J],.agg #[.slice ig b2.length ih,.slice dw b3.length dy],.agg #[.int .i64 ζ,.int .i64 L,.int .i64 η]] (by rfl) rfl rfl (by simp only[List.map_toArray,List.map_cons,List.map_nil] <;> rfl) ?_
          with_reducible refine(call_Give.calls k I J _ _ b2 _ _ b3 ζ L η aa af ax _ ?side1 ?side2 ?side3 ?side4 A7.out).mono ?_
          (case side1=>exact(Kd.Qr μ.out).2.2)
          (case side2=>exact(Kd.Qr μ.out).2.1)
          (case side3=>exact(Kd.Qr ν.out).2.2)
          (case side4=>exact(Kd.Qr ν.out).2.1)
          rintro e jb ⟨bi,bj,rfl,χ,a7,hb⟩
          refine⟨_,rfl, ?_⟩
          have a3:=Aside0.mk (Kd.Q4 (Kd.Zy (Kd.Zr χ (Kd.Z4 μ.out)) (g:= φ) (o:=.cells #[.int .i64 ζ,.int .i64 L,.int .i64 η] 56 (0,0)) O.out) (Qk HB.out))
          have a5:=Aside0.mk (Kd.Q4 (Kd.Zr a7 (Kd.Z4 ν.out)) (Qk HB.out))
          replace μ :=Aside0.mk (Kd.Q7 μ.out (Kd.Zn χ) hb)
          replace ν :=Aside0.mk (Kd.Q7 ν.out (Kd.Zn a7) hb)
          replace δ :=sBk δ hb
          replace Y:=sBk Y hb
          replace O:=sBk O hb
          replace HB:=sHb hb
          (try clear hb)
          (try clear a4)
          (try clear hk)
          (try clear hi)
          (try clear χ)
          (try clear a7)
          refine hK.out _ _ ⟨(Qa δ.out 0).trans rfl,(Qa δ.out 1).trans rfl,(Qa Y.out 0).trans rfl,(Qa Y.out 1).trans rfl,(Qa O.out 0).trans rfl,(Qa O.out 1).trans rfl,(Qa O.out 2).trans rfl⟩ (fun hHeld=>?_)
          clear hK K
          refine qN (some 18) ?_
          refine qP 5 (some 13) (bN 11 63) HT_ ?_
          refine qP 6 (some 19) (bN 11 127) HT_ ?_
          refine qP 7 (some 20) (bN 11 255) HT_ ?_
          refine Zm (i:=8) (N:=some 7) (bN 11 511) rfl rfl (Q3 HT_.out kr) (by decide) (fun K hK=>?_)
          refine Xk ?hg (N:=7) ?hd (cs:=#[.slice none 0 0,.slice none 0 0]) (t:=27) ?hr ?_;(case hd=>rfl);(case hg=>rfl);(case hr=>go_simp <;> rfl)
          intro ρ hg i6 hbox hb
          have ξ :=Aside0.mk hbox
          have be:=sGe hg
          have bk:=sGe hg
          have a6:=sNl δ hg
          have al:=sNg δ hg
          have a8:=sNl Y hg
          have an:=sNg Y hg
          have a2:=sNl O hg
          have ao:=sNg O hg
          replace μ :=sRb μ hb
          replace ν :=sRb ν hb
          replace a3:=sRb a3 hb
          replace a5:=sRb a5 hb
          replace δ :=sBk δ hb
          replace Y:=sBk Y hb
          replace O:=sBk O hb
          replace HB:=sHb hb
          clear hb hbox hg
          refine hK.out _ _ ⟨(Qa δ.out 0).trans rfl,(Qa δ.out 1).trans rfl,(Qa Y.out 0).trans rfl,(Qa Y.out 1).trans rfl,(Qa O.out 0).trans rfl,(Qa O.out 1).trans rfl,(Qa O.out 2).trans rfl⟩ (fun hHeld=>?_)
          clear hK K
          refine qN (some 7) ?_
          exact Xj (by simp only[Z3,Act.put,qS]) (hCont (.slice ig b2.length ih,.slice dw b3.length dy,bi,bj,ρ) _ ⟨hHeld,(by(with_reducible repeat(first|apply Kd.Qm|apply Kd.Ql|apply Kd.Qo));exact Kd.Qs μ.out (fun _ hk=>⟨hk.2,hk.1.2⟩)),(by(with_reducible repeat(first|apply Kd.Qm|apply Kd.Ql|apply Kd.Qo));exact Kd.Qs ν.out (fun _ hk=>hk.2)),(by(with_reducible repeat(first|apply Kd.Qm|apply Kd.Ql|apply Kd.Qo));exact Kd.Qs a3.out (fun _ hk=>⟨hk.1.2,hk.2⟩)),(by(with_reducible repeat(first|apply Kd.Qm|apply Kd.Ql|apply Kd.Qo));exact Kd.Qs a5.out (fun _ hk=>hk.2)),δ.out,Y.out,O.out,ξ.out,be.out,bk.out,a6.out,al.out,a8.out,an.out,a2.out,ao.out,HB.out⟩)
         ·skip
          refine Xk ?hg (N:=7) ?hd (cs:=#[.slice none 0 0,.slice none 0 0]) (t:=27) ?hr ?_;(case hd=>rfl);(case hg=>rfl);(case hr=>go_simp <;> rfl)
          intro ρ hg gm hbox hb
          have ξ :=Aside0.mk hbox
          have be:=sGe hg
          have bk:=sGe hg
          have a6:=sNl δ hg
          have al:=sNg δ hg
          have a8:=sNl Y hg
          have an:=sNg Y hg
          have a2:=sNl O hg
          have ao:=sNg O hg
          replace μ :=sRb μ hb
          replace ν :=sRb ν hb
          replace δ :=sBk δ hb
          replace Y:=sBk Y hb
          replace O:=sBk O hb
          replace HB:=sHb hb
          clear hb hbox hg
          obtain⟨dw,dy,e7⟩:=Kd.Q6 μ.out
          (first|subst e7|(injection e7 with ω ab a0;have ac:= ω.symm;have ae:=a0.symm;clear ω ab a0;subst ac;subst ae))
          obtain⟨br,bq,d5⟩:=Kd.Q6 ν.out
          (first|subst d5|(injection d5 with ω ab a0;have ac:= ω.symm;have ae:=a0.symm;clear ω ab a0;subst ac;subst ae))
          refine hK.out _ _ ⟨(Qa δ.out 0).trans rfl,(Qa δ.out 1).trans rfl,(Qa Y.out 0).trans rfl,(Qa Y.out 1).trans rfl,(Qa O.out 0).trans rfl,(Qa O.out 1).trans rfl,(Qa O.out 2).trans rfl⟩ (fun hHeld=>?_)
          clear hK K
          refine qN (some 7) ?_
          refine Zm (i:=4) (N:=some 18) (bN 11 287) rfl rfl (Q3 HT_.out kr) (by decide) (fun K hK=>?_)
          refine Zg Try.func24 kr rfl #[.agg #[.int .i64 I,.int .i64 J],.agg #[.slice dw b2.length dy,.slice br b3.length bq],.agg #[.int .i64 ζ,.int .i64 L,.int .i64 η]] (by rfl) rfl rfl (by simp only[List.map_toArray,List.map_cons,List.map_nil] <;> rfl) ?_
          with_reducible refine(call_Give.calls k I J _ _ b2 _ _ b3 ζ L η aa af ax _ ?side1 ?side2 ?side3 ?side4 A7.out).mono ?_
          (case side1=>exact(Kd.Qr μ.out).2.2)
          (case side2=>exact(Kd.Qr μ.out).2.1)
          (case side3=>exact(Kd.Qr ν.out).2.2)
          (case side4=>exact(Kd.Qr ν.out).2.1)
          rintro e i6 ⟨bi,bj,rfl,χ,a7,hb⟩
          refine⟨_,rfl, ?_⟩
          have a3:=Aside0.mk (Kd.Q4 (Kd.Zy (Kd.Zr χ (Kd.Z4 μ.out)) (g:= φ) (o:=.cells #[.int .i64 ζ,.int .i64 L,.int .i64 η] 56 (0,0)) O.out) (Qk HB.out))
          have a5:=Aside0.mk (Kd.Q4 (Kd.Zr a7 (Kd.Z4 ν.out)) (Qk HB.out))
          replace μ :=Aside0.mk (Kd.Q7 μ.out (Kd.Zn χ) hb)
          replace ν :=Aside0.mk (Kd.Q7 ν.out (Kd.Zn a7) hb)
          replace δ :=sBk δ hb
          replace Y:=sBk Y hb
          replace O:=sBk O hb
          replace ξ :=sBk ξ hb
          replace HB:=sHb hb
          (try clear hb)
          (try clear a4)
          (try clear hk)
          (try clear hi)
          (try clear χ)
          (try clear a7)
          refine hK.out _ _ ⟨(Qa δ.out 0).trans rfl,(Qa δ.out 1).trans rfl,(Qa Y.out 0).trans rfl,(Qa Y.out 1).trans rfl,(Qa O.out 0).trans rfl,(Qa O.out 1).trans rfl,(Qa O.out 2).trans rfl⟩ (fun hHeld=>?_)
          clear hK K
          refine qN (some 18) ?_
          refine qP 5 (some 13) (bN 11 319) HT_ ?_
          refine qP 6 (some 19) (bN 11 383) HT_ ?_
          refine qP 7 (some 20) (bN 11 511) HT_ ?_
          exact Xj (by simp only[Z3,Act.put,qS]) (hCont (.slice dw b2.length dy,.slice br b3.length bq,bi,bj,ρ) _ ⟨hHeld,(by(with_reducible repeat(first|apply Kd.Qm|apply Kd.Ql|apply Kd.Qo));exact Kd.Qs μ.out (fun _ hk=>⟨hk.2,hk.1.2⟩)),(by(with_reducible repeat(first|apply Kd.Qm|apply Kd.Ql|apply Kd.Qo));exact Kd.Qs ν.out (fun _ hk=>hk.2)),(by(with_reducible repeat(first|apply Kd.Qm|apply Kd.Ql|apply Kd.Qo));exact Kd.Qs a3.out (fun _ hk=>⟨hk.1.2,hk.2⟩)),(by(with_reducible repeat(first|apply Kd.Qm|apply Kd.Ql|apply Kd.Qo));exact Kd.Qs a5.out (fun _ hk=>hk.2)),δ.out,Y.out,O.out,ξ.out,be.out,bk.out,a6.out,al.out,a8.out,an.out,a2.out,ao.out,HB.out⟩)
        ·skip
         refine Xk ?hg (N:=7) ?hd (cs:=#[.slice none 0 0,.slice none 0 0]) (t:=27) ?hr ?_;(case hd=>rfl);(case hg=>rfl);(case hr=>go_simp <;> rfl)
         intro ρ hg gl hbox hb
         have ξ :=Aside0.mk hbox
         have be:=sGe hg
         have bk:=sGe hg
         have a6:=sNl δ hg
         have al:=sNg δ hg
         have a8:=sNl Y hg
         have an:=sNg Y hg
         have a2:=sNl O hg
         have ao:=sNg O hg
         replace δ :=sBk δ hb
         replace Y:=sBk Y hb
         replace O:=sBk O hb
         replace HB:=sHb hb
         clear hb hbox hg
         refine hK.out _ _ ⟨(Qa δ.out 0).trans rfl,(Qa δ.out 1).trans rfl,(Qa Y.out 0).trans rfl,(Qa Y.out 1).trans rfl,(Qa O.out 0).trans rfl,(Qa O.out 1).trans rfl,(Qa O.out 2).trans rfl⟩ (fun hHeld=>?_)
         clear hK K
         refine qN (some 7) ?_
         refine Zm (i:=2) (N:=some 16) (bN 11 271) rfl rfl (Q3 HT_.out kr) (by decide) (fun K hK=>?_)
         refine Zg Try.func12 kr rfl #[.agg #[.slice Z B.length U,.slice γ D.length X]] (by rfl) rfl rfl (by simp only[List.map_toArray,List.map_cons,List.map_nil] <;> rfl) ?_
         with_reducible refine(newellaw19_Own.calls _ _ B _ _ D b2 b3 _ ?side1 ?side2 ?side3 ?side4 A6.out).mono ?_
         (case side1=>exact(Kd.Qz ag.out HB.out))
         (case side2=>exact ar.out)
         (case side3=>exact(Kd.Qz ah.out HB.out))
         (case side4=>exact aw.out)
         rintro e gm ⟨cw,cy,rfl,χ,a7,hb⟩
         refine⟨_,rfl, ?_⟩
         have μ :=Aside0.mk (Kd.Q4 (Kd.Zy χ (g:= φ) (o:=.cells #[.int .i64 ζ,.int .i64 L,.int .i64 η] 56 (0,0)) O.out) (Qk HB.out))
         have ν :=Aside0.mk (Kd.Q4 a7 (Qk HB.out))
         replace δ :=sBk δ hb
         replace Y:=sBk Y hb
         replace O:=sBk O hb
         replace ξ :=sBk ξ hb
         replace HB:=sHb hb
         (try clear hb)
         (try clear a4)
         (try clear hk)
         (try clear hi)
         (try clear χ)
         (try clear a7)
         obtain⟨dw,dy,e7⟩:=Kd.Q6 μ.out
         (first|subst e7|(injection e7 with ω ab a0;have ac:= ω.symm;have ae:=a0.symm;clear ω ab a0;subst ac;subst ae))
         obtain⟨br,bq,d5⟩:=Kd.Q6 ν.out
         (first|subst d5|(injection d5 with ω ab a0;have ac:= ω.symm;have ae:=a0.symm;clear ω ab a0;subst ac;subst ae))
         refine hK.out _ _ ⟨(Qa δ.out 0).trans rfl,(Qa δ.out 1).trans rfl,(Qa Y.out 0).trans rfl,(Qa Y.out 1).trans rfl,(Qa O.out 0).trans rfl,(Qa O.out 1).trans rfl,(Qa O.out 2).trans rfl⟩ (fun hHeld=>?_)
         clear hK K
         refine qN (some 16) ?_
         refine Zm (i:=4) (N:=some 18) (bN 11 287) rfl rfl (Q3 HT_.out kr) (by decide) (fun K hK=>?_)
         refine Zg Try.func24 kr rfl #[.agg #[.int .i64 I,.int .i64 J],.agg #[.slice dw b2.length dy,.slice br b3.length bq],.agg #[.int .i64 ζ,.int .i64 L,.int .i64 η]] (by rfl) rfl rfl (by simp only[List.map_toArray,List.map_cons,List.map_nil] <;> rfl) ?_
         with_reducible refine(call_Give.calls k I J _ _ b2 _ _ b3 ζ L η aa af ax _ ?side1 ?side2 ?side3 ?side4 A7.out).mono ?_
         (case side1=>exact(Kd.Qr μ.out).2.2)
         (case side2=>exact(Kd.Qr μ.out).2.1)
         (case side3=>exact(Kd.Qr ν.out).2.2)
         (case side4=>exact(Kd.Qr ν.out).2.1)
         rintro e i6 ⟨bi,bj,rfl,χ,a7,hb⟩
         refine⟨_,rfl, ?_⟩
         have a3:=Aside0.mk (Kd.Q4 (Kd.Zy (Kd.Zr χ (Kd.Z4 μ.out)) (g:= φ) (o:=.cells #[.int .i64 ζ,.int .i64 L,.int .i64 η] 56 (0,0)) O.out) (Qk HB.out))
         have a5:=Aside0.mk (Kd.Q4 (Kd.Zr a7 (Kd.Z4 ν.out)) (Qk HB.out))
         replace μ :=Aside0.mk (Kd.Q7 μ.out (Kd.Zn χ) hb)
         replace ν :=Aside0.mk (Kd.Q7 ν.out (Kd.Zn a7) hb)
         replace δ :=sBk δ hb
         replace Y:=sBk Y hb
         replace O:=sBk O hb
         replace ξ :=sBk ξ hb
         replace HB:=sHb hb
         (try clear hb)
         (try clear a4)
         (try clear hk)
         (try clear hi)
         (try clear χ)
         (try clear a7)
         refine hK.out _ _ ⟨(Qa δ.out 0).trans rfl,(Qa δ.out 1).trans rfl,(Qa Y.out 0).trans rfl,(Qa Y.out 1).trans rfl,(Qa O.out 0).trans rfl,(Qa O.out 1).trans rfl,(Qa O.out 2).trans rfl⟩ (fun hHeld=>?_)
         clear hK K
         refine qN (some 18) ?_
         refine qP 5 (some 13) (bN 11 319) HT_ ?_
         refine qP 6 (some 19) (bN 11 383) HT_ ?_
         refine qP 7 (some 20) (bN 11 511) HT_ ?_
         exact Xj (by simp only[Z3,Act.put,qS]) (hCont (.slice dw b2.length dy,.slice br b3.length bq,bi,bj,ρ) _ ⟨hHeld,(by(with_reducible repeat(first|apply Kd.Qm|apply Kd.Ql|apply Kd.Qo));exact Kd.Qs μ.out (fun _ hk=>⟨hk.2,hk.1.2⟩)),(by(with_reducible repeat(first|apply Kd.Qm|apply Kd.Ql|apply Kd.Qo));exact Kd.Qs ν.out (fun _ hk=>hk.2)),(by(with_reducible repeat(first|apply Kd.Qm|apply Kd.Ql|apply Kd.Qo));exact Kd.Qs a3.out (fun _ hk=>⟨hk.1.2,hk.2⟩)),(by(with_reducible repeat(first|apply Kd.Qm|apply Kd.Ql|apply Kd.Qo));exact Kd.Qs a5.out (fun _ hk=>hk.2)),δ.out,Y.out,O.out,ξ.out,be.out,bk.out,a6.out,al.out,a8.out,an.out,a2.out,ao.out,HB.out⟩)
       rintro⟨cw,cy,bi,bj,ρ⟩ cf ⟨hS_,cq,cr,ct,cu,cv,e0,e3,e4,e5,e6,dh,di,dj,dk,dl,dm,dn⟩
       have ε :Aside0 (Kd.R k56 56 cf w.heap.size (fun k_=>some k_≠(bi:Value).ownBlock∧k_ ≠ φ) cw b2):=⟨cq⟩
       have θ :Aside0 (Kd.R k62 62 cf w.heap.size (fun k_=>some k_≠(bj:Value).ownBlock) cy b3):=⟨cr⟩
       have ι :Aside0 (Kd.R k56 56 cf w.heap.size (fun k_=>some k_≠(cw:Value).ownBlock∧k_ ≠ φ) bi aa):=⟨ct⟩
       have κ :Aside0 (Kd.R k62 62 cf w.heap.size (fun k_=>some k_≠(cy:Value).ownBlock) bj af):=⟨cu⟩
       have τ :Aside0 (cf.heap[aj]?=some (.cells #[.int .i64 I,.int .i64 J] 23 (0,0))):=⟨cv⟩
       have ψ :Aside0 (cf.heap[ai]?=some (.cells #[.slice Z B.length U,.slice γ D.length X] 27 (0,0))):=⟨e0⟩
       have a1:Aside0 (cf.heap[φ]?=some (.cells #[.int .i64 ζ,.int .i64 L,.int .i64 η] 56 (0,0))):=⟨e3⟩
       have ak:Aside0 (cf.heap[ρ]?=some (.cells #[.slice none 0 0,.slice none 0 0] 27 (0,0))):=⟨e4⟩
       have am:Aside0 (w.heap.size≤ρ):=⟨e5⟩
       have az:Aside0 (w.heap.size≤ρ):=⟨e6⟩
       have ap:Aside0 (aj≠ρ):=⟨dh⟩
       have av:Aside0 (ρ≠aj):=⟨di⟩
       have b0:Aside0 (ai≠ρ):=⟨dj⟩
       have ba:Aside0 (ρ≠ai):=⟨dk⟩
       have bb:Aside0 (φ ≠ ρ):=⟨dl⟩
       have bf:Aside0 (ρ ≠ φ):=⟨dm⟩
       have bg:Aside0 (Below w.heap.size w cf):=⟨dn⟩
       clear δ
       clear Y
       clear O
       clear HB
       clear cq cr ct cu cv e0 e3 e4 e5 e6 dh di dj dk dl dm dn
       have μ := ε
       have ν := θ
       have a3:= ι
       have a5:= κ
       have δ := τ
       have Y:= ψ
       have O:=a1
       have ξ :=ak
       have be:=am
       have bk:=az
       have a6:=ap
       have al:=av
       have a8:=b0
       have an:=ba
       have a2:=bb
       have ao:=bf
       have HB:=bg
       clear ε θ ι κ τ ψ a1 ak am az ap av b0 ba bb bf bg
       have hHeld:cf.cell? ⟨aj,0,none⟩=some (.int .i64 I)∧cf.cell? ⟨aj,1,none⟩=some (.int .i64 J)∧cf.cell? ⟨ai,0,none⟩=some (.slice Z B.length U)∧cf.cell? ⟨ai,1,none⟩=some (.slice γ D.length X)∧cf.cell? ⟨φ,0,none⟩=some (.int .i64 ζ)∧cf.cell? ⟨φ,1,none⟩=some (.int .i64 L)∧cf.cell? ⟨φ,2,none⟩=some (.int .i64 η):=hS_
       obtain⟨e8,e9,ir⟩:=Kd.Q6 a3.out
       (first|subst ir|(injection ir with ω ab a0;have ac:= ω.symm;have ae:=a0.symm;clear ω ab a0;subst ac;subst ae))
       obtain⟨ea,eb,it⟩:=Kd.Q6 a5.out
       (first|subst it|(injection it with ω ab a0;have ac:= ω.symm;have ae:=a0.symm;clear ω ab a0;subst ac;subst ae))
       refine Xj (a':=?_) ?_ ?_
       rotate_left
       ·simp only[Z3,Act.put,qS]
        rfl
       refine Zm (i:=9) (N:=none) (bN 11 1023) rfl rfl (Q3 HT_.out kr) (by decide) (fun K hK=>?_)
       have mn:cf.cell? ⟨ρ,0,none⟩=some (.slice none 0 0):=(Qa ξ.out 0).trans rfl
       have ma:=Qb ξ.out 0
       have kf:=a6.out
       have kg:=a8.out
       have kh:=a2.out
       have ki:=al.out
       have kj:=an.out
       have kk:=ao.out
       have mo:cf.cell? ⟨ρ,1,none⟩=some (.slice none 0 0):=(Qa ξ.out 1).trans rfl
       have mb:=Qb ξ.out 1
       have kl:=a6.out
       have km:=a8.out
       have kn:=a2.out
       have kq:=al.out
       have ks:=an.out
       have kt:=ao.out
       refine Js (w1:=?_) (by rfl) rfl ?_ ?_
       rotate_left
       ·go_simp
        rfl
       refine hK.out _ _ ⟨((cell_far (p:=⟨ρ,_,none⟩) a6.out _).trans (((cell_far (p:=⟨ρ,_,none⟩) a6.out _).trans (hHeld.1)))),((cell_far (p:=⟨ρ,_,none⟩) a6.out _).trans (((cell_far (p:=⟨ρ,_,none⟩) a6.out _).trans (hHeld.2.1)))),((cell_far (p:=⟨ρ,_,none⟩) a8.out _).trans (((cell_far (p:=⟨ρ,_,none⟩) a8.out _).trans (hHeld.2.2.1)))),((cell_far (p:=⟨ρ,_,none⟩) a8.out _).trans (((cell_far (p:=⟨ρ,_,none⟩) a8.out _).trans (hHeld.2.2.2.1)))),((cell_far (p:=⟨ρ,_,none⟩) a2.out _).trans (((cell_far (p:=⟨ρ,_,none⟩) a2.out _).trans (hHeld.2.2.2.2.1)))),((cell_far (p:=⟨ρ,_,none⟩) a2.out _).trans (((cell_far (p:=⟨ρ,_,none⟩) a2.out _).trans (hHeld.2.2.2.2.2.1)))),((cell_far (p:=⟨ρ,_,none⟩) a2.out _).trans (((cell_far (p:=⟨ρ,_,none⟩) a2.out _).trans (hHeld.2.2.2.2.2.2))))⟩ (fun hHeld=>?_)
       clear hK K
       refine qP 10 (some 8) (bN 11 2047) HT_ ?_
       refine Z0 (Zp HT_.out kr) ?_
       have g4:=cz.out
       have g5:=d0.out
       have i7:=a6.out
       have i9:=al.out
       have ku:cf.cell? ⟨aj,0,none⟩=some (.int .i64 I):=(Qa δ.out 0).trans rfl
       have kv:cf.cell? ⟨aj,1,none⟩=some (.int .i64 J):=(Qa δ.out 1).trans rfl
       have kw:=Qb δ.out 0
       have kx:=Qb δ.out 1
       have ga:=a8.out
       have gb:=an.out
       have fp:cf.cell? ⟨ai,0,none⟩=some (.slice Z B.length U):=(Qa Y.out 0).trans rfl
       have fq:cf.cell? ⟨ai,1,none⟩=some (.slice γ D.length X):=(Qa Y.out 1).trans rfl
       have fr:=Qb Y.out 0
       have ft:=Qb Y.out 1
       try go_wp2_with (first|((with_reducible refine Q2 (f:=13) rfl ?_);refine Zq (some 23) rfl rfl Try.func13 kr rfl #[.agg #[.int .i64 I,.int .i64 J],.agg #[.slice Z B.length U,.slice γ D.length X]] rfl (by simp only[List.map_toArray,List.map_cons,List.map_nil] <;> rfl) ?_;(with_reducible refine(newelref19_May.calls k I J _ _ B _ _ D true _ ?side1 ?side2 ?side3 ?side4 A8.out).mono ?_);(case side1=>exact Kd.Qz ag.out bel);(case side2=>exact ar.out);(case side3=>exact Kd.Qz ah.out bel);(case side4=>exact aw.out);rintro e en ⟨rfl,hb⟩;refine⟨_,rfl, ?_⟩;replace μ :=Aside0.mk (Kd.Qw (by(with_reducible repeat(first|apply Kd.Qm|apply Kd.Ql|apply Kd.Qo));exact(Kd.Qs (Kd.Qu (Kd.Qu (Kd.Qy μ.out ξ.out (by decide)) (fun _ hk=>hk.2) _) (fun _ hk=>hk.2) _) (fun _ h_=>h_.1))) hb);replace ν :=Aside0.mk (Kd.Qw (by(with_reducible repeat(first|apply Kd.Qm|apply Kd.Ql|apply Kd.Qo));exact(Kd.Qs (Kd.Qu (Kd.Qu (Kd.Qy ν.out ξ.out (by decide)) (fun _ hk=>hk.2) _) (fun _ hk=>hk.2) _) (fun _ h_=>h_.1))) hb);replace a3:=Aside0.mk (Kd.Qw (by(with_reducible repeat(first|apply Kd.Qm|apply Kd.Ql|apply Kd.Qo));exact(Kd.Qs (Kd.Qu (Kd.Qu (Kd.Qy a3.out ξ.out (by decide)) (fun _ hk=>hk.2) _) (fun _ hk=>hk.2) _) (fun _ h_=>h_.1))) hb);replace a5:=Aside0.mk (Kd.Qw (by(with_reducible repeat(first|apply Kd.Qm|apply Kd.Ql|apply Kd.Qo));exact(Kd.Qs (Kd.Qu (Kd.Qu (Kd.Qy a5.out ξ.out (by decide)) (fun _ hk=>hk.2) _) (fun _ hk=>hk.2) _) (fun _ h_=>h_.1))) hb);replace δ :=sBk δ hb;replace Y:=sBk Y hb;replace O:=sBk O hb;replace ξ :=Aside0.mk (Qn (g:=ρ) (o:=.cells #[.slice e8 aa.length e9,.slice ea af.length eb] 27 (0,0)) (by(with_reducible repeat(first|refine Qf ?_ _|refine Qc ?_|refine Qg ?_ _));refine Qx (cs:=#[.slice e8 aa.length e9,.slice none 0 0]) ?_ 1 _ rfl;(with_reducible repeat(first|refine Qf ?_ _|refine Qc ?_|refine Qg ?_ _));refine Qx (cs:=#[.slice none 0 0,.slice none 0 0]) ?_ 0 _ rfl;(with_reducible repeat(first|refine Qf ?_ _|refine Qc ?_|refine Qg ?_ _));exact ξ.out) hb);replace HB:=sHb hb;(try clear hb);(try clear a4);(try clear hk);(try clear hi);have fg:en.cell? ⟨aj,0,none⟩=some (.int .i64 I):=(Qa δ.out 0).trans rfl;have fh:en.cell? ⟨aj,1,none⟩=some (.int .i64 J):=(Qa δ.out 1).trans rfl;have fl:=Qb δ.out 0;have fm:=Qb δ.out 1;have ge:=a2.out;have gf:=ao.out;have h7:en.cell? ⟨φ,0,none⟩=some (.int .i64 ζ):=(Qa O.out 0).trans rfl;have h8:en.cell? ⟨φ,1,none⟩=some (.int .i64 L):=(Qa O.out 1).trans rfl;have ky:en.cell? ⟨φ,2,none⟩=some (.int .i64 η):=(Qa O.out 2).trans rfl;have h9:=Qb O.out 0;have ha:=Qb O.out 1;have kz:=Qb O.out 2)|((with_reducible refine Q2 (f:=25) rfl ?_);refine Zq (some 37) rfl rfl Try.func25 kr rfl #[.agg #[.int .i64 I,.int .i64 J],.agg #[.int .i64 ζ,.int .i64 L,.int .i64 η]] rfl (by simp only[List.map_toArray,List.map_cons,List.map_nil] <;> rfl) ?_;(with_reducible refine(newelref19_Hall.calls k I J ζ L η true _ em.out).mono ?_);rintro e du ⟨rfl,hb⟩;refine⟨_,rfl, ?_⟩;replace μ :=sRb μ hb;replace ν :=sRb ν hb;replace a3:=sRb a3 hb;replace a5:=sRb a5 hb;replace δ :=sBk δ hb;replace Y:=sBk Y hb;replace O:=sBk O hb;replace ξ :=sBk ξ hb;replace HB:=sHb hb;(try clear hb);(try clear a4);(try clear hk);(try clear hi)))
       have ε :=Aside0.mk (Kd.Qo μ.out)
       have θ :=Aside0.mk (Kd.Qo ν.out)
       have ι :=Aside0.mk (Kd.Qo a3.out)
       have κ :=Aside0.mk (Kd.Qo a5.out)
       have τ :=Aside0.mk (Qc δ.out)
       have ψ :=Aside0.mk (Qc Y.out)
       have a1:=Aside0.mk (Qc O.out)
       have ak:=Aside0.mk (Qc ξ.out)
       have am:=Aside0.mk (Qh HB.out)
       clear μ
       clear ν
       clear a3
       clear a5
       clear δ
       clear Y
       clear O
       clear ξ
       clear HB
       have μ := ε
       have ν := θ
       have a3:= ι
       have a5:= κ
       have δ := τ
       have Y:= ψ
       have O:=a1
       have ξ :=ak
       have HB:=am
       clear ε θ ι κ τ ψ a1 ak am
       refine Zv (n:=22) (S:=fun w'=>w'.cell? ⟨ρ,0,none⟩=some (.slice e8 aa.length e9)∧w'.cell? ⟨ρ,1,none⟩=some (.slice ea af.length eb)∧w'.cell? ⟨ai,0,none⟩=some (.slice Z B.length U)∧w'.cell? ⟨ai,1,none⟩=some (.slice γ D.length X)∧w'.cell? ⟨φ,0,none⟩=some (.int .i64 ζ)∧w'.cell? ⟨φ,1,none⟩=some (.int .i64 L)∧w'.cell? ⟨φ,2,none⟩=some (.int .i64 η)) (ds:=[]) #[false,false,false,false,false,false,false,false,false,false,false,false,false,false,false,false,false,false,false,false,false,false] kr rfl rfl ⟨(Qa ξ.out 0).trans rfl,(Qa ξ.out 1).trans rfl,(Qa Y.out 0).trans rfl,(Qa Y.out 1).trans rfl,(Qa O.out 0).trans rfl,(Qa O.out 1).trans rfl,(Qa O.out 2).trans rfl⟩ (fun hHeld=>?_);refine Q8 newellaw19_CallGives.Um newellaw19_CallGives.G0 (fun HT_ HW_=>?_)
       generalize du.drew=fn at μ ν a3 a5 δ Y O ξ HB hHeld ⊢
       refine Zm (i:=0) (N:=some 49) (bN 22 1) rfl rfl (Q3 HT_.out kr) (by decide) (fun K hK=>?_)
       refine Zg Try.func10 kr rfl #[] (by rfl) rfl rfl (by simp only[List.map_toArray,List.map_cons,List.map_nil] <;> rfl) ?_
       with_reducible refine(newellaw19_awake.calls k  true _ cx.out).mono ?_
       rintro e i5 ⟨rfl,hb⟩
       refine⟨_,rfl, ?_⟩
       replace μ :=sRb μ hb
       replace ν :=sRb ν hb
       replace a3:=sRb a3 hb
       replace a5:=sRb a5 hb
       replace δ :=sBk δ hb
       replace Y:=sBk Y hb
       replace O:=sBk O hb
       replace ξ :=sBk ξ hb
       replace HB:=sHb hb
       (try clear hb)
       (try clear a4)
       (try clear hk)
       (try clear hi)
       refine hK.out _ _ ⟨(Qa ξ.out 0).trans rfl,(Qa ξ.out 1).trans rfl,(Qa Y.out 0).trans rfl,(Qa Y.out 1).trans rfl,(Qa O.out 0).trans rfl,(Qa O.out 1).trans rfl,(Qa O.out 2).trans rfl⟩ (fun hHeld=>?_)
       clear hK K
       refine qN (some 49) ?_
       refine qP 1 (some 50) (bN 22 3) HT_ ?_
       refine qP 2 (some 51) (bN 22 7) HT_ ?_
       refine qP 3 (some 52) (bN 22 15) HT_ ?_
       refine qP 4 (some 53) (bN 22 31) HT_ ?_
       refine qP 5 (some 54) (bN 22 63) HT_ ?_
       refine qT 6 (some 55) (bN 22 127) HT_ HW_ hHeld ?_
       refine qT 7 (some 56) (bN 22 255) HT_ HW_ hHeld ?_
       refine qT 8 (some 57) (bN 22 511) HT_ HW_ hHeld ?_
       refine Zm (i:=9) (N:=some 58) (bN 22 1023) rfl rfl (Q3 HT_.out kr) (by decide) (fun K hK=>?_)
       refine Zg Try.func26 kr rfl #[.agg #[.slice Z B.length U,.slice γ D.length X],.agg #[.int .i64 ζ,.int .i64 L,.int .i64 η]] (by rfl) rfl rfl (by simp only[List.map_toArray,List.map_cons,List.map_nil] <;> rfl) ?_
       with_reducible refine(newelref19_Give.calls k _ _ B (fun k_=>k_<w.heap.size) _ _ D ζ L η fo fx _ ?side1 ?side2 ?side3 il.out).mono ?_
       (case side1=>exact(Kd.Qz ag.out HB.out))
       (case side2=>exact ar.out)
       (case side3=>exact Kd.V_mk aw.out (Kd.Ku (Kd.C_F Lt ah.out) HB.out))
       rintro e mz ⟨jj,mq,rfl,χ,a7,hb⟩
       refine⟨_,rfl, ?_⟩
       have d3:=Aside0.mk (Kd.Q4 (Kd.Zy (Kd.Zr (Kd.Zr (Kd.Qs (ok':=fun k_=>True) χ (fun _ hk_=>trivial)) (Kd.Z4 μ.out)) (Kd.Z4 a3.out)) (g:= φ) (o:=.cells #[.int .i64 ζ,.int .i64 L,.int .i64 η] 56 (0,0)) O.out) (Qk HB.out))
       have d4:=Aside0.mk (Kd.M7 (Kd.Z6 (ok':=fun k_=>some k_≠(jj:Value).ownBlock∧some k_≠(cw:Value).ownBlock∧some k_≠(cy:Value).ownBlock∧some k_≠(.slice e8 aa.length e9:Value).ownBlock∧some k_≠(.slice ea af.length eb:Value).ownBlock∧k_≠aj∧k_≠ai∧k_ ≠ φ ∧ k_≠ρ) a7 (fun k_ hk_=>⟨hk_.2,Or.elim hk_.1 (fun hs_=>fun e_=>Nat.not_le.2 hs_ (Kd.Zn μ.out k_ e_.symm)) (fun hn_=>(Kd.fresh' (Kd.Z4 μ.out) k_ hn_)),Or.elim hk_.1 (fun hs_=>fun e_=>Nat.not_le.2 hs_ (Kd.Zn ν.out k_ e_.symm)) (fun hn_=>(Kd.fresh' (Kd.Z4 ν.out) k_ hn_)),Or.elim hk_.1 (fun hs_=>fun e_=>Nat.not_le.2 hs_ (Kd.Zn a3.out k_ e_.symm)) (fun hn_=>(Kd.fresh' (Kd.Z4 a3.out) k_ hn_)),Or.elim hk_.1 (fun hs_=>fun e_=>Nat.not_le.2 hs_ (Kd.Zn a5.out k_ e_.symm)) (fun hn_=>(Kd.fresh' (Kd.Z4 a5.out) k_ hn_)),Or.elim hk_.1 (fun hs_=>fun e_=>Nat.not_le.2 hs_ (by rw[e_];exact er.out)) (fun hn_=>(Kd.Yr (g:=aj) (o:=.cells #[.int .i64 I,.int .i64 J] 23 (0,0)) δ.out k_ hn_)),Or.elim hk_.1 (fun hs_=>fun e_=>Nat.not_le.2 hs_ (by rw[e_];exact et.out)) (fun hn_=>(Kd.Yr (g:=ai) (o:=.cells #[.slice Z B.length U,.slice γ D.length X] 27 (0,0)) Y.out k_ hn_)),Or.elim hk_.1 (fun hs_=>fun e_=>Nat.not_le.2 hs_ (by rw[e_];exact ew.out)) (fun hn_=>(Kd.Yr (g:= φ) (o:=.cells #[.int .i64 ζ,.int .i64 L,.int .i64 η] 56 (0,0)) O.out k_ hn_)),Or.elim hk_.1 (fun hs_=>fun e_=>Nat.not_le.2 hs_ (by rw[e_];exact be.out)) (fun hn_=>(Kd.Yr (g:=ρ) (o:=.cells #[.slice e8 aa.length e9,.slice ea af.length eb] 27 (0,0)) ξ.out k_ hn_))⟩)) (Qk HB.out))
       replace μ :=Aside0.mk (Kd.Q7 μ.out (Kd.Zn χ) hb)
       replace ν :=sRb ν hb
       replace a3:=Aside0.mk (Kd.Q7 a3.out (Kd.Zn χ) hb)
       replace a5:=sRb a5 hb
       replace δ :=sBk δ hb
       replace Y:=sBk Y hb
       replace O:=sBk O hb
       replace ξ :=sBk ξ hb
       replace HB:=sHb hb
       (try clear hb)
       (try clear a4)
       (try clear hk)
       (try clear hi)
       (try clear χ)
       (try clear a7)
       obtain⟨f4,f7,dv⟩:=Kd.Q6 d3.out
       (first|subst dv|(injection dv with ω ab a0;have ac:= ω.symm;have ae:=a0.symm;clear ω ab a0;subst ac;subst ae))
       obtain⟨jk,jl,iu⟩:=Kd.M6 d4.out
       (first|subst iu|(injection iu with ω ab a0;have ac:= ω.symm;have ae:=a0.symm;clear ω ab a0;subst ac;subst ae))
       refine hK.out _ _ ⟨(Qa ξ.out 0).trans rfl,(Qa ξ.out 1).trans rfl,(Qa Y.out 0).trans rfl,(Qa Y.out 1).trans rfl,(Qa O.out 0).trans rfl,(Qa O.out 1).trans rfl,(Qa O.out 2).trans rfl⟩ (fun hHeld=>?_)
       clear hK K
       refine qN (some 58) ?_
       refine Zm (i:=10) (N:=some 59) (bN 22 2047) rfl rfl (Q3 HT_.out kr) (by decide) (fun K hK=>?_)
       refine Zg Try.func15 kr rfl #[.agg #[.slice e8 aa.length e9,.slice ea af.length eb],.agg #[.slice f4 fo.length f7,.slice jk fx.length jl]] (by rfl) rfl rfl (by simp only[List.map_toArray,List.map_cons,List.map_nil] <;> rfl) ?_
       with_reducible refine(newelref19_Same.calls k _ _ aa _ _ af _ _ fo _ _ fx true _ ?side1 ?side2 ?side3 ?side4 ?side5 ?side6 ?side7 ?side8 lr.out).mono ?_
       (case side1=>exact(Kd.Qr a3.out).2.2)
       (case side2=>exact(Kd.Qr a3.out).2.1)
       (case side3=>exact(Kd.Qr a5.out).2.2)
       (case side4=>exact(Kd.Qr a5.out).2.1)
       (case side5=>exact(Kd.Qr d3.out).2.2)
       (case side6=>exact(Kd.Qr d3.out).2.1)
       (case side7=>exact(Kd.Ul d4.out).2.2)
       (case side8=>exact(Kd.Ul d4.out).2.1)
       rintro e gs ⟨rfl,hb⟩
       refine⟨_,rfl, ?_⟩
       replace μ :=sRb μ hb
       replace ν :=sRb ν hb
       replace a3:=sRb a3 hb
       replace a5:=sRb a5 hb
       replace d3:=sRb d3 hb
       replace d4:=Aside0.mk (Kd.X4 d4.out hb)
       replace δ :=sBk δ hb
       replace Y:=sBk Y hb
       replace O:=sBk O hb
       replace ξ :=sBk ξ hb
       replace HB:=sHb hb
       (try clear hb)
       (try clear a4)
       (try clear hk)
       (try clear hi)
       refine hK.out _ _ ⟨(Qa ξ.out 0).trans rfl,(Qa ξ.out 1).trans rfl,(Qa Y.out 0).trans rfl,(Qa Y.out 1).trans rfl,(Qa O.out 0).trans rfl,(Qa O.out 1).trans rfl,(Qa O.out 2).trans rfl⟩ (fun hHeld=>?_)
       clear hK K
       refine qN (some 59) ?_
       refine qP 11 (some 60) (bN 22 4095) HT_ ?_
       refine qP 12 (some 61) (bN 22 8191) HT_ ?_
       refine qT 13 (some 62) (bN 22 16383) HT_ HW_ hHeld ?_
       refine qT 14 (some 63) (bN 22 32767) HT_ HW_ hHeld ?_
       refine qT 16 (some 65) (bN 22 98303) HT_ HW_ hHeld ?_
       refine qT 17 (some 66) (bN 22 229375) HT_ HW_ hHeld ?_
       refine Zm (i:=15) (N:=some 64) (bN 22 262143) rfl rfl (Q3 HT_.out kr) (by decide) (fun K hK=>?_)
       refine Zg Try.func27 kr rfl #[.agg #[.slice Z B.length U,.slice γ D.length X],.agg #[.slice e8 aa.length e9,.slice ea af.length eb]] (by rfl) rfl rfl (by simp only[List.map_toArray,List.map_cons,List.map_nil] <;> rfl) ?_
       with_reducible refine(call_Same.calls k _ _ B _ _ D _ _ aa _ _ af b9 _ ?side1 ?side2 ?side3 ?side4 ?side5 ?side6 ?side7 ?side8 dc.out).mono ?_
       (case side1=>exact(Kd.Qz ag.out HB.out))
       (case side2=>exact ar.out)
       (case side3=>exact(Kd.Qz ah.out HB.out))
       (case side4=>exact aw.out)
       (case side5=>exact(Kd.Qr a3.out).2.2)
       (case side6=>exact(Kd.Qr a3.out).2.1)
       (case side7=>exact(Kd.Qr a5.out).2.2)
       (case side8=>exact(Kd.Qr a5.out).2.1)
       rintro e jc ⟨rfl,hb⟩
       refine⟨_,rfl, ?_⟩
       replace μ :=sRb μ hb
       replace ν :=sRb ν hb
       replace a3:=sRb a3 hb
       replace a5:=sRb a5 hb
       replace d3:=sRb d3 hb
       replace d4:=Aside0.mk (Kd.X4 d4.out hb)
       replace δ :=sBk δ hb
       replace Y:=sBk Y hb
       replace O:=sBk O hb
       replace ξ :=sBk ξ hb
       replace HB:=sHb hb
       (try clear hb)
       (try clear a4)
       (try clear hk)
       (try clear hi)
       refine hK.out _ _ ⟨(Qa ξ.out 0).trans rfl,(Qa ξ.out 1).trans rfl,(Qa Y.out 0).trans rfl,(Qa Y.out 1).trans rfl,(Qa O.out 0).trans rfl,(Qa O.out 1).trans rfl,(Qa O.out 2).trans rfl⟩ (fun hHeld=>?_)
       clear hK K
       refine qN (some 64) ?_
       refine Zm (i:=18) (N:=some 67) (bN 22 524287) rfl rfl (Q3 HT_.out kr) (by decide) (fun K hK=>?_)
       refine Zg Try.func15 kr rfl #[.agg #[.slice Z B.length U,.slice γ D.length X],.agg #[.slice e8 aa.length e9,.slice ea af.length eb]] (by rfl) rfl rfl (by simp only[List.map_toArray,List.map_cons,List.map_nil] <;> rfl) ?_
       with_reducible refine(newelref19_Same.calls k _ _ B _ _ D _ _ aa _ _ af b4 _ ?side1 ?side2 ?side3 ?side4 ?side5 ?side6 ?side7 ?side8 iq.out).mono ?_
       (case side1=>exact(Kd.Qz ag.out HB.out))
       (case side2=>exact ar.out)
       (case side3=>exact(Kd.Qz ah.out HB.out))
       (case side4=>exact aw.out)
       (case side5=>exact(Kd.Qr a3.out).2.2)
       (case side6=>exact(Kd.Qr a3.out).2.1)
       (case side7=>exact(Kd.Qr a5.out).2.2)
       (case side8=>exact(Kd.Qr a5.out).2.1)
       rintro e fi ⟨rfl,hb⟩
       refine⟨_,rfl, ?_⟩
       replace μ :=sRb μ hb
       replace ν :=sRb ν hb
       replace a3:=sRb a3 hb
       replace a5:=sRb a5 hb
       replace d3:=sRb d3 hb
       replace d4:=Aside0.mk (Kd.X4 d4.out hb)
       replace δ :=sBk δ hb
       replace Y:=sBk Y hb
       replace O:=sBk O hb
       replace ξ :=sBk ξ hb
       replace HB:=sHb hb
       (try clear hb)
       (try clear a4)
       (try clear hk)
       (try clear hi)
       refine hK.out _ _ ⟨(Qa ξ.out 0).trans rfl,(Qa ξ.out 1).trans rfl,(Qa Y.out 0).trans rfl,(Qa Y.out 1).trans rfl,(Qa O.out 0).trans rfl,(Qa O.out 1).trans rfl,(Qa O.out 2).trans rfl⟩ (fun hHeld=>?_)
       clear hK K
       refine qN (some 67) ?_
       refine qP 19 (some 68) (bN 22 1048575) HT_ ?_
       refine qP 20 (some 69) (bN 22 2097151) HT_ ?_
       refine qP 21 (some 6) (bN 22 4194303) HT_ ?_
       refine Z0 (Zp HT_.out kr) ?_
       try go_wp2
       go_ret
       exact⟨rfl,HB.out⟩
      ·replace au:=Bool.eq_false_iff.mpr au
       subst au
       have H1:(none)=some r:=by rw[if_neg (show ¬ (false=true) by decide)] at H;exact H
       clear H
       have H:=H1
       clear H1
       exact absurd H (by simp)
     ·rw[if_neg ay] at H
      exact absurd H (by simp)
    ·replace bc:=Bool.eq_false_iff.mpr bc
     subst bc
     have H1:(none)=some r:=by rw[if_neg (show ¬ (false=true) by decide)] at H;exact H
     clear H
     have H:=H1
     clear H1
     exact absurd H (by simp)
   ·replace cg:=Bool.eq_false_iff.mpr cg
    subst cg
    have H1:((newellaw19_awake.f k).bind fun bn=>(if bn=true then (if ax=191 then ((newelref19_Same.f k aa af ([]:List (S56)) ([]:List (S62))).bind fun bh=>(some bh)) else (none)) else (none)))=some r:=by rw[if_neg (show ¬ (false=true) by decide)] at H;exact H
    clear H
    have H:=H1
    clear H1
    replace H:=Option.bind_eq_some_iff.mp H
    obtain⟨bn,iv,H⟩:=H
    replace H:(if bn=true then (if ax=191 then ((newelref19_Same.f k aa af ([]:List (S56)) ([]:List (S62))).bind fun bh=>(some bh)) else (none)) else (none))=some r:=H
    have ls:=Aside0.mk iv
    clear iv
    by_cases ei:bn=true
    ·subst ei
     have H1:(if ax=191 then ((newelref19_Same.f k aa af ([]:List (S56)) ([]:List (S62))).bind fun bh=>(some bh)) else (none))=some r:=by rw[if_pos rfl] at H;exact H
     clear H
     have H:=H1
     clear H1
     by_cases ek:ax=191
     ·rw[if_pos ek] at H
      have c58b0:(ax==191)=true:=beq_iff_eq.mpr ek
      have c58b1:(ax != 191)=false:=bne_eq_false_iff_eq.mpr ek
      clear ek
      replace H:=Option.bind_eq_some_iff.mp H
      obtain⟨bh,iw,H⟩:=H
      replace H:(some bh)=some r:=H
      have lu:=Aside0.mk iw
      clear iw
      obtain rfl:=Option.some.inj H
      go_enter Try.func5,Try.ntmps5
      try go_wp2_with (first|((with_reducible refine Qt (N:=3) rfl ?_);refine Qp ?hg (N:=3) ?hd (cs:=#[.int .i64 I,.int .i64 J]) (t:=23) ?hr ?_;(case hd=>rfl);(case hg=>rfl);(case hr=>go_simp <;> rfl);intro aj hg lp hbox hb;have δ :=Aside0.mk hbox;have er:=sGe hg;have fy:=sGe hg;replace HB:=sHb hb;clear hb hbox hg)|((with_reducible refine Qt (N:=4) rfl ?_);refine Qp ?hg (N:=4) ?hd (cs:=#[.slice Z B.length U,.slice γ D.length X]) (t:=27) ?hr ?_;(case hd=>rfl);(case hg=>rfl);(case hr=>go_simp <;> rfl);intro ai hg dd hbox hb;have Y:=Aside0.mk hbox;have et:=sGe hg;have fz:=sGe hg;have ch:=sNl δ hg;have cj:=sNg δ hg;replace δ :=sBk δ hb;replace HB:=sHb hb;clear hb hbox hg)|((with_reducible refine Qt (N:=5) rfl ?_);refine Qp ?hg (N:=5) ?hd (cs:=#[.int .i64 ζ,.int .i64 L,.int .i64 η]) (t:=56) ?hr ?_;(case hd=>rfl);(case hg=>rfl);(case hr=>go_simp <;> rfl);intro φ hg ia hbox hb;have O:=Aside0.mk hbox;have ew:=sGe hg;have g8:=sGe hg;have cz:=sNl δ hg;have d0:=sNg δ hg;have ck:=sNl Y hg;have cp:=sNg Y hg;replace δ :=sBk δ hb;replace Y:=sBk Y hb;replace HB:=sHb hb;clear hb hbox hg;have fj:=cj.out;have fk:=ch.out;have eu:=ck.out;have ev:=cp.out;have h0:ia.cell? ⟨ai,0,none⟩=some (.slice Z B.length U):=(Qa Y.out 0).trans rfl;have h4:ia.cell? ⟨ai,1,none⟩=some (.slice γ D.length X):=(Qa Y.out 1).trans rfl;have h5:=Qb Y.out 0;have h6:=Qb Y.out 1)|((with_reducible refine Q2 (f:=9) rfl ?_);refine Zq (some 10) rfl rfl Try.func9 kr rfl #[.agg #[.slice Z B.length U,.slice γ D.length X]] rfl (by simp only[List.map_toArray,List.map_cons,List.map_nil] <;> rfl) ?_;(with_reducible refine(newelref19_Few.calls _ _ B _ _ D true _ ?side1 ?side2 ?side3 ?side4 A4.out).mono ?_);(case side1=>exact(Kd.Qz ag.out HB.out));(case side2=>exact ar.out);(case side3=>exact(Kd.Qz ah.out HB.out));(case side4=>exact aw.out);rintro e jd ⟨rfl,hb⟩;refine⟨_,rfl, ?_⟩;replace δ :=sBk δ hb;replace Y:=sBk Y hb;replace O:=sBk O hb;replace HB:=sHb hb;(try clear hb);(try clear a4);(try clear hk);(try clear hi)))
      replace δ :=Aside0.mk (Qc δ.out)
      replace Y:=Aside0.mk (Qc Y.out)
      replace O:=Aside0.mk (Qc O.out)
      replace HB:=Aside0.mk (Qh HB.out)
      refine Zv (n:=11) (S:=fun w'=>w'.cell? ⟨aj,0,none⟩=some (.int .i64 I)∧w'.cell? ⟨aj,1,none⟩=some (.int .i64 J)∧w'.cell? ⟨ai,0,none⟩=some (.slice Z B.length U)∧w'.cell? ⟨ai,1,none⟩=some (.slice γ D.length X)∧w'.cell? ⟨φ,0,none⟩=some (.int .i64 ζ)∧w'.cell? ⟨φ,1,none⟩=some (.int .i64 L)∧w'.cell? ⟨φ,2,none⟩=some (.int .i64 η)) (ds:=[]) #[false,false,false,false,false,false,false,false,false,false,false] kr rfl rfl ⟨(Qa δ.out 0).trans rfl,(Qa δ.out 1).trans rfl,(Qa Y.out 0).trans rfl,(Qa Y.out 1).trans rfl,(Qa O.out 0).trans rfl,(Qa O.out 1).trans rfl,(Qa O.out 2).trans rfl⟩ (fun hHeld=>?_);refine Q8 newellaw19_CallGives.Wn newellaw19_CallGives.Vh (fun HT_ HW_=>?_)
      generalize jd.drew=gr at δ Y O HB hHeld ⊢
      refine qT 0 (some 14) (bN 11 1) HT_ HW_ hHeld ?_
      refine qT 1 (some 15) (bN 11 3) HT_ HW_ hHeld ?_
      refine qT 3 (some 17) (bN 11 11) HT_ HW_ hHeld ?_
      refine K9 (σ:=Value×Value×Value×Value×Nat) 2 (bN 11 511) (fun s_=>[(16,.agg #[s_.1,s_.2.1]),(18,.tuple #[.agg #[s_.2.2.1,s_.2.2.2.1],.int .i64 ax]),(7,.pointer (some ⟨s_.2.2.2.2,0,none⟩)),(13,.tuple #[.agg #[s_.2.2.1,s_.2.2.2.1],.int .i64 ax]),(19,.agg #[s_.2.2.1,s_.2.2.2.1]),(20,.int .i64 ax)]) (fun s_ w'=>(w'.cell? ⟨aj,0,none⟩=some (.int .i64 I)∧w'.cell? ⟨aj,1,none⟩=some (.int .i64 J)∧w'.cell? ⟨ai,0,none⟩=some (.slice Z B.length U)∧w'.cell? ⟨ai,1,none⟩=some (.slice γ D.length X)∧w'.cell? ⟨φ,0,none⟩=some (.int .i64 ζ)∧w'.cell? ⟨φ,1,none⟩=some (.int .i64 L)∧w'.cell? ⟨φ,2,none⟩=some (.int .i64 η))∧(Kd.R k56 56 w' w.heap.size (fun k_=>some k_≠(s_.2.2.1:Value).ownBlock∧k_ ≠ φ) s_.1 b2)∧(Kd.R k62 62 w' w.heap.size (fun k_=>some k_≠(s_.2.2.2.1:Value).ownBlock) s_.2.1 b3)∧(Kd.R k56 56 w' w.heap.size (fun k_=>some k_≠(s_.1:Value).ownBlock∧k_ ≠ φ) s_.2.2.1 aa)∧(Kd.R k62 62 w' w.heap.size (fun k_=>some k_≠(s_.2.1:Value).ownBlock) s_.2.2.2.1 af)∧(w'.heap[aj]?=some (.cells #[.int .i64 I,.int .i64 J] 23 (0,0)))∧(w'.heap[ai]?=some (.cells #[.slice Z B.length U,.slice γ D.length X] 27 (0,0)))∧(w'.heap[φ]?=some (.cells #[.int .i64 ζ,.int .i64 L,.int .i64 η] 56 (0,0)))∧(w'.heap[s_.2.2.2.2]?=some (.cells #[.slice none 0 0,.slice none 0 0] 27 (0,0)))∧(w.heap.size≤s_.2.2.2.2)∧(w.heap.size≤s_.2.2.2.2)∧(aj≠s_.2.2.2.2)∧(s_.2.2.2.2≠aj)∧(ai≠s_.2.2.2.2)∧(s_.2.2.2.2≠ai)∧(φ ≠ s_.2.2.2.2)∧(s_.2.2.2.2 ≠ φ)∧(Below w.heap.size w w')) ?_ ?_
      rotate_left
      ·intro hCont
       refine Kj (i:=2) (j:=8) (Ni:=some 16) (Nj:=some 7) (bN 11 15) (bN 11 267) rfl rfl rfl rfl (Ye HT_.out kr) (by decide) (by decide) (fun K hK=>?_) (fun K hK=>?_)
       ·skip
        refine Zg Try.func12 kr rfl #[.agg #[.slice Z B.length U,.slice γ D.length X]] (by rfl) rfl rfl (by simp only[List.map_toArray,List.map_cons,List.map_nil] <;> rfl) ?_
        with_reducible refine(newellaw19_Own.calls _ _ B _ _ D b2 b3 _ ?side1 ?side2 ?side3 ?side4 A6.out).mono ?_
        (case side1=>exact(Kd.Qz ag.out HB.out))
        (case side2=>exact ar.out)
        (case side3=>exact(Kd.Qz ah.out HB.out))
        (case side4=>exact aw.out)
        rintro e lv ⟨cw,cy,rfl,χ,a7,hb⟩
        refine⟨_,rfl, ?_⟩
        have μ :=Aside0.mk (Kd.Q4 (Kd.Zy χ (g:= φ) (o:=.cells #[.int .i64 ζ,.int .i64 L,.int .i64 η] 56 (0,0)) O.out) (Qk HB.out))
        have ν :=Aside0.mk (Kd.Q4 a7 (Qk HB.out))
        replace δ :=sBk δ hb
        replace Y:=sBk Y hb
        replace O:=sBk O hb
        replace HB:=sHb hb
        (try clear hb)
        (try clear a4)
        (try clear hk)
        (try clear hi)
        (try clear χ)
        (try clear a7)
        obtain⟨ix,iz,j2⟩:=Kd.Q6 μ.out
        (first|subst j2|(injection j2 with ω ab a0;have ac:= ω.symm;have ae:=a0.symm;clear ω ab a0;subst ac;subst ae))
        obtain⟨d6,d9,da⟩:=Kd.Q6 ν.out
        (first|subst da|(injection da with ω ab a0;have ac:= ω.symm;have ae:=a0.symm;clear ω ab a0;subst ac;subst ae))
        refine hK.out _ _ ⟨(Qa δ.out 0).trans rfl,(Qa δ.out 1).trans rfl,(Qa Y.out 0).trans rfl,(Qa Y.out 1).trans rfl,(Qa O.out 0).trans rfl,(Qa O.out 1).trans rfl,(Qa O.out 2).trans rfl⟩ (fun hHeld=>?_)
        clear hK K
        refine qN (some 16) ?_
        refine Kj (i:=4) (j:=8) (Ni:=some 18) (Nj:=some 7) (bN 11 31) (bN 11 271) rfl rfl rfl rfl (Ye HT_.out kr) (by decide) (by decide) (fun K hK=>?_) (fun K hK=>?_)
        ·skip
         refine Zg Try.func24 kr rfl #[.agg #[.int .i64 I,.int .i64 J],.agg #[.slice ix b2.length iz,.slice d6 b3.length d9],.agg #[.int .i64 ζ,.int .i64 L,.int .i64 η]] (by rfl) rfl rfl (by simp only[List.map_toArray,List.map_cons,List.map_nil] <;> rfl) ?_
         with_reducible refine(call_Give.calls k I J _ _ b2 _ _ b3 ζ L η aa af ax _ ?side1 ?side2 ?side3 ?side4 A7.out).mono ?_
         (case side1=>exact(Kd.Qr μ.out).2.2)
         (case side2=>exact(Kd.Qr μ.out).2.1)
         (case side3=>exact(Kd.Qr ν.out).2.2)
         (case side4=>exact(Kd.Qr ν.out).2.1)
         rintro e lq ⟨bi,bj,rfl,χ,a7,hb⟩
         refine⟨_,rfl, ?_⟩
         have a3:=Aside0.mk (Kd.Q4 (Kd.Zy (Kd.Zr χ (Kd.Z4 μ.out)) (g:= φ) (o:=.cells #[.int .i64 ζ,.int .i64 L,.int .i64 η] 56 (0,0)) O.out) (Qk HB.out))
         have a5:=Aside0.mk (Kd.Q4 (Kd.Zr a7 (Kd.Z4 ν.out)) (Qk HB.out))
         replace μ :=Aside0.mk (Kd.Q7 μ.out (Kd.Zn χ) hb)
         replace ν :=Aside0.mk (Kd.Q7 ν.out (Kd.Zn a7) hb)
         replace δ :=sBk δ hb
         replace Y:=sBk Y hb
         replace O:=sBk O hb
         replace HB:=sHb hb
         (try clear hb)
         (try clear a4)
         (try clear hk)
         (try clear hi)
         (try clear χ)
         (try clear a7)
         refine hK.out _ _ ⟨(Qa δ.out 0).trans rfl,(Qa δ.out 1).trans rfl,(Qa Y.out 0).trans rfl,(Qa Y.out 1).trans rfl,(Qa O.out 0).trans rfl,(Qa O.out 1).trans rfl,(Qa O.out 2).trans rfl⟩ (fun hHeld=>?_)
         clear hK K
         refine qN (some 18) ?_
         refine qP 5 (some 13) (bN 11 63) HT_ ?_
         refine qP 6 (some 19) (bN 11 127) HT_ ?_
         refine qP 7 (some 20) (bN 11 255) HT_ ?_
         refine Zm (i:=8) (N:=some 7) (bN 11 511) rfl rfl (Q3 HT_.out kr) (by decide) (fun K hK=>?_)
         refine Xk ?hg (N:=7) ?hd (cs:=#[.slice none 0 0,.slice none 0 0]) (t:=27) ?hr ?_;(case hd=>rfl);(case hg=>rfl);(case hr=>go_simp <;> rfl)
         intro ρ hg de hbox hb
         have ξ :=Aside0.mk hbox
         have be:=sGe hg
         have bk:=sGe hg
         have a6:=sNl δ hg
         have al:=sNg δ hg
         have a8:=sNl Y hg
         have an:=sNg Y hg
         have a2:=sNl O hg
         have ao:=sNg O hg
         replace μ :=sRb μ hb
         replace ν :=sRb ν hb
         replace a3:=sRb a3 hb
         replace a5:=sRb a5 hb
         replace δ :=sBk δ hb
         replace Y:=sBk Y hb
         replace O:=sBk O hb
         replace HB:=sHb hb
         clear hb hbox hg
         refine hK.out _ _ ⟨(Qa δ.out 0).trans rfl,(Qa δ.out 1).trans rfl,(Qa Y.out 0).trans rfl,(Qa Y.out 1).trans rfl,(Qa O.out 0).trans rfl,(Qa O.out 1).trans rfl,(Qa O.out 2).trans rfl⟩ (fun hHeld=>?_)
         clear hK K
         refine qN (some 7) ?_
         exact Xj (by simp only[Z3,Act.put,qS]) (hCont (.slice ix b2.length iz,.slice d6 b3.length d9,bi,bj,ρ) _ ⟨hHeld,(by(with_reducible repeat(first|apply Kd.Qm|apply Kd.Ql|apply Kd.Qo));exact Kd.Qs μ.out (fun _ hk=>⟨hk.2,hk.1.2⟩)),(by(with_reducible repeat(first|apply Kd.Qm|apply Kd.Ql|apply Kd.Qo));exact Kd.Qs ν.out (fun _ hk=>hk.2)),(by(with_reducible repeat(first|apply Kd.Qm|apply Kd.Ql|apply Kd.Qo));exact Kd.Qs a3.out (fun _ hk=>⟨hk.1.2,hk.2⟩)),(by(with_reducible repeat(first|apply Kd.Qm|apply Kd.Ql|apply Kd.Qo));exact Kd.Qs a5.out (fun _ hk=>hk.2)),δ.out,Y.out,O.out,ξ.out,be.out,bk.out,a6.out,al.out,a8.out,an.out,a2.out,ao.out,HB.out⟩)
        ·skip
         refine Xk ?hg (N:=7) ?hd (cs:=#[.slice none 0 0,.slice none 0 0]) (t:=27) ?hr ?_;(case hd=>rfl);(case hg=>rfl);(case hr=>go_simp <;> rfl)
         intro ρ hg fu hbox hb
         have ξ :=Aside0.mk hbox
         have be:=sGe hg
         have bk:=sGe hg
         have a6:=sNl δ hg
         have al:=sNg δ hg
         have a8:=sNl Y hg
         have an:=sNg Y hg
         have a2:=sNl O hg
         have ao:=sNg O hg
         replace μ :=sRb μ hb
         replace ν :=sRb ν hb
         replace δ :=sBk δ hb
         replace Y:=sBk Y hb
         replace O:=sBk O hb
         replace HB:=sHb hb
         clear hb hbox hg
         obtain⟨d6,d9,da⟩:=Kd.Q6 μ.out
         (first|subst da|(injection da with ω ab a0;have ac:= ω.symm;have ae:=a0.symm;clear ω ab a0;subst ac;subst ae))
         obtain⟨eg,eh,ee⟩:=Kd.Q6 ν.out
         (first|subst ee|(injection ee with ω ab a0;have ac:= ω.symm;have ae:=a0.symm;clear ω ab a0;subst ac;subst ae))
         refine hK.out _ _ ⟨(Qa δ.out 0).trans rfl,(Qa δ.out 1).trans rfl,(Qa Y.out 0).trans rfl,(Qa Y.out 1).trans rfl,(Qa O.out 0).trans rfl,(Qa O.out 1).trans rfl,(Qa O.out 2).trans rfl⟩ (fun hHeld=>?_)
         clear hK K
         refine qN (some 7) ?_
         refine Zm (i:=4) (N:=some 18) (bN 11 287) rfl rfl (Q3 HT_.out kr) (by decide) (fun K hK=>?_)
         refine Zg Try.func24 kr rfl #[.agg #[.int .i64 I,.int .i64 J],.agg #[.slice d6 b2.length d9,.slice eg b3.length eh],.agg #[.int .i64 ζ,.int .i64 L,.int .i64 η]] (by rfl) rfl rfl (by simp only[List.map_toArray,List.map_cons,List.map_nil] <;> rfl) ?_
         with_reducible refine(call_Give.calls k I J _ _ b2 _ _ b3 ζ L η aa af ax _ ?side1 ?side2 ?side3 ?side4 A7.out).mono ?_
         (case side1=>exact(Kd.Qr μ.out).2.2)
         (case side2=>exact(Kd.Qr μ.out).2.1)
         (case side3=>exact(Kd.Qr ν.out).2.2)
         (case side4=>exact(Kd.Qr ν.out).2.1)
         rintro e de ⟨bi,bj,rfl,χ,a7,hb⟩
         refine⟨_,rfl, ?_⟩
         have a3:=Aside0.mk (Kd.Q4 (Kd.Zy (Kd.Zr χ (Kd.Z4 μ.out)) (g:= φ) (o:=.cells #[.int .i64 ζ,.int .i64 L,.int .i64 η] 56 (0,0)) O.out) (Qk HB.out))
         have a5:=Aside0.mk (Kd.Q4 (Kd.Zr a7 (Kd.Z4 ν.out)) (Qk HB.out))
         replace μ :=Aside0.mk (Kd.Q7 μ.out (Kd.Zn χ) hb)
         replace ν :=Aside0.mk (Kd.Q7 ν.out (Kd.Zn a7) hb)
         replace δ :=sBk δ hb
         replace Y:=sBk Y hb
         replace O:=sBk O hb
         replace ξ :=sBk ξ hb
         replace HB:=sHb hb
         (try clear hb)
         (try clear a4)
         (try clear hk)
         (try clear hi)
         (try clear χ)
         (try clear a7)
         refine hK.out _ _ ⟨(Qa δ.out 0).trans rfl,(Qa δ.out 1).trans rfl,(Qa Y.out 0).trans rfl,(Qa Y.out 1).trans rfl,(Qa O.out 0).trans rfl,(Qa O.out 1).trans rfl,(Qa O.out 2).trans rfl⟩ (fun hHeld=>?_)
         clear hK K
         refine qN (some 18) ?_
         refine qP 5 (some 13) (bN 11 319) HT_ ?_
         refine qP 6 (some 19) (bN 11 383) HT_ ?_
         refine qP 7 (some 20) (bN 11 511) HT_ ?_
         exact Xj (by simp only[Z3,Act.put,qS]) (hCont (.slice d6 b2.length d9,.slice eg b3.length eh,bi,bj,ρ) _ ⟨hHeld,(by(with_reducible repeat(first|apply Kd.Qm|apply Kd.Ql|apply Kd.Qo));exact Kd.Qs μ.out (fun _ hk=>⟨hk.2,hk.1.2⟩)),(by(with_reducible repeat(first|apply Kd.Qm|apply Kd.Ql|apply Kd.Qo));exact Kd.Qs ν.out (fun _ hk=>hk.2)),(by(with_reducible repeat(first|apply Kd.Qm|apply Kd.Ql|apply Kd.Qo));exact Kd.Qs a3.out (fun _ hk=>⟨hk.1.2,hk.2⟩)),(by(with_reducible repeat(first|apply Kd.Qm|apply Kd.Ql|apply Kd.Qo));exact Kd.Qs a5.out (fun _ hk=>hk.2)),δ.out,Y.out,O.out,ξ.out,be.out,bk.out,a6.out,al.out,a8.out,an.out,a2.out,ao.out,HB.out⟩)
       ·skip
        refine Xk ?hg (N:=7) ?hd (cs:=#[.slice none 0 0,.slice none 0 0]) (t:=27) ?hr ?_;(case hd=>rfl);(case hg=>rfl);(case hr=>go_simp <;> rfl)
        intro ρ hg lv hbox hb
        have ξ :=Aside0.mk hbox
        have be:=sGe hg
        have bk:=sGe hg
        have a6:=sNl δ hg
        have al:=sNg δ hg
        have a8:=sNl Y hg
        have an:=sNg Y hg
        have a2:=sNl O hg
        have ao:=sNg O hg
        replace δ :=sBk δ hb
        replace Y:=sBk Y hb
        replace O:=sBk O hb
        replace HB:=sHb hb
        clear hb hbox hg
        refine hK.out _ _ ⟨(Qa δ.out 0).trans rfl,(Qa δ.out 1).trans rfl,(Qa Y.out 0).trans rfl,(Qa Y.out 1).trans rfl,(Qa O.out 0).trans rfl,(Qa O.out 1).trans rfl,(Qa O.out 2).trans rfl⟩ (fun hHeld=>?_)
        clear hK K
        refine qN (some 7) ?_
        refine Zm (i:=2) (N:=some 16) (bN 11 271) rfl rfl (Q3 HT_.out kr) (by decide) (fun K hK=>?_)
        refine Zg Try.func12 kr rfl #[.agg #[.slice Z B.length U,.slice γ D.length X]] (by rfl) rfl rfl (by simp only[List.map_toArray,List.map_cons,List.map_nil] <;> rfl) ?_
        with_reducible refine(newellaw19_Own.calls _ _ B _ _ D b2 b3 _ ?side1 ?side2 ?side3 ?side4 A6.out).mono ?_
        (case side1=>exact(Kd.Qz ag.out HB.out))
        (case side2=>exact ar.out)
        (case side3=>exact(Kd.Qz ah.out HB.out))
        (case side4=>exact aw.out)
        rintro e fu ⟨cw,cy,rfl,χ,a7,hb⟩
        refine⟨_,rfl, ?_⟩
        have μ :=Aside0.mk (Kd.Q4 (Kd.Zy χ (g:= φ) (o:=.cells #[.int .i64 ζ,.int .i64 L,.int .i64 η] 56 (0,0)) O.out) (Qk HB.out))
        have ν :=Aside0.mk (Kd.Q4 a7 (Qk HB.out))
        replace δ :=sBk δ hb
        replace Y:=sBk Y hb
        replace O:=sBk O hb
        replace ξ :=sBk ξ hb
        replace HB:=sHb hb
        (try clear hb)
        (try clear a4)
        (try clear hk)
        (try clear hi)
        (try clear χ)
        (try clear a7)
        obtain⟨d6,d9,da⟩:=Kd.Q6 μ.out
        (first|subst da|(injection da with ω ab a0;have ac:= ω.symm;have ae:=a0.symm;clear ω ab a0;subst ac;subst ae))
        obtain⟨eg,eh,ee⟩:=Kd.Q6 ν.out
        (first|subst ee|(injection ee with ω ab a0;have ac:= ω.symm;have ae:=a0.symm;clear ω ab a0;subst ac;subst ae))
        refine hK.out _ _ ⟨(Qa δ.out 0).trans rfl,(Qa δ.out 1).trans rfl,(Qa Y.out 0).trans rfl,(Qa Y.out 1).trans rfl,(Qa O.out 0).trans rfl,(Qa O.out 1).trans rfl,(Qa O.out 2).trans rfl⟩ (fun hHeld=>?_)
        clear hK K
        refine qN (some 16) ?_
        refine Zm (i:=4) (N:=some 18) (bN 11 287) rfl rfl (Q3 HT_.out kr) (by decide) (fun K hK=>?_)
        refine Zg Try.func24 kr rfl #[.agg #[.int .i64 I,.int .i64 J],.agg #[.slice d6 b2.length d9,.slice eg b3.length eh],.agg #[.int .i64 ζ,.int .i64 L,.int .i64 η]] (by rfl) rfl rfl (by simp only[List.map_toArray,List.map_cons,List.map_nil] <;> rfl) ?_
        with_reducible refine(call_Give.calls k I J _ _ b2 _ _ b3 ζ L η aa af ax _ ?side1 ?side2 ?side3 ?side4 A7.out).mono ?_
        (case side1=>exact(Kd.Qr μ.out).2.2)
        (case side2=>exact(Kd.Qr μ.out).2.1)
        (case side3=>exact(Kd.Qr ν.out).2.2)
        (case side4=>exact(Kd.Qr ν.out).2.1)
        rintro e de ⟨bi,bj,rfl,χ,a7,hb⟩
        refine⟨_,rfl, ?_⟩
        have a3:=Aside0.mk (Kd.Q4 (Kd.Zy (Kd.Zr χ (Kd.Z4 μ.out)) (g:= φ) (o:=.cells #[.int .i64 ζ,.int .i64 L,.int .i64 η] 56 (0,0)) O.out) (Qk HB.out))
        have a5:=Aside0.mk (Kd.Q4 (Kd.Zr a7 (Kd.Z4 ν.out)) (Qk HB.out))
        replace μ :=Aside0.mk (Kd.Q7 μ.out (Kd.Zn χ) hb)
        replace ν :=Aside0.mk (Kd.Q7 ν.out (Kd.Zn a7) hb)
        replace δ :=sBk δ hb
        replace Y:=sBk Y hb
        replace O:=sBk O hb
        replace ξ :=sBk ξ hb
        replace HB:=sHb hb
        (try clear hb)
        (try clear a4)
        (try clear hk)
        (try clear hi)
        (try clear χ)
        (try clear a7)
        refine hK.out _ _ ⟨(Qa δ.out 0).trans rfl,(Qa δ.out 1).trans rfl,(Qa Y.out 0).trans rfl,(Qa Y.out 1).trans rfl,(Qa O.out 0).trans rfl,(Qa O.out 1).trans rfl,(Qa O.out 2).trans rfl⟩ (fun hHeld=>?_)
        clear hK K
        refine qN (some 18) ?_
        refine qP 5 (some 13) (bN 11 319) HT_ ?_
        refine qP 6 (some 19) (bN 11 383) HT_ ?_
        refine qP 7 (some 20) (bN 11 511) HT_ ?_
        exact Xj (by simp only[Z3,Act.put,qS]) (hCont (.slice d6 b2.length d9,.slice eg b3.length eh,bi,bj,ρ) _ ⟨hHeld,(by(with_reducible repeat(first|apply Kd.Qm|apply Kd.Ql|apply Kd.Qo));exact Kd.Qs μ.out (fun _ hk=>⟨hk.2,hk.1.2⟩)),(by(with_reducible repeat(first|apply Kd.Qm|apply Kd.Ql|apply Kd.Qo));exact Kd.Qs ν.out (fun _ hk=>hk.2)),(by(with_reducible repeat(first|apply Kd.Qm|apply Kd.Ql|apply Kd.Qo));exact Kd.Qs a3.out (fun _ hk=>⟨hk.1.2,hk.2⟩)),(by(with_reducible repeat(first|apply Kd.Qm|apply Kd.Ql|apply Kd.Qo));exact Kd.Qs a5.out (fun _ hk=>hk.2)),δ.out,Y.out,O.out,ξ.out,be.out,bk.out,a6.out,al.out,a8.out,an.out,a2.out,ao.out,HB.out⟩)
      rintro⟨cw,cy,bi,bj,ρ⟩ bv ⟨hS_,cq,cr,ct,cu,cv,e0,e3,e4,e5,e6,dh,di,dj,dk,dl,dm,dn⟩
      have ε :Aside0 (Kd.R k56 56 bv w.heap.size (fun k_=>some k_≠(bi:Value).ownBlock∧k_ ≠ φ) cw b2):=⟨cq⟩
      have θ :Aside0 (Kd.R k62 62 bv w.heap.size (fun k_=>some k_≠(bj:Value).ownBlock) cy b3):=⟨cr⟩
      have ι :Aside0 (Kd.R k56 56 bv w.heap.size (fun k_=>some k_≠(cw:Value).ownBlock∧k_ ≠ φ) bi aa):=⟨ct⟩
      have κ :Aside0 (Kd.R k62 62 bv w.heap.size (fun k_=>some k_≠(cy:Value).ownBlock) bj af):=⟨cu⟩
      have τ :Aside0 (bv.heap[aj]?=some (.cells #[.int .i64 I,.int .i64 J] 23 (0,0))):=⟨cv⟩
      have ψ :Aside0 (bv.heap[ai]?=some (.cells #[.slice Z B.length U,.slice γ D.length X] 27 (0,0))):=⟨e0⟩
      have a1:Aside0 (bv.heap[φ]?=some (.cells #[.int .i64 ζ,.int .i64 L,.int .i64 η] 56 (0,0))):=⟨e3⟩
      have ak:Aside0 (bv.heap[ρ]?=some (.cells #[.slice none 0 0,.slice none 0 0] 27 (0,0))):=⟨e4⟩
      have am:Aside0 (w.heap.size≤ρ):=⟨e5⟩
      have az:Aside0 (w.heap.size≤ρ):=⟨e6⟩
      have ap:Aside0 (aj≠ρ):=⟨dh⟩
      have av:Aside0 (ρ≠aj):=⟨di⟩
      have b0:Aside0 (ai≠ρ):=⟨dj⟩
      have ba:Aside0 (ρ≠ai):=⟨dk⟩
      have bb:Aside0 (φ ≠ ρ):=⟨dl⟩
      have bf:Aside0 (ρ ≠ φ):=⟨dm⟩
      have bg:Aside0 (Below w.heap.size w bv):=⟨dn⟩
      clear δ
      clear Y
      clear O
      clear HB
      clear cq cr ct cu cv e0 e3 e4 e5 e6 dh di dj dk dl dm dn
      have μ := ε
      have ν := θ
      have a3:= ι
      have a5:= κ
      have δ := τ
      have Y:= ψ
      have O:=a1
      have ξ :=ak
      have be:=am
      have bk:=az
      have a6:=ap
      have al:=av
      have a8:=b0
      have an:=ba
      have a2:=bb
      have ao:=bf
      have HB:=bg
      clear ε θ ι κ τ ψ a1 ak am az ap av b0 ba bb bf bg
      have hHeld:bv.cell? ⟨aj,0,none⟩=some (.int .i64 I)∧bv.cell? ⟨aj,1,none⟩=some (.int .i64 J)∧bv.cell? ⟨ai,0,none⟩=some (.slice Z B.length U)∧bv.cell? ⟨ai,1,none⟩=some (.slice γ D.length X)∧bv.cell? ⟨φ,0,none⟩=some (.int .i64 ζ)∧bv.cell? ⟨φ,1,none⟩=some (.int .i64 L)∧bv.cell? ⟨φ,2,none⟩=some (.int .i64 η):=hS_
      obtain⟨g9,gg,j3⟩:=Kd.Q6 a3.out
      (first|subst j3|(injection j3 with ω ab a0;have ac:= ω.symm;have ae:=a0.symm;clear ω ab a0;subst ac;subst ae))
      obtain⟨gp,gq,j4⟩:=Kd.Q6 a5.out
      (first|subst j4|(injection j4 with ω ab a0;have ac:= ω.symm;have ae:=a0.symm;clear ω ab a0;subst ac;subst ae))
      refine Xj (a':=?_) ?_ ?_
      rotate_left
      ·simp only[Z3,Act.put,qS]
       rfl
      refine Zm (i:=9) (N:=none) (bN 11 1023) rfl rfl (Q3 HT_.out kr) (by decide) (fun K hK=>?_)
      have mr:bv.cell? ⟨ρ,0,none⟩=some (.slice none 0 0):=(Qa ξ.out 0).trans rfl
      have mc:=Qb ξ.out 0
      have l2:=a6.out
      have l3:=a8.out
      have l6:=a2.out
      have l7:=al.out
      have l8:=an.out
      have l9:=ao.out
      have ms:bv.cell? ⟨ρ,1,none⟩=some (.slice none 0 0):=(Qa ξ.out 1).trans rfl
      have me:=Qb ξ.out 1
      have lb:=a6.out
      have lc:=a8.out
      have lf:=a2.out
      have lg:=al.out
      have lh:=an.out
      have ll:=ao.out
      refine Js (w1:=?_) (by rfl) rfl ?_ ?_
      rotate_left
      ·go_simp
       rfl
      refine hK.out _ _ ⟨((cell_far (p:=⟨ρ,_,none⟩) a6.out _).trans (((cell_far (p:=⟨ρ,_,none⟩) a6.out _).trans (hHeld.1)))),((cell_far (p:=⟨ρ,_,none⟩) a6.out _).trans (((cell_far (p:=⟨ρ,_,none⟩) a6.out _).trans (hHeld.2.1)))),((cell_far (p:=⟨ρ,_,none⟩) a8.out _).trans (((cell_far (p:=⟨ρ,_,none⟩) a8.out _).trans (hHeld.2.2.1)))),((cell_far (p:=⟨ρ,_,none⟩) a8.out _).trans (((cell_far (p:=⟨ρ,_,none⟩) a8.out _).trans (hHeld.2.2.2.1)))),((cell_far (p:=⟨ρ,_,none⟩) a2.out _).trans (((cell_far (p:=⟨ρ,_,none⟩) a2.out _).trans (hHeld.2.2.2.2.1)))),((cell_far (p:=⟨ρ,_,none⟩) a2.out _).trans (((cell_far (p:=⟨ρ,_,none⟩) a2.out _).trans (hHeld.2.2.2.2.2.1)))),((cell_far (p:=⟨ρ,_,none⟩) a2.out _).trans (((cell_far (p:=⟨ρ,_,none⟩) a2.out _).trans (hHeld.2.2.2.2.2.2))))⟩ (fun hHeld=>?_)
      clear hK K
      refine qP 10 (some 8) (bN 11 2047) HT_ ?_
      refine Z0 (Zp HT_.out kr) ?_
      have mf:=cz.out
      have mg:=d0.out
      have ic:=a6.out
      have ie:=al.out
      have i1:bv.cell? ⟨aj,0,none⟩=some (.int .i64 I):=(Qa δ.out 0).trans rfl
      have i2:bv.cell? ⟨aj,1,none⟩=some (.int .i64 J):=(Qa δ.out 1).trans rfl
      have i3:=Qb δ.out 0
      have i4:=Qb δ.out 1
      have jf:=a8.out
      have jg:=an.out
      have g0:bv.cell? ⟨ai,0,none⟩=some (.slice Z B.length U):=(Qa Y.out 0).trans rfl
      have g1:bv.cell? ⟨ai,1,none⟩=some (.slice γ D.length X):=(Qa Y.out 1).trans rfl
      have g2:=Qb Y.out 0
      have g3:=Qb Y.out 1
      try go_wp2_with (first|((with_reducible refine Q2 (f:=13) rfl ?_);refine Zq (some 23) rfl rfl Try.func13 kr rfl #[.agg #[.int .i64 I,.int .i64 J],.agg #[.slice Z B.length U,.slice γ D.length X]] rfl (by simp only[List.map_toArray,List.map_cons,List.map_nil] <;> rfl) ?_;(with_reducible refine(newelref19_May.calls k I J _ _ B _ _ D true _ ?side1 ?side2 ?side3 ?side4 A8.out).mono ?_);(case side1=>exact Kd.Qz ag.out bel);(case side2=>exact ar.out);(case side3=>exact Kd.Qz ah.out bel);(case side4=>exact aw.out);rintro e dz ⟨rfl,hb⟩;refine⟨_,rfl, ?_⟩;replace μ :=Aside0.mk (Kd.Qw (by(with_reducible repeat(first|apply Kd.Qm|apply Kd.Ql|apply Kd.Qo));exact(Kd.Qs (Kd.Qu (Kd.Qu (Kd.Qy μ.out ξ.out (by decide)) (fun _ hk=>hk.2) _) (fun _ hk=>hk.2) _) (fun _ h_=>h_.1))) hb);replace ν :=Aside0.mk (Kd.Qw (by(with_reducible repeat(first|apply Kd.Qm|apply Kd.Ql|apply Kd.Qo));exact(Kd.Qs (Kd.Qu (Kd.Qu (Kd.Qy ν.out ξ.out (by decide)) (fun _ hk=>hk.2) _) (fun _ hk=>hk.2) _) (fun _ h_=>h_.1))) hb);replace a3:=Aside0.mk (Kd.Qw (by(with_reducible repeat(first|apply Kd.Qm|apply Kd.Ql|apply Kd.Qo));exact(Kd.Qs (Kd.Qu (Kd.Qu (Kd.Qy a3.out ξ.out (by decide)) (fun _ hk=>hk.2) _) (fun _ hk=>hk.2) _) (fun _ h_=>h_.1))) hb);replace a5:=Aside0.mk (Kd.Qw (by(with_reducible repeat(first|apply Kd.Qm|apply Kd.Ql|apply Kd.Qo));exact(Kd.Qs (Kd.Qu (Kd.Qu (Kd.Qy a5.out ξ.out (by decide)) (fun _ hk=>hk.2) _) (fun _ hk=>hk.2) _) (fun _ h_=>h_.1))) hb);replace δ :=sBk δ hb;replace Y:=sBk Y hb;replace O:=sBk O hb;replace ξ :=Aside0.mk (Qn (g:=ρ) (o:=.cells #[.slice g9 aa.length gg,.slice gp af.length gq] 27 (0,0)) (by(with_reducible repeat(first|refine Qf ?_ _|refine Qc ?_|refine Qg ?_ _));refine Qx (cs:=#[.slice g9 aa.length gg,.slice none 0 0]) ?_ 1 _ rfl;(with_reducible repeat(first|refine Qf ?_ _|refine Qc ?_|refine Qg ?_ _));refine Qx (cs:=#[.slice none 0 0,.slice none 0 0]) ?_ 0 _ rfl;(with_reducible repeat(first|refine Qf ?_ _|refine Qc ?_|refine Qg ?_ _));exact ξ.out) hb);replace HB:=sHb hb;(try clear hb);(try clear a4);(try clear hk);(try clear hi);have he:dz.cell? ⟨aj,0,none⟩=some (.int .i64 I):=(Qa δ.out 0).trans rfl;have ii:dz.cell? ⟨aj,1,none⟩=some (.int .i64 J):=(Qa δ.out 1).trans rfl;have ij:=Qb δ.out 0;have ik:=Qb δ.out 1;have l4:=a2.out;have l5:=ao.out;have hh:dz.cell? ⟨φ,0,none⟩=some (.int .i64 ζ):=(Qa O.out 0).trans rfl;have hj:dz.cell? ⟨φ,1,none⟩=some (.int .i64 L):=(Qa O.out 1).trans rfl;have lm:dz.cell? ⟨φ,2,none⟩=some (.int .i64 η):=(Qa O.out 2).trans rfl;have hl:=Qb O.out 0;have ho:=Qb O.out 1;have ln:=Qb O.out 2)|((with_reducible refine Q2 (f:=25) rfl ?_);refine Zq (some 37) rfl rfl Try.func25 kr rfl #[.agg #[.int .i64 I,.int .i64 J],.agg #[.int .i64 ζ,.int .i64 L,.int .i64 η]] rfl (by simp only[List.map_toArray,List.map_cons,List.map_nil] <;> rfl) ?_;(with_reducible refine(newelref19_Hall.calls k I J ζ L η false _ em.out).mono ?_);rintro e n0 ⟨rfl,hb⟩;refine⟨_,rfl, ?_⟩;replace μ :=sRb μ hb;replace ν :=sRb ν hb;replace a3:=sRb a3 hb;replace a5:=sRb a5 hb;replace δ :=sBk δ hb;replace Y:=sBk Y hb;replace O:=sBk O hb;replace ξ :=sBk ξ hb;replace HB:=sHb hb;(try clear hb);(try clear a4);(try clear hk);(try clear hi))|((with_reducible refine Q2 (f:=10) rfl ?_);refine Zq (some 39) rfl rfl Try.func10 kr rfl #[] rfl (by simp only[List.map_toArray,List.map_cons,List.map_nil] <;> rfl) ?_;(with_reducible refine(newellaw19_awake.calls k  true _ ls.out).mono ?_);rintro e gi ⟨rfl,hb⟩;refine⟨_,rfl, ?_⟩;replace μ :=sRb μ hb;replace ν :=sRb ν hb;replace a3:=sRb a3 hb;replace a5:=sRb a5 hb;replace δ :=sBk δ hb;replace Y:=sBk Y hb;replace O:=sBk O hb;replace ξ :=sBk ξ hb;replace HB:=sHb hb;(try clear hb);(try clear a4);(try clear hk);(try clear hi);have hu:gi.cell? ⟨ρ,0,none⟩=some (.slice g9 aa.length gg):=(Qa ξ.out 0).trans rfl;have hx:gi.cell? ⟨ρ,1,none⟩=some (.slice gp af.length gq):=(Qa ξ.out 1).trans rfl;have hy:=Qb ξ.out 0;have i0:=Qb ξ.out 1)|(go_at_call 15;(refine(newelref19_Same.calls k _ _ aa _ _ af _ _ ([]:List (S56)) _ _ ([]:List (S62)) bh _ ?side1 ?side2 ?side3 ?side4 ?side5 ?side6 ?side7 ?side8 lu.out).mono ?_);(case side1=>repeat(first|exact(Kd.Qr a3.out).2.2|(with_reducible refine Kd.Za ?_ _)|(with_reducible refine Kd.Q9 ?_ _)|(with_reducible refine Kd.Zl ?_)));(case side2=>exact(Kd.Qr a3.out).2.1);(case side3=>repeat(first|exact(Kd.Qr a5.out).2.2|(with_reducible refine Kd.Za ?_ _)|(with_reducible refine Kd.Q9 ?_ _)|(with_reducible refine Kd.Zl ?_)));(case side4=>exact(Kd.Qr a5.out).2.1);(case side5=>exact Kd.Gf _ _);(case side6=>exact Nat.le_refl _);(case side7=>exact Kd.Gf _ _);(case side8=>exact Nat.le_refl _);rintro e n1 ⟨rfl,hb⟩;have ε :=Aside0.mk (Kd.Qw (kra μ) hb);have θ :=Aside0.mk (Kd.Qw (kra ν) hb);have ι :=Aside0.mk (Kd.Qw (kra a3) hb);have κ :=Aside0.mk (Kd.Qw (kra a5) hb);have τ :=Aside0.mk (Qn (g:=aj) (o:=.cells #[.int .i64 I,.int .i64 J] 23 (0,0)) (bka δ) hb);have ψ :=Aside0.mk (Qn (g:=ai) (o:=.cells #[.slice Z B.length U,.slice γ D.length X] 27 (0,0)) (bka Y) hb);have a1:=Aside0.mk (Qn (g:= φ) (o:=.cells #[.int .i64 ζ,.int .i64 L,.int .i64 η] 56 (0,0)) (bka O) hb);have ak:=Aside0.mk (Qn (g:=ρ) (o:=.cells #[.slice g9 aa.length gg,.slice gp af.length gq] 27 (0,0)) (bka ξ) hb);have am:=Aside0.mk (Qv bel hb);clear μ;clear ν;clear a3;clear a5;clear δ;clear Y;clear O;clear ξ;clear HB;have μ := ε;have ν := θ;have a3:= ι;have a5:= κ;have δ := τ;have Y:= ψ;have O:=a1;have ξ :=ak;have HB:=am;clear ε θ ι κ τ ψ a1 ak am;(try clear hb);(try clear a4);(try clear hk);(try clear hi)))
      go_ret
      exact⟨rfl,HB.out⟩
     ·rw[if_neg ek] at H
      exact absurd H (by simp)
    ·replace ei:=Bool.eq_false_iff.mpr ei
     subst ei
     have H1:(none)=some r:=by rw[if_neg (show ¬ (false=true) by decide)] at H;exact H
     clear H
     have H:=H1
     clear H1
     exact absurd H (by simp)
  ·replace c9:=Bool.eq_false_iff.mpr c9
   subst c9
   have H1:((newellaw19_awake.f k).bind fun cd=>(if cd=true then (if ax=190 then ((newelref19_Same.f k aa af ([]:List (S56)) ([]:List (S62))).bind fun bo=>(some bo)) else (none)) else (none)))=some r:=by rw[if_neg (show ¬ (false=true) by decide)] at H;exact H
   clear H
   have H:=H1
   clear H1
   replace H:=Option.bind_eq_some_iff.mp H
   obtain⟨cd,j7,H⟩:=H
   replace H:(if cd=true then (if ax=190 then ((newelref19_Same.f k aa af ([]:List (S56)) ([]:List (S62))).bind fun bo=>(some bo)) else (none)) else (none))=some r:=H
   have lw:=Aside0.mk j7
   clear j7
   by_cases gt:cd=true
   ·subst gt
    have H1:(if ax=190 then ((newelref19_Same.f k aa af ([]:List (S56)) ([]:List (S62))).bind fun bo=>(some bo)) else (none))=some r:=by rw[if_pos rfl] at H;exact H
    clear H
    have H:=H1
    clear H1
    by_cases gk:ax=190
    ·rw[if_pos gk] at H
     have c93b0:(ax==190)=true:=beq_iff_eq.mpr gk
     have c93b1:(ax != 190)=false:=bne_eq_false_iff_eq.mpr gk
     clear gk
     replace H:=Option.bind_eq_some_iff.mp H
     obtain⟨bo,j8,H⟩:=H
     replace H:(some bo)=some r:=H
     have lx:=Aside0.mk j8
     clear j8
     obtain rfl:=Option.some.inj H
     go_enter Try.func5,Try.ntmps5
     try go_wp2_with (first|((with_reducible refine Qt (N:=3) rfl ?_);refine Qp ?hg (N:=3) ?hd (cs:=#[.int .i64 I,.int .i64 J]) (t:=23) ?hr ?_;(case hd=>rfl);(case hg=>rfl);(case hr=>go_simp <;> rfl);intro aj hg mj hbox hb;have δ :=Aside0.mk hbox;have er:=sGe hg;have fy:=sGe hg;replace HB:=sHb hb;clear hb hbox hg)|((with_reducible refine Qt (N:=4) rfl ?_);refine Qp ?hg (N:=4) ?hd (cs:=#[.slice Z B.length U,.slice γ D.length X]) (t:=27) ?hr ?_;(case hd=>rfl);(case hg=>rfl);(case hr=>go_simp <;> rfl);intro ai hg ko hbox hb;have Y:=Aside0.mk hbox;have et:=sGe hg;have fz:=sGe hg;have ch:=sNl δ hg;have cj:=sNg δ hg;replace δ :=sBk δ hb;replace HB:=sHb hb;clear hb hbox hg)|((with_reducible refine Qt (N:=5) rfl ?_);refine Qp ?hg (N:=5) ?hd (cs:=#[.int .i64 ζ,.int .i64 L,.int .i64 η]) (t:=56) ?hr ?_;(case hd=>rfl);(case hg=>rfl);(case hr=>go_simp <;> rfl);intro φ hg je hbox hb;have O:=Aside0.mk hbox;have ew:=sGe hg;have g8:=sGe hg;have cz:=sNl δ hg;have d0:=sNg δ hg;have ck:=sNl Y hg;have cp:=sNg Y hg;replace δ :=sBk δ hb;replace Y:=sBk Y hb;replace HB:=sHb hb;clear hb hbox hg;have jh:=cj.out;have ji:=ch.out;have mh:=ck.out;have mi:=cp.out;have jm:je.cell? ⟨ai,0,none⟩=some (.slice Z B.length U):=(Qa Y.out 0).trans rfl;have jn:je.cell? ⟨ai,1,none⟩=some (.slice γ D.length X):=(Qa Y.out 1).trans rfl;have jo:=Qb Y.out 0;have jp:=Qb Y.out 1)|((with_reducible refine Q2 (f:=9) rfl ?_);refine Zq (some 10) rfl rfl Try.func9 kr rfl #[.agg #[.slice Z B.length U,.slice γ D.length X]] rfl (by simp only[List.map_toArray,List.map_cons,List.map_nil] <;> rfl) ?_;(with_reducible refine(newelref19_Few.calls _ _ B _ _ D true _ ?side1 ?side2 ?side3 ?side4 A4.out).mono ?_);(case side1=>exact(Kd.Qz ag.out HB.out));(case side2=>exact ar.out);(case side3=>exact(Kd.Qz ah.out HB.out));(case side4=>exact aw.out);rintro e kp ⟨rfl,hb⟩;refine⟨_,rfl, ?_⟩;replace δ :=sBk δ hb;replace Y:=sBk Y hb;replace O:=sBk O hb;replace HB:=sHb hb;(try clear hb);(try clear a4);(try clear hk);(try clear hi)))
     replace δ :=Aside0.mk (Qc δ.out)
     replace Y:=Aside0.mk (Qc Y.out)
     replace O:=Aside0.mk (Qc O.out)
     replace HB:=Aside0.mk (Qh HB.out)
     refine Zv (n:=11) (S:=fun w'=>w'.cell? ⟨aj,0,none⟩=some (.int .i64 I)∧w'.cell? ⟨aj,1,none⟩=some (.int .i64 J)∧w'.cell? ⟨ai,0,none⟩=some (.slice Z B.length U)∧w'.cell? ⟨ai,1,none⟩=some (.slice γ D.length X)∧w'.cell? ⟨φ,0,none⟩=some (.int .i64 ζ)∧w'.cell? ⟨φ,1,none⟩=some (.int .i64 L)∧w'.cell? ⟨φ,2,none⟩=some (.int .i64 η)) (ds:=[]) #[false,false,false,false,false,false,false,false,false,false,false] kr rfl rfl ⟨(Qa δ.out 0).trans rfl,(Qa δ.out 1).trans rfl,(Qa Y.out 0).trans rfl,(Qa Y.out 1).trans rfl,(Qa O.out 0).trans rfl,(Qa O.out 1).trans rfl,(Qa O.out 2).trans rfl⟩ (fun hHeld=>?_);refine Q8 newellaw19_CallGives.Wn newellaw19_CallGives.Vh (fun HT_ HW_=>?_)
     generalize kp.drew=ip at δ Y O HB hHeld ⊢
     refine qT 0 (some 14) (bN 11 1) HT_ HW_ hHeld ?_
     refine qT 1 (some 15) (bN 11 3) HT_ HW_ hHeld ?_
     refine qT 3 (some 17) (bN 11 11) HT_ HW_ hHeld ?_
     refine K9 (σ:=Value×Value×Value×Value×Nat) 2 (bN 11 511) (fun s_=>[(16,.agg #[s_.1,s_.2.1]),(18,.tuple #[.agg #[s_.2.2.1,s_.2.2.2.1],.int .i64 ax]),(7,.pointer (some ⟨s_.2.2.2.2,0,none⟩)),(13,.tuple #[.agg #[s_.2.2.1,s_.2.2.2.1],.int .i64 ax]),(19,.agg #[s_.2.2.1,s_.2.2.2.1]),(20,.int .i64 ax)]) (fun s_ w'=>(w'.cell? ⟨aj,0,none⟩=some (.int .i64 I)∧w'.cell? ⟨aj,1,none⟩=some (.int .i64 J)∧w'.cell? ⟨ai,0,none⟩=some (.slice Z B.length U)∧w'.cell? ⟨ai,1,none⟩=some (.slice γ D.length X)∧w'.cell? ⟨φ,0,none⟩=some (.int .i64 ζ)∧w'.cell? ⟨φ,1,none⟩=some (.int .i64 L)∧w'.cell? ⟨φ,2,none⟩=some (.int .i64 η))∧(Kd.R k56 56 w' w.heap.size (fun k_=>some k_≠(s_.2.2.1:Value).ownBlock∧k_ ≠ φ) s_.1 b2)∧(Kd.R k62 62 w' w.heap.size (fun k_=>some k_≠(s_.2.2.2.1:Value).ownBlock) s_.2.1 b3)∧(Kd.R k56 56 w' w.heap.size (fun k_=>some k_≠(s_.1:Value).ownBlock∧k_ ≠ φ) s_.2.2.1 aa)∧(Kd.R k62 62 w' w.heap.size (fun k_=>some k_≠(s_.2.1:Value).ownBlock) s_.2.2.2.1 af)∧(w'.heap[aj]?=some (.cells #[.int .i64 I,.int .i64 J] 23 (0,0)))∧(w'.heap[ai]?=some (.cells #[.slice Z B.length U,.slice γ D.length X] 27 (0,0)))∧(w'.heap[φ]?=some (.cells #[.int .i64 ζ,.int .i64 L,.int .i64 η] 56 (0,0)))∧(w'.heap[s_.2.2.2.2]?=some (.cells #[.slice none 0 0,.slice none 0 0] 27 (0,0)))∧(w.heap.size≤s_.2.2.2.2)∧(w.heap.size≤s_.2.2.2.2)∧(aj≠s_.2.2.2.2)∧(s_.2.2.2.2≠aj)∧(ai≠s_.2.2.2.2)∧(s_.2.2.2.2≠ai)∧(φ ≠ s_.2.2.2.2)∧(s_.2.2.2.2 ≠ φ)∧(Below w.heap.size w w')) ?_ ?_
     rotate_left
     ·intro hCont
      refine Kj (i:=2) (j:=8) (Ni:=some 16) (Nj:=some 7) (bN 11 15) (bN 11 267) rfl rfl rfl rfl (Ye HT_.out kr) (by decide) (by decide) (fun K hK=>?_) (fun K hK=>?_)
      ·skip
       refine Zg Try.func12 kr rfl #[.agg #[.slice Z B.length U,.slice γ D.length X]] (by rfl) rfl rfl (by simp only[List.map_toArray,List.map_cons,List.map_nil] <;> rfl) ?_
       with_reducible refine(newellaw19_Own.calls _ _ B _ _ D b2 b3 _ ?side1 ?side2 ?side3 ?side4 A6.out).mono ?_
       (case side1=>exact(Kd.Qz ag.out HB.out))
       (case side2=>exact ar.out)
       (case side3=>exact(Kd.Qz ah.out HB.out))
       (case side4=>exact aw.out)
       rintro e im ⟨cw,cy,rfl,χ,a7,hb⟩
       refine⟨_,rfl, ?_⟩
       have μ :=Aside0.mk (Kd.Q4 (Kd.Zy χ (g:= φ) (o:=.cells #[.int .i64 ζ,.int .i64 L,.int .i64 η] 56 (0,0)) O.out) (Qk HB.out))
       have ν :=Aside0.mk (Kd.Q4 a7 (Qk HB.out))
       replace δ :=sBk δ hb
       replace Y:=sBk Y hb
       replace O:=sBk O hb
       replace HB:=sHb hb
       (try clear hb)
       (try clear a4)
       (try clear hk)
       (try clear hi)
       (try clear χ)
       (try clear a7)
       obtain⟨dp,dq,dr⟩:=Kd.Q6 μ.out
       (first|subst dr|(injection dr with ω ab a0;have ac:= ω.symm;have ae:=a0.symm;clear ω ab a0;subst ac;subst ae))
       obtain⟨cm,cn,co⟩:=Kd.Q6 ν.out
       (first|subst co|(injection co with ω ab a0;have ac:= ω.symm;have ae:=a0.symm;clear ω ab a0;subst ac;subst ae))
       refine hK.out _ _ ⟨(Qa δ.out 0).trans rfl,(Qa δ.out 1).trans rfl,(Qa Y.out 0).trans rfl,(Qa Y.out 1).trans rfl,(Qa O.out 0).trans rfl,(Qa O.out 1).trans rfl,(Qa O.out 2).trans rfl⟩ (fun hHeld=>?_)
       clear hK K
       refine qN (some 16) ?_
       refine Kj (i:=4) (j:=8) (Ni:=some 18) (Nj:=some 7) (bN 11 31) (bN 11 271) rfl rfl rfl rfl (Ye HT_.out kr) (by decide) (by decide) (fun K hK=>?_) (fun K hK=>?_)
       ·skip
        refine Zg Try.func24 kr rfl #[.agg #[.int .i64 I,.int .i64 J],.agg #[.slice dp b2.length dq,.slice cm b3.length cn],.agg #[.int .i64 ζ,.int .i64 L,.int .i64 η]] (by rfl) rfl rfl (by simp only[List.map_toArray,List.map_cons,List.map_nil] <;> rfl) ?_
        with_reducible refine(call_Give.calls k I J _ _ b2 _ _ b3 ζ L η aa af ax _ ?side1 ?side2 ?side3 ?side4 A7.out).mono ?_
        (case side1=>exact(Kd.Qr μ.out).2.2)
        (case side2=>exact(Kd.Qr μ.out).2.1)
        (case side3=>exact(Kd.Qr ν.out).2.2)
        (case side4=>exact(Kd.Qr ν.out).2.1)
        rintro e iy ⟨bi,bj,rfl,χ,a7,hb⟩
        refine⟨_,rfl, ?_⟩
        have a3:=Aside0.mk (Kd.Q4 (Kd.Zy (Kd.Zr χ (Kd.Z4 μ.out)) (g:= φ) (o:=.cells #[.int .i64 ζ,.int .i64 L,.int .i64 η] 56 (0,0)) O.out) (Qk HB.out))
        have a5:=Aside0.mk (Kd.Q4 (Kd.Zr a7 (Kd.Z4 ν.out)) (Qk HB.out))
        replace μ :=Aside0.mk (Kd.Q7 μ.out (Kd.Zn χ) hb)
        replace ν :=Aside0.mk (Kd.Q7 ν.out (Kd.Zn a7) hb)
        replace δ :=sBk δ hb
        replace Y:=sBk Y hb
        replace O:=sBk O hb
        replace HB:=sHb hb
        (try clear hb)
        (try clear a4)
        (try clear hk)
        (try clear hi)
        (try clear χ)
        (try clear a7)
        refine hK.out _ _ ⟨(Qa δ.out 0).trans rfl,(Qa δ.out 1).trans rfl,(Qa Y.out 0).trans rfl,(Qa Y.out 1).trans rfl,(Qa O.out 0).trans rfl,(Qa O.out 1).trans rfl,(Qa O.out 2).trans rfl⟩ (fun hHeld=>?_)
        clear hK K
        refine qN (some 18) ?_
        refine qP 5 (some 13) (bN 11 63) HT_ ?_
        refine qP 6 (some 19) (bN 11 127) HT_ ?_
        refine qP 7 (some 20) (bN 11 255) HT_ ?_
        refine Zm (i:=8) (N:=some 7) (bN 11 511) rfl rfl (Q3 HT_.out kr) (by decide) (fun K hK=>?_)
        refine Xk ?hg (N:=7) ?hd (cs:=#[.slice none 0 0,.slice none 0 0]) (t:=27) ?hr ?_;(case hd=>rfl);(case hg=>rfl);(case hr=>go_simp <;> rfl)
        intro ρ hg cb hbox hb
        have ξ :=Aside0.mk hbox
        have be:=sGe hg
        have bk:=sGe hg
        have a6:=sNl δ hg
        have al:=sNg δ hg
        have a8:=sNl Y hg
        have an:=sNg Y hg
        have a2:=sNl O hg
        have ao:=sNg O hg
        replace μ :=sRb μ hb
        replace ν :=sRb ν hb
        replace a3:=sRb a3 hb
        replace a5:=sRb a5 hb
        replace δ :=sBk δ hb
        replace Y:=sBk Y hb
        replace O:=sBk O hb
        replace HB:=sHb hb
        clear hb hbox hg
        refine hK.out _ _ ⟨(Qa δ.out 0).trans rfl,(Qa δ.out 1).trans rfl,(Qa Y.out 0).trans rfl,(Qa Y.out 1).trans rfl,(Qa O.out 0).trans rfl,(Qa O.out 1).trans rfl,(Qa O.out 2).trans rfl⟩ (fun hHeld=>?_)
        clear hK K
        refine qN (some 7) ?_
        exact Xj (by simp only[Z3,Act.put,qS]) (hCont (.slice dp b2.length dq,.slice cm b3.length cn,bi,bj,ρ) _ ⟨hHeld,(by(with_reducible repeat(first|apply Kd.Qm|apply Kd.Ql|apply Kd.Qo));exact Kd.Qs μ.out (fun _ hk=>⟨hk.2,hk.1.2⟩)),(by(with_reducible repeat(first|apply Kd.Qm|apply Kd.Ql|apply Kd.Qo));exact Kd.Qs ν.out (fun _ hk=>hk.2)),(by(with_reducible repeat(first|apply Kd.Qm|apply Kd.Ql|apply Kd.Qo));exact Kd.Qs a3.out (fun _ hk=>⟨hk.1.2,hk.2⟩)),(by(with_reducible repeat(first|apply Kd.Qm|apply Kd.Ql|apply Kd.Qo));exact Kd.Qs a5.out (fun _ hk=>hk.2)),δ.out,Y.out,O.out,ξ.out,be.out,bk.out,a6.out,al.out,a8.out,an.out,a2.out,ao.out,HB.out⟩)
       ·skip
        refine Xk ?hg (N:=7) ?hd (cs:=#[.slice none 0 0,.slice none 0 0]) (t:=27) ?hr ?_;(case hd=>rfl);(case hg=>rfl);(case hr=>go_simp <;> rfl)
        intro ρ hg el hbox hb
        have ξ :=Aside0.mk hbox
        have be:=sGe hg
        have bk:=sGe hg
        have a6:=sNl δ hg
        have al:=sNg δ hg
        have a8:=sNl Y hg
        have an:=sNg Y hg
        have a2:=sNl O hg
        have ao:=sNg O hg
        replace μ :=sRb μ hb
        replace ν :=sRb ν hb
        replace δ :=sBk δ hb
        replace Y:=sBk Y hb
        replace O:=sBk O hb
        replace HB:=sHb hb
        clear hb hbox hg
        obtain⟨cm,cn,co⟩:=Kd.Q6 μ.out
        (first|subst co|(injection co with ω ab a0;have ac:= ω.symm;have ae:=a0.symm;clear ω ab a0;subst ac;subst ae))
        obtain⟨ec,ed,ef⟩:=Kd.Q6 ν.out
        (first|subst ef|(injection ef with ω ab a0;have ac:= ω.symm;have ae:=a0.symm;clear ω ab a0;subst ac;subst ae))
        refine hK.out _ _ ⟨(Qa δ.out 0).trans rfl,(Qa δ.out 1).trans rfl,(Qa Y.out 0).trans rfl,(Qa Y.out 1).trans rfl,(Qa O.out 0).trans rfl,(Qa O.out 1).trans rfl,(Qa O.out 2).trans rfl⟩ (fun hHeld=>?_)
        clear hK K
        refine qN (some 7) ?_
        refine Zm (i:=4) (N:=some 18) (bN 11 287) rfl rfl (Q3 HT_.out kr) (by decide) (fun K hK=>?_)
        refine Zg Try.func24 kr rfl #[.agg #[.int .i64 I,.int .i64 J],.agg #[.slice cm b2.length cn,.slice ec b3.length ed],.agg #[.int .i64 ζ,.int .i64 L,.int .i64 η]] (by rfl) rfl rfl (by simp only[List.map_toArray,List.map_cons,List.map_nil] <;> rfl) ?_
        with_reducible refine(call_Give.calls k I J _ _ b2 _ _ b3 ζ L η aa af ax _ ?side1 ?side2 ?side3 ?side4 A7.out).mono ?_
        (case side1=>exact(Kd.Qr μ.out).2.2)
        (case side2=>exact(Kd.Qr μ.out).2.1)
        (case side3=>exact(Kd.Qr ν.out).2.2)
        (case side4=>exact(Kd.Qr ν.out).2.1)
        rintro e cb ⟨bi,bj,rfl,χ,a7,hb⟩
        refine⟨_,rfl, ?_⟩
        have a3:=Aside0.mk (Kd.Q4 (Kd.Zy (Kd.Zr χ (Kd.Z4 μ.out)) (g:= φ) (o:=.cells #[.int .i64 ζ,.int .i64 L,.int .i64 η] 56 (0,0)) O.out) (Qk HB.out))
        have a5:=Aside0.mk (Kd.Q4 (Kd.Zr a7 (Kd.Z4 ν.out)) (Qk HB.out))
        replace μ :=Aside0.mk (Kd.Q7 μ.out (Kd.Zn χ) hb)
        replace ν :=Aside0.mk (Kd.Q7 ν.out (Kd.Zn a7) hb)
        replace δ :=sBk δ hb
        replace Y:=sBk Y hb
        replace O:=sBk O hb
        replace ξ :=sBk ξ hb
        replace HB:=sHb hb
        (try clear hb)
        (try clear a4)
        (try clear hk)
        (try clear hi)
        (try clear χ)
        (try clear a7)
        refine hK.out _ _ ⟨(Qa δ.out 0).trans rfl,(Qa δ.out 1).trans rfl,(Qa Y.out 0).trans rfl,(Qa Y.out 1).trans rfl,(Qa O.out 0).trans rfl,(Qa O.out 1).trans rfl,(Qa O.out 2).trans rfl⟩ (fun hHeld=>?_)
        clear hK K
        refine qN (some 18) ?_
        refine qP 5 (some 13) (bN 11 319) HT_ ?_
        refine qP 6 (some 19) (bN 11 383) HT_ ?_
        refine qP 7 (some 20) (bN 11 511) HT_ ?_
        exact Xj (by simp only[Z3,Act.put,qS]) (hCont (.slice cm b2.length cn,.slice ec b3.length ed,bi,bj,ρ) _ ⟨hHeld,(by(with_reducible repeat(first|apply Kd.Qm|apply Kd.Ql|apply Kd.Qo));exact Kd.Qs μ.out (fun _ hk=>⟨hk.2,hk.1.2⟩)),(by(with_reducible repeat(first|apply Kd.Qm|apply Kd.Ql|apply Kd.Qo));exact Kd.Qs ν.out (fun _ hk=>hk.2)),(by(with_reducible repeat(first|apply Kd.Qm|apply Kd.Ql|apply Kd.Qo));exact Kd.Qs a3.out (fun _ hk=>⟨hk.1.2,hk.2⟩)),(by(with_reducible repeat(first|apply Kd.Qm|apply Kd.Ql|apply Kd.Qo));exact Kd.Qs a5.out (fun _ hk=>hk.2)),δ.out,Y.out,O.out,ξ.out,be.out,bk.out,a6.out,al.out,a8.out,an.out,a2.out,ao.out,HB.out⟩)
      ·skip
       refine Xk ?hg (N:=7) ?hd (cs:=#[.slice none 0 0,.slice none 0 0]) (t:=27) ?hr ?_;(case hd=>rfl);(case hg=>rfl);(case hr=>go_simp <;> rfl)
       intro ρ hg im hbox hb
       have ξ :=Aside0.mk hbox
       have be:=sGe hg
       have bk:=sGe hg
       have a6:=sNl δ hg
       have al:=sNg δ hg
       have a8:=sNl Y hg
       have an:=sNg Y hg
       have a2:=sNl O hg
       have ao:=sNg O hg
       replace δ :=sBk δ hb
       replace Y:=sBk Y hb
       replace O:=sBk O hb
       replace HB:=sHb hb
       clear hb hbox hg
       refine hK.out _ _ ⟨(Qa δ.out 0).trans rfl,(Qa δ.out 1).trans rfl,(Qa Y.out 0).trans rfl,(Qa Y.out 1).trans rfl,(Qa O.out 0).trans rfl,(Qa O.out 1).trans rfl,(Qa O.out 2).trans rfl⟩ (fun hHeld=>?_)
       clear hK K
       refine qN (some 7) ?_
       refine Zm (i:=2) (N:=some 16) (bN 11 271) rfl rfl (Q3 HT_.out kr) (by decide) (fun K hK=>?_)
       refine Zg Try.func12 kr rfl #[.agg #[.slice Z B.length U,.slice γ D.length X]] (by rfl) rfl rfl (by simp only[List.map_toArray,List.map_cons,List.map_nil] <;> rfl) ?_
       with_reducible refine(newellaw19_Own.calls _ _ B _ _ D b2 b3 _ ?side1 ?side2 ?side3 ?side4 A6.out).mono ?_
       (case side1=>exact(Kd.Qz ag.out HB.out))
       (case side2=>exact ar.out)
       (case side3=>exact(Kd.Qz ah.out HB.out))
       (case side4=>exact aw.out)
       rintro e el ⟨cw,cy,rfl,χ,a7,hb⟩
       refine⟨_,rfl, ?_⟩
       have μ :=Aside0.mk (Kd.Q4 (Kd.Zy χ (g:= φ) (o:=.cells #[.int .i64 ζ,.int .i64 L,.int .i64 η] 56 (0,0)) O.out) (Qk HB.out))
       have ν :=Aside0.mk (Kd.Q4 a7 (Qk HB.out))
       replace δ :=sBk δ hb
       replace Y:=sBk Y hb
       replace O:=sBk O hb
       replace ξ :=sBk ξ hb
       replace HB:=sHb hb
       (try clear hb)
       (try clear a4)
       (try clear hk)
       (try clear hi)
       (try clear χ)
       (try clear a7)
       obtain⟨cm,cn,co⟩:=Kd.Q6 μ.out
       (first|subst co|(injection co with ω ab a0;have ac:= ω.symm;have ae:=a0.symm;clear ω ab a0;subst ac;subst ae))
       obtain⟨ec,ed,ef⟩:=Kd.Q6 ν.out
       (first|subst ef|(injection ef with ω ab a0;have ac:= ω.symm;have ae:=a0.symm;clear ω ab a0;subst ac;subst ae))
       refine hK.out _ _ ⟨(Qa δ.out 0).trans rfl,(Qa δ.out 1).trans rfl,(Qa Y.out 0).trans rfl,(Qa Y.out 1).trans rfl,(Qa O.out 0).trans rfl,(Qa O.out 1).trans rfl,(Qa O.out 2).trans rfl⟩ (fun hHeld=>?_)
       clear hK K
       refine qN (some 16) ?_
       refine Zm (i:=4) (N:=some 18) (bN 11 287) rfl rfl (Q3 HT_.out kr) (by decide) (fun K hK=>?_)
       refine Zg Try.func24 kr rfl #[.agg #[.int .i64 I,.int .i64 J],.agg #[.slice cm b2.length cn,.slice ec b3.length ed],.agg #[.int .i64 ζ,.int .i64 L,.int .i64 η]] (by rfl) rfl rfl (by simp only[List.map_toArray,List.map_cons,List.map_nil] <;> rfl) ?_
       with_reducible refine(call_Give.calls k I J _ _ b2 _ _ b3 ζ L η aa af ax _ ?side1 ?side2 ?side3 ?side4 A7.out).mono ?_
       (case side1=>exact(Kd.Qr μ.out).2.2)
       (case side2=>exact(Kd.Qr μ.out).2.1)
       (case side3=>exact(Kd.Qr ν.out).2.2)
       (case side4=>exact(Kd.Qr ν.out).2.1)
       rintro e cb ⟨bi,bj,rfl,χ,a7,hb⟩
       refine⟨_,rfl, ?_⟩
       have a3:=Aside0.mk (Kd.Q4 (Kd.Zy (Kd.Zr χ (Kd.Z4 μ.out)) (g:= φ) (o:=.cells #[.int .i64 ζ,.int .i64 L,.int .i64 η] 56 (0,0)) O.out) (Qk HB.out))
       have a5:=Aside0.mk (Kd.Q4 (Kd.Zr a7 (Kd.Z4 ν.out)) (Qk HB.out))
       replace μ :=Aside0.mk (Kd.Q7 μ.out (Kd.Zn χ) hb)
       replace ν :=Aside0.mk (Kd.Q7 ν.out (Kd.Zn a7) hb)
       replace δ :=sBk δ hb
       replace Y:=sBk Y hb
       replace O:=sBk O hb
       replace ξ :=sBk ξ hb
       replace HB:=sHb hb
       (try clear hb)
       (try clear a4)
       (try clear hk)
       (try clear hi)
       (try clear χ)
       (try clear a7)
       refine hK.out _ _ ⟨(Qa δ.out 0).trans rfl,(Qa δ.out 1).trans rfl,(Qa Y.out 0).trans rfl,(Qa Y.out 1).trans rfl,(Qa O.out 0).trans rfl,(Qa O.out 1).trans rfl,(Qa O.out 2).trans rfl⟩ (fun hHeld=>?_)
       clear hK K
       refine qN (some 18) ?_
       refine qP 5 (some 13) (bN 11 319) HT_ ?_
       refine qP 6 (some 19) (bN 11 383) HT_ ?_
       refine qP 7 (some 20) (bN 11 511) HT_ ?_
       exact Xj (by simp only[Z3,Act.put,qS]) (hCont (.slice cm b2.length cn,.slice ec b3.length ed,bi,bj,ρ) _ ⟨hHeld,(by(with_reducible repeat(first|apply Kd.Qm|apply Kd.Ql|apply Kd.Qo));exact Kd.Qs μ.out (fun _ hk=>⟨hk.2,hk.1.2⟩)),(by(with_reducible repeat(first|apply Kd.Qm|apply Kd.Ql|apply Kd.Qo));exact Kd.Qs ν.out (fun _ hk=>hk.2)),(by(with_reducible repeat(first|apply Kd.Qm|apply Kd.Ql|apply Kd.Qo));exact Kd.Qs a3.out (fun _ hk=>⟨hk.1.2,hk.2⟩)),(by(with_reducible repeat(first|apply Kd.Qm|apply Kd.Ql|apply Kd.Qo));exact Kd.Qs a5.out (fun _ hk=>hk.2)),δ.out,Y.out,O.out,ξ.out,be.out,bk.out,a6.out,al.out,a8.out,an.out,a2.out,ao.out,HB.out⟩)
     rintro⟨cw,cy,bi,bj,ρ⟩ bp ⟨hS_,cq,cr,ct,cu,cv,e0,e3,e4,e5,e6,dh,di,dj,dk,dl,dm,dn⟩
     have ε :Aside0 (Kd.R k56 56 bp w.heap.size (fun k_=>some k_≠(bi:Value).ownBlock∧k_ ≠ φ) cw b2):=⟨cq⟩
     have θ :Aside0 (Kd.R k62 62 bp w.heap.size (fun k_=>some k_≠(bj:Value).ownBlock) cy b3):=⟨cr⟩
     have ι :Aside0 (Kd.R k56 56 bp w.heap.size (fun k_=>some k_≠(cw:Value).ownBlock∧k_ ≠ φ) bi aa):=⟨ct⟩
     have κ :Aside0 (Kd.R k62 62 bp w.heap.size (fun k_=>some k_≠(cy:Value).ownBlock) bj af):=⟨cu⟩
     have τ :Aside0 (bp.heap[aj]?=some (.cells #[.int .i64 I,.int .i64 J] 23 (0,0))):=⟨cv⟩
     have ψ :Aside0 (bp.heap[ai]?=some (.cells #[.slice Z B.length U,.slice γ D.length X] 27 (0,0))):=⟨e0⟩
     have a1:Aside0 (bp.heap[φ]?=some (.cells #[.int .i64 ζ,.int .i64 L,.int .i64 η] 56 (0,0))):=⟨e3⟩
     have ak:Aside0 (bp.heap[ρ]?=some (.cells #[.slice none 0 0,.slice none 0 0] 27 (0,0))):=⟨e4⟩
     have am:Aside0 (w.heap.size≤ρ):=⟨e5⟩
     have az:Aside0 (w.heap.size≤ρ):=⟨e6⟩
     have ap:Aside0 (aj≠ρ):=⟨dh⟩
     have av:Aside0 (ρ≠aj):=⟨di⟩
     have b0:Aside0 (ai≠ρ):=⟨dj⟩
     have ba:Aside0 (ρ≠ai):=⟨dk⟩
     have bb:Aside0 (φ ≠ ρ):=⟨dl⟩
     have bf:Aside0 (ρ ≠ φ):=⟨dm⟩
     have bg:Aside0 (Below w.heap.size w bp):=⟨dn⟩
     clear δ
     clear Y
     clear O
     clear HB
     clear cq cr ct cu cv e0 e3 e4 e5 e6 dh di dj dk dl dm dn
     have μ := ε
     have ν := θ
     have a3:= ι
     have a5:= κ
     have δ := τ
     have Y:= ψ
     have O:=a1
     have ξ :=ak
     have be:=am
     have bk:=az
     have a6:=ap
     have al:=av
     have a8:=b0
     have an:=ba
     have a2:=bb
     have ao:=bf
     have HB:=bg
     clear ε θ ι κ τ ψ a1 ak am az ap av b0 ba bb bf bg
     have hHeld:bp.cell? ⟨aj,0,none⟩=some (.int .i64 I)∧bp.cell? ⟨aj,1,none⟩=some (.int .i64 J)∧bp.cell? ⟨ai,0,none⟩=some (.slice Z B.length U)∧bp.cell? ⟨ai,1,none⟩=some (.slice γ D.length X)∧bp.cell? ⟨φ,0,none⟩=some (.int .i64 ζ)∧bp.cell? ⟨φ,1,none⟩=some (.int .i64 L)∧bp.cell? ⟨φ,2,none⟩=some (.int .i64 η):=hS_
     obtain⟨ey,ez,gu⟩:=Kd.Q6 a3.out
     (first|subst gu|(injection gu with ω ab a0;have ac:= ω.symm;have ae:=a0.symm;clear ω ab a0;subst ac;subst ae))
     obtain⟨gh,gj,gv⟩:=Kd.Q6 a5.out
     (first|subst gv|(injection gv with ω ab a0;have ac:= ω.symm;have ae:=a0.symm;clear ω ab a0;subst ac;subst ae))
     refine Xj (a':=?_) ?_ ?_
     rotate_left
     ·simp only[Z3,Act.put,qS]
      rfl
     refine Zm (i:=9) (N:=none) (bN 11 1023) rfl rfl (Q3 HT_.out kr) (by decide) (fun K hK=>?_)
     have ml:bp.cell? ⟨ρ,0,none⟩=some (.slice none 0 0):=(Qa ξ.out 0).trans rfl
     have ly:=Qb ξ.out 0
     have jq:=a6.out
     have jr:=a8.out
     have js:=a2.out
     have jt:=al.out
     have ju:=an.out
     have jv:=ao.out
     have mm:bp.cell? ⟨ρ,1,none⟩=some (.slice none 0 0):=(Qa ξ.out 1).trans rfl
     have lz:=Qb ξ.out 1
     have jw:=a6.out
     have jx:=a8.out
     have jy:=a2.out
     have jz:=al.out
     have k0:=an.out
     have k1:=ao.out
     refine Js (w1:=?_) (by rfl) rfl ?_ ?_
     rotate_left
     ·go_simp
      rfl
     refine hK.out _ _ ⟨((cell_far (p:=⟨ρ,_,none⟩) a6.out _).trans (((cell_far (p:=⟨ρ,_,none⟩) a6.out _).trans (hHeld.1)))),((cell_far (p:=⟨ρ,_,none⟩) a6.out _).trans (((cell_far (p:=⟨ρ,_,none⟩) a6.out _).trans (hHeld.2.1)))),((cell_far (p:=⟨ρ,_,none⟩) a8.out _).trans (((cell_far (p:=⟨ρ,_,none⟩) a8.out _).trans (hHeld.2.2.1)))),((cell_far (p:=⟨ρ,_,none⟩) a8.out _).trans (((cell_far (p:=⟨ρ,_,none⟩) a8.out _).trans (hHeld.2.2.2.1)))),((cell_far (p:=⟨ρ,_,none⟩) a2.out _).trans (((cell_far (p:=⟨ρ,_,none⟩) a2.out _).trans (hHeld.2.2.2.2.1)))),((cell_far (p:=⟨ρ,_,none⟩) a2.out _).trans (((cell_far (p:=⟨ρ,_,none⟩) a2.out _).trans (hHeld.2.2.2.2.2.1)))),((cell_far (p:=⟨ρ,_,none⟩) a2.out _).trans (((cell_far (p:=⟨ρ,_,none⟩) a2.out _).trans (hHeld.2.2.2.2.2.2))))⟩ (fun hHeld=>?_)
     clear hK K
     refine qP 10 (some 8) (bN 11 2047) HT_ ?_
     refine Z0 (Zp HT_.out kr) ?_
     have m0:=cz.out
     have m1:=d0.out
     have m2:=a6.out
     have m3:=al.out
     have k2:bp.cell? ⟨aj,0,none⟩=some (.int .i64 I):=(Qa δ.out 0).trans rfl
     have k3:bp.cell? ⟨aj,1,none⟩=some (.int .i64 J):=(Qa δ.out 1).trans rfl
     have k4:=Qb δ.out 0
     have k5:=Qb δ.out 1
     have m4:=a8.out
     have m5:=an.out
     have k6:bp.cell? ⟨ai,0,none⟩=some (.slice Z B.length U):=(Qa Y.out 0).trans rfl
     have k7:bp.cell? ⟨ai,1,none⟩=some (.slice γ D.length X):=(Qa Y.out 1).trans rfl
     have k8:=Qb Y.out 0
     have k9:=Qb Y.out 1
     try go_wp2_with (first|((with_reducible refine Q2 (f:=13) rfl ?_);refine Zq (some 23) rfl rfl Try.func13 kr rfl #[.agg #[.int .i64 I,.int .i64 J],.agg #[.slice Z B.length U,.slice γ D.length X]] rfl (by simp only[List.map_toArray,List.map_cons,List.map_nil] <;> rfl) ?_;(with_reducible refine(newelref19_May.calls k I J _ _ B _ _ D false _ ?side1 ?side2 ?side3 ?side4 A8.out).mono ?_);(case side1=>exact Kd.Qz ag.out bel);(case side2=>exact ar.out);(case side3=>exact Kd.Qz ah.out bel);(case side4=>exact aw.out);rintro e mt ⟨rfl,hb⟩;refine⟨_,rfl, ?_⟩;replace μ :=Aside0.mk (Kd.Qw (by(with_reducible repeat(first|apply Kd.Qm|apply Kd.Ql|apply Kd.Qo));exact(Kd.Qs (Kd.Qu (Kd.Qu (Kd.Qy μ.out ξ.out (by decide)) (fun _ hk=>hk.2) _) (fun _ hk=>hk.2) _) (fun _ h_=>h_.1))) hb);replace ν :=Aside0.mk (Kd.Qw (by(with_reducible repeat(first|apply Kd.Qm|apply Kd.Ql|apply Kd.Qo));exact(Kd.Qs (Kd.Qu (Kd.Qu (Kd.Qy ν.out ξ.out (by decide)) (fun _ hk=>hk.2) _) (fun _ hk=>hk.2) _) (fun _ h_=>h_.1))) hb);replace a3:=Aside0.mk (Kd.Qw (by(with_reducible repeat(first|apply Kd.Qm|apply Kd.Ql|apply Kd.Qo));exact(Kd.Qs (Kd.Qu (Kd.Qu (Kd.Qy a3.out ξ.out (by decide)) (fun _ hk=>hk.2) _) (fun _ hk=>hk.2) _) (fun _ h_=>h_.1))) hb);replace a5:=Aside0.mk (Kd.Qw (by(with_reducible repeat(first|apply Kd.Qm|apply Kd.Ql|apply Kd.Qo));exact(Kd.Qs (Kd.Qu (Kd.Qu (Kd.Qy a5.out ξ.out (by decide)) (fun _ hk=>hk.2) _) (fun _ hk=>hk.2) _) (fun _ h_=>h_.1))) hb);replace δ :=sBk δ hb;replace Y:=sBk Y hb;replace O:=sBk O hb;replace ξ :=Aside0.mk (Qn (g:=ρ) (o:=.cells #[.slice ey aa.length ez,.slice gh af.length gj] 27 (0,0)) (by(with_reducible repeat(first|refine Qf ?_ _|refine Qc ?_|refine Qg ?_ _));refine Qx (cs:=#[.slice ey aa.length ez,.slice none 0 0]) ?_ 1 _ rfl;(with_reducible repeat(first|refine Qf ?_ _|refine Qc ?_|refine Qg ?_ _));refine Qx (cs:=#[.slice none 0 0,.slice none 0 0]) ?_ 0 _ rfl;(with_reducible repeat(first|refine Qf ?_ _|refine Qc ?_|refine Qg ?_ _));exact ξ.out) hb);replace HB:=sHb hb;(try clear hb);(try clear a4);(try clear hk);(try clear hi))|((with_reducible refine Q2 (f:=10) rfl ?_);refine Zq (some 25) rfl rfl Try.func10 kr rfl #[] rfl (by simp only[List.map_toArray,List.map_cons,List.map_nil] <;> rfl) ?_;(with_reducible refine(newellaw19_awake.calls k  true _ lw.out).mono ?_);rintro e j9 ⟨rfl,hb⟩;refine⟨_,rfl, ?_⟩;replace μ :=sRb μ hb;replace ν :=sRb ν hb;replace a3:=sRb a3 hb;replace a5:=sRb a5 hb;replace δ :=sBk δ hb;replace Y:=sBk Y hb;replace O:=sBk O hb;replace ξ :=sBk ξ hb;replace HB:=sHb hb;(try clear hb);(try clear a4);(try clear hk);(try clear hi);have j5:=ao.out;have j6:=a2.out;have gn:j9.cell? ⟨ρ,0,none⟩=some (.slice ey aa.length ez):=(Qa ξ.out 0).trans rfl;have gx:j9.cell? ⟨ρ,1,none⟩=some (.slice gh af.length gj):=(Qa ξ.out 1).trans rfl;have gy:=Qb ξ.out 0;have gz:=Qb ξ.out 1)|(go_at_call 15;(refine(newelref19_Same.calls k _ _ aa _ _ af _ _ ([]:List (S56)) _ _ ([]:List (S62)) bo _ ?side1 ?side2 ?side3 ?side4 ?side5 ?side6 ?side7 ?side8 lx.out).mono ?_);(case side1=>repeat(first|exact(Kd.Qr a3.out).2.2|(with_reducible refine Kd.Za ?_ _)|(with_reducible refine Kd.Q9 ?_ _)|(with_reducible refine Kd.Zl ?_)));(case side2=>exact(Kd.Qr a3.out).2.1);(case side3=>repeat(first|exact(Kd.Qr a5.out).2.2|(with_reducible refine Kd.Za ?_ _)|(with_reducible refine Kd.Q9 ?_ _)|(with_reducible refine Kd.Zl ?_)));(case side4=>exact(Kd.Qr a5.out).2.1);(case side5=>exact Kd.Gf _ _);(case side6=>exact Nat.le_refl _);(case side7=>exact Kd.Gf _ _);(case side8=>exact Nat.le_refl _);rintro e g6 ⟨rfl,hb⟩;have ε :=Aside0.mk (Kd.Qw (kra μ) hb);have θ :=Aside0.mk (Kd.Qw (kra ν) hb);have ι :=Aside0.mk (Kd.Qw (kra a3) hb);have κ :=Aside0.mk (Kd.Qw (kra a5) hb);have τ :=Aside0.mk (Qn (g:=aj) (o:=.cells #[.int .i64 I,.int .i64 J] 23 (0,0)) (bka δ) hb);have ψ :=Aside0.mk (Qn (g:=ai) (o:=.cells #[.slice Z B.length U,.slice γ D.length X] 27 (0,0)) (bka Y) hb);have a1:=Aside0.mk (Qn (g:= φ) (o:=.cells #[.int .i64 ζ,.int .i64 L,.int .i64 η] 56 (0,0)) (bka O) hb);have ak:=Aside0.mk (Qn (g:=ρ) (o:=.cells #[.slice ey aa.length ez,.slice gh af.length gj] 27 (0,0)) (bka ξ) hb);have am:=Aside0.mk (Qv bel hb);clear μ;clear ν;clear a3;clear a5;clear δ;clear Y;clear O;clear ξ;clear HB;have μ := ε;have ν := θ;have a3:= ι;have a5:= κ;have δ := τ;have Y:= ψ;have O:=a1;have ξ :=ak;have HB:=am;clear ε θ ι κ τ ψ a1 ak am;(try clear hb);(try clear a4);(try clear hk);(try clear hi)))
     go_ret
     exact⟨rfl,HB.out⟩
    ·rw[if_neg gk] at H
     exact absurd H (by simp)
   ·replace gt:=Bool.eq_false_iff.mpr gt
    subst gt
    have H1:(none)=some r:=by rw[if_neg (show ¬ (false=true) by decide)] at H;exact H
    clear H
    have H:=H1
    clear H1
    exact absurd H (by simp)
 ·replace c5:=Bool.eq_false_iff.mpr c5
  subst c5
  have H1:((newellaw19_awake.f k).bind fun d7=>(some d7))=some r:=by rw[if_neg (show ¬ (false=true) by decide)] at H;exact H
  clear H
  have H:=H1
  clear H1
  replace H:=Option.bind_eq_some_iff.mp H
  obtain⟨d7,gw,H⟩:=H
  replace H:(some d7)=some r:=H
  have ka:=Aside0.mk gw
  clear gw
  obtain rfl:=Option.some.inj H
  go_enter Try.func5,Try.ntmps5
  go_wp2_with (first|((with_reducible refine Qt (N:=3) rfl ?_);refine Qp ?hg (N:=3) ?hd (cs:=#[.int .i64 I,.int .i64 J]) (t:=23) ?hr ?_;(case hd=>rfl);(case hg=>rfl);(case hr=>go_simp <;> rfl);intro aj hg mu hbox hb;have δ :=Aside0.mk hbox;have er:=sGe hg;have fy:=sGe hg;replace HB:=sHb hb;clear hb hbox hg)|((with_reducible refine Qt (N:=4) rfl ?_);refine Qp ?hg (N:=4) ?hd (cs:=#[.slice Z B.length U,.slice γ D.length X]) (t:=27) ?hr ?_;(case hd=>rfl);(case hg=>rfl);(case hr=>go_simp <;> rfl);intro ai hg mw hbox hb;have Y:=Aside0.mk hbox;have et:=sGe hg;have fz:=sGe hg;have ch:=sNl δ hg;have cj:=sNg δ hg;replace δ :=sBk δ hb;replace HB:=sHb hb;clear hb hbox hg)|((with_reducible refine Qt (N:=5) rfl ?_);refine Qp ?hg (N:=5) ?hd (cs:=#[.int .i64 ζ,.int .i64 L,.int .i64 η]) (t:=56) ?hr ?_;(case hd=>rfl);(case hg=>rfl);(case hr=>go_simp <;> rfl);intro φ hg ja hbox hb;have O:=Aside0.mk hbox;have ew:=sGe hg;have g8:=sGe hg;have cz:=sNl δ hg;have d0:=sNg δ hg;have ck:=sNl Y hg;have cp:=sNg Y hg;replace δ :=sBk δ hb;replace Y:=sBk Y hb;replace HB:=sHb hb;clear hb hbox hg;have m6:=cj.out;have m7:=ch.out;have m8:=ck.out;have m9:=cp.out;have kb:ja.cell? ⟨ai,0,none⟩=some (.slice Z B.length U):=(Qa Y.out 0).trans rfl;have kc:ja.cell? ⟨ai,1,none⟩=some (.slice γ D.length X):=(Qa Y.out 1).trans rfl;have kd:=Qb Y.out 0;have ke:=Qb Y.out 1)|((with_reducible refine Q2 (f:=9) rfl ?_);refine Zq (some 10) rfl rfl Try.func9 kr rfl #[.agg #[.slice Z B.length U,.slice γ D.length X]] rfl (by simp only[List.map_toArray,List.map_cons,List.map_nil] <;> rfl) ?_;(with_reducible refine(newelref19_Few.calls _ _ B _ _ D false _ ?side1 ?side2 ?side3 ?side4 A4.out).mono ?_);(case side1=>exact(Kd.Qz ag.out HB.out));(case side2=>exact ar.out);(case side3=>exact(Kd.Qz ah.out HB.out));(case side4=>exact aw.out);rintro e mx ⟨rfl,hb⟩;refine⟨_,rfl, ?_⟩;replace δ :=sBk δ hb;replace Y:=sBk Y hb;replace O:=sBk O hb;replace HB:=sHb hb;(try clear hb);(try clear a4);(try clear hk);(try clear hi))|((with_reducible refine Q2 (f:=10) rfl ?_);refine Zq (some 12) rfl rfl Try.func10 kr rfl #[] rfl (by simp only[List.map_toArray,List.map_cons,List.map_nil] <;> rfl) ?_;(with_reducible refine(newellaw19_awake.calls k  d7 _ ka.out).mono ?_);rintro e my ⟨rfl,hb⟩;refine⟨_,rfl, ?_⟩;replace δ :=sBk δ hb;replace Y:=sBk Y hb;replace O:=sBk O hb;replace HB:=sHb hb;(try clear hb);(try clear a4);(try clear hk);(try clear hi)))
  go_ret
  exact⟨rfl,HB.out⟩
end Go.Proofs.Ytjehhhlhalkieaa.C
namespace Go.Proofs.Ytjehhhlhalkieaa.Call
open Go.RowKit Go.Proofs.YtjehhhlhalkieaaW.PrintWords Go.Proofs.YtjehhhlhalkieaaW.PrintLast Go.Proofs.YtjehhhlhalkieaaW.PrintMore Go.Proofs.Ytjehhhlhalkieaa.C
set_option linter.unusedVariables false
set_option linter.unusedSimpArgs false
def Gc (F C:Int) (H:List Hall) (I:List Ins) (fl dir car:Int):List Hall×List Ins×Int:=
  if okB F C H I=true then (if Xp F C fl dir car=true then (Jn ⟨fl,dir,car⟩ H,I,0) else ([],[],191)) else ([],[],190)
theorem M1 (k:Nat) (F C:Int) (H:List Hall) (I:List Ins) (fl dir car:Int) (hH:H.length<900000000) (hI:I.length<900000000) (hC:i64 C) (hd:i64 dir):
    call_Give.f (k+1) F C H I fl dir car=some (Gc F C H I fl dir car):=by
  unfold call_Give.f hallP.f Gc
  rw[Option.bind_some,Lb _ _ k F C H I _ _ _ _ _ _ _ _ hH hI hC]
  cases hok:okB F C H I
  · rfl
  · cases hb:Xp F C fl dir car
    · rfl
    · simp only[eq_self,if_true]
      unfold setP_H.f woP_I.f
      rw[if_pos ⟨Kk (by omega) hd,V5 hok⟩,if_pos (Kk (by omega) (by unfold i64;omega)),Le hok _ _ (by omega)]
      rfl
theorem Vp (fl dir car:Int) (H:List Hall) (I J:List Ins) (hm:H.length≤100000000) (j:Nat):∀ (f i:Nat) (acc:List Hall),i+j=H.length→j<f→acc.length≤i→newelref19_Give.l0 f (i:Int) H I fl dir car acc J=some (acc++Jn ⟨fl,dir,car⟩ (H.drop i),J):=by
  induction j with
  |zero=>
    intro f i acc hi hf ha
    obtain⟨f,rfl⟩:∃ m,f=m+1:=⟨f-1,by omega⟩
    simp only[newelref19_Give.l0]
    rw[if_neg (by omega),List.drop_of_length_le (by omega)]
    simp[Jn]
  |succ j ih=>
    intro f i acc hi hf ha
    obtain⟨f,rfl⟩:∃ m,f=m+1:=⟨f-1,by omega⟩
    have hlt:i<H.length:=by omega
    have ei:wrap64 ((i:Int)+1)=((i+1:Nat):Int):=by unfold wrap64;omega
    have B:=fun(z:Hall)=>ih f (i+1) (acc ++ [z]) (by omega) (by omega) (by simp;omega)
    simp only[newelref19_Give.l0]
    rw[if_pos (by omega),if_pos (by omega),Yj H i hlt,ei,List.drop_eq_getElem_cons hlt]
    generalize H[i]=y at *
    have hs:Jn ⟨fl,dir,car⟩ (y :: H.drop (i+1))=(if y.f0=fl∧y.f1=dir then (⟨fl,dir,car⟩:Hall) else y) :: Jn ⟨fl,dir,car⟩ (H.drop (i+1)):=rfl
    rw[hs]
    by_cases Y:y.f0=fl
    · rw[if_pos Y]
      by_cases h1:y.f1=dir
      · rw[if_pos h1,if_pos (by omega),B,if_pos ⟨Y,h1⟩,Y,h1,List.append_assoc]
        rfl
      · rw[if_neg h1,if_pos (by omega),B,if_neg (fun q=>h1 q.2),List.append_assoc]
        rfl
    · rw[if_neg Y,if_pos (by omega),B,if_neg (fun q=>Y q.1),List.append_assoc]
      rfl
theorem Ut (k:Nat) (H:List Hall) (I:List Ins) (fl dir car:Int) (hm:H.length≤100000000) (hk:H.length<k):newelref19_Give.f k H I fl dir car=some (Jn ⟨fl,dir,car⟩ H,I):=by
  unfold newelref19_Give.f
  have:=Vp fl dir car H I I hm H.length k 0 [] (by omega) hk (by simp)
  simpa using this
theorem Mr (x:Hall) (H:List Hall):(Jn x H).length=H.length:=by unfold Jn;rw[List.length_map]
theorem L4 (F C:Int) (H:List Hall) (I:List Ins) (fl dir car:Int) (hC:i64 C) (hd:i64 dir) (K:Nat) (hK:3000≤K):newellaw19_CallGives.f K F C H I fl dir car=some true:=by
  unfold newellaw19_CallGives.f
  rw[Md K (by omega)]
  rcases N0 H I with h|⟨h,h1,O⟩
  · rw[h]
    simp only[Option.bind_some]
    rfl
  rw[h,Nv H I (by omega) (by omega)]
  simp only[Option.bind_some]
  obtain⟨k,rfl⟩:∃ k,K=k+1:=⟨K-1,by omega⟩
  rw[if_pos trivial,M1 k F C H I fl dir car (by omega) (by omega) hC hd,Wt _ F C H I (by omega) (by omega) (by omega)]
  simp only[Option.bind_some]
  cases hok:okB F C H I
  · have hp:Gc F C H I fl dir car=([],[],190):=by unfold Gc;rw[hok];rfl
    rw[hp]
    simp only[Bool.false_eq_true,eq_self,if_true,if_false]
    rw[K6 _ (by omega)]
    rfl
  · obtain⟨hF,B⟩:=Lq hok
    simp only[Bool.false_eq_true,eq_self,if_true,if_false]
    rw[Gs k fl dir car hF B]
    simp only[Option.bind_some]
    cases hb:Xp F C fl dir car
    · have hp:Gc F C H I fl dir car=([],[],191):=by unfold Gc;rw[hok,hb];rfl
      rw[hp]
      simp only[Bool.false_eq_true,eq_self,if_true,if_false]
      rw[K6 _ (by omega)]
      rfl
    · have hp:Gc F C H I fl dir car=(Jn ⟨fl,dir,car⟩ H,I,0):=by unfold Gc;rw[hok,hb];rfl
      have hl:=Mr ⟨fl,dir,car⟩ H
      rw[hp]
      simp only[Bool.false_eq_true,eq_self,if_true,if_false]
      rw[Ut _ H I fl dir car (by omega) (by omega)]
      simp only[Option.bind_some]
      rw[Km _ _ _ (by omega)]
      obtain⟨U,e1,q1⟩:=same_eq (k+1) H I (Jn ⟨fl,dir,car⟩ H) I (by omega) (by omega) (by omega)
      obtain⟨X,e2,q2⟩:=Gr (k+1) H I (Jn ⟨fl,dir,car⟩ H) I (by omega) (by omega) (by omega)
      rw[e1,e2]
      have:U=X:=by
        cases U <;> cases X
        · rfl
        · exact absurd (q1.2 (q2.1 rfl)) (by decide)
        · exact absurd (q2.2 (q1.1 rfl)) (by decide)
        · rfl
      simp[this]
end Go.Proofs.Ytjehhhlhalkieaa.Call

