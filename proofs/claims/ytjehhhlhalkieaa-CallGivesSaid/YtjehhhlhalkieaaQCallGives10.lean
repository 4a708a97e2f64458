/- Texts of this claim, one behind the other: what the law's functions come to, walked (printed by a program, with the words that the print uses), and what that is, in plain Lean. No conditions of their own. -/
import Derived.Test.YtjehhhlhalkieaaQCallGives9
namespace Go.Proofs.Ytjehhhlhalkieaa.C
open Go.RowKit Go.Proofs.YtjehhhlhalkieaaW.PrintWords Go.Proofs.YtjehhhlhalkieaaW.PrintLast Go.Proofs.YtjehhhlhalkieaaW.PrintMore
attribute [local go_sem] Z2 Z0 Xb Xa Zq Zp Z1 Zz
set_option linter.unusedVariables false
set_option linter.unusedSimpArgs false
def newellaw19_CallGives.f (k:Nat) (I:Int) (J:Int) (B:List (S56)) (D:List (S62)) (X:Int) (L:Int) (ζ :Int):Option (Bool):=(newelref19_Few.f B D).bind fun ee=>(if ee=true then ((newellaw19_Own.f B D).bind fun cz=>((call_Give.f k I J cz.1 cz.2 X L ζ).bind fun a9=>((newelref19_May.f k I J B D).bind fun d2=>(if d2=true then ((newelref19_Hall.f k I J X L ζ).bind fun bs=>(if bs=true then ((newellaw19_awake.f k).bind fun bl=>(if bl=true then (if a9.2.2=0 then ((newelref19_Give.f k B D X L ζ).bind fun b1=>((newelref19_Same.f k a9.1 a9.2.1 b1.1 b1.2).bind fun bc=>(if bc=true then ((call_Same.f k B D a9.1 a9.2.1).bind fun bb=>((newelref19_Same.f k B D a9.1 a9.2.1).bind fun ba=>(some (bb==ba)))) else (none)))) else (none)) else (none))) else ((newellaw19_awake.f k).bind fun bm=>(if bm=true then (if a9.2.2=191 then ((newelref19_Same.f k a9.1 a9.2.1 ([]:List (S56)) ([]:List (S62))).bind fun bh=>(some bh)) else (none)) else (none))))) else ((newellaw19_awake.f k).bind fun bu=>(if bu=true then (if a9.2.2=190 then ((newelref19_Same.f k a9.1 a9.2.1 ([]:List (S56)) ([]:List (S62))).bind fun bn=>(some bn)) else (none)) else (none))))))) else ((newellaw19_awake.f k).bind fun dl=>(some dl)))
theorem newellaw19_CallGives.mono:∀ I D a2 X J a5 L k,LeO (newellaw19_CallGives.f k I D a2 X J a5 L) (newellaw19_CallGives.f (k+1) I D a2 X J a5 L):=by
 intro I D a2 X J a5 L k
 unfold newellaw19_CallGives.f
 repeat' first
   |(with_reducible exact call_Give.mono _ _ _ _ _ _ _ _)
   |(with_reducible exact call_Same.mono _ _ _ _ _)
   |(with_reducible exact newellaw19_awake.mono _)
   |(with_reducible exact newelref19_Give.mono _ _ _ _ _ _)
   |(with_reducible exact newelref19_Hall.mono _ _ _ _ _ _)
   |(with_reducible exact newelref19_May.mono _ _ _ _ _)
   |(with_reducible exact newelref19_Same.mono _ _ _ _ _)
   |(with_reducible exact LeO.refl _)
   |(with_reducible exact LeO.none _)
   |(with_reducible refine LeO.ite ?_ ?_)
   |(with_reducible refine LeO.bind ?_ (fun _=>?_))
   |exact call_Give.mono _ _ _ _ _ _ _ _
   |exact call_Same.mono _ _ _ _ _
   |exact newellaw19_awake.mono _
   |exact newelref19_Give.mono _ _ _ _ _ _
   |exact newelref19_Hall.mono _ _ _ _ _ _
   |exact newelref19_May.mono _ _ _ _ _
   |exact newelref19_Same.mono _ _ _ _ _
   |exact LeO.none _
   |refine LeO.ite ?_ ?_
   |refine LeO.bind ?_ (fun _=>?_)
def newellaw19_CallGives.T3:Bool×List (List Nat×List Nat):=(true,[([],[]),([],[]),([1],[1]),([],[]),([0,2,3,2],[0,2,3]),([4],[4]),([5],[5]),([5],[5]),([],[]),([8,6,4,0,1,2,3,4,5,6,8],[6,8]),([7,9,0,1,2,3,4,5,6,7,8,9],[7])])
def newellaw19_CallGives.B3:List Nat:=[0,0,2,0,15,31,63,63,0,383,1023]
theorem newellaw19_CallGives.Wn:rtab .any (opsOf Try.f5 3)=newellaw19_CallGives.T3:=by kernel_rfl
theorem newellaw19_CallGives.Vh:Zr newellaw19_CallGives.T3.2 newellaw19_CallGives.B3=true:=by kernel_rfl
def newellaw19_CallGives.T8:Bool×List (List Nat×List Nat):=(true,[([],[]),([0,0],[0]),([1],[1]),([2,1],[1,2]),([1,3],[1,3]),([4,1],[4]),([5],[5]),([5],[5]),([5],[5]),([7,8,5,5],[5,7,8]),([6,9,9,5],[5,6,9]),([5,10],[5,10]),([11,10],[11]),([12],[12]),([12],[12]),([13,14,12,12],[12,13,14]),([12],[12]),([12],[12]),([16,17,15,12],[12,16,17]),([15,18,12],[12,15,18]),([12,19],[12,19]),([20,18,0,1,2,3,4,5,6,7,8,9,10,11,12,13,14,15,16,17,18,19,20],[20])])
def newellaw19_CallGives.B8:List Nat:=[0,1,3,7,15,31,63,63,63,447,1023,2047,4095,8191,8191,32767,8191,8191,262143,524287,1048575,2097151]
theorem newellaw19_CallGives.Um:rtab .any (opsOf Try.f5 8)=newellaw19_CallGives.T8:=by kernel_rfl
theorem newellaw19_CallGives.G0:Zr newellaw19_CallGives.T8.2 newellaw19_CallGives.B8=true:=by kernel_rfl
set_option maxHeartbeats 8000000 in
set_option maxRecDepth 100000 in
theorem newellaw19_CallGives.calls (k:Nat) (I:Int) (J:Int) (η :Option Addr) (δ :Nat) (B:List (S56)) (θ :Option Addr) (ε :Nat) (D:List (S62)) (X:Int) (L:Int) (ζ :Int) (r:Bool) (w:World) (b4:Kd.C k56 w η B.length B) (b5:B.length ≤ δ) (b6:Kd.C k62 w θ D.length D) (b7:D.length ≤ ε) (h:newellaw19_CallGives.f k I J B D X L ζ = some r):
  Calls Try.prog 5 #[.agg #[.int .i64 I,.int .i64 J],.agg #[.slice η B.length δ,.slice θ D.length ε],.agg #[.int .i64 X,.int .i64 L,.int .i64 ζ]] w fun e w'=>e = .returned (.bool r)∧Below w.heap.size w w':=by
 have dn:=Try.underlying23
 have d4:=Try.underlying27
 have bq:=Try.underlying56
 have ag:=Aside0.mk b4
 have ar:=Aside0.mk b5
 clear b4 b5
 have ah:=Aside0.mk b6
 have aw:=Aside0.mk b7
 clear b6 b7
 have HB:=Aside0.mk (Below.refl w.heap.size w)
 have H:((newelref19_Few.f B D).bind fun ee=>(if ee=true then ((newellaw19_Own.f B D).bind fun cz=>((call_Give.f k I J cz.1 cz.2 X L ζ).bind fun a9=>((newelref19_May.f k I J B D).bind fun d2=>(if d2=true then ((newelref19_Hall.f k I J X L ζ).bind fun bs=>(if bs=true then ((newellaw19_awake.f k).bind fun bl=>(if bl=true then (if a9.2.2=0 then ((newelref19_Give.f k B D X L ζ).bind fun b1=>((newelref19_Same.f k a9.1 a9.2.1 b1.1 b1.2).bind fun bc=>(if bc=true then ((call_Same.f k B D a9.1 a9.2.1).bind fun bb=>((newelref19_Same.f k B D a9.1 a9.2.1).bind fun ba=>(some (bb==ba)))) else (none)))) else (none)) else (none))) else ((newellaw19_awake.f k).bind fun bm=>(if bm=true then (if a9.2.2=191 then ((newelref19_Same.f k a9.1 a9.2.1 ([]:List (S56)) ([]:List (S62))).bind fun bh=>(some bh)) else (none)) else (none))))) else ((newellaw19_awake.f k).bind fun bu=>(if bu=true then (if a9.2.2=190 then ((newelref19_Same.f k a9.1 a9.2.1 ([]:List (S56)) ([]:List (S62))).bind fun bn=>(some bn)) else (none)) else (none))))))) else ((newellaw19_awake.f k).bind fun dl=>(some dl))))=some r:=h
 clear h
 replace H:=Option.bind_eq_some_iff.mp H
 obtain⟨ee,bv,H⟩:=H
 replace H:(if ee=true then ((newellaw19_Own.f B D).bind fun cz=>((call_Give.f k I J cz.1 cz.2 X L ζ).bind fun a9=>((newelref19_May.f k I J B D).bind fun d2=>(if d2=true then ((newelref19_Hall.f k I J X L ζ).bind fun bs=>(if bs=true then ((newellaw19_awake.f k).bind fun bl=>(if bl=true then (if a9.2.2=0 then ((newelref19_Give.f k B D X L ζ).bind fun b1=>((newelref19_Same.f k a9.1 a9.2.1 b1.1 b1.2).bind fun bc=>(if bc=true then ((call_Same.f k B D a9.1 a9.2.1).bind fun bb=>((newelref19_Same.f k B D a9.1 a9.2.1).bind fun ba=>(some (bb==ba)))) else (none)))) else (none)) else (none))) else ((newellaw19_awake.f k).bind fun bm=>(if bm=true then (if a9.2.2=191 then ((newelref19_Same.f k a9.1 a9.2.1 ([]:List (S56)) ([]:List (S62))).bind fun bh=>(some bh)) else (none)) else (none))))) else ((newellaw19_awake.f k).bind fun bu=>(if bu=true then (if a9.2.2=190 then ((newelref19_Same.f k a9.1 a9.2.1 ([]:List (S56)) ([]:List (S62))).bind fun bn=>(some bn)) else (none)) else (none))))))) else ((newellaw19_awake.f k).bind fun dl=>(some dl)))=some r:=H
 have A4:=Aside0.mk bv
 clear bv
 by_cases c5:ee=true
 ·subst c5
  have H1:((newellaw19_Own.f B D).bind fun cz=>((call_Give.f k I J cz.1 cz.2 X L ζ).bind fun a9=>((newelref19_May.f k I J B D).bind fun d2=>(if d2=true then ((newelref19_Hall.f k I J X L ζ).bind fun bs=>(if bs=true then ((newellaw19_awake.f k).bind fun bl=>(if bl=true then (if a9.2.2=0 then ((newelref19_Give.f k B D X L ζ).bind fun b1=>((newelref19_Same.f k a9.1 a9.2.1 b1.1 b1.2).bind fun bc=>(if bc=true then ((call_Same.f k B D a9.1 a9.2.1).bind fun bb=>((newelref19_Same.f k B D a9.1 a9.2.1).bind fun ba=>(some (bb==ba)))) else (none)))) else (none)) else (none))) else ((newellaw19_awake.f k).bind fun bm=>(if bm=true then (if a9.2.2=191 then ((newelref19_Same.f k a9.1 a9.2.1 ([]:List (S56)) ([]:List (S62))).bind fun bh=>(some bh)) else (none)) else (none))))) else ((newellaw19_awake.f k).bind fun bu=>(if bu=true then (if a9.2.2=190 then ((newelref19_Same.f k a9.1 a9.2.1 ([]:List (S56)) ([]:List (S62))).bind fun bn=>(some bn)) else (none)) else (none)))))))=some r:=by rw[if_pos rfl] at H;exact H
  clear H
  have H:=H1
  clear H1
  replace H:=Option.bind_eq_some_iff.mp H
  obtain⟨⟨b2,b3⟩,d0,H⟩:=H
  replace H:((call_Give.f k I J b2 b3 X L ζ).bind fun a9=>((newelref19_May.f k I J B D).bind fun d2=>(if d2=true then ((newelref19_Hall.f k I J X L ζ).bind fun bs=>(if bs=true then ((newellaw19_awake.f k).bind fun bl=>(if bl=true then (if a9.2.2=0 then ((newelref19_Give.f k B D X L ζ).bind fun b1=>((newelref19_Same.f k a9.1 a9.2.1 b1.1 b1.2).bind fun bc=>(if bc=true then ((call_Same.f k B D a9.1 a9.2.1).bind fun bb=>((newelref19_Same.f k B D a9.1 a9.2.1).bind fun ba=>(some (bb==ba)))) else (none)))) else (none)) else (none))) else ((newellaw19_awake.f k).bind fun bm=>(if bm=true then (if a9.2.2=191 then ((newelref19_Same.f k a9.1 a9.2.1 ([]:List (S56)) ([]:List (S62))).bind fun bh=>(some bh)) else (none)) else (none))))) else ((newellaw19_awake.f k).bind fun bu=>(if bu=true then (if a9.2.2=190 then ((newelref19_Same.f k a9.1 a9.2.1 ([]:List (S56)) ([]:List (S62))).bind fun bn=>(some bn)) else (none)) else (none))))))=some r:=H
  have A6:=Aside0.mk d0
  clear d0
  replace H:=Option.bind_eq_some_iff.mp H
  obtain⟨⟨ae,af,ay⟩,g2,H⟩:=H
  replace H:((newelref19_May.f k I J B D).bind fun d2=>(if d2=true then ((newelref19_Hall.f k I J X L ζ).bind fun bs=>(if bs=true then ((newellaw19_awake.f k).bind fun bl=>(if bl=true then (if ay=0 then ((newelref19_Give.f k B D X L ζ).bind fun b1=>((newelref19_Same.f k ae af b1.1 b1.2).bind fun bc=>(if bc=true then ((call_Same.f k B D ae af).bind fun bb=>((newelref19_Same.f k B D ae af).bind fun ba=>(some (bb==ba)))) else (none)))) else (none)) else (none))) else ((newellaw19_awake.f k).bind fun bm=>(if bm=true then (if ay=191 then ((newelref19_Same.f k ae af ([]:List (S56)) ([]:List (S62))).bind fun bh=>(some bh)) else (none)) else (none))))) else ((newellaw19_awake.f k).bind fun bu=>(if bu=true then (if ay=190 then ((newelref19_Same.f k ae af ([]:List (S56)) ([]:List (S62))).bind fun bn=>(some bn)) else (none)) else (none)))))=some r:=H
  have A7:=Aside0.mk g2
  clear g2
  replace H:=Option.bind_eq_some_iff.mp H
  obtain⟨d2,dr,H⟩:=H
  replace H:(if d2=true then ((newelref19_Hall.f k I J X L ζ).bind fun bs=>(if bs=true then ((newellaw19_awake.f k).bind fun bl=>(if bl=true then (if ay=0 then ((newelref19_Give.f k B D X L ζ).bind fun b1=>((newelref19_Same.f k ae af b1.1 b1.2).bind fun bc=>(if bc=true then ((call_Same.f k B D ae af).bind fun bb=>((newelref19_Same.f k B D ae af).bind fun ba=>(some (bb==ba)))) else (none)))) else (none)) else (none))) else ((newellaw19_awake.f k).bind fun bm=>(if bm=true then (if ay=191 then ((newelref19_Same.f k ae af ([]:List (S56)) ([]:List (S62))).bind fun bh=>(some bh)) else (none)) else (none))))) else ((newellaw19_awake.f k).bind fun bu=>(if bu=true then (if ay=190 then ((newelref19_Same.f k ae af ([]:List (S56)) ([]:List (S62))).bind fun bn=>(some bn)) else (none)) else (none))))=some r:=H
  have A8:=Aside0.mk dr
  clear dr
  by_cases c9:d2=true
  ·subst c9
   have H1:((newelref19_Hall.f k I J X L ζ).bind fun bs=>(if bs=true then ((newellaw19_awake.f k).bind fun bl=>(if bl=true then (if ay=0 then ((newelref19_Give.f k B D X L ζ).bind fun b1=>((newelref19_Same.f k ae af b1.1 b1.2).bind fun bc=>(if bc=true then ((call_Same.f k B D ae af).bind fun bb=>((newelref19_Same.f k B D ae af).bind fun ba=>(some (bb==ba)))) else (none)))) else (none)) else (none))) else ((newellaw19_awake.f k).bind fun bm=>(if bm=true then (if ay=191 then ((newelref19_Same.f k ae af ([]:List (S56)) ([]:List (S62))).bind fun bh=>(some bh)) else (none)) else (none)))))=some r:=by rw[if_pos rfl] at H;exact H
   clear H
   have H:=H1
   clear H1
   replace H:=Option.bind_eq_some_iff.mp H
   obtain⟨bs,ep,H⟩:=H
   replace H:(if bs=true then ((newellaw19_awake.f k).bind fun bl=>(if bl=true then (if ay=0 then ((newelref19_Give.f k B D X L ζ).bind fun b1=>((newelref19_Same.f k ae af b1.1 b1.2).bind fun bc=>(if bc=true then ((call_Same.f k B D ae af).bind fun bb=>((newelref19_Same.f k B D ae af).bind fun ba=>(some (bb==ba)))) else (none)))) else (none)) else (none))) else ((newellaw19_awake.f k).bind fun bm=>(if bm=true then (if ay=191 then ((newelref19_Same.f k ae af ([]:List (S56)) ([]:List (S62))).bind fun bh=>(some bh)) else (none)) else (none))))=some r:=H
   have eh:=Aside0.mk ep
   clear ep
   by_cases cb:bs=true
   ·subst cb
    have H1:((newellaw19_awake.f k).bind fun bl=>(if bl=true then (if ay=0 then ((newelref19_Give.f k B D X L ζ).bind fun b1=>((newelref19_Same.f k ae af b1.1 b1.2).bind fun bc=>(if bc=true then ((call_Same.f k B D ae af).bind fun bb=>((newelref19_Same.f k B D ae af).bind fun ba=>(some (bb==ba)))) else (none)))) else (none)) else (none)))=some r:=by rw[if_pos rfl] at H;exact H
    clear H
    have H:=H1
    clear H1
    replace H:=Option.bind_eq_some_iff.mp H
    obtain⟨bl,ce,H⟩:=H
    replace H:(if bl=true then (if ay=0 then ((newelref19_Give.f k B D X L ζ).bind fun b1=>((newelref19_Same.f k ae af b1.1 b1.2).bind fun bc=>(if bc=true then ((call_Same.f k B D ae af).bind fun bb=>((newelref19_Same.f k B D ae af).bind fun ba=>(some (bb==ba)))) else (none)))) else (none)) else (none))=some r:=H
    have ct:=Aside0.mk ce
    clear ce
    by_cases bg:bl=true
    ·subst bg
     have H1:(if ay=0 then ((newelref19_Give.f k B D X L ζ).bind fun b1=>((newelref19_Same.f k ae af b1.1 b1.2).bind fun bc=>(if bc=true then ((call_Same.f k B D ae af).bind fun bb=>((newelref19_Same.f k B D ae af).bind fun ba=>(some (bb==ba)))) else (none)))) else (none))=some r:=by rw[if_pos rfl] at H;exact H
     clear H
     have H:=H1
     clear H1
     by_cases az:ay=0
     ·rw[if_pos az] at H
      have c14b0:(ay==0)=true:=beq_iff_eq.mpr az
      have c14b1:(ay != 0)=false:=bne_eq_false_iff_eq.mpr az
      clear az
      replace H:=Option.bind_eq_some_iff.mp H
      obtain⟨⟨fc,fe⟩,eu,H⟩:=H
      replace H:((newelref19_Same.f k ae af fc fe).bind fun bc=>(if bc=true then ((call_Same.f k B D ae af).bind fun bb=>((newelref19_Same.f k B D ae af).bind fun ba=>(some (bb==ba)))) else (none)))=some r:=H
      have i1:=Aside0.mk eu
      clear eu
      replace H:=Option.bind_eq_some_iff.mp H
      obtain⟨bc,gt,H⟩:=H
      replace H:(if bc=true then ((call_Same.f k B D ae af).bind fun bb=>((newelref19_Same.f k B D ae af).bind fun ba=>(some (bb==ba)))) else (none))=some r:=H
      have lg:=Aside0.mk gt
      clear gt
      by_cases au:bc=true
      ·subst au
       have H1:((call_Same.f k B D ae af).bind fun bb=>((newelref19_Same.f k B D ae af).bind fun ba=>(some (bb==ba))))=some r:=by rw[if_pos rfl] at H;exact H
       clear H
       have H:=H1
       clear H1
       replace H:=Option.bind_eq_some_iff.mp H
       obtain⟨bb,cd,H⟩:=H
       replace H:((newelref19_Same.f k B D ae af).bind fun ba=>(some (bb==ba)))=some r:=H
       have dm:=Aside0.mk cd
       clear cd
       replace H:=Option.bind_eq_some_iff.mp H
       obtain⟨ba,ev,H⟩:=H
       replace H:(some (bb==ba))=some r:=H
       have i2:=Aside0.mk ev
       clear ev
       obtain rfl:=Option.some.inj H
       go_enter Try.func5,Try.ntmps5
       try go_wp2_with (first|((with_reducible refine Qr (N:=3) rfl ?_);refine qE 3 #[.int .i64 I,.int .i64 J] 23 ?_;intro ao hg dp hbox hb;have Y:=Aside0.mk hbox;have ek:=sGe hg;have fh:=sGe hg;replace HB:=sHb hb;clear hb hbox hg)|((with_reducible refine Qr (N:=4) rfl ?_);refine qE 4 #[.slice η B.length δ,.slice θ D.length ε] 27 ?_;intro an hg bo hbox hb;have Z:=Aside0.mk hbox;have el:=sGe hg;have fi:=sGe hg;have ca:=sNl Y hg;have cp:=sNg Y hg;replace Y:=sBk Y hb;replace HB:=sHb hb;clear hb hbox hg)|((with_reducible refine Qr (N:=5) rfl ?_);refine qE 5 #[.int .i64 X,.int .i64 L,.int .i64 ζ] 56 ?_;intro a3 hg du hbox hb;have O:=Aside0.mk hbox;have eo:=sGe hg;have fj:=sGe hg;have cw:=sNl Y hg;have cx:=sNg Y hg;have cq:=sNl Z hg;have cr:=sNg Z hg;replace Y:=sBk Y hb;replace Z:=sBk Z hb;replace HB:=sHb hb;clear hb hbox hg;have fo:=cp.out;have fp:=ca.out;have eg:=cq.out;have ej:=cr.out;obtain⟨ew,ey,f3,f4⟩:=qD2 Z.out)|((with_reducible refine Q0 (f:=9) rfl ?_);refine Zk (some 10) rfl rfl Try.func9 kr rfl #[.agg #[.slice η B.length δ,.slice θ D.length ε]] rfl qM ?_;(with_reducible refine(newelref19_Few.calls _ _ B _ _ D true _ ?side1 ?side2 ?side3 ?side4 A4.out).mono ?_);(case side1=>exact(Kd.Qx ag.out HB.out));(case side2=>exact ar.out);(case side3=>exact(Kd.Qx ah.out HB.out));(case side4=>exact aw.out);rintro e bp ⟨rfl,hb⟩;refine⟨_,rfl, ?_⟩;replace Y:=sBk Y hb;replace Z:=sBk Z hb;replace O:=sBk O hb;replace HB:=sHb hb;(try clear hb);(try clear a0);(try clear hk);(try clear hi)))
       replace Y:=Aside0.mk (Qa Y.out)
       replace Z:=Aside0.mk (Qa Z.out)
       replace O:=Aside0.mk (Qa O.out)
       replace HB:=Aside0.mk (Qf HB.out)
       refine Zn (n:=11) (S:=fun w'=>w'.cell? ⟨ao,0,none⟩=some (.int .i64 I)∧w'.cell? ⟨ao,1,none⟩=some (.int .i64 J)∧w'.cell? ⟨an,0,none⟩=some (.slice η B.length δ)∧w'.cell? ⟨an,1,none⟩=some (.slice θ D.length ε)∧w'.cell? ⟨a3,0,none⟩=some (.int .i64 X)∧w'.cell? ⟨a3,1,none⟩=some (.int .i64 L)∧w'.cell? ⟨a3,2,none⟩=some (.int .i64 ζ)) (ds:=[]) #[false,false,false,false,false,false,false,false,false,false,false] kr rfl rfl ⟨(Ql Y.out 0).trans rfl,(Ql Y.out 1).trans rfl,(Ql Z.out 0).trans rfl,(Ql Z.out 1).trans rfl,(Ql O.out 0).trans rfl,(Ql O.out 1).trans rfl,(Ql O.out 2).trans rfl⟩ (fun hHeld=>?_);refine Q8 newellaw19_CallGives.Wn newellaw19_CallGives.Vh (fun HT_ HW_=>?_)
       generalize bp.drew=ez at Y Z O HB hHeld ⊢
       refine qT 0 (some 14) (bN 11 1) HT_ HW_ hHeld ?_
       refine qT 1 (some 15) (bN 11 3) HT_ HW_ hHeld ?_
       refine qT 3 (some 17) (bN 11 11) HT_ HW_ hHeld ?_
       refine K9 (σ:=Value×Value×Value×Value×Nat) 2 (bN 11 511) (fun s_=>[(16,.agg #[s_.1,s_.2.1]),(18,.tuple #[.agg #[s_.2.2.1,s_.2.2.2.1],.int .i64 ay]),(7,.pointer (some ⟨s_.2.2.2.2,0,none⟩)),(13,.tuple #[.agg #[s_.2.2.1,s_.2.2.2.1],.int .i64 ay]),(19,.agg #[s_.2.2.1,s_.2.2.2.1]),(20,.int .i64 ay)]) (fun s_ w'=>(w'.cell? ⟨ao,0,none⟩=some (.int .i64 I)∧w'.cell? ⟨ao,1,none⟩=some (.int .i64 J)∧w'.cell? ⟨an,0,none⟩=some (.slice η B.length δ)∧w'.cell? ⟨an,1,none⟩=some (.slice θ D.length ε)∧w'.cell? ⟨a3,0,none⟩=some (.int .i64 X)∧w'.cell? ⟨a3,1,none⟩=some (.int .i64 L)∧w'.cell? ⟨a3,2,none⟩=some (.int .i64 ζ))∧(Kd.R k56 56 w' w.heap.size (fun k_=>some k_≠(s_.2.2.1:Value).ownBlock∧k_≠a3) s_.1 b2)∧(Kd.R k62 62 w' w.heap.size (fun k_=>some k_≠(s_.2.2.2.1:Value).ownBlock) s_.2.1 b3)∧(Kd.R k56 56 w' w.heap.size (fun k_=>some k_≠(s_.1:Value).ownBlock∧k_≠a3) s_.2.2.1 ae)∧(Kd.R k62 62 w' w.heap.size (fun k_=>some k_≠(s_.2.1:Value).ownBlock) s_.2.2.2.1 af)∧(w'.heap[ao]?=some (.cells #[.int .i64 I,.int .i64 J] 23 (0,0)))∧(w'.heap[an]?=some (.cells #[.slice η B.length δ,.slice θ D.length ε] 27 (0,0)))∧(w'.heap[a3]?=some (.cells #[.int .i64 X,.int .i64 L,.int .i64 ζ] 56 (0,0)))∧(w'.heap[s_.2.2.2.2]?=some (.cells #[.slice none 0 0,.slice none 0 0] 27 (0,0)))∧(w.heap.size≤s_.2.2.2.2)∧(w.heap.size≤s_.2.2.2.2)∧(ao≠s_.2.2.2.2)∧(s_.2.2.2.2≠ao)∧(an≠s_.2.2.2.2)∧(s_.2.2.2.2≠an)∧(a3≠s_.2.2.2.2)∧(s_.2.2.2.2≠a3)∧(Below w.heap.size w w')) ?_ ?_
       rotate_left
       ·intro hCont
        refine Kj (i:=2) (j:=8) (Ni:=some 16) (Nj:=some 7) (bN 11 15) (bN 11 267) rfl rfl rfl rfl (Ye HT_.out kr) (by decide) (by decide) (fun K hK=>?_) (fun K hK=>?_)
        ·skip
         refine Ze Try.func12 kr rfl #[.agg #[.slice η B.length δ,.slice θ D.length ε]] (by rfl) rfl rfl qM ?_
         with_reducible refine(newellaw19_Own.calls _ _ B _ _ D b2 b3 _ ?side1 ?side2 ?side3 ?side4 A6.out).mono ?_
         (case side1=>exact(Kd.Qx ag.out HB.out))
         (case side2=>exact ar.out)
         (case side3=>exact(Kd.Qx ah.out HB.out))
         (case side4=>exact aw.out)
         rintro e ft ⟨cu,cv,rfl,φ,a7,hb⟩
         refine⟨_,rfl, ?_⟩
         have μ :=Aside0.mk (Kd.Q2 (Kd.Zs φ (g:=a3) (o:=.cells #[.int .i64 X,.int .i64 L,.int .i64 ζ] 56 (0,0)) O.out) (Qi HB.out))
         have ν :=Aside0.mk (Kd.Q2 a7 (Qi HB.out))
         replace Y:=sBk Y hb
         replace Z:=sBk Z hb
         replace O:=sBk O hb
         replace HB:=sHb hb
         (try clear hb)
         (try clear a0)
         (try clear hk)
         (try clear hi)
         (try clear φ)
         (try clear a7)
         obtain⟨gu,gv,gw⟩:=Kd.Q4 μ.out
         (first|subst gw|(injection gw with ψ aa ω;have ab:= ψ.symm;have ac:= ω.symm;clear ψ aa ω;subst ab;subst ac))
         obtain⟨dq,e0,e3⟩:=Kd.Q4 ν.out
         (first|subst e3|(injection e3 with ψ aa ω;have ab:= ψ.symm;have ac:= ω.symm;clear ψ aa ω;subst ab;subst ac))
         refine hK.out _ _ ⟨qc Y,qc Y,qc Z,qc Z,qc O,qc O,qc O⟩ (fun hHeld=>?_)
         clear hK K
         refine qN (some 16) ?_
         refine Kj (i:=4) (j:=8) (Ni:=some 18) (Nj:=some 7) (bN 11 31) (bN 11 271) rfl rfl rfl rfl (Ye HT_.out kr) (by decide) (by decide) (fun K hK=>?_) (fun K hK=>?_)
         ·skip
          refine Ze Try.func24 kr rfl #[.agg #[.int .i64 I,.int .i64 J],.agg #[.slice gu b2.length gv,.slice dq b3.length e0],.agg #[.int .i64 X,.int .i64 L,.int .i64 ζ]] (by rfl) rfl rfl qM ?_
          with_reducible refine(call_Give.calls k I J _ _ b2 _ _ b3 X L ζ ae af ay _ ?side1 ?side2 ?side3 ?side4 A7.out).mono ?_
          (case side1=>exact(Kd.Qo μ.out).2.2)
          (case side2=>exact(Kd.Qo μ.out).2.1)
          (case side3=>exact(Kd.Qo ν.out).2.2)
          (case side4=>exact(Kd.Qo ν.out).2.1)
          rintro e iz ⟨bi,bj,rfl,φ,a7,hb⟩
          refine⟨_,rfl, ?_⟩
          have a4:=Aside0.mk (Kd.Q2 (Kd.Zs (Kd.Zl φ (Kd.Zy μ.out)) (g:=a3) (o:=.cells #[.int .i64 X,.int .i64 L,.int .i64 ζ] 56 (0,0)) O.out) (Qi HB.out))
          have a5:=Aside0.mk (Kd.Q2 (Kd.Zl a7 (Kd.Zy ν.out)) (Qi HB.out))
          replace μ :=Aside0.mk (Kd.Q7 μ.out (Kd.Zh φ) hb)
          replace ν :=Aside0.mk (Kd.Q7 ν.out (Kd.Zh a7) hb)
          replace Y:=sBk Y hb
          replace Z:=sBk Z hb
          replace O:=sBk O hb
          replace HB:=sHb hb
          (try clear hb)
          (try clear a0)
          (try clear hk)
          (try clear hi)
          (try clear φ)
          (try clear a7)
          refine hK.out _ _ ⟨qc Y,qc Y,qc Z,qc Z,qc O,qc O,qc O⟩ (fun hHeld=>?_)
          clear hK K
          refine qN (some 18) ?_
          refine qP 5 (some 13) (bN 11 63) HT_ ?_
          refine qP 6 (some 19) (bN 11 127) HT_ ?_
          refine qP 7 (some 20) (bN 11 255) HT_ ?_
          refine Zg (i:=8) (N:=some 7) (bN 11 511) rfl rfl (Q1 HT_.out kr) (by decide) (fun K hK=>?_)
          refine Xk ?hg (N:=7) ?hd (cs:=#[.slice none 0 0,.slice none 0 0]) (t:=27) ?hr ?_;(case hd=>rfl);(case hg=>rfl);(case hr=>go_simp <;> rfl)
          intro τ hg gr hbox hb
          have ρ:=Aside0.mk hbox
          have bd:=sGe hg
          have bk:=sGe hg
          have a6:=sNl Y hg
          have ai:=sNg Y hg
          have a8:=sNl Z hg
          have aj:=sNg Z hg
          have a2:=sNl O hg
          have al:=sNg O hg
          replace μ :=sRb μ hb
          replace ν :=sRb ν hb
          replace a4:=sRb a4 hb
          replace a5:=sRb a5 hb
          replace Y:=sBk Y hb
          replace Z:=sBk Z hb
          replace O:=sBk O hb
          replace HB:=sHb hb
          clear hb hbox hg
          refine hK.out _ _ ⟨qc Y,qc Y,qc Z,qc Z,qc O,qc O,qc O⟩ (fun hHeld=>?_)
          clear hK K
          refine qN (some 7) ?_
          exact Xj (by simp only[Zx,Act.put,qS]) (hCont (.slice gu b2.length gv,.slice dq b3.length e0,bi,bj,τ) _ ⟨hHeld,(by(with_reducible repeat first|apply Kd.Qk|apply Kd.Qj|apply Kd.Qn);exact Kd.Qq μ.out (fun _ hk=>⟨hk.2,hk.1.2⟩)),(by(with_reducible repeat first|apply Kd.Qk|apply Kd.Qj|apply Kd.Qn);exact Kd.Qq ν.out (fun _ hk=>hk.2)),(by(with_reducible repeat first|apply Kd.Qk|apply Kd.Qj|apply Kd.Qn);exact Kd.Qq a4.out (fun _ hk=>⟨hk.1.2,hk.2⟩)),(by(with_reducible repeat first|apply Kd.Qk|apply Kd.Qj|apply Kd.Qn);exact Kd.Qq a5.out (fun _ hk=>hk.2)),Y.out,Z.out,O.out,ρ.out,bd.out,bk.out,a6.out,ai.out,a8.out,aj.out,a2.out,al.out,HB.out⟩)
         ·skip
          refine Xk ?hg (N:=7) ?hd (cs:=#[.slice none 0 0,.slice none 0 0]) (t:=27) ?hr ?_;(case hd=>rfl);(case hg=>rfl);(case hr=>go_simp <;> rfl)
          intro τ hg ge hbox hb
          have ρ:=Aside0.mk hbox
          have bd:=sGe hg
          have bk:=sGe hg
          have a6:=sNl Y hg
          have ai:=sNg Y hg
          have a8:=sNl Z hg
          have aj:=sNg Z hg
          have a2:=sNl O hg
          have al:=sNg O hg
          replace μ :=sRb μ hb
          replace ν :=sRb ν hb
          replace Y:=sBk Y hb
          replace Z:=sBk Z hb
          replace O:=sBk O hb
          replace HB:=sHb hb
          clear hb hbox hg
          obtain⟨dq,e0,e3⟩:=Kd.Q4 μ.out
          (first|subst e3|(injection e3 with ψ aa ω;have ab:= ψ.symm;have ac:= ω.symm;clear ψ aa ω;subst ab;subst ac))
          obtain⟨cf,br,d7⟩:=Kd.Q4 ν.out
          (first|subst d7|(injection d7 with ψ aa ω;have ab:= ψ.symm;have ac:= ω.symm;clear ψ aa ω;subst ab;subst ac))
          refine hK.out _ _ ⟨qc Y,qc Y,qc Z,qc Z,qc O,qc O,qc O⟩ (fun hHeld=>?_)
          clear hK K
          refine qN (some 7) ?_
          refine Zg (i:=4) (N:=some 18) (bN 11 287) rfl rfl (Q1 HT_.out kr) (by decide) (fun K hK=>?_)
          refine Ze Try.func24 kr rfl #[.agg #[.int .i64 I,.int .i64 J],.agg #[.slice dq b2.length e0,.slice cf b3.length br],.agg #[.int .i64 X,.int .i64 L,.int .i64 ζ]] (by rfl) rfl rfl qM ?_
          with_reducible refine(call_Give.calls k I J _ _ b2 _ _ b3 X L ζ ae af ay _ ?side1 ?side2 ?side3 ?side4 A7.out).mono ?_
          (case side1=>exact(Kd.Qo μ.out).2.2)
          (case side2=>exact(Kd.Qo μ.out).2.1)
          (case side3=>exact(Kd.Qo ν.out).2.2)
          (case side4=>exact(Kd.Qo ν.out).2.1)
          rintro e gr ⟨bi,bj,rfl,φ,a7,hb⟩
          refine⟨_,rfl, ?_⟩
          have a4:=Aside0.mk (Kd.Q2 (Kd.Zs (Kd.Zl φ (Kd.Zy μ.out)) (g:=a3) (o:=.cells #[.int .i64 X,.int .i64 L,.int .i64 ζ] 56 (0,0)) O.out) (Qi HB.out))
          have a5:=Aside0.mk (Kd.Q2 (Kd.Zl a7 (Kd.Zy ν.out)) (Qi HB.out))
          replace μ :=Aside0.mk (Kd.Q7 μ.out (Kd.Zh φ) hb)
          replace ν :=Aside0.mk (Kd.Q7 ν.out (Kd.Zh a7) hb)
          replace Y:=sBk Y hb
          replace Z:=sBk Z hb
          replace O:=sBk O hb
          replace ρ:=sBk ρ hb
          replace HB:=sHb hb
          (try clear hb)
          (try clear a0)
          (try clear hk)
          (try clear hi)
          (try clear φ)
          (try clear a7)
          refine hK.out _ _ ⟨qc Y,qc Y,qc Z,qc Z,qc O,qc O,qc O⟩ (fun hHeld=>?_)
          clear hK K
          refine qN (some 18) ?_
          refine qP 5 (some 13) (bN 11 319) HT_ ?_
          refine qP 6 (some 19) (bN 11 383) HT_ ?_
          refine qP 7 (some 20) (bN 11 511) HT_ ?_
          exact Xj (by simp only[Zx,Act.put,qS]) (hCont (.slice dq b2.length e0,.slice cf b3.length br,bi,bj,τ) _ ⟨hHeld,(by(with_reducible repeat first|apply Kd.Qk|apply Kd.Qj|apply Kd.Qn);exact Kd.Qq μ.out (fun _ hk=>⟨hk.2,hk.1.2⟩)),(by(with_reducible repeat first|apply Kd.Qk|apply Kd.Qj|apply Kd.Qn);exact Kd.Qq ν.out (fun _ hk=>hk.2)),(by(with_reducible repeat first|apply Kd.Qk|apply Kd.Qj|apply Kd.Qn);exact Kd.Qq a4.out (fun _ hk=>⟨hk.1.2,hk.2⟩)),(by(with_reducible repeat first|apply Kd.Qk|apply Kd.Qj|apply Kd.Qn);exact Kd.Qq a5.out (fun _ hk=>hk.2)),Y.out,Z.out,O.out,ρ.out,bd.out,bk.out,a6.out,ai.out,a8.out,aj.out,a2.out,al.out,HB.out⟩)
        ·skip
         refine Xk ?hg (N:=7) ?hd (cs:=#[.slice none 0 0,.slice none 0 0]) (t:=27) ?hr ?_;(case hd=>rfl);(case hg=>rfl);(case hr=>go_simp <;> rfl)
         intro τ hg ft hbox hb
         have ρ:=Aside0.mk hbox
         have bd:=sGe hg
         have bk:=sGe hg
         have a6:=sNl Y hg
         have ai:=sNg Y hg
         have a8:=sNl Z hg
         have aj:=sNg Z hg
         have a2:=sNl O hg
         have al:=sNg O hg
         replace Y:=sBk Y hb
         replace Z:=sBk Z hb
         replace O:=sBk O hb
         replace HB:=sHb hb
         clear hb hbox hg
         refine hK.out _ _ ⟨qc Y,qc Y,qc Z,qc Z,qc O,qc O,qc O⟩ (fun hHeld=>?_)
         clear hK K
         refine qN (some 7) ?_
         refine Zg (i:=2) (N:=some 16) (bN 11 271) rfl rfl (Q1 HT_.out kr) (by decide) (fun K hK=>?_)
         refine Ze Try.func12 kr rfl #[.agg #[.slice η B.length δ,.slice θ D.length ε]] (by rfl) rfl rfl qM ?_
         with_reducible refine(newellaw19_Own.calls _ _ B _ _ D b2 b3 _ ?side1 ?side2 ?side3 ?side4 A6.out).mono ?_
         (case side1=>exact(Kd.Qx ag.out HB.out))
         (case side2=>exact ar.out)
         (case side3=>exact(Kd.Qx ah.out HB.out))
         (case side4=>exact aw.out)
         rintro e ge ⟨cu,cv,rfl,φ,a7,hb⟩
         refine⟨_,rfl, ?_⟩
         have μ :=Aside0.mk (Kd.Q2 (Kd.Zs φ (g:=a3) (o:=.cells #[.int .i64 X,.int .i64 L,.int .i64 ζ] 56 (0,0)) O.out) (Qi HB.out))
         have ν :=Aside0.mk (Kd.Q2 a7 (Qi HB.out))
         replace Y:=sBk Y hb
         replace Z:=sBk Z hb
         replace O:=sBk O hb
         replace ρ:=sBk ρ hb
         replace HB:=sHb hb
         (try clear hb)
         (try clear a0)
         (try clear hk)
         (try clear hi)
         (try clear φ)
         (try clear a7)
         obtain⟨dq,e0,e3⟩:=Kd.Q4 μ.out
         (first|subst e3|(injection e3 with ψ aa ω;have ab:= ψ.symm;have ac:= ω.symm;clear ψ aa ω;subst ab;subst ac))
         obtain⟨cf,br,d7⟩:=Kd.Q4 ν.out
         (first|subst d7|(injection d7 with ψ aa ω;have ab:= ψ.symm;have ac:= ω.symm;clear ψ aa ω;subst ab;subst ac))
         refine hK.out _ _ ⟨qc Y,qc Y,qc Z,qc Z,qc O,qc O,qc O⟩ (fun hHeld=>?_)
         clear hK K
         refine qN (some 16) ?_
         refine Zg (i:=4) (N:=some 18) (bN 11 287) rfl rfl (Q1 HT_.out kr) (by decide) (fun K hK=>?_)
         refine Ze Try.func24 kr rfl #[.agg #[.int .i64 I,.int .i64 J],.agg #[.slice dq b2.length e0,.slice cf b3.length br],.agg #[.int .i64 X,.int .i64 L,.int .i64 ζ]] (by rfl) rfl rfl qM ?_
         with_reducible refine(call_Give.calls k I J _ _ b2 _ _ b3 X L ζ ae af ay _ ?side1 ?side2 ?side3 ?side4 A7.out).mono ?_
         (case side1=>exact(Kd.Qo μ.out).2.2)
         (case side2=>exact(Kd.Qo μ.out).2.1)
         (case side3=>exact(Kd.Qo ν.out).2.2)
         (case side4=>exact(Kd.Qo ν.out).2.1)
         rintro e gr ⟨bi,bj,rfl,φ,a7,hb⟩
         refine⟨_,rfl, ?_⟩
         have a4:=Aside0.mk (Kd.Q2 (Kd.Zs (Kd.Zl φ (Kd.Zy μ.out)) (g:=a3) (o:=.cells #[.int .i64 X,.int .i64 L,.int .i64 ζ] 56 (0,0)) O.out) (Qi HB.out))
         have a5:=Aside0.mk (Kd.Q2 (Kd.Zl a7 (Kd.Zy ν.out)) (Qi HB.out))
         replace μ :=Aside0.mk (Kd.Q7 μ.out (Kd.Zh φ) hb)
         replace ν :=Aside0.mk (Kd.Q7 ν.out (Kd.Zh a7) hb)
         replace Y:=sBk Y hb
         replace Z:=sBk Z hb
         replace O:=sBk O hb
         replace ρ:=sBk ρ hb
         replace HB:=sHb hb
         (try clear hb)
         (try clear a0)
         (try clear hk)
         (try clear hi)
         (try clear φ)
         (try clear a7)
         refine hK.out _ _ ⟨qc Y,qc Y,qc Z,qc Z,qc O,qc O,qc O⟩ (fun hHeld=>?_)
         clear hK K
         refine qN (some 18) ?_
         refine qP 5 (some 13) (bN 11 319) HT_ ?_
         refine qP 6 (some 19) (bN 11 383) HT_ ?_
         refine qP 7 (some 20) (bN 11 511) HT_ ?_
         exact Xj (by simp only[Zx,Act.put,qS]) (hCont (.slice dq b2.length e0,.slice cf b3.length br,bi,bj,τ) _ ⟨hHeld,(by(with_reducible repeat first|apply Kd.Qk|apply Kd.Qj|apply Kd.Qn);exact Kd.Qq μ.out (fun _ hk=>⟨hk.2,hk.1.2⟩)),(by(with_reducible repeat first|apply Kd.Qk|apply Kd.Qj|apply Kd.Qn);exact Kd.Qq ν.out (fun _ hk=>hk.2)),(by(with_reducible repeat first|apply Kd.Qk|apply Kd.Qj|apply Kd.Qn);exact Kd.Qq a4.out (fun _ hk=>⟨hk.1.2,hk.2⟩)),(by(with_reducible repeat first|apply Kd.Qk|apply Kd.Qj|apply Kd.Qn);exact Kd.Qq a5.out (fun _ hk=>hk.2)),Y.out,Z.out,O.out,ρ.out,bd.out,bk.out,a6.out,ai.out,a8.out,aj.out,a2.out,al.out,HB.out⟩)
       rintro⟨cu,cv,bi,bj,τ⟩ cy ⟨hS_,cj,ck,cm,cn,co,dv,dw,dx,dy,dz,d9,da,db,dc,dd,de,df⟩
       have U:Aside0 (Kd.R k56 56 cy w.heap.size (fun k_=>some k_≠(bi:Value).ownBlock∧k_≠a3) cu b2):=⟨cj⟩
       have γ:Aside0 (Kd.R k62 62 cy w.heap.size (fun k_=>some k_≠(bj:Value).ownBlock) cv b3):=⟨ck⟩
       have ι :Aside0 (Kd.R k56 56 cy w.heap.size (fun k_=>some k_≠(cu:Value).ownBlock∧k_≠a3) bi ae):=⟨cm⟩
       have κ :Aside0 (Kd.R k62 62 cy w.heap.size (fun k_=>some k_≠(cv:Value).ownBlock) bj af):=⟨cn⟩
       have ξ :Aside0 (cy.heap[ao]?=some (.cells #[.int .i64 I,.int .i64 J] 23 (0,0))):=⟨co⟩
       have χ :Aside0 (cy.heap[an]?=some (.cells #[.slice η B.length δ,.slice θ D.length ε] 27 (0,0))):=⟨dv⟩
       have a1:Aside0 (cy.heap[a3]?=some (.cells #[.int .i64 X,.int .i64 L,.int .i64 ζ] 56 (0,0))):=⟨dw⟩
       have ak:Aside0 (cy.heap[τ]?=some (.cells #[.slice none 0 0,.slice none 0 0] 27 (0,0))):=⟨dx⟩
       have am:Aside0 (w.heap.size ≤ τ):=⟨dy⟩
       have ax:Aside0 (w.heap.size ≤ τ):=⟨dz⟩
       have ap:Aside0 (ao ≠ τ):=⟨d9⟩
       have av:Aside0 (τ ≠ ao):=⟨da⟩
       have b0:Aside0 (an ≠ τ):=⟨db⟩
       have b8:Aside0 (τ ≠ an):=⟨dc⟩
       have b9:Aside0 (a3 ≠ τ):=⟨dd⟩
       have be:Aside0 (τ ≠ a3):=⟨de⟩
       have bf:Aside0 (Below w.heap.size w cy):=⟨df⟩
       clear Y
       clear Z
       clear O
       clear HB
       clear cj ck cm cn co dv dw dx dy dz d9 da db dc dd de df
       have μ :=U
       have ν :=γ
       have a4:= ι
       have a5:= κ
       have Y:= ξ
       have Z:= χ
       have O:=a1
       have ρ:=ak
       have bd:=am
       have bk:=ax
       have a6:=ap
       have ai:=av
       have a8:=b0
       have aj:=b8
       have a2:=b9
       have al:=be
       have HB:=bf
       clear U γ ι κ ξ χ a1 ak am ax ap av b0 b8 b9 be bf
       have hHeld:cy.cell? ⟨ao,0,none⟩=some (.int .i64 I)∧cy.cell? ⟨ao,1,none⟩=some (.int .i64 J)∧cy.cell? ⟨an,0,none⟩=some (.slice η B.length δ)∧cy.cell? ⟨an,1,none⟩=some (.slice θ D.length ε)∧cy.cell? ⟨a3,0,none⟩=some (.int .i64 X)∧cy.cell? ⟨a3,1,none⟩=some (.int .i64 L)∧cy.cell? ⟨a3,2,none⟩=some (.int .i64 ζ):=hS_
       obtain⟨e4,e5,ho⟩:=Kd.Q4 a4.out
       (first|subst ho|(injection ho with ψ aa ω;have ab:= ψ.symm;have ac:= ω.symm;clear ψ aa ω;subst ab;subst ac))
       obtain⟨e6,e7,i5⟩:=Kd.Q4 a5.out
       (first|subst i5|(injection i5 with ψ aa ω;have ab:= ψ.symm;have ac:= ω.symm;clear ψ aa ω;subst ab;subst ac))
       refine Xj (a':=?_) ?_ ?_
       rotate_left
       ·simp only[Zx,Act.put,qS]
        rfl
       refine Zg (i:=9) (N:=none) (bN 11 1023) rfl rfl (Q1 HT_.out kr) (by decide) (fun K hK=>?_)
       have mg:cy.cell? ⟨τ,0,none⟩=some (.slice none 0 0):=(Ql ρ.out 0).trans rfl
       have m4:=Q6 ρ.out 0
       have k6:=a6.out
       have k7:=a8.out
       have k8:=a2.out
       have k9:=ai.out
       have ka:=aj.out
       have kb:=al.out
       have mj:cy.cell? ⟨τ,1,none⟩=some (.slice none 0 0):=(Ql ρ.out 1).trans rfl
       have m5:=Q6 ρ.out 1
       have kc:=a6.out
       have kd:=a8.out
       have ke:=a2.out
       have kf:=ai.out
       have kg:=aj.out
       have kh:=al.out
       refine Js (w1:=?_) (by rfl) rfl ?_ ?_
       rotate_left
       ·go_simp
        rfl
       refine hK.out _ _ ⟨((cell_far (p:=⟨τ,_,none⟩) a6.out _).trans (((cell_far (p:=⟨τ,_,none⟩) a6.out _).trans (hHeld.1)))),((cell_far (p:=⟨τ,_,none⟩) a6.out _).trans (((cell_far (p:=⟨τ,_,none⟩) a6.out _).trans (hHeld.2.1)))),((cell_far (p:=⟨τ,_,none⟩) a8.out _).trans (((cell_far (p:=⟨τ,_,none⟩) a8.out _).trans (hHeld.2.2.1)))),((cell_far (p:=⟨τ,_,none⟩) a8.out _).trans (((cell_far (p:=⟨τ,_,none⟩) a8.out _).trans (hHeld.2.2.2.1)))),((cell_far (p:=⟨τ,_,none⟩) a2.out _).trans (((cell_far (p:=⟨τ,_,none⟩) a2.out _).trans (hHeld.2.2.2.2.1)))),((cell_far (p:=⟨τ,_,none⟩) a2.out _).trans (((cell_far (p:=⟨τ,_,none⟩) a2.out _).trans (hHeld.2.2.2.2.2.1)))),((cell_far (p:=⟨τ,_,none⟩) a2.out _).trans (((cell_far (p:=⟨τ,_,none⟩) a2.out _).trans (hHeld.2.2.2.2.2.2))))⟩ (fun hHeld=>?_)
       clear hK K
       refine qP 10 (some 8) (bN 11 2047) HT_ ?_
       refine Zu (Zj HT_.out kr) ?_
       have g0:=cw.out
       have g1:=cx.out
       have i3:=a6.out
       have i4:=ai.out
       obtain⟨ki,kk,kl,km⟩:=qD2 Y.out
       have g5:=a8.out
       have g6:=aj.out
       obtain⟨fk,fl,fm,fn⟩:=qD2 Z.out
       try go_wp2_with (first|((with_reducible refine Q0 (f:=13) rfl ?_);refine Zk (some 23) rfl rfl Try.func13 kr rfl #[.agg #[.int .i64 I,.int .i64 J],.agg #[.slice η B.length δ,.slice θ D.length ε]] rfl qM ?_;(with_reducible refine(newelref19_May.calls k I J _ _ B _ _ D true _ ?side1 ?side2 ?side3 ?side4 A8.out).mono ?_);(case side1=>exact Kd.Qx ag.out bel);(case side2=>exact ar.out);(case side3=>exact Kd.Qx ah.out bel);(case side4=>exact aw.out);rintro e n0 ⟨rfl,hb⟩;refine⟨_,rfl, ?_⟩;replace μ :=Aside0.mk (Kd.Qu (by(with_reducible repeat first|apply Kd.Qk|apply Kd.Qj|apply Kd.Qn);exact(Kd.Qq (Kd.Qs (Kd.Qs (Kd.Qw μ.out ρ.out (by decide)) (fun _ hk=>hk.2) _) (fun _ hk=>hk.2) _) (fun _ h_=>h_.1))) hb);replace ν :=Aside0.mk (Kd.Qu (by(with_reducible repeat first|apply Kd.Qk|apply Kd.Qj|apply Kd.Qn);exact(Kd.Qq (Kd.Qs (Kd.Qs (Kd.Qw ν.out ρ.out (by decide)) (fun _ hk=>hk.2) _) (fun _ hk=>hk.2) _) (fun _ h_=>h_.1))) hb);replace a4:=Aside0.mk (Kd.Qu (by(with_reducible repeat first|apply Kd.Qk|apply Kd.Qj|apply Kd.Qn);exact(Kd.Qq (Kd.Qs (Kd.Qs (Kd.Qw a4.out ρ.out (by decide)) (fun _ hk=>hk.2) _) (fun _ hk=>hk.2) _) (fun _ h_=>h_.1))) hb);replace a5:=Aside0.mk (Kd.Qu (by(with_reducible repeat first|apply Kd.Qk|apply Kd.Qj|apply Kd.Qn);exact(Kd.Qq (Kd.Qs (Kd.Qs (Kd.Qw a5.out ρ.out (by decide)) (fun _ hk=>hk.2) _) (fun _ hk=>hk.2) _) (fun _ h_=>h_.1))) hb);replace Y:=sBk Y hb;replace Z:=sBk Z hb;replace O:=sBk O hb;replace ρ:=Aside0.mk (Qm (g:= τ) (o:=.cells #[.slice e4 ae.length e5,.slice e6 af.length e7] 27 (0,0)) (by(with_reducible repeat first|apply Qd|apply Qa|apply Qe);refine Qv (cs:=#[.slice e4 ae.length e5,.slice none 0 0]) ?_ 1 _ rfl;(with_reducible repeat first|apply Qd|apply Qa|apply Qe);refine Qv (cs:=#[.slice none 0 0,.slice none 0 0]) ?_ 0 _ rfl;(with_reducible repeat first|apply Qd|apply Qa|apply Qe);exact ρ.out) hb);replace HB:=sHb hb;(try clear hb);(try clear a0);(try clear hk);(try clear hi);obtain⟨f7,f8,f9,fa⟩:=qD2 Y.out;have g7:=a2.out;have g8:=al.out;obtain⟨gz,h0,kn,h4,h5,ko⟩:=qD3 O.out)|((with_reducible refine Q0 (f:=25) rfl ?_);refine Zk (some 37) rfl rfl Try.func25 kr rfl #[.agg #[.int .i64 I,.int .i64 J],.agg #[.int .i64 X,.int .i64 L,.int .i64 ζ]] rfl qM ?_;(with_reducible refine(newelref19_Hall.calls k I J X L ζ true _ eh.out).mono ?_);rintro e gj ⟨rfl,hb⟩;refine⟨_,rfl, ?_⟩;replace μ :=sRb μ hb;replace ν :=sRb ν hb;replace a4:=sRb a4 hb;replace a5:=sRb a5 hb;replace Y:=sBk Y hb;replace Z:=sBk Z hb;replace O:=sBk O hb;replace ρ:=sBk ρ hb;replace HB:=sHb hb;(try clear hb);(try clear a0);(try clear hk);(try clear hi)))
       have U:=Aside0.mk (Kd.Qn μ.out)
       have γ:=Aside0.mk (Kd.Qn ν.out)
       have ι :=Aside0.mk (Kd.Qn a4.out)
       have κ :=Aside0.mk (Kd.Qn a5.out)
       have ξ :=Aside0.mk (Qa Y.out)
       have χ :=Aside0.mk (Qa Z.out)
       have a1:=Aside0.mk (Qa O.out)
       have ak:=Aside0.mk (Qa ρ.out)
       have am:=Aside0.mk (Qf HB.out)
       clear μ
       clear ν
       clear a4
       clear a5
       clear Y
       clear Z
       clear O
       clear ρ
       clear HB
       have μ :=U
       have ν :=γ
       have a4:= ι
       have a5:= κ
       have Y:= ξ
       have Z:= χ
       have O:=a1
       have ρ:=ak
       have HB:=am
       clear U γ ι κ ξ χ a1 ak am
       refine Zn (n:=22) (S:=fun w'=>w'.cell? ⟨τ,0,none⟩=some (.slice e4 ae.length e5)∧w'.cell? ⟨τ,1,none⟩=some (.slice e6 af.length e7)∧w'.cell? ⟨an,0,none⟩=some (.slice η B.length δ)∧w'.cell? ⟨an,1,none⟩=some (.slice θ D.length ε)∧w'.cell? ⟨a3,0,none⟩=some (.int .i64 X)∧w'.cell? ⟨a3,1,none⟩=some (.int .i64 L)∧w'.cell? ⟨a3,2,none⟩=some (.int .i64 ζ)) (ds:=[]) #[false,false,false,false,false,false,false,false,false,false,false,false,false,false,false,false,false,false,false,false,false,false] kr rfl rfl ⟨(Ql ρ.out 0).trans rfl,(Ql ρ.out 1).trans rfl,(Ql Z.out 0).trans rfl,(Ql Z.out 1).trans rfl,(Ql O.out 0).trans rfl,(Ql O.out 1).trans rfl,(Ql O.out 2).trans rfl⟩ (fun hHeld=>?_);refine Q8 newellaw19_CallGives.Um newellaw19_CallGives.G0 (fun HT_ HW_=>?_)
       generalize gj.drew=fb at μ ν a4 a5 Y Z O ρ HB hHeld ⊢
       refine Zg (i:=0) (N:=some 49) (bN 22 1) rfl rfl (Q1 HT_.out kr) (by decide) (fun K hK=>?_)
       refine Ze Try.func10 kr rfl #[] (by rfl) rfl rfl qM ?_
       with_reducible refine(newellaw19_awake.calls k  true _ ct.out).mono ?_
       rintro e lf ⟨rfl,hb⟩
       refine⟨_,rfl, ?_⟩
       replace μ :=sRb μ hb
       replace ν :=sRb ν hb
       replace a4:=sRb a4 hb
       replace a5:=sRb a5 hb
       replace Y:=sBk Y hb
       replace Z:=sBk Z hb
       replace O:=sBk O hb
       replace ρ:=sBk ρ hb
       replace HB:=sHb hb
       (try clear hb)
       (try clear a0)
       (try clear hk)
       (try clear hi)
       refine hK.out _ _ ⟨qc ρ,qc ρ,qc Z,qc Z,qc O,qc O,qc O⟩ (fun hHeld=>?_)
       clear hK K
       refine qN (some 49) ?_
       refine qP 1 (some 50) (bN 22 3) HT_ ?_
       refine qP 2 (some 51) (bN 22 7) HT_ ?_
       refine qP 3 (some 52) (bN 22 15) HT_ ?_
       refine qP 4 (some 53) (bN 22 31) HT_ ?_
       refine qP 5 (some 54) (bN 22 63) HT_ ?_
       refine qT 6 (some 55) (bN 22 127) HT_ HW_ hHeld ?_
       refine qT 7 (some 56) (bN 22 255) HT_ HW_ hHeld ?_
       refine qT 8 (some 57) (bN 22 511) HT_ HW_ hHeld ?_
       refine Zg (i:=9) (N:=some 58) (bN 22 1023) rfl rfl (Q1 HT_.out kr) (by decide) (fun K hK=>?_)
       refine Ze Try.func26 kr rfl #[.agg #[.slice η B.length δ,.slice θ D.length ε],.agg #[.int .i64 X,.int .i64 L,.int .i64 ζ]] (by rfl) rfl rfl qM ?_
       with_reducible refine(newelref19_Give.calls k _ _ B (fun k_=>k_<w.heap.size) _ _ D X L ζ fc fe _ ?side1 ?side2 ?side3 i1.out).mono ?_
       (case side1=>exact(Kd.Qx ag.out HB.out))
       (case side2=>exact ar.out)
       (case side3=>exact Kd.V_mk aw.out (Kd.Ku (Kd.C_F Lt ah.out) HB.out))
       rintro e mx ⟨j5,ml,rfl,φ,a7,hb⟩
       refine⟨_,rfl, ?_⟩
       have d3:=Aside0.mk (Kd.Q2 (Kd.Zs (Kd.Zl (Kd.Zl (Kd.Qq (ok':=fun k_=>True) φ (fun _ hk_=>trivial)) (Kd.Zy μ.out)) (Kd.Zy a4.out)) (g:=a3) (o:=.cells #[.int .i64 X,.int .i64 L,.int .i64 ζ] 56 (0,0)) O.out) (Qi HB.out))
       have d5:=Aside0.mk (Kd.M7 (Kd.Z4 (ok':=fun k_=>some k_≠(j5:Value).ownBlock∧some k_≠(cu:Value).ownBlock∧some k_≠(cv:Value).ownBlock∧some k_≠(.slice e4 ae.length e5:Value).ownBlock∧some k_≠(.slice e6 af.length e7:Value).ownBlock∧k_≠ao∧k_≠an∧k_≠a3∧k_ ≠ τ) a7 (fun k_ hk_=>⟨hk_.2,Or.elim hk_.1 (fun hs_=>fun e_=>Nat.not_le.2 hs_ (Kd.Zh μ.out k_ e_.symm)) (fun hn_=>(Kd.fresh' (Kd.Zy μ.out) k_ hn_)),Or.elim hk_.1 (fun hs_=>fun e_=>Nat.not_le.2 hs_ (Kd.Zh ν.out k_ e_.symm)) (fun hn_=>(Kd.fresh' (Kd.Zy ν.out) k_ hn_)),Or.elim hk_.1 (fun hs_=>fun e_=>Nat.not_le.2 hs_ (Kd.Zh a4.out k_ e_.symm)) (fun hn_=>(Kd.fresh' (Kd.Zy a4.out) k_ hn_)),Or.elim hk_.1 (fun hs_=>fun e_=>Nat.not_le.2 hs_ (Kd.Zh a5.out k_ e_.symm)) (fun hn_=>(Kd.fresh' (Kd.Zy a5.out) k_ hn_)),Or.elim hk_.1 (fun hs_=>fun e_=>Nat.not_le.2 hs_ (by rw[e_];exact ek.out)) (fun hn_=>(Kd.Yr (g:=ao) (o:=.cells #[.int .i64 I,.int .i64 J] 23 (0,0)) Y.out k_ hn_)),Or.elim hk_.1 (fun hs_=>fun e_=>Nat.not_le.2 hs_ (by rw[e_];exact el.out)) (fun hn_=>(Kd.Yr (g:=an) (o:=.cells #[.slice η B.length δ,.slice θ D.length ε] 27 (0,0)) Z.out k_ hn_)),Or.elim hk_.1 (fun hs_=>fun e_=>Nat.not_le.2 hs_ (by rw[e_];exact eo.out)) (fun hn_=>(Kd.Yr (g:=a3) (o:=.cells #[.int .i64 X,.int .i64 L,.int .i64 ζ] 56 (0,0)) O.out k_ hn_)),Or.elim hk_.1 (fun hs_=>fun e_=>Nat.not_le.2 hs_ (by rw[e_];exact bd.out)) (fun hn_=>(Kd.Yr (g:= τ) (o:=.cells #[.slice e4 ae.length e5,.slice e6 af.length e7] 27 (0,0)) ρ.out k_ hn_))⟩)) (Qi HB.out))
       replace μ :=Aside0.mk (Kd.Q7 μ.out (Kd.Zh φ) hb)
       replace ν :=sRb ν hb
       replace a4:=Aside0.mk (Kd.Q7 a4.out (Kd.Zh φ) hb)
       replace a5:=sRb a5 hb
       replace Y:=sBk Y hb
       replace Z:=sBk Z hb
       replace O:=sBk O hb
       replace ρ:=sBk ρ hb
       replace HB:=sHb hb
       (try clear hb)
       (try clear a0)
       (try clear hk)
       (try clear hi)
       (try clear φ)
       (try clear a7)
       obtain⟨er,et,dt⟩:=Kd.Q4 d3.out
       (first|subst dt|(injection dt with ψ aa ω;have ab:= ψ.symm;have ac:= ω.symm;clear ψ aa ω;subst ab;subst ac))
       obtain⟨j6,j7,i6⟩:=Kd.M6 d5.out
       (first|subst i6|(injection i6 with ψ aa ω;have ab:= ψ.symm;have ac:= ω.symm;clear ψ aa ω;subst ab;subst ac))
       refine hK.out _ _ ⟨qc ρ,qc ρ,qc Z,qc Z,qc O,qc O,qc O⟩ (fun hHeld=>?_)
       clear hK K
       refine qN (some 58) ?_
       refine Zg (i:=10) (N:=some 59) (bN 22 2047) rfl rfl (Q1 HT_.out kr) (by decide) (fun K hK=>?_)
       refine Ze Try.func15 kr rfl #[.agg #[.slice e4 ae.length e5,.slice e6 af.length e7],.agg #[.slice er fc.length et,.slice j6 fe.length j7]] (by rfl) rfl rfl qM ?_
       with_reducible refine(newelref19_Same.calls k _ _ ae _ _ af _ _ fc _ _ fe true _ ?side1 ?side2 ?side3 ?side4 ?side5 ?side6 ?side7 ?side8 lg.out).mono ?_
       (case side1=>exact(Kd.Qo a4.out).2.2)
       (case side2=>exact(Kd.Qo a4.out).2.1)
       (case side3=>exact(Kd.Qo a5.out).2.2)
       (case side4=>exact(Kd.Qo a5.out).2.1)
       (case side5=>exact(Kd.Qo d3.out).2.2)
       (case side6=>exact(Kd.Qo d3.out).2.1)
       (case side7=>exact(Kd.Ul d5.out).2.2)
       (case side8=>exact(Kd.Ul d5.out).2.1)
       rintro e jl ⟨rfl,hb⟩
       refine⟨_,rfl, ?_⟩
       replace μ :=sRb μ hb
       replace ν :=sRb ν hb
       replace a4:=sRb a4 hb
       replace a5:=sRb a5 hb
       replace d3:=sRb d3 hb
       replace d5:=Aside0.mk (Kd.X4 d5.out hb)
       replace Y:=sBk Y hb
       replace Z:=sBk Z hb
       replace O:=sBk O hb
       replace ρ:=sBk ρ hb
       replace HB:=sHb hb
       (try clear hb)
       (try clear a0)
       (try clear hk)
       (try clear hi)
       refine hK.out _ _ ⟨qc ρ,qc ρ,qc Z,qc Z,qc O,qc O,qc O⟩ (fun hHeld=>?_)
       clear hK K
       refine qN (some 59) ?_
       refine qP 11 (some 60) (bN 22 4095) HT_ ?_
       refine qP 12 (some 61) (bN 22 8191) HT_ ?_
       refine qT 13 (some 62) (bN 22 16383) HT_ HW_ hHeld ?_
       refine qT 14 (some 63) (bN 22 32767) HT_ HW_ hHeld ?_
       refine qT 16 (some 65) (bN 22 98303) HT_ HW_ hHeld ?_
       refine qT 17 (some 66) (bN 22 229375) HT_ HW_ hHeld ?_
       refine Zg (i:=15) (N:=some 64) (bN 22 262143) rfl rfl (Q1 HT_.out kr) (by decide) (fun K hK=>?_)
       refine Ze Try.func27 kr rfl #[.agg #[.slice η B.length δ,.slice θ D.length ε],.agg #[.slice e4 ae.length e5,.slice e6 af.length e7]] (by rfl) rfl rfl qM ?_
       with_reducible refine(call_Same.calls k _ _ B _ _ D _ _ ae _ _ af bb _ ?side1 ?side2 ?side3 ?side4 ?side5 ?side6 ?side7 ?side8 dm.out).mono ?_
       (case side1=>exact(Kd.Qx ag.out HB.out))
       (case side2=>exact ar.out)
       (case side3=>exact(Kd.Qx ah.out HB.out))
       (case side4=>exact aw.out)
       (case side5=>exact(Kd.Qo a4.out).2.2)
       (case side6=>exact(Kd.Qo a4.out).2.1)
       (case side7=>exact(Kd.Qo a5.out).2.2)
       (case side8=>exact(Kd.Qo a5.out).2.1)
       rintro e j3 ⟨rfl,hb⟩
       refine⟨_,rfl, ?_⟩
       replace μ :=sRb μ hb
       replace ν :=sRb ν hb
       replace a4:=sRb a4 hb
       replace a5:=sRb a5 hb
       replace d3:=sRb d3 hb
       replace d5:=Aside0.mk (Kd.X4 d5.out hb)
       replace Y:=sBk Y hb
       replace Z:=sBk Z hb
       replace O:=sBk O hb
       replace ρ:=sBk ρ hb
       replace HB:=sHb hb
       (try clear hb)
       (try clear a0)
       (try clear hk)
       (try clear hi)
       refine hK.out _ _ ⟨qc ρ,qc ρ,qc Z,qc Z,qc O,qc O,qc O⟩ (fun hHeld=>?_)
       clear hK K
       refine qN (some 64) ?_
       refine Zg (i:=18) (N:=some 67) (bN 22 524287) rfl rfl (Q1 HT_.out kr) (by decide) (fun K hK=>?_)
       refine Ze Try.func15 kr rfl #[.agg #[.slice η B.length δ,.slice θ D.length ε],.agg #[.slice e4 ae.length e5,.slice e6 af.length e7]] (by rfl) rfl rfl qM ?_
       with_reducible refine(newelref19_Same.calls k _ _ B _ _ D _ _ ae _ _ af ba _ ?side1 ?side2 ?side3 ?side4 ?side5 ?side6 ?side7 ?side8 i2.out).mono ?_
       (case side1=>exact(Kd.Qx ag.out HB.out))
       (case side2=>exact ar.out)
       (case side3=>exact(Kd.Qx ah.out HB.out))
       (case side4=>exact aw.out)
       (case side5=>exact(Kd.Qo a4.out).2.2)
       (case side6=>exact(Kd.Qo a4.out).2.1)
       (case side7=>exact(Kd.Qo a5.out).2.2)
       (case side8=>exact(Kd.Qo a5.out).2.1)
       rintro e ij ⟨rfl,hb⟩
       refine⟨_,rfl, ?_⟩
       replace μ :=sRb μ hb
       replace ν :=sRb ν hb
       replace a4:=sRb a4 hb
       replace a5:=sRb a5 hb
       replace d3:=sRb d3 hb
       replace d5:=Aside0.mk (Kd.X4 d5.out hb)
       replace Y:=sBk Y hb
       replace Z:=sBk Z hb
       replace O:=sBk O hb
       replace ρ:=sBk ρ hb
       replace HB:=sHb hb
       (try clear hb)
       (try clear a0)
       (try clear hk)
       (try clear hi)
       refine hK.out _ _ ⟨qc ρ,qc ρ,qc Z,qc Z,qc O,qc O,qc O⟩ (fun hHeld=>?_)
       clear hK K
       refine qN (some 67) ?_
       refine qP 19 (some 68) (bN 22 1048575) HT_ ?_
       refine qP 20 (some 69) (bN 22 2097151) HT_ ?_
       refine qP 21 (some 6) (bN 22 4194303) HT_ ?_
       refine Zu (Zj HT_.out kr) ?_
       try go_wp2
       go_ret
       exact⟨rfl,HB.out⟩
      ·replace au:=Bool.eq_false_iff.mpr au
       subst au
       have H1:(none)=some r:=by rw[if_neg (show ¬ (false=true) by decide)] at H;exact H
       clear H
       have H:=H1
       clear H1
       exact absurd H (by simp)
     ·rw[if_neg az] at H
      exact absurd H (by simp)
    ·replace bg:=Bool.eq_false_iff.mpr bg
     subst bg
     have H1:(none)=some r:=by rw[if_neg (show ¬ (false=true) by decide)] at H;exact H
     clear H
     have H:=H1
     clear H1
     exact absurd H (by simp)
   ·replace cb:=Bool.eq_false_iff.mpr cb
    subst cb
    have H1:((newellaw19_awake.f k).bind fun bm=>(if bm=true then (if ay=191 then ((newelref19_Same.f k ae af ([]:List (S56)) ([]:List (S62))).bind fun bh=>(some bh)) else (none)) else (none)))=some r:=by rw[if_neg (show ¬ (false=true) by decide)] at H;exact H
    clear H
    have H:=H1
    clear H1
    replace H:=Option.bind_eq_some_iff.mp H
    obtain⟨bm,ia,H⟩:=H
    replace H:(if bm=true then (if ay=191 then ((newelref19_Same.f k ae af ([]:List (S56)) ([]:List (S62))).bind fun bh=>(some bh)) else (none)) else (none))=some r:=H
    have lh:=Aside0.mk ia
    clear ia
    by_cases ef:bm=true
    ·subst ef
     have H1:(if ay=191 then ((newelref19_Same.f k ae af ([]:List (S56)) ([]:List (S62))).bind fun bh=>(some bh)) else (none))=some r:=by rw[if_pos rfl] at H;exact H
     clear H
     have H:=H1
     clear H1
     by_cases ei:ay=191
     ·rw[if_pos ei] at H
      have c58b0:(ay==191)=true:=beq_iff_eq.mpr ei
      have c58b1:(ay != 191)=false:=bne_eq_false_iff_eq.mpr ei
      clear ei
      replace H:=Option.bind_eq_some_iff.mp H
      obtain⟨bh,ie,H⟩:=H
      replace H:(some bh)=some r:=H
      have ll:=Aside0.mk ie
      clear ie
      obtain rfl:=Option.some.inj H
      go_enter Try.func5,Try.ntmps5
      try go_wp2_with (first|((with_reducible refine Qr (N:=3) rfl ?_);refine qE 3 #[.int .i64 I,.int .i64 J] 23 ?_;intro ao hg l9 hbox hb;have Y:=Aside0.mk hbox;have ek:=sGe hg;have fh:=sGe hg;replace HB:=sHb hb;clear hb hbox hg)|((with_reducible refine Qr (N:=4) rfl ?_);refine qE 4 #[.slice η B.length δ,.slice θ D.length ε] 27 ?_;intro an hg ic hbox hb;have Z:=Aside0.mk hbox;have el:=sGe hg;have fi:=sGe hg;have ca:=sNl Y hg;have cp:=sNg Y hg;replace Y:=sBk Y hb;replace HB:=sHb hb;clear hb hbox hg)|((with_reducible refine Qr (N:=5) rfl ?_);refine qE 5 #[.int .i64 X,.int .i64 L,.int .i64 ζ] 56 ?_;intro a3 hg lb hbox hb;have O:=Aside0.mk hbox;have eo:=sGe hg;have fj:=sGe hg;have cw:=sNl Y hg;have cx:=sNg Y hg;have cq:=sNl Z hg;have cr:=sNg Z hg;replace Y:=sBk Y hb;replace Z:=sBk Z hb;replace HB:=sHb hb;clear hb hbox hg;have ff:=cp.out;have fg:=ca.out;have em:=cq.out;have en:=cr.out;obtain⟨gm,gn,gp,gq⟩:=qD2 Z.out)|((with_reducible refine Q0 (f:=9) rfl ?_);refine Zk (some 10) rfl rfl Try.func9 kr rfl #[.agg #[.slice η B.length δ,.slice θ D.length ε]] rfl qM ?_;(with_reducible refine(newelref19_Few.calls _ _ B _ _ D true _ ?side1 ?side2 ?side3 ?side4 A4.out).mono ?_);(case side1=>exact(Kd.Qx ag.out HB.out));(case side2=>exact ar.out);(case side3=>exact(Kd.Qx ah.out HB.out));(case side4=>exact aw.out);rintro e j2 ⟨rfl,hb⟩;refine⟨_,rfl, ?_⟩;replace Y:=sBk Y hb;replace Z:=sBk Z hb;replace O:=sBk O hb;replace HB:=sHb hb;(try clear hb);(try clear a0);(try clear hk);(try clear hi)))
      replace Y:=Aside0.mk (Qa Y.out)
      replace Z:=Aside0.mk (Qa Z.out)
      replace O:=Aside0.mk (Qa O.out)
      replace HB:=Aside0.mk (Qf HB.out)
      refine Zn (n:=11) (S:=fun w'=>w'.cell? ⟨ao,0,none⟩=some (.int .i64 I)∧w'.cell? ⟨ao,1,none⟩=some (.int .i64 J)∧w'.cell? ⟨an,0,none⟩=some (.slice η B.length δ)∧w'.cell? ⟨an,1,none⟩=some (.slice θ D.length ε)∧w'.cell? ⟨a3,0,none⟩=some (.int .i64 X)∧w'.cell? ⟨a3,1,none⟩=some (.int .i64 L)∧w'.cell? ⟨a3,2,none⟩=some (.int .i64 ζ)) (ds:=[]) #[false,false,false,false,false,false,false,false,false,false,false] kr rfl rfl ⟨(Ql Y.out 0).trans rfl,(Ql Y.out 1).trans rfl,(Ql Z.out 0).trans rfl,(Ql Z.out 1).trans rfl,(Ql O.out 0).trans rfl,(Ql O.out 1).trans rfl,(Ql O.out 2).trans rfl⟩ (fun hHeld=>?_);refine Q8 newellaw19_CallGives.Wn newellaw19_CallGives.Vh (fun HT_ HW_=>?_)
      generalize j2.drew=j4 at Y Z O HB hHeld ⊢
      refine qT 0 (some 14) (bN 11 1) HT_ HW_ hHeld ?_
      refine qT 1 (some 15) (bN 11 3) HT_ HW_ hHeld ?_
      refine qT 3 (some 17) (bN 11 11) HT_ HW_ hHeld ?_
      refine K9 (σ:=Value×Value×Value×Value×Nat) 2 (bN 11 511) (fun s_=>[(16,.agg #[s_.1,s_.2.1]),(18,.tuple #[.agg #[s_.2.2.1,s_.2.2.2.1],.int .i64 ay]),(7,.pointer (some ⟨s_.2.2.2.2,0,none⟩)),(13,.tuple #[.agg #[s_.2.2.1,s_.2.2.2.1],.int .i64 ay]),(19,.agg #[s_.2.2.1,s_.2.2.2.1]),(20,.int .i64 ay)]) (fun s_ w'=>(w'.cell? ⟨ao,0,none⟩=some (.int .i64 I)∧w'.cell? ⟨ao,1,none⟩=some (.int .i64 J)∧w'.cell? ⟨an,0,none⟩=some (.slice η B.length δ)∧w'.cell? ⟨an,1,none⟩=some (.slice θ D.length ε)∧w'.cell? ⟨a3,0,none⟩=some (.int .i64 X)∧w'.cell? ⟨a3,1,none⟩=some (.int .i64 L)∧w'.cell? ⟨a3,2,none⟩=some (.int .i64 ζ))∧(Kd.R k56 56 w' w.heap.size (fun k_=>some k_≠(s_.2.2.1:Value).ownBlock∧k_≠a3) s_.1 b2)∧(Kd.R k62 62 w' w.heap.size (fun k_=>some k_≠(s_.2.2.2.1:Value).ownBlock) s_.2.1 b3)∧(Kd.R k56 56 w' w.heap.size (fun k_=>some k_≠(s_.1:Value).ownBlock∧k_≠a3) s_.2.2.1 ae)∧(Kd.R k62 62 w' w.heap.size (fun k_=>some k_≠(s_.2.1:Value).ownBlock) s_.2.2.2.1 af)∧(w'.heap[ao]?=some (.cells #[.int .i64 I,.int .i64 J] 23 (0,0)))∧(w'.heap[an]?=some (.cells #[.slice η B.length δ,.slice θ D.length ε] 27 (0,0)))∧(w'.heap[a3]?=some (.cells #[.int .i64 X,.int .i64 L,.int .i64 ζ] 56 (0,0)))∧(w'.heap[s_.2.2.2.2]?=some (.cells #[.slice none 0 0,.slice none 0 0] 27 (0,0)))∧(w.heap.size≤s_.2.2.2.2)∧(w.heap.size≤s_.2.2.2.2)∧(ao≠s_.2.2.2.2)∧(s_.2.2.2.2≠ao)∧(an≠s_.2.2.2.2)∧(s_.2.2.2.2≠an)∧(a3≠s_.2.2.2.2)∧(s_.2.2.2.2≠a3)∧(Below w.heap.size w w')) ?_ ?_
      rotate_left
      ·intro hCont
       refine Kj (i:=2) (j:=8) (Ni:=some 16) (Nj:=some 7) (bN 11 15) (bN 11 267) rfl rfl rfl rfl (Ye HT_.out kr) (by decide) (by decide) (fun K hK=>?_) (fun K hK=>?_)
       ·skip
        refine Ze Try.func12 kr rfl #[.agg #[.slice η B.length δ,.slice θ D.length ε]] (by rfl) rfl rfl qM ?_
        with_reducible refine(newellaw19_Own.calls _ _ B _ _ D b2 b3 _ ?side1 ?side2 ?side3 ?side4 A6.out).mono ?_
        (case side1=>exact(Kd.Qx ag.out HB.out))
        (case side2=>exact ar.out)
        (case side3=>exact(Kd.Qx ah.out HB.out))
        (case side4=>exact aw.out)
        rintro e lm ⟨cu,cv,rfl,φ,a7,hb⟩
        refine⟨_,rfl, ?_⟩
        have μ :=Aside0.mk (Kd.Q2 (Kd.Zs φ (g:=a3) (o:=.cells #[.int .i64 X,.int .i64 L,.int .i64 ζ] 56 (0,0)) O.out) (Qi HB.out))
        have ν :=Aside0.mk (Kd.Q2 a7 (Qi HB.out))
        replace Y:=sBk Y hb
        replace Z:=sBk Z hb
        replace O:=sBk O hb
        replace HB:=sHb hb
        (try clear hb)
        (try clear a0)
        (try clear hk)
        (try clear hi)
        (try clear φ)
        (try clear a7)
        obtain⟨ig,ii,il⟩:=Kd.Q4 μ.out
        (first|subst il|(injection il with ψ aa ω;have ab:= ψ.symm;have ac:= ω.symm;clear ψ aa ω;subst ab;subst ac))
        obtain⟨d6,d8,dk⟩:=Kd.Q4 ν.out
        (first|subst dk|(injection dk with ψ aa ω;have ab:= ψ.symm;have ac:= ω.symm;clear ψ aa ω;subst ab;subst ac))
        refine hK.out _ _ ⟨qc Y,qc Y,qc Z,qc Z,qc O,qc O,qc O⟩ (fun hHeld=>?_)
        clear hK K
        refine qN (some 16) ?_
        refine Kj (i:=4) (j:=8) (Ni:=some 18) (Nj:=some 7) (bN 11 31) (bN 11 271) rfl rfl rfl rfl (Ye HT_.out kr) (by decide) (by decide) (fun K hK=>?_) (fun K hK=>?_)
        ·skip
         refine Ze Try.func24 kr rfl #[.agg #[.int .i64 I,.int .i64 J],.agg #[.slice ig b2.length ii,.slice d6 b3.length d8],.agg #[.int .i64 X,.int .i64 L,.int .i64 ζ]] (by rfl) rfl rfl qM ?_
         with_reducible refine(call_Give.calls k I J _ _ b2 _ _ b3 X L ζ ae af ay _ ?side1 ?side2 ?side3 ?side4 A7.out).mono ?_
         (case side1=>exact(Kd.Qo μ.out).2.2)
         (case side2=>exact(Kd.Qo μ.out).2.1)
         (case side3=>exact(Kd.Qo ν.out).2.2)
         (case side4=>exact(Kd.Qo ν.out).2.1)
         rintro e lc ⟨bi,bj,rfl,φ,a7,hb⟩
         refine⟨_,rfl, ?_⟩
         have a4:=Aside0.mk (Kd.Q2 (Kd.Zs (Kd.Zl φ (Kd.Zy μ.out)) (g:=a3) (o:=.cells #[.int .i64 X,.int .i64 L,.int .i64 ζ] 56 (0,0)) O.out) (Qi HB.out))
         have a5:=Aside0.mk (Kd.Q2 (Kd.Zl a7 (Kd.Zy ν.out)) (Qi HB.out))
         replace μ :=Aside0.mk (Kd.Q7 μ.out (Kd.Zh φ) hb)
         replace ν :=Aside0.mk (Kd.Q7 ν.out (Kd.Zh a7) hb)
         replace Y:=sBk Y hb
         replace Z:=sBk Z hb
         replace O:=sBk O hb
         replace HB:=sHb hb
         (try clear hb)
         (try clear a0)
         (try clear hk)
         (try clear hi)
         (try clear φ)
         (try clear a7)
         refine hK.out _ _ ⟨qc Y,qc Y,qc Z,qc Z,qc O,qc O,qc O⟩ (fun hHeld=>?_)
         clear hK K
         refine qN (some 18) ?_
         refine qP 5 (some 13) (bN 11 63) HT_ ?_
         refine qP 6 (some 19) (bN 11 127) HT_ ?_
         refine qP 7 (some 20) (bN 11 255) HT_ ?_
         refine Zg (i:=8) (N:=some 7) (bN 11 511) rfl rfl (Q1 HT_.out kr) (by decide) (fun K hK=>?_)
         refine Xk ?hg (N:=7) ?hd (cs:=#[.slice none 0 0,.slice none 0 0]) (t:=27) ?hr ?_;(case hd=>rfl);(case hg=>rfl);(case hr=>go_simp <;> rfl)
         intro τ hg gi hbox hb
         have ρ:=Aside0.mk hbox
         have bd:=sGe hg
         have bk:=sGe hg
         have a6:=sNl Y hg
         have ai:=sNg Y hg
         have a8:=sNl Z hg
         have aj:=sNg Z hg
         have a2:=sNl O hg
         have al:=sNg O hg
         replace μ :=sRb μ hb
         replace ν :=sRb ν hb
         replace a4:=sRb a4 hb
         replace a5:=sRb a5 hb
         replace Y:=sBk Y hb
         replace Z:=sBk Z hb
         replace O:=sBk O hb
         replace HB:=sHb hb
         clear hb hbox hg
         refine hK.out _ _ ⟨qc Y,qc Y,qc Z,qc Z,qc O,qc O,qc O⟩ (fun hHeld=>?_)
         clear hK K
         refine qN (some 7) ?_
         exact Xj (by simp only[Zx,Act.put,qS]) (hCont (.slice ig b2.length ii,.slice d6 b3.length d8,bi,bj,τ) _ ⟨hHeld,(by(with_reducible repeat first|apply Kd.Qk|apply Kd.Qj|apply Kd.Qn);exact Kd.Qq μ.out (fun _ hk=>⟨hk.2,hk.1.2⟩)),(by(with_reducible repeat first|apply Kd.Qk|apply Kd.Qj|apply Kd.Qn);exact Kd.Qq ν.out (fun _ hk=>hk.2)),(by(with_reducible repeat first|apply Kd.Qk|apply Kd.Qj|apply Kd.Qn);exact Kd.Qq a4.out (fun _ hk=>⟨hk.1.2,hk.2⟩)),(by(with_reducible repeat first|apply Kd.Qk|apply Kd.Qj|apply Kd.Qn);exact Kd.Qq a5.out (fun _ hk=>hk.2)),Y.out,Z.out,O.out,ρ.out,bd.out,bk.out,a6.out,ai.out,a8.out,aj.out,a2.out,al.out,HB.out⟩)
        ·skip
         refine Xk ?hg (N:=7) ?hd (cs:=#[.slice none 0 0,.slice none 0 0]) (t:=27) ?hr ?_;(case hd=>rfl);(case hg=>rfl);(case hr=>go_simp <;> rfl)
         intro τ hg iv hbox hb
         have ρ:=Aside0.mk hbox
         have bd:=sGe hg
         have bk:=sGe hg
         have a6:=sNl Y hg
         have ai:=sNg Y hg
         have a8:=sNl Z hg
         have aj:=sNg Z hg
         have a2:=sNl O hg
         have al:=sNg O hg
         replace μ :=sRb μ hb
         replace ν :=sRb ν hb
         replace Y:=sBk Y hb
         replace Z:=sBk Z hb
         replace O:=sBk O hb
         replace HB:=sHb hb
         clear hb hbox hg
         obtain⟨d6,d8,dk⟩:=Kd.Q4 μ.out
         (first|subst dk|(injection dk with ψ aa ω;have ab:= ψ.symm;have ac:= ω.symm;clear ψ aa ω;subst ab;subst ac))
         obtain⟨ec,ed,ea⟩:=Kd.Q4 ν.out
         (first|subst ea|(injection ea with ψ aa ω;have ab:= ψ.symm;have ac:= ω.symm;clear ψ aa ω;subst ab;subst ac))
         refine hK.out _ _ ⟨qc Y,qc Y,qc Z,qc Z,qc O,qc O,qc O⟩ (fun hHeld=>?_)
         clear hK K
         refine qN (some 7) ?_
         refine Zg (i:=4) (N:=some 18) (bN 11 287) rfl rfl (Q1 HT_.out kr) (by decide) (fun K hK=>?_)
         refine Ze Try.func24 kr rfl #[.agg #[.int .i64 I,.int .i64 J],.agg #[.slice d6 b2.length d8,.slice ec b3.length ed],.agg #[.int .i64 X,.int .i64 L,.int .i64 ζ]] (by rfl) rfl rfl qM ?_
         with_reducible refine(call_Give.calls k I J _ _ b2 _ _ b3 X L ζ ae af ay _ ?side1 ?side2 ?side3 ?side4 A7.out).mono ?_
         (case side1=>exact(Kd.Qo μ.out).2.2)
         (case side2=>exact(Kd.Qo μ.out).2.1)
         (case side3=>exact(Kd.Qo ν.out).2.2)
         (case side4=>exact(Kd.Qo ν.out).2.1)
         rintro e gi ⟨bi,bj,rfl,φ,a7,hb⟩
         refine⟨_,rfl, ?_⟩
         have a4:=Aside0.mk (Kd.Q2 (Kd.Zs (Kd.Zl φ (Kd.Zy μ.out)) (g:=a3) (o:=.cells #[.int .i64 X,.int .i64 L,.int .i64 ζ] 56 (0,0)) O.out) (Qi HB.out))
         have a5:=Aside0.mk (Kd.Q2 (Kd.Zl a7 (Kd.Zy ν.out)) (Qi HB.out))
         replace μ :=Aside0.mk (Kd.Q7 μ.out (Kd.Zh φ) hb)
         replace ν :=Aside0.mk (Kd.Q7 ν.out (Kd.Zh a7) hb)
         replace Y:=sBk Y hb
         replace Z:=sBk Z hb
         replace O:=sBk O hb
         replace ρ:=sBk ρ hb
         replace HB:=sHb hb
         (try clear hb)
         (try clear a0)
         (try clear hk)
         (try clear hi)
         (try clear φ)
         (try clear a7)
         refine hK.out _ _ ⟨qc Y,qc Y,qc Z,qc Z,qc O,qc O,qc O⟩ (fun hHeld=>?_)
         clear hK K
         refine qN (some 18) ?_
         refine qP 5 (some 13) (bN 11 319) HT_ ?_
         refine qP 6 (some 19) (bN 11 383) HT_ ?_
         refine qP 7 (some 20) (bN 11 511) HT_ ?_
         exact Xj (by simp only[Zx,Act.put,qS]) (hCont (.slice d6 b2.length d8,.slice ec b3.length ed,bi,bj,τ) _ ⟨hHeld,(by(with_reducible repeat first|apply Kd.Qk|apply Kd.Qj|apply Kd.Qn);exact Kd.Qq μ.out (fun _ hk=>⟨hk.2,hk.1.2⟩)),(by(with_reducible repeat first|apply Kd.Qk|apply Kd.Qj|apply Kd.Qn);exact Kd.Qq ν.out (fun _ hk=>hk.2)),(by(with_reducible repeat first|apply Kd.Qk|apply Kd.Qj|apply Kd.Qn);exact Kd.Qq a4.out (fun _ hk=>⟨hk.1.2,hk.2⟩)),(by(with_reducible repeat first|apply Kd.Qk|apply Kd.Qj|apply Kd.Qn);exact Kd.Qq a5.out (fun _ hk=>hk.2)),Y.out,Z.out,O.out,ρ.out,bd.out,bk.out,a6.out,ai.out,a8.out,aj.out,a2.out,al.out,HB.out⟩)
       ·skip
        refine Xk ?hg (N:=7) ?hd (cs:=#[.slice none 0 0,.slice none 0 0]) (t:=27) ?hr ?_;(case hd=>rfl);(case hg=>rfl);(case hr=>go_simp <;> rfl)
        intro τ hg lm hbox hb
        have ρ:=Aside0.mk hbox
        have bd:=sGe hg
        have bk:=sGe hg
        have a6:=sNl Y hg
        have ai:=sNg Y hg
        have a8:=sNl Z hg
        have aj:=sNg Z hg
        have a2:=sNl O hg
        have al:=sNg O hg
        replace Y:=sBk Y hb
        replace Z:=sBk Z hb
        replace O:=sBk O hb
        replace HB:=sHb hb
        clear hb hbox hg
        refine hK.out _ _ ⟨qc Y,qc Y,qc Z,qc Z,qc O,qc O,qc O⟩ (fun hHeld=>?_)
        clear hK K
        refine qN (some 7) ?_
        refine Zg (i:=2) (N:=some 16) (bN 11 271) rfl rfl (Q1 HT_.out kr) (by decide) (fun K hK=>?_)
        refine Ze Try.func12 kr rfl #[.agg #[.slice η B.length δ,.slice θ D.length ε]] (by rfl) rfl rfl qM ?_
        with_reducible refine(newellaw19_Own.calls _ _ B _ _ D b2 b3 _ ?side1 ?side2 ?side3 ?side4 A6.out).mono ?_
        (case side1=>exact(Kd.Qx ag.out HB.out))
        (case side2=>exact ar.out)
        (case side3=>exact(Kd.Qx ah.out HB.out))
        (case side4=>exact aw.out)
        rintro e iv ⟨cu,cv,rfl,φ,a7,hb⟩
        refine⟨_,rfl, ?_⟩
        have μ :=Aside0.mk (Kd.Q2 (Kd.Zs φ (g:=a3) (o:=.cells #[.int .i64 X,.int .i64 L,.int .i64 ζ] 56 (0,0)) O.out) (Qi HB.out))
        have ν :=Aside0.mk (Kd.Q2 a7 (Qi HB.out))
        replace Y:=sBk Y hb
        replace Z:=sBk Z hb
        replace O:=sBk O hb
        replace ρ:=sBk ρ hb
        replace HB:=sHb hb
        (try clear hb)
        (try clear a0)
        (try clear hk)
        (try clear hi)
        (try clear φ)
        (try clear a7)
        obtain⟨d6,d8,dk⟩:=Kd.Q4 μ.out
        (first|subst dk|(injection dk with ψ aa ω;have ab:= ψ.symm;have ac:= ω.symm;clear ψ aa ω;subst ab;subst ac))
        obtain⟨ec,ed,ea⟩:=Kd.Q4 ν.out
        (first|subst ea|(injection ea with ψ aa ω;have ab:= ψ.symm;have ac:= ω.symm;clear ψ aa ω;subst ab;subst ac))
        refine hK.out _ _ ⟨qc Y,qc Y,qc Z,qc Z,qc O,qc O,qc O⟩ (fun hHeld=>?_)
        clear hK K
        refine qN (some 16) ?_
        refine Zg (i:=4) (N:=some 18) (bN 11 287) rfl rfl (Q1 HT_.out kr) (by decide) (fun K hK=>?_)
        refine Ze Try.func24 kr rfl #[.agg #[.int .i64 I,.int .i64 J],.agg #[.slice d6 b2.length d8,.slice ec b3.length ed],.agg #[.int .i64 X,.int .i64 L,.int .i64 ζ]] (by rfl) rfl rfl qM ?_
        with_reducible refine(call_Give.calls k I J _ _ b2 _ _ b3 X L ζ ae af ay _ ?side1 ?side2 ?side3 ?side4 A7.out).mono ?_
        (case side1=>exact(Kd.Qo μ.out).2.2)
        (case side2=>exact(Kd.Qo μ.out).2.1)
        (case side3=>exact(Kd.Qo ν.out).2.2)
        (case side4=>exact(Kd.Qo ν.out).2.1)
        rintro e gi ⟨bi,bj,rfl,φ,a7,hb⟩
        refine⟨_,rfl, ?_⟩
        have a4:=Aside0.mk (Kd.Q2 (Kd.Zs (Kd.Zl φ (Kd.Zy μ.out)) (g:=a3) (o:=.cells #[.int .i64 X,.int .i64 L,.int .i64 ζ] 56 (0,0)) O.out) (Qi HB.out))
        have a5:=Aside0.mk (Kd.Q2 (Kd.Zl a7 (Kd.Zy ν.out)) (Qi HB.out))
        replace μ :=Aside0.mk (Kd.Q7 μ.out (Kd.Zh φ) hb)
        replace ν :=Aside0.mk (Kd.Q7 ν.out (Kd.Zh a7) hb)
        replace Y:=sBk Y hb
        replace Z:=sBk Z hb
        replace O:=sBk O hb
        replace ρ:=sBk ρ hb
        replace HB:=sHb hb
        (try clear hb)
        (try clear a0)
        (try clear hk)
        (try clear hi)
        (try clear φ)
        (try clear a7)
        refine hK.out _ _ ⟨qc Y,qc Y,qc Z,qc Z,qc O,qc O,qc O⟩ (fun hHeld=>?_)
        clear hK K
        refine qN (some 18) ?_
        refine qP 5 (some 13) (bN 11 319) HT_ ?_
        refine qP 6 (some 19) (bN 11 383) HT_ ?_
        refine qP 7 (some 20) (bN 11 511) HT_ ?_
        exact Xj (by simp only[Zx,Act.put,qS]) (hCont (.slice d6 b2.length d8,.slice ec b3.length ed,bi,bj,τ) _ ⟨hHeld,(by(with_reducible repeat first|apply Kd.Qk|apply Kd.Qj|apply Kd.Qn);exact Kd.Qq μ.out (fun _ hk=>⟨hk.2,hk.1.2⟩)),(by(with_reducible repeat first|apply Kd.Qk|apply Kd.Qj|apply Kd.Qn);exact Kd.Qq ν.out (fun _ hk=>hk.2)),(by(with_reducible repeat first|apply Kd.Qk|apply Kd.Qj|apply Kd.Qn);exact Kd.Qq a4.out (fun _ hk=>⟨hk.1.2,hk.2⟩)),(by(with_reducible repeat first|apply Kd.Qk|apply Kd.Qj|apply Kd.Qn);exact Kd.Qq a5.out (fun _ hk=>hk.2)),Y.out,Z.out,O.out,ρ.out,bd.out,bk.out,a6.out,ai.out,a8.out,aj.out,a2.out,al.out,HB.out⟩)
      rintro⟨cu,cv,bi,bj,τ⟩ d1 ⟨hS_,cj,ck,cm,cn,co,dv,dw,dx,dy,dz,d9,da,db,dc,dd,de,df⟩
      have U:Aside0 (Kd.R k56 56 d1 w.heap.size (fun k_=>some k_≠(bi:Value).ownBlock∧k_≠a3) cu b2):=⟨cj⟩
      have γ:Aside0 (Kd.R k62 62 d1 w.heap.size (fun k_=>some k_≠(bj:Value).ownBlock) cv b3):=⟨ck⟩
      have ι :Aside0 (Kd.R k56 56 d1 w.heap.size (fun k_=>some k_≠(cu:Value).ownBlock∧k_≠a3) bi ae):=⟨cm⟩
      have κ :Aside0 (Kd.R k62 62 d1 w.heap.size (fun k_=>some k_≠(cv:Value).ownBlock) bj af):=⟨cn⟩
      have ξ :Aside0 (d1.heap[ao]?=some (.cells #[.int .i64 I,.int .i64 J] 23 (0,0))):=⟨co⟩
      have χ :Aside0 (d1.heap[an]?=some (.cells #[.slice η B.length δ,.slice θ D.length ε] 27 (0,0))):=⟨dv⟩
      have a1:Aside0 (d1.heap[a3]?=some (.cells #[.int .i64 X,.int .i64 L,.int .i64 ζ] 56 (0,0))):=⟨dw⟩
      have ak:Aside0 (d1.heap[τ]?=some (.cells #[.slice none 0 0,.slice none 0 0] 27 (0,0))):=⟨dx⟩
      have am:Aside0 (w.heap.size ≤ τ):=⟨dy⟩
      have ax:Aside0 (w.heap.size ≤ τ):=⟨dz⟩
      have ap:Aside0 (ao ≠ τ):=⟨d9⟩
      have av:Aside0 (τ ≠ ao):=⟨da⟩
      have b0:Aside0 (an ≠ τ):=⟨db⟩
      have b8:Aside0 (τ ≠ an):=⟨dc⟩
      have b9:Aside0 (a3 ≠ τ):=⟨dd⟩
      have be:Aside0 (τ ≠ a3):=⟨de⟩
      have bf:Aside0 (Below w.heap.size w d1):=⟨df⟩
      clear Y
      clear Z
      clear O
      clear HB
      clear cj ck cm cn co dv dw dx dy dz d9 da db dc dd de df
      have μ :=U
      have ν :=γ
      have a4:= ι
      have a5:= κ
      have Y:= ξ
      have Z:= χ
      have O:=a1
      have ρ:=ak
      have bd:=am
      have bk:=ax
      have a6:=ap
      have ai:=av
      have a8:=b0
      have aj:=b8
      have a2:=b9
      have al:=be
      have HB:=bf
      clear U γ ι κ ξ χ a1 ak am ax ap av b0 b8 b9 be bf
      have hHeld:d1.cell? ⟨ao,0,none⟩=some (.int .i64 I)∧d1.cell? ⟨ao,1,none⟩=some (.int .i64 J)∧d1.cell? ⟨an,0,none⟩=some (.slice η B.length δ)∧d1.cell? ⟨an,1,none⟩=some (.slice θ D.length ε)∧d1.cell? ⟨a3,0,none⟩=some (.int .i64 X)∧d1.cell? ⟨a3,1,none⟩=some (.int .i64 L)∧d1.cell? ⟨a3,2,none⟩=some (.int .i64 ζ):=hS_
      obtain⟨fv,g3,im⟩:=Kd.Q4 a4.out
      (first|subst im|(injection im with ψ aa ω;have ab:= ψ.symm;have ac:= ω.symm;clear ψ aa ω;subst ab;subst ac))
      obtain⟨io,ip,iq⟩:=Kd.Q4 a5.out
      (first|subst iq|(injection iq with ψ aa ω;have ab:= ψ.symm;have ac:= ω.symm;clear ψ aa ω;subst ab;subst ac))
      refine Xj (a':=?_) ?_ ?_
      rotate_left
      ·simp only[Zx,Act.put,qS]
       rfl
      refine Zg (i:=9) (N:=none) (bN 11 1023) rfl rfl (Q1 HT_.out kr) (by decide) (fun K hK=>?_)
      have mm:d1.cell? ⟨τ,0,none⟩=some (.slice none 0 0):=(Ql ρ.out 0).trans rfl
      have m6:=Q6 ρ.out 0
      have kp:=a6.out
      have kq:=a8.out
      have ks:=a2.out
      have kt:=ai.out
      have ku:=aj.out
      have kv:=al.out
      have mn:d1.cell? ⟨τ,1,none⟩=some (.slice none 0 0):=(Ql ρ.out 1).trans rfl
      have m7:=Q6 ρ.out 1
      have ky:=a6.out
      have kz:=a8.out
      have l2:=a2.out
      have l4:=ai.out
      have l5:=aj.out
      have l6:=al.out
      refine Js (w1:=?_) (by rfl) rfl ?_ ?_
      rotate_left
      ·go_simp
       rfl
      refine hK.out _ _ ⟨((cell_far (p:=⟨τ,_,none⟩) a6.out _).trans (((cell_far (p:=⟨τ,_,none⟩) a6.out _).trans (hHeld.1)))),((cell_far (p:=⟨τ,_,none⟩) a6.out _).trans (((cell_far (p:=⟨τ,_,none⟩) a6.out _).trans (hHeld.2.1)))),((cell_far (p:=⟨τ,_,none⟩) a8.out _).trans (((cell_far (p:=⟨τ,_,none⟩) a8.out _).trans (hHeld.2.2.1)))),((cell_far (p:=⟨τ,_,none⟩) a8.out _).trans (((cell_far (p:=⟨τ,_,none⟩) a8.out _).trans (hHeld.2.2.2.1)))),((cell_far (p:=⟨τ,_,none⟩) a2.out _).trans (((cell_far (p:=⟨τ,_,none⟩) a2.out _).trans (hHeld.2.2.2.2.1)))),((cell_far (p:=⟨τ,_,none⟩) a2.out _).trans (((cell_far (p:=⟨τ,_,none⟩) a2.out _).trans (hHeld.2.2.2.2.2.1)))),((cell_far (p:=⟨τ,_,none⟩) a2.out _).trans (((cell_far (p:=⟨τ,_,none⟩) a2.out _).trans (hHeld.2.2.2.2.2.2))))⟩ (fun hHeld=>?_)
      clear hK K
      refine qP 10 (some 8) (bN 11 2047) HT_ ?_
      refine Zu (Zj HT_.out kr) ?_
      have m8:=cw.out
      have m9:=cx.out
      have i7:=a6.out
      have i9:=ai.out
      obtain⟨hu,hx,hy,i0⟩:=qD2 Y.out
      have jb:=a8.out
      have jc:=aj.out
      obtain⟨fw,fx,fy,fz⟩:=qD2 Z.out
      try go_wp2_with (first|((with_reducible refine Q0 (f:=13) rfl ?_);refine Zk (some 23) rfl rfl Try.func13 kr rfl #[.agg #[.int .i64 I,.int .i64 J],.agg #[.slice η B.length δ,.slice θ D.length ε]] rfl qM ?_;(with_reducible refine(newelref19_May.calls k I J _ _ B _ _ D true _ ?side1 ?side2 ?side3 ?side4 A8.out).mono ?_);(case side1=>exact Kd.Qx ag.out bel);(case side2=>exact ar.out);(case side3=>exact Kd.Qx ah.out bel);(case side4=>exact aw.out);rintro e l3 ⟨rfl,hb⟩;refine⟨_,rfl, ?_⟩;replace μ :=Aside0.mk (Kd.Qu (by(with_reducible repeat first|apply Kd.Qk|apply Kd.Qj|apply Kd.Qn);exact(Kd.Qq (Kd.Qs (Kd.Qs (Kd.Qw μ.out ρ.out (by decide)) (fun _ hk=>hk.2) _) (fun _ hk=>hk.2) _) (fun _ h_=>h_.1))) hb);replace ν :=Aside0.mk (Kd.Qu (by(with_reducible repeat first|apply Kd.Qk|apply Kd.Qj|apply Kd.Qn);exact(Kd.Qq (Kd.Qs (Kd.Qs (Kd.Qw ν.out ρ.out (by decide)) (fun _ hk=>hk.2) _) (fun _ hk=>hk.2) _) (fun _ h_=>h_.1))) hb);replace a4:=Aside0.mk (Kd.Qu (by(with_reducible repeat first|apply Kd.Qk|apply Kd.Qj|apply Kd.Qn);exact(Kd.Qq (Kd.Qs (Kd.Qs (Kd.Qw a4.out ρ.out (by decide)) (fun _ hk=>hk.2) _) (fun _ hk=>hk.2) _) (fun _ h_=>h_.1))) hb);replace a5:=Aside0.mk (Kd.Qu (by(with_reducible repeat first|apply Kd.Qk|apply Kd.Qj|apply Kd.Qn);exact(Kd.Qq (Kd.Qs (Kd.Qs (Kd.Qw a5.out ρ.out (by decide)) (fun _ hk=>hk.2) _) (fun _ hk=>hk.2) _) (fun _ h_=>h_.1))) hb);replace Y:=sBk Y hb;replace Z:=sBk Z hb;replace O:=sBk O hb;replace ρ:=Aside0.mk (Qm (g:= τ) (o:=.cells #[.slice fv ae.length g3,.slice io af.length ip] 27 (0,0)) (by(with_reducible repeat first|apply Qd|apply Qa|apply Qe);refine Qv (cs:=#[.slice fv ae.length g3,.slice none 0 0]) ?_ 1 _ rfl;(with_reducible repeat first|apply Qd|apply Qa|apply Qe);refine Qv (cs:=#[.slice none 0 0,.slice none 0 0]) ?_ 0 _ rfl;(with_reducible repeat first|apply Qd|apply Qa|apply Qe);exact ρ.out) hb);replace HB:=sHb hb;(try clear hb);(try clear a0);(try clear hk);(try clear hi);obtain⟨gx,gy,h6,ib⟩:=qD2 Y.out;have kw:=a2.out;have kx:=al.out;obtain⟨h7,h8,l7,h9,ha,l8⟩:=qD3 O.out)|((with_reducible refine Q0 (f:=25) rfl ?_);refine Zk (some 37) rfl rfl Try.func25 kr rfl #[.agg #[.int .i64 I,.int .i64 J],.agg #[.int .i64 X,.int .i64 L,.int .i64 ζ]] rfl qM ?_;(with_reducible refine(newelref19_Hall.calls k I J X L ζ false _ eh.out).mono ?_);rintro e my ⟨rfl,hb⟩;refine⟨_,rfl, ?_⟩;replace μ :=sRb μ hb;replace ν :=sRb ν hb;replace a4:=sRb a4 hb;replace a5:=sRb a5 hb;replace Y:=sBk Y hb;replace Z:=sBk Z hb;replace O:=sBk O hb;replace ρ:=sBk ρ hb;replace HB:=sHb hb;(try clear hb);(try clear a0);(try clear hk);(try clear hi))|((with_reducible refine Q0 (f:=10) rfl ?_);refine Zk (some 39) rfl rfl Try.func10 kr rfl #[] rfl qM ?_;(with_reducible refine(newellaw19_awake.calls k  true _ lh.out).mono ?_);rintro e mf ⟨rfl,hb⟩;refine⟨_,rfl, ?_⟩;replace μ :=sRb μ hb;replace ν :=sRb ν hb;replace a4:=sRb a4 hb;replace a5:=sRb a5 hb;replace Y:=sBk Y hb;replace Z:=sBk Z hb;replace O:=sBk O hb;replace ρ:=sBk ρ hb;replace HB:=sHb hb;(try clear hb);(try clear a0);(try clear hk);(try clear hi);obtain⟨he,hh,hj,hl⟩:=qD2 ρ.out)|(go_at_call 15;(refine(newelref19_Same.calls k _ _ ae _ _ af _ _ ([]:List (S56)) _ _ ([]:List (S62)) bh _ ?side1 ?side2 ?side3 ?side4 ?side5 ?side6 ?side7 ?side8 ll.out).mono ?_);(case side1=>repeat(first|exact(Kd.Qo a4.out).2.2|(with_reducible refine Kd.Za ?_ _)|(with_reducible refine Kd.Q9 ?_ _)|(with_reducible refine Kd.Zf ?_)));(case side2=>exact(Kd.Qo a4.out).2.1);(case side3=>repeat(first|exact(Kd.Qo a5.out).2.2|(with_reducible refine Kd.Za ?_ _)|(with_reducible refine Kd.Q9 ?_ _)|(with_reducible refine Kd.Zf ?_)));(case side4=>exact(Kd.Qo a5.out).2.1);(case side5=>exact Kd.Gf _ _);(case side6=>exact Nat.le_refl _);(case side7=>exact Kd.Gf _ _);(case side8=>exact Nat.le_refl _);rintro e mz ⟨rfl,hb⟩;have U:=Aside0.mk (Kd.Qu (kra μ) hb);have γ:=Aside0.mk (Kd.Qu (kra ν) hb);have ι :=Aside0.mk (Kd.Qu (kra a4) hb);have κ :=Aside0.mk (Kd.Qu (kra a5) hb);have ξ :=Aside0.mk (Qm (g:=ao) (o:=.cells #[.int .i64 I,.int .i64 J] 23 (0,0)) (bka Y) hb);have χ :=Aside0.mk (Qm (g:=an) (o:=.cells #[.slice η B.length δ,.slice θ D.length ε] 27 (0,0)) (bka Z) hb);have a1:=Aside0.mk (Qm (g:=a3) (o:=.cells #[.int .i64 X,.int .i64 L,.int .i64 ζ] 56 (0,0)) (bka O) hb);have ak:=Aside0.mk (Qm (g:= τ) (o:=.cells #[.slice fv ae.length g3,.slice io af.length ip] 27 (0,0)) (bka ρ) hb);have am:=Aside0.mk (Qt bel hb);clear μ;clear ν;clear a4;clear a5;clear Y;clear Z;clear O;clear ρ;clear HB;have μ :=U;have ν :=γ;have a4:= ι;have a5:= κ;have Y:= ξ;have Z:= χ;have O:=a1;have ρ:=ak;have HB:=am;clear U γ ι κ ξ χ a1 ak am;(try clear hb);(try clear a0);(try clear hk);(try clear hi)))
      go_ret
      exact⟨rfl,HB.out⟩
     ·rw[if_neg ei] at H
      exact absurd H (by simp)
    ·replace ef:=Bool.eq_false_iff.mpr ef
     subst ef
     have H1:(none)=some r:=by rw[if_neg (show ¬ (false=true) by decide)] at H;exact H
     clear H
     have H:=H1
     clear H1
     exact absurd H (by simp)
  ·replace c9:=Bool.eq_false_iff.mpr c9
   subst c9
   have H1:((newellaw19_awake.f k).bind fun bu=>(if bu=true then (if ay=190 then ((newelref19_Same.f k ae af ([]:List (S56)) ([]:List (S62))).bind fun bn=>(some bn)) else (none)) else (none)))=some r:=by rw[if_neg (show ¬ (false=true) by decide)] at H;exact H
   clear H
   have H:=H1
   clear H1
   replace H:=Option.bind_eq_some_iff.mp H
   obtain⟨bu,ir,H⟩:=H
   replace H:(if bu=true then (if ay=190 then ((newelref19_Same.f k ae af ([]:List (S56)) ([]:List (S62))).bind fun bn=>(some bn)) else (none)) else (none))=some r:=H
   have ln:=Aside0.mk ir
   clear ir
   by_cases g4:bu=true
   ·subst g4
    have H1:(if ay=190 then ((newelref19_Same.f k ae af ([]:List (S56)) ([]:List (S62))).bind fun bn=>(some bn)) else (none))=some r:=by rw[if_pos rfl] at H;exact H
    clear H
    have H:=H1
    clear H1
    by_cases fu:ay=190
    ·rw[if_pos fu] at H
     have c93b0:(ay==190)=true:=beq_iff_eq.mpr fu
     have c93b1:(ay != 190)=false:=bne_eq_false_iff_eq.mpr fu
     clear fu
     replace H:=Option.bind_eq_some_iff.mp H
     obtain⟨bn,it,H⟩:=H
     replace H:(some bn)=some r:=H
     have lp:=Aside0.mk it
     clear it
     obtain rfl:=Option.some.inj H
     go_enter Try.func5,Try.ntmps5
     try go_wp2_with (first|((with_reducible refine Qr (N:=3) rfl ?_);refine qE 3 #[.int .i64 I,.int .i64 J] 23 ?_;intro ao hg mh hbox hb;have Y:=Aside0.mk hbox;have ek:=sGe hg;have fh:=sGe hg;replace HB:=sHb hb;clear hb hbox hg)|((with_reducible refine Qr (N:=4) rfl ?_);refine qE 4 #[.slice η B.length δ,.slice θ D.length ε] 27 ?_;intro an hg mi hbox hb;have Z:=Aside0.mk hbox;have el:=sGe hg;have fi:=sGe hg;have ca:=sNl Y hg;have cp:=sNg Y hg;replace Y:=sBk Y hb;replace HB:=sHb hb;clear hb hbox hg)|((with_reducible refine Qr (N:=5) rfl ?_);refine qE 5 #[.int .i64 X,.int .i64 L,.int .i64 ζ] 56 ?_;intro a3 hg n1 hbox hb;have O:=Aside0.mk hbox;have eo:=sGe hg;have fj:=sGe hg;have cw:=sNl Y hg;have cx:=sNg Y hg;have cq:=sNl Z hg;have cr:=sNg Z hg;replace Y:=sBk Y hb;replace Z:=sBk Z hb;replace HB:=sHb hb;clear hb hbox hg;have jd:=cp.out;have je:=ca.out;have ma:=cq.out;have mb:=cr.out;obtain⟨j8,j9,ja,jf⟩:=qD2 Z.out)|((with_reducible refine Q0 (f:=9) rfl ?_);refine Zk (some 10) rfl rfl Try.func9 kr rfl #[.agg #[.slice η B.length δ,.slice θ D.length ε]] rfl qM ?_;(with_reducible refine(newelref19_Few.calls _ _ B _ _ D true _ ?side1 ?side2 ?side3 ?side4 A4.out).mono ?_);(case side1=>exact(Kd.Qx ag.out HB.out));(case side2=>exact ar.out);(case side3=>exact(Kd.Qx ah.out HB.out));(case side4=>exact aw.out);rintro e kj ⟨rfl,hb⟩;refine⟨_,rfl, ?_⟩;replace Y:=sBk Y hb;replace Z:=sBk Z hb;replace O:=sBk O hb;replace HB:=sHb hb;(try clear hb);(try clear a0);(try clear hk);(try clear hi)))
     replace Y:=Aside0.mk (Qa Y.out)
     replace Z:=Aside0.mk (Qa Z.out)
     replace O:=Aside0.mk (Qa O.out)
     replace HB:=Aside0.mk (Qf HB.out)
     refine Zn (n:=11) (S:=fun w'=>w'.cell? ⟨ao,0,none⟩=some (.int .i64 I)∧w'.cell? ⟨ao,1,none⟩=some (.int .i64 J)∧w'.cell? ⟨an,0,none⟩=some (.slice η B.length δ)∧w'.cell? ⟨an,1,none⟩=some (.slice θ D.length ε)∧w'.cell? ⟨a3,0,none⟩=some (.int .i64 X)∧w'.cell? ⟨a3,1,none⟩=some (.int .i64 L)∧w'.cell? ⟨a3,2,none⟩=some (.int .i64 ζ)) (ds:=[]) #[false,false,false,false,false,false,false,false,false,false,false] kr rfl rfl ⟨(Ql Y.out 0).trans rfl,(Ql Y.out 1).trans rfl,(Ql Z.out 0).trans rfl,(Ql Z.out 1).trans rfl,(Ql O.out 0).trans rfl,(Ql O.out 1).trans rfl,(Ql O.out 2).trans rfl⟩ (fun hHeld=>?_);refine Q8 newellaw19_CallGives.Wn newellaw19_CallGives.Vh (fun HT_ HW_=>?_)
     generalize kj.drew=ik at Y Z O HB hHeld ⊢
     refine qT 0 (some 14) (bN 11 1) HT_ HW_ hHeld ?_
     refine qT 1 (some 15) (bN 11 3) HT_ HW_ hHeld ?_
     refine qT 3 (some 17) (bN 11 11) HT_ HW_ hHeld ?_
     refine K9 (σ:=Value×Value×Value×Value×Nat) 2 (bN 11 511) (fun s_=>[(16,.agg #[s_.1,s_.2.1]),(18,.tuple #[.agg #[s_.2.2.1,s_.2.2.2.1],.int .i64 ay]),(7,.pointer (some ⟨s_.2.2.2.2,0,none⟩)),(13,.tuple #[.agg #[s_.2.2.1,s_.2.2.2.1],.int .i64 ay]),(19,.agg #[s_.2.2.1,s_.2.2.2.1]),(20,.int .i64 ay)]) (fun s_ w'=>(w'.cell? ⟨ao,0,none⟩=some (.int .i64 I)∧w'.cell? ⟨ao,1,none⟩=some (.int .i64 J)∧w'.cell? ⟨an,0,none⟩=some (.slice η B.length δ)∧w'.cell? ⟨an,1,none⟩=some (.slice θ D.length ε)∧w'.cell? ⟨a3,0,none⟩=some (.int .i64 X)∧w'.cell? ⟨a3,1,none⟩=some (.int .i64 L)∧w'.cell? ⟨a3,2,none⟩=some (.int .i64 ζ))∧(Kd.R k56 56 w' w.heap.size (fun k_=>some k_≠(s_.2.2.1:Value).ownBlock∧k_≠a3) s_.1 b2)∧(Kd.R k62 62 w' w.heap.size (fun k_=>some k_≠(s_.2.2.2.1:Value).ownBlock) s_.2.1 b3)∧(Kd.R k56 56 w' w.heap.size (fun k_=>some k_≠(s_.1:Value).ownBlock∧k_≠a3) s_.2.2.1 ae)∧(Kd.R k62 62 w' w.heap.size (fun k_=>some k_≠(s_.2.1:Value).ownBlock) s_.2.2.2.1 af)∧(w'.heap[ao]?=some (.cells #[.int .i64 I,.int .i64 J] 23 (0,0)))∧(w'.heap[an]?=some (.cells #[.slice η B.length δ,.slice θ D.length ε] 27 (0,0)))∧(w'.heap[a3]?=some (.cells #[.int .i64 X,.int .i64 L,.int .i64 ζ] 56 (0,0)))∧(w'.heap[s_.2.2.2.2]?=some (.cells #[.slice none 0 0,.slice none 0 0] 27 (0,0)))∧(w.heap.size≤s_.2.2.2.2)∧(w.heap.size≤s_.2.2.2.2)∧(ao≠s_.2.2.2.2)∧(s_.2.2.2.2≠ao)∧(an≠s_.2.2.2.2)∧(s_.2.2.2.2≠an)∧(a3≠s_.2.2.2.2)∧(s_.2.2.2.2≠a3)∧(Below w.heap.size w w')) ?_ ?_
     rotate_left
     ·intro hCont
      refine Kj (i:=2) (j:=8) (Ni:=some 16) (Nj:=some 7) (bN 11 15) (bN 11 267) rfl rfl rfl rfl (Ye HT_.out kr) (by decide) (by decide) (fun K hK=>?_) (fun K hK=>?_)
      ·skip
       refine Ze Try.func12 kr rfl #[.agg #[.slice η B.length δ,.slice θ D.length ε]] (by rfl) rfl rfl qM ?_
       with_reducible refine(newellaw19_Own.calls _ _ B _ _ D b2 b3 _ ?side1 ?side2 ?side3 ?side4 A6.out).mono ?_
       (case side1=>exact(Kd.Qx ag.out HB.out))
       (case side2=>exact ar.out)
       (case side3=>exact(Kd.Qx ah.out HB.out))
       (case side4=>exact aw.out)
       rintro e ih ⟨cu,cv,rfl,φ,a7,hb⟩
       refine⟨_,rfl, ?_⟩
       have μ :=Aside0.mk (Kd.Q2 (Kd.Zs φ (g:=a3) (o:=.cells #[.int .i64 X,.int .i64 L,.int .i64 ζ] 56 (0,0)) O.out) (Qi HB.out))
       have ν :=Aside0.mk (Kd.Q2 a7 (Qi HB.out))
       replace Y:=sBk Y hb
       replace Z:=sBk Z hb
       replace O:=sBk O hb
       replace HB:=sHb hb
       (try clear hb)
       (try clear a0)
       (try clear hk)
       (try clear hi)
       (try clear φ)
       (try clear a7)
       obtain⟨dh,di,dj⟩:=Kd.Q4 μ.out
       (first|subst dj|(injection dj with ψ aa ω;have ab:= ψ.symm;have ac:= ω.symm;clear ψ aa ω;subst ab;subst ac))
       obtain⟨cg,ch,ci⟩:=Kd.Q4 ν.out
       (first|subst ci|(injection ci with ψ aa ω;have ab:= ψ.symm;have ac:= ω.symm;clear ψ aa ω;subst ab;subst ac))
       refine hK.out _ _ ⟨qc Y,qc Y,qc Z,qc Z,qc O,qc O,qc O⟩ (fun hHeld=>?_)
       clear hK K
       refine qN (some 16) ?_
       refine Kj (i:=4) (j:=8) (Ni:=some 18) (Nj:=some 7) (bN 11 31) (bN 11 271) rfl rfl rfl rfl (Ye HT_.out kr) (by decide) (by decide) (fun K hK=>?_) (fun K hK=>?_)
       ·skip
        refine Ze Try.func24 kr rfl #[.agg #[.int .i64 I,.int .i64 J],.agg #[.slice dh b2.length di,.slice cg b3.length ch],.agg #[.int .i64 X,.int .i64 L,.int .i64 ζ]] (by rfl) rfl rfl qM ?_
        with_reducible refine(call_Give.calls k I J _ _ b2 _ _ b3 X L ζ ae af ay _ ?side1 ?side2 ?side3 ?side4 A7.out).mono ?_
        (case side1=>exact(Kd.Qo μ.out).2.2)
        (case side2=>exact(Kd.Qo μ.out).2.1)
        (case side3=>exact(Kd.Qo ν.out).2.2)
        (case side4=>exact(Kd.Qo ν.out).2.1)
        rintro e iu ⟨bi,bj,rfl,φ,a7,hb⟩
        refine⟨_,rfl, ?_⟩
        have a4:=Aside0.mk (Kd.Q2 (Kd.Zs (Kd.Zl φ (Kd.Zy μ.out)) (g:=a3) (o:=.cells #[.int .i64 X,.int .i64 L,.int .i64 ζ] 56 (0,0)) O.out) (Qi HB.out))
        have a5:=Aside0.mk (Kd.Q2 (Kd.Zl a7 (Kd.Zy ν.out)) (Qi HB.out))
        replace μ :=Aside0.mk (Kd.Q7 μ.out (Kd.Zh φ) hb)
        replace ν :=Aside0.mk (Kd.Q7 ν.out (Kd.Zh a7) hb)
        replace Y:=sBk Y hb
        replace Z:=sBk Z hb
        replace O:=sBk O hb
        replace HB:=sHb hb
        (try clear hb)
        (try clear a0)
        (try clear hk)
        (try clear hi)
        (try clear φ)
        (try clear a7)
        refine hK.out _ _ ⟨qc Y,qc Y,qc Z,qc Z,qc O,qc O,qc O⟩ (fun hHeld=>?_)
        clear hK K
        refine qN (some 18) ?_
        refine qP 5 (some 13) (bN 11 63) HT_ ?_
        refine qP 6 (some 19) (bN 11 127) HT_ ?_
        refine qP 7 (some 20) (bN 11 255) HT_ ?_
        refine Zg (i:=8) (N:=some 7) (bN 11 511) rfl rfl (Q1 HT_.out kr) (by decide) (fun K hK=>?_)
        refine Xk ?hg (N:=7) ?hd (cs:=#[.slice none 0 0,.slice none 0 0]) (t:=27) ?hr ?_;(case hd=>rfl);(case hg=>rfl);(case hr=>go_simp <;> rfl)
        intro τ hg bw hbox hb
        have ρ:=Aside0.mk hbox
        have bd:=sGe hg
        have bk:=sGe hg
        have a6:=sNl Y hg
        have ai:=sNg Y hg
        have a8:=sNl Z hg
        have aj:=sNg Z hg
        have a2:=sNl O hg
        have al:=sNg O hg
        replace μ :=sRb μ hb
        replace ν :=sRb ν hb
        replace a4:=sRb a4 hb
        replace a5:=sRb a5 hb
        replace Y:=sBk Y hb
        replace Z:=sBk Z hb
        replace O:=sBk O hb
        replace HB:=sHb hb
        clear hb hbox hg
        refine hK.out _ _ ⟨qc Y,qc Y,qc Z,qc Z,qc O,qc O,qc O⟩ (fun hHeld=>?_)
        clear hK K
        refine qN (some 7) ?_
        exact Xj (by simp only[Zx,Act.put,qS]) (hCont (.slice dh b2.length di,.slice cg b3.length ch,bi,bj,τ) _ ⟨hHeld,(by(with_reducible repeat first|apply Kd.Qk|apply Kd.Qj|apply Kd.Qn);exact Kd.Qq μ.out (fun _ hk=>⟨hk.2,hk.1.2⟩)),(by(with_reducible repeat first|apply Kd.Qk|apply Kd.Qj|apply Kd.Qn);exact Kd.Qq ν.out (fun _ hk=>hk.2)),(by(with_reducible repeat first|apply Kd.Qk|apply Kd.Qj|apply Kd.Qn);exact Kd.Qq a4.out (fun _ hk=>⟨hk.1.2,hk.2⟩)),(by(with_reducible repeat first|apply Kd.Qk|apply Kd.Qj|apply Kd.Qn);exact Kd.Qq a5.out (fun _ hk=>hk.2)),Y.out,Z.out,O.out,ρ.out,bd.out,bk.out,a6.out,ai.out,a8.out,aj.out,a2.out,al.out,HB.out⟩)
       ·skip
        refine Xk ?hg (N:=7) ?hd (cs:=#[.slice none 0 0,.slice none 0 0]) (t:=27) ?hr ?_;(case hd=>rfl);(case hg=>rfl);(case hr=>go_simp <;> rfl)
        intro τ hg iw hbox hb
        have ρ:=Aside0.mk hbox
        have bd:=sGe hg
        have bk:=sGe hg
        have a6:=sNl Y hg
        have ai:=sNg Y hg
        have a8:=sNl Z hg
        have aj:=sNg Z hg
        have a2:=sNl O hg
        have al:=sNg O hg
        replace μ :=sRb μ hb
        replace ν :=sRb ν hb
        replace Y:=sBk Y hb
        replace Z:=sBk Z hb
        replace O:=sBk O hb
        replace HB:=sHb hb
        clear hb hbox hg
        obtain⟨cg,ch,ci⟩:=Kd.Q4 μ.out
        (first|subst ci|(injection ci with ψ aa ω;have ab:= ψ.symm;have ac:= ω.symm;clear ψ aa ω;subst ab;subst ac))
        obtain⟨e8,e9,eb⟩:=Kd.Q4 ν.out
        (first|subst eb|(injection eb with ψ aa ω;have ab:= ψ.symm;have ac:= ω.symm;clear ψ aa ω;subst ab;subst ac))
        refine hK.out _ _ ⟨qc Y,qc Y,qc Z,qc Z,qc O,qc O,qc O⟩ (fun hHeld=>?_)
        clear hK K
        refine qN (some 7) ?_
        refine Zg (i:=4) (N:=some 18) (bN 11 287) rfl rfl (Q1 HT_.out kr) (by decide) (fun K hK=>?_)
        refine Ze Try.func24 kr rfl #[.agg #[.int .i64 I,.int .i64 J],.agg #[.slice cg b2.length ch,.slice e8 b3.length e9],.agg #[.int .i64 X,.int .i64 L,.int .i64 ζ]] (by rfl) rfl rfl qM ?_
        with_reducible refine(call_Give.calls k I J _ _ b2 _ _ b3 X L ζ ae af ay _ ?side1 ?side2 ?side3 ?side4 A7.out).mono ?_
        (case side1=>exact(Kd.Qo μ.out).2.2)
        (case side2=>exact(Kd.Qo μ.out).2.1)
        (case side3=>exact(Kd.Qo ν.out).2.2)
        (case side4=>exact(Kd.Qo ν.out).2.1)
        rintro e bw ⟨bi,bj,rfl,φ,a7,hb⟩
        refine⟨_,rfl, ?_⟩
        have a4:=Aside0.mk (Kd.Q2 (Kd.Zs (Kd.Zl φ (Kd.Zy μ.out)) (g:=a3) (o:=.cells #[.int .i64 X,.int .i64 L,.int .i64 ζ] 56 (0,0)) O.out) (Qi HB.out))
        have a5:=Aside0.mk (Kd.Q2 (Kd.Zl a7 (Kd.Zy ν.out)) (Qi HB.out))
        replace μ :=Aside0.mk (Kd.Q7 μ.out (Kd.Zh φ) hb)
        replace ν :=Aside0.mk (Kd.Q7 ν.out (Kd.Zh a7) hb)
        replace Y:=sBk Y hb
        replace Z:=sBk Z hb
        replace O:=sBk O hb
        replace ρ:=sBk ρ hb
        replace HB:=sHb hb
        (try clear hb)
        (try clear a0)
        (try clear hk)
        (try clear hi)
        (try clear φ)
        (try clear a7)
        refine hK.out _ _ ⟨qc Y,qc Y,qc Z,qc Z,qc O,qc O,qc O⟩ (fun hHeld=>?_)
        clear hK K
        refine qN (some 18) ?_
        refine qP 5 (some 13) (bN 11 319) HT_ ?_
        refine qP 6 (some 19) (bN 11 383) HT_ ?_
        refine qP 7 (some 20) (bN 11 511) HT_ ?_
        exact Xj (by simp only[Zx,Act.put,qS]) (hCont (.slice cg b2.length ch,.slice e8 b3.length e9,bi,bj,τ) _ ⟨hHeld,(by(with_reducible repeat first|apply Kd.Qk|apply Kd.Qj|apply Kd.Qn);exact Kd.Qq μ.out (fun _ hk=>⟨hk.2,hk.1.2⟩)),(by(with_reducible repeat first|apply Kd.Qk|apply Kd.Qj|apply Kd.Qn);exact Kd.Qq ν.out (fun _ hk=>hk.2)),(by(with_reducible repeat first|apply Kd.Qk|apply Kd.Qj|apply Kd.Qn);exact Kd.Qq a4.out (fun _ hk=>⟨hk.1.2,hk.2⟩)),(by(with_reducible repeat first|apply Kd.Qk|apply Kd.Qj|apply Kd.Qn);exact Kd.Qq a5.out (fun _ hk=>hk.2)),Y.out,Z.out,O.out,ρ.out,bd.out,bk.out,a6.out,ai.out,a8.out,aj.out,a2.out,al.out,HB.out⟩)
      ·skip
       refine Xk ?hg (N:=7) ?hd (cs:=#[.slice none 0 0,.slice none 0 0]) (t:=27) ?hr ?_;(case hd=>rfl);(case hg=>rfl);(case hr=>go_simp <;> rfl)
       intro τ hg ih hbox hb
       have ρ:=Aside0.mk hbox
       have bd:=sGe hg
       have bk:=sGe hg
       have a6:=sNl Y hg
       have ai:=sNg Y hg
       have a8:=sNl Z hg
       have aj:=sNg Z hg
       have a2:=sNl O hg
       have al:=sNg O hg
       replace Y:=sBk Y hb
       replace Z:=sBk Z hb
       replace O:=sBk O hb
       replace HB:=sHb hb
       clear hb hbox hg
       refine hK.out _ _ ⟨qc Y,qc Y,qc Z,qc Z,qc O,qc O,qc O⟩ (fun hHeld=>?_)
       clear hK K
       refine qN (some 7) ?_
       refine Zg (i:=2) (N:=some 16) (bN 11 271) rfl rfl (Q1 HT_.out kr) (by decide) (fun K hK=>?_)
       refine Ze Try.func12 kr rfl #[.agg #[.slice η B.length δ,.slice θ D.length ε]] (by rfl) rfl rfl qM ?_
       with_reducible refine(newellaw19_Own.calls _ _ B _ _ D b2 b3 _ ?side1 ?side2 ?side3 ?side4 A6.out).mono ?_
       (case side1=>exact(Kd.Qx ag.out HB.out))
       (case side2=>exact ar.out)
       (case side3=>exact(Kd.Qx ah.out HB.out))
       (case side4=>exact aw.out)
       rintro e iw ⟨cu,cv,rfl,φ,a7,hb⟩
       refine⟨_,rfl, ?_⟩
       have μ :=Aside0.mk (Kd.Q2 (Kd.Zs φ (g:=a3) (o:=.cells #[.int .i64 X,.int .i64 L,.int .i64 ζ] 56 (0,0)) O.out) (Qi HB.out))
       have ν :=Aside0.mk (Kd.Q2 a7 (Qi HB.out))
       replace Y:=sBk Y hb
       replace Z:=sBk Z hb
       replace O:=sBk O hb
       replace ρ:=sBk ρ hb
       replace HB:=sHb hb
       (try clear hb)
       (try clear a0)
       (try clear hk)
       (try clear hi)
       (try clear φ)
       (try clear a7)
       obtain⟨cg,ch,ci⟩:=Kd.Q4 μ.out
       (first|subst ci|(injection ci with ψ aa ω;have ab:= ψ.symm;have ac:= ω.symm;clear ψ aa ω;subst ab;subst ac))
       obtain⟨e8,e9,eb⟩:=Kd.Q4 ν.out
       (first|subst eb|(injection eb with ψ aa ω;have ab:= ψ.symm;have ac:= ω.symm;clear ψ aa ω;subst ab;subst ac))
       refine hK.out _ _ ⟨qc Y,qc Y,qc Z,qc Z,qc O,qc O,qc O⟩ (fun hHeld=>?_)
       clear hK K
       refine qN (some 16) ?_
       refine Zg (i:=4) (N:=some 18) (bN 11 287) rfl rfl (Q1 HT_.out kr) (by decide) (fun K hK=>?_)
       refine Ze Try.func24 kr rfl #[.agg #[.int .i64 I,.int .i64 J],.agg #[.slice cg b2.length ch,.slice e8 b3.length e9],.agg #[.int .i64 X,.int .i64 L,.int .i64 ζ]] (by rfl) rfl rfl qM ?_
       with_reducible refine(call_Give.calls k I J _ _ b2 _ _ b3 X L ζ ae af ay _ ?side1 ?side2 ?side3 ?side4 A7.out).mono ?_
       (case side1=>exact(Kd.Qo μ.out).2.2)
       (case side2=>exact(Kd.Qo μ.out).2.1)
       (case side3=>exact(Kd.Qo ν.out).2.2)
       (case side4=>exact(Kd.Qo ν.out).2.1)
       rintro e bw ⟨bi,bj,rfl,φ,a7,hb⟩
       refine⟨_,rfl, ?_⟩
       have a4:=Aside0.mk (Kd.Q2 (Kd.Zs (Kd.Zl φ (Kd.Zy μ.out)) (g:=a3) (o:=.cells #[.int .i64 X,.int .i64 L,.int .i64 ζ] 56 (0,0)) O.out) (Qi HB.out))
       have a5:=Aside0.mk (Kd.Q2 (Kd.Zl a7 (Kd.Zy ν.out)) (Qi HB.out))
       replace μ :=Aside0.mk (Kd.Q7 μ.out (Kd.Zh φ) hb)
       replace ν :=Aside0.mk (Kd.Q7 ν.out (Kd.Zh a7) hb)
       replace Y:=sBk Y hb
       replace Z:=sBk Z hb
       replace O:=sBk O hb
       replace ρ:=sBk ρ hb
       replace HB:=sHb hb
       (try clear hb)
       (try clear a0)
       (try clear hk)
       (try clear hi)
       (try clear φ)
       (try clear a7)
       refine hK.out _ _ ⟨qc Y,qc Y,qc Z,qc Z,qc O,qc O,qc O⟩ (fun hHeld=>?_)
       clear hK K
       refine qN (some 18) ?_
       refine qP 5 (some 13) (bN 11 319) HT_ ?_
       refine qP 6 (some 19) (bN 11 383) HT_ ?_
       refine qP 7 (some 20) (bN 11 511) HT_ ?_
       exact Xj (by simp only[Zx,Act.put,qS]) (hCont (.slice cg b2.length ch,.slice e8 b3.length e9,bi,bj,τ) _ ⟨hHeld,(by(with_reducible repeat first|apply Kd.Qk|apply Kd.Qj|apply Kd.Qn);exact Kd.Qq μ.out (fun _ hk=>⟨hk.2,hk.1.2⟩)),(by(with_reducible repeat first|apply Kd.Qk|apply Kd.Qj|apply Kd.Qn);exact Kd.Qq ν.out (fun _ hk=>hk.2)),(by(with_reducible repeat first|apply Kd.Qk|apply Kd.Qj|apply Kd.Qn);exact Kd.Qq a4.out (fun _ hk=>⟨hk.1.2,hk.2⟩)),(by(with_reducible repeat first|apply Kd.Qk|apply Kd.Qj|apply Kd.Qn);exact Kd.Qq a5.out (fun _ hk=>hk.2)),Y.out,Z.out,O.out,ρ.out,bd.out,bk.out,a6.out,ai.out,a8.out,aj.out,a2.out,al.out,HB.out⟩)
     rintro⟨cu,cv,bi,bj,τ⟩ bz ⟨hS_,cj,ck,cm,cn,co,dv,dw,dx,dy,dz,d9,da,db,dc,dd,de,df⟩
     have U:Aside0 (Kd.R k56 56 bz w.heap.size (fun k_=>some k_≠(bi:Value).ownBlock∧k_≠a3) cu b2):=⟨cj⟩
     have γ:Aside0 (Kd.R k62 62 bz w.heap.size (fun k_=>some k_≠(bj:Value).ownBlock) cv b3):=⟨ck⟩
     have ι :Aside0 (Kd.R k56 56 bz w.heap.size (fun k_=>some k_≠(cu:Value).ownBlock∧k_≠a3) bi ae):=⟨cm⟩
     have κ :Aside0 (Kd.R k62 62 bz w.heap.size (fun k_=>some k_≠(cv:Value).ownBlock) bj af):=⟨cn⟩
     have ξ :Aside0 (bz.heap[ao]?=some (.cells #[.int .i64 I,.int .i64 J] 23 (0,0))):=⟨co⟩
     have χ :Aside0 (bz.heap[an]?=some (.cells #[.slice η B.length δ,.slice θ D.length ε] 27 (0,0))):=⟨dv⟩
     have a1:Aside0 (bz.heap[a3]?=some (.cells #[.int .i64 X,.int .i64 L,.int .i64 ζ] 56 (0,0))):=⟨dw⟩
     have ak:Aside0 (bz.heap[τ]?=some (.cells #[.slice none 0 0,.slice none 0 0] 27 (0,0))):=⟨dx⟩
     have am:Aside0 (w.heap.size ≤ τ):=⟨dy⟩
     have ax:Aside0 (w.heap.size ≤ τ):=⟨dz⟩
     have ap:Aside0 (ao ≠ τ):=⟨d9⟩
     have av:Aside0 (τ ≠ ao):=⟨da⟩
     have b0:Aside0 (an ≠ τ):=⟨db⟩
     have b8:Aside0 (τ ≠ an):=⟨dc⟩
     have b9:Aside0 (a3 ≠ τ):=⟨dd⟩
     have be:Aside0 (τ ≠ a3):=⟨de⟩
     have bf:Aside0 (Below w.heap.size w bz):=⟨df⟩
     clear Y
     clear Z
     clear O
     clear HB
     clear cj ck cm cn co dv dw dx dy dz d9 da db dc dd de df
     have μ :=U
     have ν :=γ
     have a4:= ι
     have a5:= κ
     have Y:= ξ
     have Z:= χ
     have O:=a1
     have ρ:=ak
     have bd:=am
     have bk:=ax
     have a6:=ap
     have ai:=av
     have a8:=b0
     have aj:=b8
     have a2:=b9
     have al:=be
     have HB:=bf
     clear U γ ι κ ξ χ a1 ak am ax ap av b0 b8 b9 be bf
     have hHeld:bz.cell? ⟨ao,0,none⟩=some (.int .i64 I)∧bz.cell? ⟨ao,1,none⟩=some (.int .i64 J)∧bz.cell? ⟨an,0,none⟩=some (.slice η B.length δ)∧bz.cell? ⟨an,1,none⟩=some (.slice θ D.length ε)∧bz.cell? ⟨a3,0,none⟩=some (.int .i64 X)∧bz.cell? ⟨a3,1,none⟩=some (.int .i64 L)∧bz.cell? ⟨a3,2,none⟩=some (.int .i64 ζ):=hS_
     obtain⟨fq,fr,g9⟩:=Kd.Q4 a4.out
     (first|subst g9|(injection g9 with ψ aa ω;have ab:= ψ.symm;have ac:= ω.symm;clear ψ aa ω;subst ab;subst ac))
     obtain⟨ga,gf,gk⟩:=Kd.Q4 a5.out
     (first|subst gk|(injection gk with ψ aa ω;have ab:= ψ.symm;have ac:= ω.symm;clear ψ aa ω;subst ab;subst ac))
     refine Xj (a':=?_) ?_ ?_
     rotate_left
     ·simp only[Zx,Act.put,qS]
      rfl
     refine Zg (i:=9) (N:=none) (bN 11 1023) rfl rfl (Q1 HT_.out kr) (by decide) (fun K hK=>?_)
     have mc:bz.cell? ⟨τ,0,none⟩=some (.slice none 0 0):=(Ql ρ.out 0).trans rfl
     have lq:=Q6 ρ.out 0
     have jg:=a6.out
     have jh:=a8.out
     have ji:=a2.out
     have jj:=ai.out
     have jk:=aj.out
     have jm:=al.out
     have me:bz.cell? ⟨τ,1,none⟩=some (.slice none 0 0):=(Ql ρ.out 1).trans rfl
     have lr:=Q6 ρ.out 1
     have jn:=a6.out
     have jo:=a8.out
     have jp:=a2.out
     have jq:=ai.out
     have jr:=aj.out
     have js:=al.out
     refine Js (w1:=?_) (by rfl) rfl ?_ ?_
     rotate_left
     ·go_simp
      rfl
     refine hK.out _ _ ⟨((cell_far (p:=⟨τ,_,none⟩) a6.out _).trans (((cell_far (p:=⟨τ,_,none⟩) a6.out _).trans (hHeld.1)))),((cell_far (p:=⟨τ,_,none⟩) a6.out _).trans (((cell_far (p:=⟨τ,_,none⟩) a6.out _).trans (hHeld.2.1)))),((cell_far (p:=⟨τ,_,none⟩) a8.out _).trans (((cell_far (p:=⟨τ,_,none⟩) a8.out _).trans (hHeld.2.2.1)))),((cell_far (p:=⟨τ,_,none⟩) a8.out _).trans (((cell_far (p:=⟨τ,_,none⟩) a8.out _).trans (hHeld.2.2.2.1)))),((cell_far (p:=⟨τ,_,none⟩) a2.out _).trans (((cell_far (p:=⟨τ,_,none⟩) a2.out _).trans (hHeld.2.2.2.2.1)))),((cell_far (p:=⟨τ,_,none⟩) a2.out _).trans (((cell_far (p:=⟨τ,_,none⟩) a2.out _).trans (hHeld.2.2.2.2.2.1)))),((cell_far (p:=⟨τ,_,none⟩) a2.out _).trans (((cell_far (p:=⟨τ,_,none⟩) a2.out _).trans (hHeld.2.2.2.2.2.2))))⟩ (fun hHeld=>?_)
     clear hK K
     refine qP 10 (some 8) (bN 11 2047) HT_ ?_
     refine Zu (Zj HT_.out kr) ?_
     have ls:=cw.out
     have lu:=cx.out
     have lv:=a6.out
     have lx:=ai.out
     obtain⟨jt,ju,jv,jw⟩:=qD2 Y.out
     have ly:=a8.out
     have lz:=aj.out
     obtain⟨jx,jy,jz,k0⟩:=qD2 Z.out
     try go_wp2_with (first|((with_reducible refine Q0 (f:=13) rfl ?_);refine Zk (some 23) rfl rfl Try.func13 kr rfl #[.agg #[.int .i64 I,.int .i64 J],.agg #[.slice η B.length δ,.slice θ D.length ε]] rfl qM ?_;(with_reducible refine(newelref19_May.calls k I J _ _ B _ _ D false _ ?side1 ?side2 ?side3 ?side4 A8.out).mono ?_);(case side1=>exact Kd.Qx ag.out bel);(case side2=>exact ar.out);(case side3=>exact Kd.Qx ah.out bel);(case side4=>exact aw.out);rintro e mo ⟨rfl,hb⟩;refine⟨_,rfl, ?_⟩;replace μ :=Aside0.mk (Kd.Qu (by(with_reducible repeat first|apply Kd.Qk|apply Kd.Qj|apply Kd.Qn);exact(Kd.Qq (Kd.Qs (Kd.Qs (Kd.Qw μ.out ρ.out (by decide)) (fun _ hk=>hk.2) _) (fun _ hk=>hk.2) _) (fun _ h_=>h_.1))) hb);replace ν :=Aside0.mk (Kd.Qu (by(with_reducible repeat first|apply Kd.Qk|apply Kd.Qj|apply Kd.Qn);exact(Kd.Qq (Kd.Qs (Kd.Qs (Kd.Qw ν.out ρ.out (by decide)) (fun _ hk=>hk.2) _) (fun _ hk=>hk.2) _) (fun _ h_=>h_.1))) hb);replace a4:=Aside0.mk (Kd.Qu (by(with_reducible repeat first|apply Kd.Qk|apply Kd.Qj|apply Kd.Qn);exact(Kd.Qq (Kd.Qs (Kd.Qs (Kd.Qw a4.out ρ.out (by decide)) (fun _ hk=>hk.2) _) (fun _ hk=>hk.2) _) (fun _ h_=>h_.1))) hb);replace a5:=Aside0.mk (Kd.Qu (by(with_reducible repeat first|apply Kd.Qk|apply Kd.Qj|apply Kd.Qn);exact(Kd.Qq (Kd.Qs (Kd.Qs (Kd.Qw a5.out ρ.out (by decide)) (fun _ hk=>hk.2) _) (fun _ hk=>hk.2) _) (fun _ h_=>h_.1))) hb);replace Y:=sBk Y hb;replace Z:=sBk Z hb;replace O:=sBk O hb;replace ρ:=Aside0.mk (Qm (g:= τ) (o:=.cells #[.slice fq ae.length fr,.slice ga af.length gf] 27 (0,0)) (by(with_reducible repeat first|apply Qd|apply Qa|apply Qe);refine Qv (cs:=#[.slice fq ae.length fr,.slice none 0 0]) ?_ 1 _ rfl;(with_reducible repeat first|apply Qd|apply Qa|apply Qe);refine Qv (cs:=#[.slice none 0 0,.slice none 0 0]) ?_ 0 _ rfl;(with_reducible repeat first|apply Qd|apply Qa|apply Qe);exact ρ.out) hb);replace HB:=sHb hb;(try clear hb);(try clear a0);(try clear hk);(try clear hi))|((with_reducible refine Q0 (f:=10) rfl ?_);refine Zk (some 25) rfl rfl Try.func10 kr rfl #[] rfl qM ?_;(with_reducible refine(newellaw19_awake.calls k  true _ ln.out).mono ?_);rintro e mq ⟨rfl,hb⟩;refine⟨_,rfl, ?_⟩;replace μ :=sRb μ hb;replace ν :=sRb ν hb;replace a4:=sRb a4 hb;replace a5:=sRb a5 hb;replace Y:=sBk Y hb;replace Z:=sBk Z hb;replace O:=sBk O hb;replace ρ:=sBk ρ hb;replace HB:=sHb hb;(try clear hb);(try clear a0);(try clear hk);(try clear hi);have ix:=al.out;have iy:=a2.out;obtain⟨gb,gg,gh,gs⟩:=qD2 ρ.out)|(go_at_call 15;(refine(newelref19_Same.calls k _ _ ae _ _ af _ _ ([]:List (S56)) _ _ ([]:List (S62)) bn _ ?side1 ?side2 ?side3 ?side4 ?side5 ?side6 ?side7 ?side8 lp.out).mono ?_);(case side1=>repeat(first|exact(Kd.Qo a4.out).2.2|(with_reducible refine Kd.Za ?_ _)|(with_reducible refine Kd.Q9 ?_ _)|(with_reducible refine Kd.Zf ?_)));(case side2=>exact(Kd.Qo a4.out).2.1);(case side3=>repeat(first|exact(Kd.Qo a5.out).2.2|(with_reducible refine Kd.Za ?_ _)|(with_reducible refine Kd.Q9 ?_ _)|(with_reducible refine Kd.Zf ?_)));(case side4=>exact(Kd.Qo a5.out).2.1);(case side5=>exact Kd.Gf _ _);(case side6=>exact Nat.le_refl _);(case side7=>exact Kd.Gf _ _);(case side8=>exact Nat.le_refl _);rintro e lw ⟨rfl,hb⟩;have U:=Aside0.mk (Kd.Qu (kra μ) hb);have γ:=Aside0.mk (Kd.Qu (kra ν) hb);have ι :=Aside0.mk (Kd.Qu (kra a4) hb);have κ :=Aside0.mk (Kd.Qu (kra a5) hb);have ξ :=Aside0.mk (Qm (g:=ao) (o:=.cells #[.int .i64 I,.int .i64 J] 23 (0,0)) (bka Y) hb);have χ :=Aside0.mk (Qm (g:=an) (o:=.cells #[.slice η B.length δ,.slice θ D.length ε] 27 (0,0)) (bka Z) hb);have a1:=Aside0.mk (Qm (g:=a3) (o:=.cells #[.int .i64 X,.int .i64 L,.int .i64 ζ] 56 (0,0)) (bka O) hb);have ak:=Aside0.mk (Qm (g:= τ) (o:=.cells #[.slice fq ae.length fr,.slice ga af.length gf] 27 (0,0)) (bka ρ) hb);have am:=Aside0.mk (Qt bel hb);clear μ;clear ν;clear a4;clear a5;clear Y;clear Z;clear O;clear ρ;clear HB;have μ :=U;have ν :=γ;have a4:= ι;have a5:= κ;have Y:= ξ;have Z:= χ;have O:=a1;have ρ:=ak;have HB:=am;clear U γ ι κ ξ χ a1 ak am;(try clear hb);(try clear a0);(try clear hk);(try clear hi)))
     go_ret
     exact⟨rfl,HB.out⟩
    ·rw[if_neg fu] at H
     exact absurd H (by simp)
   ·replace g4:=Bool.eq_false_iff.mpr g4
    subst g4
    have H1:(none)=some r:=by rw[if_neg (show ¬ (false=true) by decide)] at H;exact H
    clear H
    have H:=H1
    clear H1
    exact absurd H (by simp)
 ·replace c5:=Bool.eq_false_iff.mpr c5
  subst c5
  have H1:((newellaw19_awake.f k).bind fun dl=>(some dl))=some r:=by rw[if_neg (show ¬ (false=true) by decide)] at H;exact H
  clear H
  have H:=H1
  clear H1
  replace H:=Option.bind_eq_some_iff.mp H
  obtain⟨dl,gl,H⟩:=H
  replace H:(some dl)=some r:=H
  have k1:=Aside0.mk gl
  clear gl
  obtain rfl:=Option.some.inj H
  go_enter Try.func5,Try.ntmps5
  go_wp2_with (first|((with_reducible refine Qr (N:=3) rfl ?_);refine qE 3 #[.int .i64 I,.int .i64 J] 23 ?_;intro ao hg mr hbox hb;have Y:=Aside0.mk hbox;have ek:=sGe hg;have fh:=sGe hg;replace HB:=sHb hb;clear hb hbox hg)|((with_reducible refine Qr (N:=4) rfl ?_);refine qE 4 #[.slice η B.length δ,.slice θ D.length ε] 27 ?_;intro an hg ms hbox hb;have Z:=Aside0.mk hbox;have el:=sGe hg;have fi:=sGe hg;have ca:=sNl Y hg;have cp:=sNg Y hg;replace Y:=sBk Y hb;replace HB:=sHb hb;clear hb hbox hg)|((with_reducible refine Qr (N:=5) rfl ?_);refine qE 5 #[.int .i64 X,.int .i64 L,.int .i64 ζ] 56 ?_;intro a3 hg mt hbox hb;have O:=Aside0.mk hbox;have eo:=sGe hg;have fj:=sGe hg;have cw:=sNl Y hg;have cx:=sNg Y hg;have cq:=sNl Z hg;have cr:=sNg Z hg;replace Y:=sBk Y hb;replace Z:=sBk Z hb;replace HB:=sHb hb;clear hb hbox hg;have m0:=cp.out;have m1:=ca.out;have m2:=cq.out;have m3:=cr.out;obtain⟨k2,k3,k4,k5⟩:=qD2 Z.out)|((with_reducible refine Q0 (f:=9) rfl ?_);refine Zk (some 10) rfl rfl Try.func9 kr rfl #[.agg #[.slice η B.length δ,.slice θ D.length ε]] rfl qM ?_;(with_reducible refine(newelref19_Few.calls _ _ B _ _ D false _ ?side1 ?side2 ?side3 ?side4 A4.out).mono ?_);(case side1=>exact(Kd.Qx ag.out HB.out));(case side2=>exact ar.out);(case side3=>exact(Kd.Qx ah.out HB.out));(case side4=>exact aw.out);rintro e mu ⟨rfl,hb⟩;refine⟨_,rfl, ?_⟩;replace Y:=sBk Y hb;replace Z:=sBk Z hb;replace O:=sBk O hb;replace HB:=sHb hb;(try clear hb);(try clear a0);(try clear hk);(try clear hi))|((with_reducible refine Q0 (f:=10) rfl ?_);refine Zk (some 12) rfl rfl Try.func10 kr rfl #[] rfl qM ?_;(with_reducible refine(newellaw19_awake.calls k  dl _ k1.out).mono ?_);rintro e mw ⟨rfl,hb⟩;refine⟨_,rfl, ?_⟩;replace Y:=sBk Y hb;replace Z:=sBk Z hb;replace O:=sBk O hb;replace HB:=sHb hb;(try clear hb);(try clear a0);(try clear hk);(try clear hi)))
  go_ret
  exact⟨rfl,HB.out⟩
end Go.Proofs.Ytjehhhlhalkieaa.C
namespace Go.Proofs.Ytjehhhlhalkieaa.Call
open Go.RowKit Go.Proofs.YtjehhhlhalkieaaW.PrintWords Go.Proofs.YtjehhhlhalkieaaW.PrintLast Go.Proofs.YtjehhhlhalkieaaW.PrintMore Go.Proofs.Ytjehhhlhalkieaa.C
set_option linter.unusedVariables false
set_option linter.unusedSimpArgs false
def Gc (F C:Int) (H:List Hall) (I:List Ins) (fl dir car:Int):List Hall×List Ins×Int:=
  if okB F C H I=true then (if Xp F C fl dir car=true then (Jn ⟨fl,dir,car⟩ H,I,0) else ([],[],191)) else ([],[],190)
theorem M1 (k:Nat) (F C:Int) (H:List Hall) (I:List Ins) (fl dir car:Int) (hH:H.length<900000000) (hI:I.length<900000000) (hC:i64 C) (hd:i64 dir):
    call_Give.f (k+1) F C H I fl dir car=some (Gc F C H I fl dir car):=by
  unfold call_Give.f hallP.f Gc
  rw[Option.bind_some,Lb _ _ k F C H I _ _ _ _ _ _ _ _ hH hI hC]
  cases hok:okB F C H I
  · rfl
  · cases hb:Xp F C fl dir car
    · rfl
    · simp only[eq_self,if_true]
      unfold setP_H.f woP_I.f
      rw[if_pos ⟨Kk (by omega) hd,V5 hok⟩,if_pos (Kk (by omega) (by unfold i64;omega)),Le hok _ _ (by omega)]
      rfl
theorem Vp (fl dir car:Int) (H:List Hall) (I J:List Ins) (hm:H.length≤100000000) (j:Nat):∀ (f i:Nat) (acc:List Hall),i+j=H.length→j<f→acc.length≤i→newelref19_Give.l0 f (i:Int) H I fl dir car acc J=some (acc++Jn ⟨fl,dir,car⟩ (H.drop i),J):=by
  induction j with
  |zero=>
    intro f i acc hi hf ha
    obtain⟨f,rfl⟩:∃ m,f=m+1:=⟨f-1,by omega⟩
    simp only[newelref19_Give.l0]
    rw[if_neg (by omega),List.drop_of_length_le (by omega)]
    simp[Jn]
  |succ j ih=>
    intro f i acc hi hf ha
    obtain⟨f,rfl⟩:∃ m,f=m+1:=⟨f-1,by omega⟩
    have hlt:i<H.length:=by omega
    have ei:wrap64 ((i:Int)+1)=((i+1:Nat):Int):=by unfold wrap64;omega
    have B:=fun(z:Hall)=>ih f (i+1) (acc ++ [z]) (by omega) (by omega) (by simp;omega)
    simp only[newelref19_Give.l0]
    rw[if_pos (by omega),if_pos (by omega),Yj H i hlt,ei,List.drop_eq_getElem_cons hlt]
    generalize H[i]=y at *
    have hs:Jn ⟨fl,dir,car⟩ (y :: H.drop (i+1))=(if y.f0=fl∧y.f1=dir then (⟨fl,dir,car⟩:Hall) else y) :: Jn ⟨fl,dir,car⟩ (H.drop (i+1)):=rfl
    rw[hs]
    by_cases U:y.f0=fl
    · rw[if_pos U]
      by_cases h1:y.f1=dir
      · rw[if_pos h1,if_pos (by omega),B,if_pos ⟨U,h1⟩,U,h1,List.append_assoc]
        rfl
      · rw[if_neg h1,if_pos (by omega),B,if_neg (fun q=>h1 q.2),List.append_assoc]
        rfl
    · rw[if_neg U,if_pos (by omega),B,if_neg (fun q=>U q.1),List.append_assoc]
      rfl
theorem Ut (k:Nat) (H:List Hall) (I:List Ins) (fl dir car:Int) (hm:H.length≤100000000) (hk:H.length<k):newelref19_Give.f k H I fl dir car=some (Jn ⟨fl,dir,car⟩ H,I):=by
  unfold newelref19_Give.f
  have:=Vp fl dir car H I I hm H.length k 0 [] (by omega) hk (by simp)
  simpa using this
theorem Mr (x:Hall) (H:List Hall):(Jn x H).length=H.length:=by unfold Jn;rw[List.length_map]
theorem L4 (F C:Int) (H:List Hall) (I:List Ins) (fl dir car:Int) (hC:i64 C) (hd:i64 dir) (K:Nat) (hK:3000≤K):newellaw19_CallGives.f K F C H I fl dir car=some true:=by
  unfold newellaw19_CallGives.f
  rw[Md K (by omega)]
  rcases N0 H I with h|⟨h,h1,O⟩
  · rw[h]
    simp only[Option.bind_some]
    rfl
  rw[h,Nv H I (by omega) (by omega)]
  simp only[Option.bind_some]
  obtain⟨k,rfl⟩:∃ k,K=k+1:=⟨K-1,by omega⟩
  rw[if_pos trivial,M1 k F C H I fl dir car (by omega) (by omega) hC hd,Wt _ F C H I (by omega) (by omega) (by omega)]
  simp only[Option.bind_some]
  cases hok:okB F C H I
  · have hp:Gc F C H I fl dir car=([],[],190):=by unfold Gc;rw[hok];rfl
    rw[hp]
    simp only[Bool.false_eq_true,eq_self,if_true,if_false]
    rw[K6 _ (by omega)]
    rfl
  · obtain⟨hF,B⟩:=Lq hok
    simp only[Bool.false_eq_true,eq_self,if_true,if_false]
    rw[Gs k fl dir car hF B]
    simp only[Option.bind_some]
    cases hb:Xp F C fl dir car
    · have hp:Gc F C H I fl dir car=([],[],191):=by unfold Gc;rw[hok,hb];rfl
      rw[hp]
      simp only[Bool.false_eq_true,eq_self,if_true,if_false]
      rw[K6 _ (by omega)]
      rfl
    · have hp:Gc F C H I fl dir car=(Jn ⟨fl,dir,car⟩ H,I,0):=by unfold Gc;rw[hok,hb];rfl
      have hl:=Mr ⟨fl,dir,car⟩ H
      rw[hp]
      simp only[Bool.false_eq_true,eq_self,if_true,if_false]
      rw[Ut _ H I fl dir car (by omega) (by omega)]
      simp only[Option.bind_some]
      rw[Km _ _ _ (by omega)]
      obtain⟨Z,Y,q1⟩:=same_eq (k+1) H I (Jn ⟨fl,dir,car⟩ H) I (by omega) (by omega) (by omega)
      obtain⟨b2,e2,q2⟩:=Gr (k+1) H I (Jn ⟨fl,dir,car⟩ H) I (by omega) (by omega) (by omega)
      rw[Y,e2]
      have:Z=b2:=by
        cases Z <;> cases b2
        · rfl
        · exact absurd (q1.2 (q2.1 rfl)) (by decide)
        · exact absurd (q2.2 (q1.1 rfl)) (by decide)
        · rfl
      simp[this]
end Go.Proofs.Ytjehhhlhalkieaa.Call
