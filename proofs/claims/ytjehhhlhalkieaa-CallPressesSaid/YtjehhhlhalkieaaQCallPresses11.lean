/- Texts of this claim, one behind the other: what the law's functions come to, walked (printed by a program, with the words that the print uses), and what that is, in plain Lean. No conditions of their own. -/
import Derived.Test.YtjehhhlhalkieaaQCallPresses10
namespace Go.Proofs.Ytjehhhlhalkieaa.C
open Go.RowKit Go.Proofs.YtjehhhlhalkieaaW.PrintWords Go.Proofs.YtjehhhlhalkieaaW.PrintLast Go.Proofs.YtjehhhlhalkieaaW.PrintMore
attribute [local go_sem] Z4 Z2 Xe Xd Zx Zw Z3 Z1
set_option linter.unusedVariables false
set_option linter.unusedSimpArgs false
def newellaw19_CallPresses.f (k:Nat) (J:Int) (D:Int) (B:List (S56)) (I:List (S62)) (δ :Int) (L:Int) (θ :Int):Option (Bool):=(newelref19_Few.f B I).bind fun ev=>(if ev=true then ((newellaw19_Own.f B I).bind fun cz=>((call_Press.f k J D cz.1 cz.2 δ L θ).bind fun ac=>((newelref19_May.f k J D B I).bind fun d1=>(if d1=true then ((newelref19_Button.f J D δ L θ).bind fun br=>(if br=true then ((newellaw19_awake.f k).bind fun bn=>(if bn=true then (if ac.2.2=0 then ((call_Check.f k J D B I).bind fun bd=>(if bd=0 then ((newelref19_Press.f k B I δ L θ).bind fun b0=>((newelref19_Same.f k ac.1 ac.2.1 b0.1 b0.2).bind fun bc=>(some bc))) else (none))) else (none)) else (none))) else ((newellaw19_awake.f k).bind fun bo=>(if bo=true then (if ac.2.2=191 then ((call_Check.f k J D B I).bind fun bg=>(if bg=0 then ((newelref19_Same.f k ac.1 ac.2.1 ([]:List (S56)) ([]:List (S62))).bind fun bh=>(some bh)) else (none))) else (none)) else (none))))) else ((newellaw19_awake.f k).bind fun bs=>(if bs=true then (if ac.2.2=190 then ((call_Check.f k J D B I).bind fun bl=>(if bl=ac.2.2 then ((newelref19_Same.f k ac.1 ac.2.1 ([]:List (S56)) ([]:List (S62))).bind fun bm=>(some bm)) else (none))) else (none)) else (none))))))) else ((newellaw19_awake.f k).bind fun dn=>(some dn)))
theorem newellaw19_CallPresses.mono:∀ D L a2 X I a5 J k,LeO (newellaw19_CallPresses.f k D L a2 X I a5 J) (newellaw19_CallPresses.f (k+1) D L a2 X I a5 J):=by
 intro D L a2 X I a5 J k
 unfold newellaw19_CallPresses.f
 repeat' first
   |(with_reducible exact call_Check.mono _ _ _ _ _)
   |(with_reducible exact call_Press.mono _ _ _ _ _ _ _ _)
   |(with_reducible exact newellaw19_awake.mono _)
   |(with_reducible exact newelref19_May.mono _ _ _ _ _)
   |(with_reducible exact newelref19_Press.mono _ _ _ _ _ _)
   |(with_reducible exact newelref19_Same.mono _ _ _ _ _)
   |(with_reducible exact LeO.refl _)
   |(with_reducible exact LeO.none _)
   |(with_reducible refine LeO.ite ?_ ?_)
   |(with_reducible refine LeO.bind ?_ (fun _=>?_))
   |exact call_Check.mono _ _ _ _ _
   |exact call_Press.mono _ _ _ _ _ _ _ _
   |exact newellaw19_awake.mono _
   |exact newelref19_May.mono _ _ _ _ _
   |exact newelref19_Press.mono _ _ _ _ _ _
   |exact newelref19_Same.mono _ _ _ _ _
   |exact LeO.none _
   |refine LeO.ite ?_ ?_
   |refine LeO.bind ?_ (fun _=>?_)
def newellaw19_CallPresses.T3:Bool×List (List Nat×List Nat):=(true,[([],[]),([],[]),([1],[1]),([],[]),([0,2,3,2],[0,2,3]),([4],[4]),([5],[5]),([5],[5]),([],[]),([8,6,4,0,1,2,3,4,5,6,8],[6,8]),([7,9,0,1,2,3,4,5,6,7,8,9],[7])])
def newellaw19_CallPresses.B3:List Nat:=[0,0,2,0,15,31,63,63,0,383,1023]
theorem newellaw19_CallPresses.Lg:rtab .any (opsOf Try.f3 3)=newellaw19_CallPresses.T3:=by kernel_rfl
theorem newellaw19_CallPresses.Vv:Zv newellaw19_CallPresses.T3.2 newellaw19_CallPresses.B3=true:=by kernel_rfl
def newellaw19_CallPresses.T8:Bool×List (List Nat×List Nat):=(true,[([],[]),([0,0],[0]),([1],[1]),([2,1],[1,2]),([1,3],[1,3]),([4,1],[4]),([5],[5]),([5],[5]),([6,7,5,5],[5,6,7]),([8,5],[5,8]),([5,9],[5,9]),([10,8],[10]),([11],[11]),([11],[11]),([11],[11]),([13,14,11,11],[11,13,14]),([12,15,15,11],[11,12,15]),([11,16],[11,16]),([17,16,0,1,2,3,4,5,6,7,8,9,10,11,12,13,14,15,16,17],[17])])
def newellaw19_CallPresses.B8:List Nat:=[0,1,3,7,15,31,63,63,255,511,1023,2047,4095,4095,4095,28671,65535,131071,262143]
theorem newellaw19_CallPresses.U8:rtab .any (opsOf Try.f3 8)=newellaw19_CallPresses.T8:=by kernel_rfl
theorem newellaw19_CallPresses.Vd:Zv newellaw19_CallPresses.T8.2 newellaw19_CallPresses.B8=true:=by kernel_rfl
set_option maxHeartbeats 8000000 in
set_option maxRecDepth 100000 in
theorem newellaw19_CallPresses.calls (k:Nat) (J:Int) (D:Int) (ζ :Option Addr) (γ:Nat) (B:List (S56)) (η :Option Addr) (ε :Nat) (I:List (S62)) (δ :Int) (L:Int) (θ :Int) (r:Bool) (w:World) (b4:Kd.C k56 w ζ B.length B) (b5:B.length≤γ) (b6:Kd.C k62 w η I.length I) (b7:I.length ≤ ε) (h:newellaw19_CallPresses.f k J D B I δ L θ = some r):
  Calls Try.prog 3 #[.agg #[.int .i64 J,.int .i64 D],.agg #[.slice ζ B.length γ,.slice η I.length ε],.agg #[.int .i64 δ,.int .i64 L,.int .i64 θ]] w fun e w'=>e = .returned (.bool r)∧Below w.heap.size w w':=by
 have dk:=Try.underlying23
 have d6:=Try.underlying27
 have gf:=Try.underlying29
 have ag:=Aside0.mk b4
 have ar:=Aside0.mk b5
 clear b4 b5
 have ai:=Aside0.mk b6
 have au:=Aside0.mk b7
 clear b6 b7
 have HB:=Aside0.mk (Below.refl w.heap.size w)
 have H:((newelref19_Few.f B I).bind fun ev=>(if ev=true then ((newellaw19_Own.f B I).bind fun cz=>((call_Press.f k J D cz.1 cz.2 δ L θ).bind fun ac=>((newelref19_May.f k J D B I).bind fun d1=>(if d1=true then ((newelref19_Button.f J D δ L θ).bind fun br=>(if br=true then ((newellaw19_awake.f k).bind fun bn=>(if bn=true then (if ac.2.2=0 then ((call_Check.f k J D B I).bind fun bd=>(if bd=0 then ((newelref19_Press.f k B I δ L θ).bind fun b0=>((newelref19_Same.f k ac.1 ac.2.1 b0.1 b0.2).bind fun bc=>(some bc))) else (none))) else (none)) else (none))) else ((newellaw19_awake.f k).bind fun bo=>(if bo=true then (if ac.2.2=191 then ((call_Check.f k J D B I).bind fun bg=>(if bg=0 then ((newelref19_Same.f k ac.1 ac.2.1 ([]:List (S56)) ([]:List (S62))).bind fun bh=>(some bh)) else (none))) else (none)) else (none))))) else ((newellaw19_awake.f k).bind fun bs=>(if bs=true then (if ac.2.2=190 then ((call_Check.f k J D B I).bind fun bl=>(if bl=ac.2.2 then ((newelref19_Same.f k ac.1 ac.2.1 ([]:List (S56)) ([]:List (S62))).bind fun bm=>(some bm)) else (none))) else (none)) else (none))))))) else ((newellaw19_awake.f k).bind fun dn=>(some dn))))=some r:=h
 clear h
 replace H:=Option.bind_eq_some_iff.mp H
 obtain⟨ev,bv,H⟩:=H
 replace H:(if ev=true then ((newellaw19_Own.f B I).bind fun cz=>((call_Press.f k J D cz.1 cz.2 δ L θ).bind fun ac=>((newelref19_May.f k J D B I).bind fun d1=>(if d1=true then ((newelref19_Button.f J D δ L θ).bind fun br=>(if br=true then ((newellaw19_awake.f k).bind fun bn=>(if bn=true then (if ac.2.2=0 then ((call_Check.f k J D B I).bind fun bd=>(if bd=0 then ((newelref19_Press.f k B I δ L θ).bind fun b0=>((newelref19_Same.f k ac.1 ac.2.1 b0.1 b0.2).bind fun bc=>(some bc))) else (none))) else (none)) else (none))) else ((newellaw19_awake.f k).bind fun bo=>(if bo=true then (if ac.2.2=191 then ((call_Check.f k J D B I).bind fun bg=>(if bg=0 then ((newelref19_Same.f k ac.1 ac.2.1 ([]:List (S56)) ([]:List (S62))).bind fun bh=>(some bh)) else (none))) else (none)) else (none))))) else ((newellaw19_awake.f k).bind fun bs=>(if bs=true then (if ac.2.2=190 then ((call_Check.f k J D B I).bind fun bl=>(if bl=ac.2.2 then ((newelref19_Same.f k ac.1 ac.2.1 ([]:List (S56)) ([]:List (S62))).bind fun bm=>(some bm)) else (none))) else (none)) else (none))))))) else ((newellaw19_awake.f k).bind fun dn=>(some dn)))=some r:=H
 have A4:=Aside0.mk bv
 clear bv
 by_cases c5:ev=true
 ·subst c5
  have H1:((newellaw19_Own.f B I).bind fun cz=>((call_Press.f k J D cz.1 cz.2 δ L θ).bind fun ac=>((newelref19_May.f k J D B I).bind fun d1=>(if d1=true then ((newelref19_Button.f J D δ L θ).bind fun br=>(if br=true then ((newellaw19_awake.f k).bind fun bn=>(if bn=true then (if ac.2.2=0 then ((call_Check.f k J D B I).bind fun bd=>(if bd=0 then ((newelref19_Press.f k B I δ L θ).bind fun b0=>((newelref19_Same.f k ac.1 ac.2.1 b0.1 b0.2).bind fun bc=>(some bc))) else (none))) else (none)) else (none))) else ((newellaw19_awake.f k).bind fun bo=>(if bo=true then (if ac.2.2=191 then ((call_Check.f k J D B I).bind fun bg=>(if bg=0 then ((newelref19_Same.f k ac.1 ac.2.1 ([]:List (S56)) ([]:List (S62))).bind fun bh=>(some bh)) else (none))) else (none)) else (none))))) else ((newellaw19_awake.f k).bind fun bs=>(if bs=true then (if ac.2.2=190 then ((call_Check.f k J D B I).bind fun bl=>(if bl=ac.2.2 then ((newelref19_Same.f k ac.1 ac.2.1 ([]:List (S56)) ([]:List (S62))).bind fun bm=>(some bm)) else (none))) else (none)) else (none)))))))=some r:=by rw[if_pos rfl] at H;exact H
  clear H
  have H:=H1
  clear H1
  replace H:=Option.bind_eq_some_iff.mp H
  obtain⟨⟨b2,b3⟩,ch,H⟩:=H
  replace H:((call_Press.f k J D b2 b3 δ L θ).bind fun ac=>((newelref19_May.f k J D B I).bind fun d1=>(if d1=true then ((newelref19_Button.f J D δ L θ).bind fun br=>(if br=true then ((newellaw19_awake.f k).bind fun bn=>(if bn=true then (if ac.2.2=0 then ((call_Check.f k J D B I).bind fun bd=>(if bd=0 then ((newelref19_Press.f k B I δ L θ).bind fun b0=>((newelref19_Same.f k ac.1 ac.2.1 b0.1 b0.2).bind fun bc=>(some bc))) else (none))) else (none)) else (none))) else ((newellaw19_awake.f k).bind fun bo=>(if bo=true then (if ac.2.2=191 then ((call_Check.f k J D B I).bind fun bg=>(if bg=0 then ((newelref19_Same.f k ac.1 ac.2.1 ([]:List (S56)) ([]:List (S62))).bind fun bh=>(some bh)) else (none))) else (none)) else (none))))) else ((newellaw19_awake.f k).bind fun bs=>(if bs=true then (if ac.2.2=190 then ((call_Check.f k J D B I).bind fun bl=>(if bl=ac.2.2 then ((newelref19_Same.f k ac.1 ac.2.1 ([]:List (S56)) ([]:List (S62))).bind fun bm=>(some bm)) else (none))) else (none)) else (none))))))=some r:=H
  have A6:=Aside0.mk ch
  clear ch
  replace H:=Option.bind_eq_some_iff.mp H
  obtain⟨⟨ao,ay,av⟩,en,H⟩:=H
  replace H:((newelref19_May.f k J D B I).bind fun d1=>(if d1=true then ((newelref19_Button.f J D δ L θ).bind fun br=>(if br=true then ((newellaw19_awake.f k).bind fun bn=>(if bn=true then (if av=0 then ((call_Check.f k J D B I).bind fun bd=>(if bd=0 then ((newelref19_Press.f k B I δ L θ).bind fun b0=>((newelref19_Same.f k ao ay b0.1 b0.2).bind fun bc=>(some bc))) else (none))) else (none)) else (none))) else ((newellaw19_awake.f k).bind fun bo=>(if bo=true then (if av=191 then ((call_Check.f k J D B I).bind fun bg=>(if bg=0 then ((newelref19_Same.f k ao ay ([]:List (S56)) ([]:List (S62))).bind fun bh=>(some bh)) else (none))) else (none)) else (none))))) else ((newellaw19_awake.f k).bind fun bs=>(if bs=true then (if av=190 then ((call_Check.f k J D B I).bind fun bl=>(if bl=av then ((newelref19_Same.f k ao ay ([]:List (S56)) ([]:List (S62))).bind fun bm=>(some bm)) else (none))) else (none)) else (none)))))=some r:=H
  have A7:=Aside0.mk en
  clear en
  replace H:=Option.bind_eq_some_iff.mp H
  obtain⟨d1,e8,H⟩:=H
  replace H:(if d1=true then ((newelref19_Button.f J D δ L θ).bind fun br=>(if br=true then ((newellaw19_awake.f k).bind fun bn=>(if bn=true then (if av=0 then ((call_Check.f k J D B I).bind fun bd=>(if bd=0 then ((newelref19_Press.f k B I δ L θ).bind fun b0=>((newelref19_Same.f k ao ay b0.1 b0.2).bind fun bc=>(some bc))) else (none))) else (none)) else (none))) else ((newellaw19_awake.f k).bind fun bo=>(if bo=true then (if av=191 then ((call_Check.f k J D B I).bind fun bg=>(if bg=0 then ((newelref19_Same.f k ao ay ([]:List (S56)) ([]:List (S62))).bind fun bh=>(some bh)) else (none))) else (none)) else (none))))) else ((newellaw19_awake.f k).bind fun bs=>(if bs=true then (if av=190 then ((call_Check.f k J D B I).bind fun bl=>(if bl=av then ((newelref19_Same.f k ao ay ([]:List (S56)) ([]:List (S62))).bind fun bm=>(some bm)) else (none))) else (none)) else (none))))=some r:=H
  have A8:=Aside0.mk e8
  clear e8
  by_cases c9:d1=true
  ·subst c9
   have H1:((newelref19_Button.f J D δ L θ).bind fun br=>(if br=true then ((newellaw19_awake.f k).bind fun bn=>(if bn=true then (if av=0 then ((call_Check.f k J D B I).bind fun bd=>(if bd=0 then ((newelref19_Press.f k B I δ L θ).bind fun b0=>((newelref19_Same.f k ao ay b0.1 b0.2).bind fun bc=>(some bc))) else (none))) else (none)) else (none))) else ((newellaw19_awake.f k).bind fun bo=>(if bo=true then (if av=191 then ((call_Check.f k J D B I).bind fun bg=>(if bg=0 then ((newelref19_Same.f k ao ay ([]:List (S56)) ([]:List (S62))).bind fun bh=>(some bh)) else (none))) else (none)) else (none)))))=some r:=by rw[if_pos rfl] at H;exact H
   clear H
   have H:=H1
   clear H1
   replace H:=Option.bind_eq_some_iff.mp H
   obtain⟨br,fj,H⟩:=H
   replace H:(if br=true then ((newellaw19_awake.f k).bind fun bn=>(if bn=true then (if av=0 then ((call_Check.f k J D B I).bind fun bd=>(if bd=0 then ((newelref19_Press.f k B I δ L θ).bind fun b0=>((newelref19_Same.f k ao ay b0.1 b0.2).bind fun bc=>(some bc))) else (none))) else (none)) else (none))) else ((newellaw19_awake.f k).bind fun bo=>(if bo=true then (if av=191 then ((call_Check.f k J D B I).bind fun bg=>(if bg=0 then ((newelref19_Same.f k ao ay ([]:List (S56)) ([]:List (S62))).bind fun bh=>(some bh)) else (none))) else (none)) else (none))))=some r:=H
   have f9:=Aside0.mk fj
   clear fj
   by_cases cb:br=true
   ·subst cb
    have H1:((newellaw19_awake.f k).bind fun bn=>(if bn=true then (if av=0 then ((call_Check.f k J D B I).bind fun bd=>(if bd=0 then ((newelref19_Press.f k B I δ L θ).bind fun b0=>((newelref19_Same.f k ao ay b0.1 b0.2).bind fun bc=>(some bc))) else (none))) else (none)) else (none)))=some r:=by rw[if_pos rfl] at H;exact H
    clear H
    have H:=H1
    clear H1
    replace H:=Option.bind_eq_some_iff.mp H
    obtain⟨bn,cd,H⟩:=H
    replace H:(if bn=true then (if av=0 then ((call_Check.f k J D B I).bind fun bd=>(if bd=0 then ((newelref19_Press.f k B I δ L θ).bind fun b0=>((newelref19_Same.f k ao ay b0.1 b0.2).bind fun bc=>(some bc))) else (none))) else (none)) else (none))=some r:=H
    have cw:=Aside0.mk cd
    clear cd
    by_cases ba:bn=true
    ·subst ba
     have H1:(if av=0 then ((call_Check.f k J D B I).bind fun bd=>(if bd=0 then ((newelref19_Press.f k B I δ L θ).bind fun b0=>((newelref19_Same.f k ao ay b0.1 b0.2).bind fun bc=>(some bc))) else (none))) else (none))=some r:=by rw[if_pos rfl] at H;exact H
     clear H
     have H:=H1
     clear H1
     by_cases az:av=0
     ·rw[if_pos az] at H
      have c14b0:(av==0)=true:=beq_iff_eq.mpr az
      have c14b1:(av != 0)=false:=bne_eq_false_iff_eq.mpr az
      clear az
      replace H:=Option.bind_eq_some_iff.mp H
      obtain⟨bd,g4,H⟩:=H
      replace H:(if bd=0 then ((newelref19_Press.f k B I δ L θ).bind fun b0=>((newelref19_Same.f k ao ay b0.1 b0.2).bind fun bc=>(some bc))) else (none))=some r:=H
      have im:=Aside0.mk g4
      clear g4
      by_cases an:bd=0
      ·rw[if_pos an] at H
       have c16b0:(bd==0)=true:=beq_iff_eq.mpr an
       have c16b1:(bd != 0)=false:=bne_eq_false_iff_eq.mpr an
       clear an
       replace H:=Option.bind_eq_some_iff.mp H
       obtain⟨⟨fv,g8⟩,e7,H⟩:=H
       replace H:((newelref19_Same.f k ao ay fv g8).bind fun bc=>(some bc))=some r:=H
       have gu:=Aside0.mk e7
       clear e7
       replace H:=Option.bind_eq_some_iff.mp H
       obtain⟨bc,bw,H⟩:=H
       replace H:(some bc)=some r:=H
       have e5:=Aside0.mk bw
       clear bw
       obtain rfl:=Option.some.inj H
       go_enter Try.func3,Try.ntmps3
       try go_wp2_with (first|((with_reducible refine Qp (N:=3) rfl ?_);refine qE 3 #[.int .i64 J,.int .i64 D] 23 ?_;intro ak hg dw hbox hb;have U:=Aside0.mk hbox;have dr:=sGe hg;have g9:=sGe hg;replace HB:=sHb hb;clear hb hbox hg)|((with_reducible refine Qp (N:=4) rfl ?_);refine qE 4 #[.slice ζ B.length γ,.slice η I.length ε] 27 ?_;intro am hg d0 hbox hb;have Y:=Aside0.mk hbox;have dt:=sGe hg;have gk:=sGe hg;have ci:=sNl U hg;have cp:=sNg U hg;replace U:=sBk U hb;replace HB:=sHb hb;clear hb hbox hg)|((with_reducible refine Qp (N:=5) rfl ?_);refine qE 5 #[.int .i64 δ,.int .i64 L,.int .i64 θ] 29 ?_;intro a8 hg bp hbox hb;have X:=Aside0.mk hbox;have dv:=sGe hg;have gm:=sGe hg;have cx:=sNl U hg;have cy:=sNg U hg;have cq:=sNl Y hg;have cr:=sNg Y hg;replace U:=sBk U hb;replace Y:=sBk Y hb;replace HB:=sHb hb;clear hb hbox hg;have fa:=cp.out;have fb:=ci.out;have fc:=cq.out;have fg:=cr.out;obtain⟨d5,d7,d8,d9⟩:=qD2 Y.out)|((with_reducible refine Q1 (f:=9) rfl ?_);refine Zp (some 10) rfl rfl Try.func9 kr rfl #[.agg #[.slice ζ B.length γ,.slice η I.length ε]] rfl qM ?_;(with_reducible refine(newelref19_Few.calls _ _ B _ _ I true _ ?side1 ?side2 ?side3 ?side4 A4.out).mono ?_);(case side1=>exact(Kd.Qz ag.out HB.out));(case side2=>exact ar.out);(case side3=>exact(Kd.Qz ai.out HB.out));(case side4=>exact au.out);rintro e da ⟨rfl,hb⟩;refine⟨_,rfl, ?_⟩;replace U:=sBk U hb;replace Y:=sBk Y hb;replace X:=sBk X hb;replace HB:=sHb hb;(try clear hb);(try clear a0);(try clear hk);(try clear hi)))
       replace U:=Aside0.mk (Qb U.out)
       replace Y:=Aside0.mk (Qb Y.out)
       replace X:=Aside0.mk (Qb X.out)
       replace HB:=Aside0.mk (Qe HB.out)
       refine Ze (n:=11) (S:=fun w'=>w'.cell? ⟨ak,0,none⟩=some (.int .i64 J)∧w'.cell? ⟨ak,1,none⟩=some (.int .i64 D)∧w'.cell? ⟨am,0,none⟩=some (.slice ζ B.length γ)∧w'.cell? ⟨am,1,none⟩=some (.slice η I.length ε)∧w'.cell? ⟨a8,0,none⟩=some (.int .i64 δ)∧w'.cell? ⟨a8,1,none⟩=some (.int .i64 L)∧w'.cell? ⟨a8,2,none⟩=some (.int .i64 θ)) (ds:=[]) #[false,false,false,false,false,false,false,false,false,false,false] kr rfl rfl ⟨(Qi U.out 0).trans rfl,(Qi U.out 1).trans rfl,(Qi Y.out 0).trans rfl,(Qi Y.out 1).trans rfl,(Qi X.out 0).trans rfl,(Qi X.out 1).trans rfl,(Qi X.out 2).trans rfl⟩ (fun hHeld=>?_);refine Q4 newellaw19_CallPresses.Lg newellaw19_CallPresses.Vv (fun HT_ HW_=>?_)
       generalize da.drew=bq at U Y X HB hHeld ⊢
       refine qT 0 (some 14) (bN 11 1) HT_ HW_ hHeld ?_
       refine qT 1 (some 15) (bN 11 3) HT_ HW_ hHeld ?_
       refine qT 3 (some 17) (bN 11 11) HT_ HW_ hHeld ?_
       refine Gl (σ:=Value×Value×Value×Value×Nat) 2 (bN 11 511) (fun s_=>[(16,.agg #[s_.1,s_.2.1]),(18,.tuple #[.agg #[s_.2.2.1,s_.2.2.2.1],.int .i64 av]),(7,.pointer (some ⟨s_.2.2.2.2,0,none⟩)),(13,.tuple #[.agg #[s_.2.2.1,s_.2.2.2.1],.int .i64 av]),(19,.agg #[s_.2.2.1,s_.2.2.2.1]),(20,.int .i64 av)]) (fun s_ w'=>(w'.cell? ⟨ak,0,none⟩=some (.int .i64 J)∧w'.cell? ⟨ak,1,none⟩=some (.int .i64 D)∧w'.cell? ⟨am,0,none⟩=some (.slice ζ B.length γ)∧w'.cell? ⟨am,1,none⟩=some (.slice η I.length ε)∧w'.cell? ⟨a8,0,none⟩=some (.int .i64 δ)∧w'.cell? ⟨a8,1,none⟩=some (.int .i64 L)∧w'.cell? ⟨a8,2,none⟩=some (.int .i64 θ))∧(Kd.R k56 56 w' w.heap.size (fun k_=>some k_≠(s_.2.2.1:Value).ownBlock) s_.1 b2)∧(Kd.R k62 62 w' w.heap.size (fun k_=>some k_≠(s_.2.2.2.1:Value).ownBlock) s_.2.1 b3)∧(Kd.R k56 56 w' w.heap.size (fun k_=>some k_≠(s_.1:Value).ownBlock) s_.2.2.1 ao)∧(Kd.R k62 62 w' w.heap.size (fun k_=>some k_≠(s_.2.1:Value).ownBlock) s_.2.2.2.1 ay)∧(w'.heap[ak]?=some (.cells #[.int .i64 J,.int .i64 D] 23 (0,0)))∧(w'.heap[am]?=some (.cells #[.slice ζ B.length γ,.slice η I.length ε] 27 (0,0)))∧(w'.heap[a8]?=some (.cells #[.int .i64 δ,.int .i64 L,.int .i64 θ] 29 (0,0)))∧(w'.heap[s_.2.2.2.2]?=some (.cells #[.slice none 0 0,.slice none 0 0] 27 (0,0)))∧(w.heap.size≤s_.2.2.2.2)∧(w.heap.size≤s_.2.2.2.2)∧(ak≠s_.2.2.2.2)∧(s_.2.2.2.2≠ak)∧(am≠s_.2.2.2.2)∧(s_.2.2.2.2≠am)∧(a8≠s_.2.2.2.2)∧(s_.2.2.2.2≠a8)∧(Below w.heap.size w w')) ?_ ?_
       rotate_left
       ·intro hCont
        refine Ks (i:=2) (j:=8) (Ni:=some 16) (Nj:=some 7) (bN 11 15) (bN 11 267) rfl rfl rfl rfl (Yn HT_.out kr) (by decide) (by decide) (fun K hK=>?_) (fun K hK=>?_)
        ·skip
         refine Zc Try.func12 kr rfl #[.agg #[.slice ζ B.length γ,.slice η I.length ε]] (by rfl) rfl rfl qM ?_
         with_reducible refine(newellaw19_Own.calls _ _ B _ _ I b2 b3 _ ?side1 ?side2 ?side3 ?side4 A6.out).mono ?_
         (case side1=>exact(Kd.Qz ag.out HB.out))
         (case side2=>exact ar.out)
         (case side3=>exact(Kd.Qz ai.out HB.out))
         (case side4=>exact au.out)
         rintro e e6 ⟨cu,cv,rfl,ρ,a7,hb⟩
         refine⟨_,rfl, ?_⟩
         have μ :=Aside0.mk (Kd.Q2 ρ (Qj HB.out))
         have ν :=Aside0.mk (Kd.Q2 a7 (Qj HB.out))
         replace U:=sBk U hb
         replace Y:=sBk Y hb
         replace X:=sBk X hb
         replace HB:=sHb hb
         (try clear hb)
         (try clear a0)
         (try clear hk)
         (try clear hi)
         (try clear ρ)
         (try clear a7)
         obtain⟨d2,d4,dl⟩:=Kd.Q5 μ.out
         (first|subst dl|(injection dl with φ a9 χ;have aa:= φ.symm;have ab:= χ.symm;clear φ a9 χ;subst aa;subst ab))
         obtain⟨ea,eb,ec⟩:=Kd.Q5 ν.out
         (first|subst ec|(injection ec with φ a9 χ;have aa:= φ.symm;have ab:= χ.symm;clear φ a9 χ;subst aa;subst ab))
         refine hK.out _ _ ⟨qc U,qc U,qc Y,qc Y,qc X,qc X,qc X⟩ (fun hHeld=>?_)
         clear hK K
         refine qN (some 16) ?_
         refine Ks (i:=4) (j:=8) (Ni:=some 18) (Nj:=some 7) (bN 11 31) (bN 11 271) rfl rfl rfl rfl (Yn HT_.out kr) (by decide) (by decide) (fun K hK=>?_) (fun K hK=>?_)
         ·skip
          refine Zc Try.func11 kr rfl #[.agg #[.int .i64 J,.int .i64 D],.agg #[.slice d2 b2.length d4,.slice ea b3.length eb],.agg #[.int .i64 δ,.int .i64 L,.int .i64 θ]] (by rfl) rfl rfl qM ?_
          with_reducible refine(call_Press.calls k J D _ _ b2 _ _ b3 δ L θ ao ay av _ ?side1 ?side2 ?side3 ?side4 A7.out).mono ?_
          (case side1=>exact(Kd.Qq μ.out).2.2)
          (case side2=>exact(Kd.Qq μ.out).2.1)
          (case side3=>exact(Kd.Qq ν.out).2.2)
          (case side4=>exact(Kd.Qq ν.out).2.1)
          rintro e ew ⟨bi,bj,rfl,ρ,a7,hb⟩
          refine⟨_,rfl, ?_⟩
          have a3:=Aside0.mk (Kd.Q2 (Kd.Zr ρ (Kd.Z8 μ.out)) (Qj HB.out))
          have a4:=Aside0.mk (Kd.Q2 (Kd.Zr a7 (Kd.Z8 ν.out)) (Qj HB.out))
          replace μ :=Aside0.mk (Kd.Zb μ.out (Kd.Zf ρ) hb)
          replace ν :=Aside0.mk (Kd.Zb ν.out (Kd.Zf a7) hb)
          replace U:=sBk U hb
          replace Y:=sBk Y hb
          replace X:=sBk X hb
          replace HB:=sHb hb
          (try clear hb)
          (try clear a0)
          (try clear hk)
          (try clear hi)
          (try clear ρ)
          (try clear a7)
          refine hK.out _ _ ⟨qc U,qc U,qc Y,qc Y,qc X,qc X,qc X⟩ (fun hHeld=>?_)
          clear hK K
          refine qN (some 18) ?_
          refine qP 5 (some 13) (bN 11 63) HT_ ?_
          refine qP 6 (some 19) (bN 11 127) HT_ ?_
          refine qP 7 (some 20) (bN 11 255) HT_ ?_
          refine Zi (i:=8) (N:=some 7) (bN 11 511) rfl rfl (Q0 HT_.out kr) (by decide) (fun K hK=>?_)
          refine Xo ?hg (N:=7) ?hd (cs:=#[.slice none 0 0,.slice none 0 0]) (t:=27) ?hr ?_;(case hd=>rfl);(case hg=>rfl);(case hr=>go_simp <;> rfl)
          intro ω hg gt hbox hb
          have τ :=Aside0.mk hbox
          have bb:=sGe hg
          have bk:=sGe hg
          have a5:=sNl U hg
          have ae:=sNg U hg
          have a6:=sNl Y hg
          have ah:=sNg Y hg
          have a2:=sNl X hg
          have aj:=sNg X hg
          replace μ :=sRb μ hb
          replace ν :=sRb ν hb
          replace a3:=sRb a3 hb
          replace a4:=sRb a4 hb
          replace U:=sBk U hb
          replace Y:=sBk Y hb
          replace X:=sBk X hb
          replace HB:=sHb hb
          clear hb hbox hg
          refine hK.out _ _ ⟨qc U,qc U,qc Y,qc Y,qc X,qc X,qc X⟩ (fun hHeld=>?_)
          clear hK K
          refine qN (some 7) ?_
          exact Xn (by simp only[Z9,Act.put,qS]) (hCont (.slice d2 b2.length d4,.slice ea b3.length eb,bi,bj,ω) _ ⟨hHeld,(by(with_reducible repeat first|apply Kd.Qm|apply Kd.Ql|apply Kd.Qn);exact Kd.Qr μ.out (fun _ hk=>hk.2)),(by(with_reducible repeat first|apply Kd.Qm|apply Kd.Ql|apply Kd.Qn);exact Kd.Qr ν.out (fun _ hk=>hk.2)),(by(with_reducible repeat first|apply Kd.Qm|apply Kd.Ql|apply Kd.Qn);exact Kd.Qr a3.out (fun _ hk=>hk.2)),(by(with_reducible repeat first|apply Kd.Qm|apply Kd.Ql|apply Kd.Qn);exact Kd.Qr a4.out (fun _ hk=>hk.2)),U.out,Y.out,X.out,τ.out,bb.out,bk.out,a5.out,ae.out,a6.out,ah.out,a2.out,aj.out,HB.out⟩)
         ·skip
          refine Xo ?hg (N:=7) ?hd (cs:=#[.slice none 0 0,.slice none 0 0]) (t:=27) ?hr ?_;(case hd=>rfl);(case hg=>rfl);(case hr=>go_simp <;> rfl)
          intro ω hg fh hbox hb
          have τ :=Aside0.mk hbox
          have bb:=sGe hg
          have bk:=sGe hg
          have a5:=sNl U hg
          have ae:=sNg U hg
          have a6:=sNl Y hg
          have ah:=sNg Y hg
          have a2:=sNl X hg
          have aj:=sNg X hg
          replace μ :=sRb μ hb
          replace ν :=sRb ν hb
          replace U:=sBk U hb
          replace Y:=sBk Y hb
          replace X:=sBk X hb
          replace HB:=sHb hb
          clear hb hbox hg
          obtain⟨ea,eb,ec⟩:=Kd.Q5 μ.out
          (first|subst ec|(injection ec with φ a9 χ;have aa:= φ.symm;have ab:= χ.symm;clear φ a9 χ;subst aa;subst ab))
          obtain⟨fn,fo,fp⟩:=Kd.Q5 ν.out
          (first|subst fp|(injection fp with φ a9 χ;have aa:= φ.symm;have ab:= χ.symm;clear φ a9 χ;subst aa;subst ab))
          refine hK.out _ _ ⟨qc U,qc U,qc Y,qc Y,qc X,qc X,qc X⟩ (fun hHeld=>?_)
          clear hK K
          refine qN (some 7) ?_
          refine Zi (i:=4) (N:=some 18) (bN 11 287) rfl rfl (Q0 HT_.out kr) (by decide) (fun K hK=>?_)
          refine Zc Try.func11 kr rfl #[.agg #[.int .i64 J,.int .i64 D],.agg #[.slice ea b2.length eb,.slice fn b3.length fo],.agg #[.int .i64 δ,.int .i64 L,.int .i64 θ]] (by rfl) rfl rfl qM ?_
          with_reducible refine(call_Press.calls k J D _ _ b2 _ _ b3 δ L θ ao ay av _ ?side1 ?side2 ?side3 ?side4 A7.out).mono ?_
          (case side1=>exact(Kd.Qq μ.out).2.2)
          (case side2=>exact(Kd.Qq μ.out).2.1)
          (case side3=>exact(Kd.Qq ν.out).2.2)
          (case side4=>exact(Kd.Qq ν.out).2.1)
          rintro e gt ⟨bi,bj,rfl,ρ,a7,hb⟩
          refine⟨_,rfl, ?_⟩
          have a3:=Aside0.mk (Kd.Q2 (Kd.Zr ρ (Kd.Z8 μ.out)) (Qj HB.out))
          have a4:=Aside0.mk (Kd.Q2 (Kd.Zr a7 (Kd.Z8 ν.out)) (Qj HB.out))
          replace μ :=Aside0.mk (Kd.Zb μ.out (Kd.Zf ρ) hb)
          replace ν :=Aside0.mk (Kd.Zb ν.out (Kd.Zf a7) hb)
          replace U:=sBk U hb
          replace Y:=sBk Y hb
          replace X:=sBk X hb
          replace τ :=sBk τ hb
          replace HB:=sHb hb
          (try clear hb)
          (try clear a0)
          (try clear hk)
          (try clear hi)
          (try clear ρ)
          (try clear a7)
          refine hK.out _ _ ⟨qc U,qc U,qc Y,qc Y,qc X,qc X,qc X⟩ (fun hHeld=>?_)
          clear hK K
          refine qN (some 18) ?_
          refine qP 5 (some 13) (bN 11 319) HT_ ?_
          refine qP 6 (some 19) (bN 11 383) HT_ ?_
          refine qP 7 (some 20) (bN 11 511) HT_ ?_
          exact Xn (by simp only[Z9,Act.put,qS]) (hCont (.slice ea b2.length eb,.slice fn b3.length fo,bi,bj,ω) _ ⟨hHeld,(by(with_reducible repeat first|apply Kd.Qm|apply Kd.Ql|apply Kd.Qn);exact Kd.Qr μ.out (fun _ hk=>hk.2)),(by(with_reducible repeat first|apply Kd.Qm|apply Kd.Ql|apply Kd.Qn);exact Kd.Qr ν.out (fun _ hk=>hk.2)),(by(with_reducible repeat first|apply Kd.Qm|apply Kd.Ql|apply Kd.Qn);exact Kd.Qr a3.out (fun _ hk=>hk.2)),(by(with_reducible repeat first|apply Kd.Qm|apply Kd.Ql|apply Kd.Qn);exact Kd.Qr a4.out (fun _ hk=>hk.2)),U.out,Y.out,X.out,τ.out,bb.out,bk.out,a5.out,ae.out,a6.out,ah.out,a2.out,aj.out,HB.out⟩)
        ·skip
         refine Xo ?hg (N:=7) ?hd (cs:=#[.slice none 0 0,.slice none 0 0]) (t:=27) ?hr ?_;(case hd=>rfl);(case hg=>rfl);(case hr=>go_simp <;> rfl)
         intro ω hg e6 hbox hb
         have τ :=Aside0.mk hbox
         have bb:=sGe hg
         have bk:=sGe hg
         have a5:=sNl U hg
         have ae:=sNg U hg
         have a6:=sNl Y hg
         have ah:=sNg Y hg
         have a2:=sNl X hg
         have aj:=sNg X hg
         replace U:=sBk U hb
         replace Y:=sBk Y hb
         replace X:=sBk X hb
         replace HB:=sHb hb
         clear hb hbox hg
         refine hK.out _ _ ⟨qc U,qc U,qc Y,qc Y,qc X,qc X,qc X⟩ (fun hHeld=>?_)
         clear hK K
         refine qN (some 7) ?_
         refine Zi (i:=2) (N:=some 16) (bN 11 271) rfl rfl (Q0 HT_.out kr) (by decide) (fun K hK=>?_)
         refine Zc Try.func12 kr rfl #[.agg #[.slice ζ B.length γ,.slice η I.length ε]] (by rfl) rfl rfl qM ?_
         with_reducible refine(newellaw19_Own.calls _ _ B _ _ I b2 b3 _ ?side1 ?side2 ?side3 ?side4 A6.out).mono ?_
         (case side1=>exact(Kd.Qz ag.out HB.out))
         (case side2=>exact ar.out)
         (case side3=>exact(Kd.Qz ai.out HB.out))
         (case side4=>exact au.out)
         rintro e fh ⟨cu,cv,rfl,ρ,a7,hb⟩
         refine⟨_,rfl, ?_⟩
         have μ :=Aside0.mk (Kd.Q2 ρ (Qj HB.out))
         have ν :=Aside0.mk (Kd.Q2 a7 (Qj HB.out))
         replace U:=sBk U hb
         replace Y:=sBk Y hb
         replace X:=sBk X hb
         replace τ :=sBk τ hb
         replace HB:=sHb hb
         (try clear hb)
         (try clear a0)
         (try clear hk)
         (try clear hi)
         (try clear ρ)
         (try clear a7)
         obtain⟨ea,eb,ec⟩:=Kd.Q5 μ.out
         (first|subst ec|(injection ec with φ a9 χ;have aa:= φ.symm;have ab:= χ.symm;clear φ a9 χ;subst aa;subst ab))
         obtain⟨fn,fo,fp⟩:=Kd.Q5 ν.out
         (first|subst fp|(injection fp with φ a9 χ;have aa:= φ.symm;have ab:= χ.symm;clear φ a9 χ;subst aa;subst ab))
         refine hK.out _ _ ⟨qc U,qc U,qc Y,qc Y,qc X,qc X,qc X⟩ (fun hHeld=>?_)
         clear hK K
         refine qN (some 16) ?_
         refine Zi (i:=4) (N:=some 18) (bN 11 287) rfl rfl (Q0 HT_.out kr) (by decide) (fun K hK=>?_)
         refine Zc Try.func11 kr rfl #[.agg #[.int .i64 J,.int .i64 D],.agg #[.slice ea b2.length eb,.slice fn b3.length fo],.agg #[.int .i64 δ,.int .i64 L,.int .i64 θ]] (by rfl) rfl rfl qM ?_
         with_reducible refine(call_Press.calls k J D _ _ b2 _ _ b3 δ L θ ao ay av _ ?side1 ?side2 ?side3 ?side4 A7.out).mono ?_
         (case side1=>exact(Kd.Qq μ.out).2.2)
         (case side2=>exact(Kd.Qq μ.out).2.1)
         (case side3=>exact(Kd.Qq ν.out).2.2)
         (case side4=>exact(Kd.Qq ν.out).2.1)
         rintro e gt ⟨bi,bj,rfl,ρ,a7,hb⟩
         refine⟨_,rfl, ?_⟩
         have a3:=Aside0.mk (Kd.Q2 (Kd.Zr ρ (Kd.Z8 μ.out)) (Qj HB.out))
         have a4:=Aside0.mk (Kd.Q2 (Kd.Zr a7 (Kd.Z8 ν.out)) (Qj HB.out))
         replace μ :=Aside0.mk (Kd.Zb μ.out (Kd.Zf ρ) hb)
         replace ν :=Aside0.mk (Kd.Zb ν.out (Kd.Zf a7) hb)
         replace U:=sBk U hb
         replace Y:=sBk Y hb
         replace X:=sBk X hb
         replace τ :=sBk τ hb
         replace HB:=sHb hb
         (try clear hb)
         (try clear a0)
         (try clear hk)
         (try clear hi)
         (try clear ρ)
         (try clear a7)
         refine hK.out _ _ ⟨qc U,qc U,qc Y,qc Y,qc X,qc X,qc X⟩ (fun hHeld=>?_)
         clear hK K
         refine qN (some 18) ?_
         refine qP 5 (some 13) (bN 11 319) HT_ ?_
         refine qP 6 (some 19) (bN 11 383) HT_ ?_
         refine qP 7 (some 20) (bN 11 511) HT_ ?_
         exact Xn (by simp only[Z9,Act.put,qS]) (hCont (.slice ea b2.length eb,.slice fn b3.length fo,bi,bj,ω) _ ⟨hHeld,(by(with_reducible repeat first|apply Kd.Qm|apply Kd.Ql|apply Kd.Qn);exact Kd.Qr μ.out (fun _ hk=>hk.2)),(by(with_reducible repeat first|apply Kd.Qm|apply Kd.Ql|apply Kd.Qn);exact Kd.Qr ν.out (fun _ hk=>hk.2)),(by(with_reducible repeat first|apply Kd.Qm|apply Kd.Ql|apply Kd.Qn);exact Kd.Qr a3.out (fun _ hk=>hk.2)),(by(with_reducible repeat first|apply Kd.Qm|apply Kd.Ql|apply Kd.Qn);exact Kd.Qr a4.out (fun _ hk=>hk.2)),U.out,Y.out,X.out,τ.out,bb.out,bk.out,a5.out,ae.out,a6.out,ah.out,a2.out,aj.out,HB.out⟩)
       rintro⟨cu,cv,bi,bj,ω⟩ bz ⟨hS_,cj,ck,cm,cn,co,dy,dz,e0,e3,e4,db,dc,dd,de,df,dh,di⟩
       have O:Aside0 (Kd.R k56 56 bz w.heap.size (fun k_=>some k_≠(bi:Value).ownBlock) cu b2):=⟨cj⟩
       have Z:Aside0 (Kd.R k62 62 bz w.heap.size (fun k_=>some k_≠(bj:Value).ownBlock) cv b3):=⟨ck⟩
       have ι :Aside0 (Kd.R k56 56 bz w.heap.size (fun k_=>some k_≠(cu:Value).ownBlock) bi ao):=⟨cm⟩
       have κ :Aside0 (Kd.R k62 62 bz w.heap.size (fun k_=>some k_≠(cv:Value).ownBlock) bj ay):=⟨cn⟩
       have ξ :Aside0 (bz.heap[ak]?=some (.cells #[.int .i64 J,.int .i64 D] 23 (0,0))):=⟨co⟩
       have ψ :Aside0 (bz.heap[am]?=some (.cells #[.slice ζ B.length γ,.slice η I.length ε] 27 (0,0))):=⟨dy⟩
       have a1:Aside0 (bz.heap[a8]?=some (.cells #[.int .i64 δ,.int .i64 L,.int .i64 θ] 29 (0,0))):=⟨dz⟩
       have af:Aside0 (bz.heap[ω]?=some (.cells #[.slice none 0 0,.slice none 0 0] 27 (0,0))):=⟨e0⟩
       have al:Aside0 (w.heap.size ≤ ω):=⟨e3⟩
       have ax:Aside0 (w.heap.size ≤ ω):=⟨e4⟩
       have ap:Aside0 (ak ≠ ω):=⟨db⟩
       have aw:Aside0 (ω ≠ ak):=⟨dc⟩
       have b1:Aside0 (am ≠ ω):=⟨dd⟩
       have b8:Aside0 (ω ≠ am):=⟨de⟩
       have b9:Aside0 (a8 ≠ ω):=⟨df⟩
       have be:Aside0 (ω ≠ a8):=⟨dh⟩
       have bf:Aside0 (Below w.heap.size w bz):=⟨di⟩
       clear U
       clear Y
       clear X
       clear HB
       clear cj ck cm cn co dy dz e0 e3 e4 db dc dd de df dh di
       have μ :=O
       have ν :=Z
       have a3:= ι
       have a4:= κ
       have U:= ξ
       have Y:= ψ
       have X:=a1
       have τ :=af
       have bb:=al
       have bk:=ax
       have a5:=ap
       have ae:=aw
       have a6:=b1
       have ah:=b8
       have a2:=b9
       have aj:=be
       have HB:=bf
       clear O Z ι κ ξ ψ a1 af al ax ap aw b1 b8 b9 be bf
       have hHeld:bz.cell? ⟨ak,0,none⟩=some (.int .i64 J)∧bz.cell? ⟨ak,1,none⟩=some (.int .i64 D)∧bz.cell? ⟨am,0,none⟩=some (.slice ζ B.length γ)∧bz.cell? ⟨am,1,none⟩=some (.slice η I.length ε)∧bz.cell? ⟨a8,0,none⟩=some (.int .i64 δ)∧bz.cell? ⟨a8,1,none⟩=some (.int .i64 L)∧bz.cell? ⟨a8,2,none⟩=some (.int .i64 θ):=hS_
       obtain⟨ed,ee,ip⟩:=Kd.Q5 a3.out
       (first|subst ip|(injection ip with φ a9 χ;have aa:= φ.symm;have ab:= χ.symm;clear φ a9 χ;subst aa;subst ab))
       obtain⟨ct,ce,g7⟩:=Kd.Q5 a4.out
       (first|subst g7|(injection g7 with φ a9 χ;have aa:= φ.symm;have ab:= χ.symm;clear φ a9 χ;subst aa;subst ab))
       refine Xn (a':=?_) ?_ ?_
       rotate_left
       ·simp only[Z9,Act.put,qS]
        rfl
       refine Zi (i:=9) (N:=none) (bN 11 1023) rfl rfl (Q0 HT_.out kr) (by decide) (fun K hK=>?_)
       have jg:bz.cell? ⟨ω,0,none⟩=some (.slice none 0 0):=(Qi τ.out 0).trans rfl
       have j9:=Q6 τ.out 0
       have i1:=a5.out
       have i2:=a6.out
       have i3:=a2.out
       have i5:=ae.out
       have i6:=ah.out
       have ib:=aj.out
       have na:bz.cell? ⟨ω,1,none⟩=some (.slice none 0 0):=(Qi τ.out 1).trans rfl
       have mx:=Q6 τ.out 1
       have ks:=a5.out
       have kt:=a6.out
       have ku:=a2.out
       have kv:=ae.out
       have kw:=ah.out
       have kx:=aj.out
       refine Y4 (w1:=?_) (by rfl) rfl ?_ ?_
       rotate_left
       ·go_simp
        rfl
       refine hK.out _ _ ⟨((cell_far (p:=⟨ω,_,none⟩) a5.out _).trans (((cell_far (p:=⟨ω,_,none⟩) a5.out _).trans (hHeld.1)))),((cell_far (p:=⟨ω,_,none⟩) a5.out _).trans (((cell_far (p:=⟨ω,_,none⟩) a5.out _).trans (hHeld.2.1)))),((cell_far (p:=⟨ω,_,none⟩) a6.out _).trans (((cell_far (p:=⟨ω,_,none⟩) a6.out _).trans (hHeld.2.2.1)))),((cell_far (p:=⟨ω,_,none⟩) a6.out _).trans (((cell_far (p:=⟨ω,_,none⟩) a6.out _).trans (hHeld.2.2.2.1)))),((cell_far (p:=⟨ω,_,none⟩) a2.out _).trans (((cell_far (p:=⟨ω,_,none⟩) a2.out _).trans (hHeld.2.2.2.2.1)))),((cell_far (p:=⟨ω,_,none⟩) a2.out _).trans (((cell_far (p:=⟨ω,_,none⟩) a2.out _).trans (hHeld.2.2.2.2.2.1)))),((cell_far (p:=⟨ω,_,none⟩) a2.out _).trans (((cell_far (p:=⟨ω,_,none⟩) a2.out _).trans (hHeld.2.2.2.2.2.2))))⟩ (fun hHeld=>?_)
       clear hK K
       refine qP 10 (some 8) (bN 11 2047) HT_ ?_
       refine Zq (Zd HT_.out kr) ?_
       have gj:=cx.out
       have gl:=cy.out
       have hj:=a5.out
       have hl:=ae.out
       obtain⟨g5,g6,ge,gh⟩:=qD2 U.out
       have ey:=a6.out
       have ez:=ah.out
       obtain⟨eg,eh,ei,ej⟩:=qD2 Y.out
       try go_wp2_with (first|((with_reducible refine Q1 (f:=13) rfl ?_);refine Zp (some 23) rfl rfl Try.func13 kr rfl #[.agg #[.int .i64 J,.int .i64 D],.agg #[.slice ζ B.length γ,.slice η I.length ε]] rfl qM ?_;(with_reducible refine(newelref19_May.calls k J D _ _ B _ _ I true _ ?side1 ?side2 ?side3 ?side4 A8.out).mono ?_);(case side1=>exact Kd.Qz ag.out bel);(case side2=>exact ar.out);(case side3=>exact Kd.Qz ai.out bel);(case side4=>exact au.out);rintro e nq ⟨rfl,hb⟩;refine⟨_,rfl, ?_⟩;replace μ :=Aside0.mk (Kd.Qu (by(with_reducible repeat first|apply Kd.Qm|apply Kd.Ql|apply Kd.Qn);exact(Kd.Qr (Kd.Qs (Kd.Qs (Kd.Qv μ.out τ.out (by decide)) (fun _ hk=>hk.2) _) (fun _ hk=>hk.2) _) (fun _ h_=>h_.1))) hb);replace ν :=Aside0.mk (Kd.Qu (by(with_reducible repeat first|apply Kd.Qm|apply Kd.Ql|apply Kd.Qn);exact(Kd.Qr (Kd.Qs (Kd.Qs (Kd.Qv ν.out τ.out (by decide)) (fun _ hk=>hk.2) _) (fun _ hk=>hk.2) _) (fun _ h_=>h_.1))) hb);replace a3:=Aside0.mk (Kd.Qu (by(with_reducible repeat first|apply Kd.Qm|apply Kd.Ql|apply Kd.Qn);exact(Kd.Qr (Kd.Qs (Kd.Qs (Kd.Qv a3.out τ.out (by decide)) (fun _ hk=>hk.2) _) (fun _ hk=>hk.2) _) (fun _ h_=>h_.1))) hb);replace a4:=Aside0.mk (Kd.Qu (by(with_reducible repeat first|apply Kd.Qm|apply Kd.Ql|apply Kd.Qn);exact(Kd.Qr (Kd.Qs (Kd.Qs (Kd.Qv a4.out τ.out (by decide)) (fun _ hk=>hk.2) _) (fun _ hk=>hk.2) _) (fun _ h_=>h_.1))) hb);replace U:=sBk U hb;replace Y:=sBk Y hb;replace X:=sBk X hb;replace τ :=Aside0.mk (Qo (g:= ω) (o:=.cells #[.slice ed ao.length ee,.slice ct ay.length ce] 27 (0,0)) (by(with_reducible repeat first|apply Qf|apply Qb|apply Qg);refine Qw (cs:=#[.slice ed ao.length ee,.slice none 0 0]) ?_ 1 _ rfl;(with_reducible repeat first|apply Qf|apply Qb|apply Qg);refine Qw (cs:=#[.slice none 0 0,.slice none 0 0]) ?_ 0 _ rfl;(with_reducible repeat first|apply Qf|apply Qb|apply Qg);exact τ.out) hb);replace HB:=sHb hb;(try clear hb);(try clear a0);(try clear hk);(try clear hi);obtain⟨f4,f5,f7,f8⟩:=qD2 U.out;have ja:=a2.out;have jb:=aj.out;obtain⟨g0,g1,ky,g2,g3,kz⟩:=qD3 X.out)|((with_reducible refine Q1 (f:=16) rfl ?_);refine Zp (some 44) rfl rfl Try.func16 kr rfl #[.agg #[.int .i64 J,.int .i64 D],.agg #[.int .i64 δ,.int .i64 L,.int .i64 θ]] rfl qM ?_;(with_reducible refine(newelref19_Button.calls J D δ L θ true _ f9.out).mono ?_);rintro e gs ⟨rfl,hb⟩;refine⟨_,rfl, ?_⟩;replace μ :=sRb μ hb;replace ν :=sRb ν hb;replace a3:=sRb a3 hb;replace a4:=sRb a4 hb;replace U:=sBk U hb;replace Y:=sBk Y hb;replace X:=sBk X hb;replace τ :=sBk τ hb;replace HB:=sHb hb;(try clear hb);(try clear a0);(try clear hk);(try clear hi)))
       have O:=Aside0.mk (Kd.Qn μ.out)
       have Z:=Aside0.mk (Kd.Qn ν.out)
       have ι :=Aside0.mk (Kd.Qn a3.out)
       have κ :=Aside0.mk (Kd.Qn a4.out)
       have ξ :=Aside0.mk (Qb U.out)
       have ψ :=Aside0.mk (Qb Y.out)
       have a1:=Aside0.mk (Qb X.out)
       have af:=Aside0.mk (Qb τ.out)
       have al:=Aside0.mk (Qe HB.out)
       clear μ
       clear ν
       clear a3
       clear a4
       clear U
       clear Y
       clear X
       clear τ
       clear HB
       have μ :=O
       have ν :=Z
       have a3:= ι
       have a4:= κ
       have U:= ξ
       have Y:= ψ
       have X:=a1
       have τ :=af
       have HB:=al
       clear O Z ι κ ξ ψ a1 af al
       refine Ze (n:=19) (S:=fun w'=>w'.cell? ⟨ak,0,none⟩=some (.int .i64 J)∧w'.cell? ⟨ak,1,none⟩=some (.int .i64 D)∧w'.cell? ⟨am,0,none⟩=some (.slice ζ B.length γ)∧w'.cell? ⟨am,1,none⟩=some (.slice η I.length ε)∧w'.cell? ⟨ω,0,none⟩=some (.slice ed ao.length ee)∧w'.cell? ⟨ω,1,none⟩=some (.slice ct ay.length ce)∧w'.cell? ⟨a8,0,none⟩=some (.int .i64 δ)∧w'.cell? ⟨a8,1,none⟩=some (.int .i64 L)∧w'.cell? ⟨a8,2,none⟩=some (.int .i64 θ)) (ds:=[]) #[false,false,false,false,false,false,false,false,false,false,false,false,false,false,false,false,false,false,false] kr rfl rfl ⟨(Qi U.out 0).trans rfl,(Qi U.out 1).trans rfl,(Qi Y.out 0).trans rfl,(Qi Y.out 1).trans rfl,(Qi τ.out 0).trans rfl,(Qi τ.out 1).trans rfl,(Qi X.out 0).trans rfl,(Qi X.out 1).trans rfl,(Qi X.out 2).trans rfl⟩ (fun hHeld=>?_);refine Q4 newellaw19_CallPresses.U8 newellaw19_CallPresses.Vd (fun HT_ HW_=>?_)
       generalize gs.drew=gz at μ ν a3 a4 U Y X τ HB hHeld ⊢
       refine Zi (i:=0) (N:=some 62) (bN 19 1) rfl rfl (Q0 HT_.out kr) (by decide) (fun K hK=>?_)
       refine Zc Try.func10 kr rfl #[] (by rfl) rfl rfl qM ?_
       with_reducible refine(newellaw19_awake.calls k  true _ cw.out).mono ?_
       rintro e fi ⟨rfl,hb⟩
       refine⟨_,rfl, ?_⟩
       replace μ :=sRb μ hb
       replace ν :=sRb ν hb
       replace a3:=sRb a3 hb
       replace a4:=sRb a4 hb
       replace U:=sBk U hb
       replace Y:=sBk Y hb
       replace X:=sBk X hb
       replace τ :=sBk τ hb
       replace HB:=sHb hb
       (try clear hb)
       (try clear a0)
       (try clear hk)
       (try clear hi)
       refine hK.out _ _ ⟨qc U,qc U,qc Y,qc Y,qc τ,qc τ,qc X,qc X,qc X⟩ (fun hHeld=>?_)
       clear hK K
       refine qN (some 62) ?_
       refine qP 1 (some 63) (bN 19 3) HT_ ?_
       refine qP 2 (some 64) (bN 19 7) HT_ ?_
       refine qP 3 (some 65) (bN 19 15) HT_ ?_
       refine qP 4 (some 66) (bN 19 31) HT_ ?_
       refine qP 5 (some 67) (bN 19 63) HT_ ?_
       refine qT 6 (some 68) (bN 19 127) HT_ HW_ hHeld ?_
       refine qT 7 (some 69) (bN 19 255) HT_ HW_ hHeld ?_
       refine Zi (i:=8) (N:=some 70) (bN 19 511) rfl rfl (Q0 HT_.out kr) (by decide) (fun K hK=>?_)
       refine Zc Try.func14 kr rfl #[.agg #[.int .i64 J,.int .i64 D],.agg #[.slice ζ B.length γ,.slice η I.length ε]] (by rfl) rfl rfl qM ?_
       with_reducible refine(call_Check.calls k J D _ _ B _ _ I bd _ ?side1 ?side2 ?side3 ?side4 im.out).mono ?_
       (case side1=>exact(Kd.Qz ag.out HB.out))
       (case side2=>exact ar.out)
       (case side3=>exact(Kd.Qz ai.out HB.out))
       (case side4=>exact au.out)
       rintro e m5 ⟨rfl,hb⟩
       refine⟨_,rfl, ?_⟩
       replace μ :=sRb μ hb
       replace ν :=sRb ν hb
       replace a3:=sRb a3 hb
       replace a4:=sRb a4 hb
       replace U:=sBk U hb
       replace Y:=sBk Y hb
       replace X:=sBk X hb
       replace τ :=sBk τ hb
       replace HB:=sHb hb
       (try clear hb)
       (try clear a0)
       (try clear hk)
       (try clear hi)
       refine hK.out _ _ ⟨qc U,qc U,qc Y,qc Y,qc τ,qc τ,qc X,qc X,qc X⟩ (fun hHeld=>?_)
       clear hK K
       refine qN (some 70) ?_
       refine qP 9 (some 71) (bN 19 1023) HT_ ?_
       refine qP 10 (some 72) (bN 19 2047) HT_ ?_
       refine qP 11 (some 73) (bN 19 4095) HT_ ?_
       refine qT 12 (some 74) (bN 19 8191) HT_ HW_ hHeld ?_
       refine qT 13 (some 75) (bN 19 16383) HT_ HW_ hHeld ?_
       refine qT 14 (some 76) (bN 19 32767) HT_ HW_ hHeld ?_
       refine Zi (i:=15) (N:=some 77) (bN 19 65535) rfl rfl (Q0 HT_.out kr) (by decide) (fun K hK=>?_)
       refine Zc Try.func17 kr rfl #[.agg #[.slice ζ B.length γ,.slice η I.length ε],.agg #[.int .i64 δ,.int .i64 L,.int .i64 θ]] (by rfl) rfl rfl qM ?_
       with_reducible refine(newelref19_Press.calls k (fun k_=>k_<w.heap.size) _ _ B (fun k_=>k_<w.heap.size) _ _ I δ L θ fv g8 _ ?side1 ?side2 gu.out).mono ?_
       (case side1=>exact Kd.V_mk ar.out (Kd.Ki (Kd.C_F Mq ag.out) HB.out))
       (case side2=>exact Kd.V_mk au.out (Kd.Ki (Kd.C_F Mo ai.out) HB.out))
       rintro e nr ⟨nb,nc,rfl,ρ,a7,hb⟩
       refine⟨_,rfl, ?_⟩
       have el:=Aside0.mk (Kd.Lb (Kd.Yu (ok':=fun k_=>some k_≠(cu:Value).ownBlock∧some k_≠(cv:Value).ownBlock∧some k_≠(.slice ed ao.length ee:Value).ownBlock∧some k_≠(.slice ct ay.length ce:Value).ownBlock∧k_≠ak∧k_≠am∧k_≠a8∧k_ ≠ ω) ρ (fun k_ hk_=>⟨Or.elim hk_ (fun hs_=>Or.elim hs_ (fun hs_=>fun e_=>Nat.not_le.2 hs_ (Kd.Zf μ.out k_ e_.symm)) (fun hs_=>fun e_=>Nat.not_le.2 hs_ (Kd.Zf μ.out k_ e_.symm))) (fun hn_=>(Kd.fresh' (Kd.Z8 μ.out) k_ hn_)),Or.elim hk_ (fun hs_=>Or.elim hs_ (fun hs_=>fun e_=>Nat.not_le.2 hs_ (Kd.Zf ν.out k_ e_.symm)) (fun hs_=>fun e_=>Nat.not_le.2 hs_ (Kd.Zf ν.out k_ e_.symm))) (fun hn_=>(Kd.fresh' (Kd.Z8 ν.out) k_ hn_)),Or.elim hk_ (fun hs_=>Or.elim hs_ (fun hs_=>fun e_=>Nat.not_le.2 hs_ (Kd.Zf a3.out k_ e_.symm)) (fun hs_=>fun e_=>Nat.not_le.2 hs_ (Kd.Zf a3.out k_ e_.symm))) (fun hn_=>(Kd.fresh' (Kd.Z8 a3.out) k_ hn_)),Or.elim hk_ (fun hs_=>Or.elim hs_ (fun hs_=>fun e_=>Nat.not_le.2 hs_ (Kd.Zf a4.out k_ e_.symm)) (fun hs_=>fun e_=>Nat.not_le.2 hs_ (Kd.Zf a4.out k_ e_.symm))) (fun hn_=>(Kd.fresh' (Kd.Z8 a4.out) k_ hn_)),Or.elim hk_ (fun hs_=>Or.elim hs_ (fun hs_=>fun e_=>Nat.not_le.2 hs_ (by rw[e_];exact dr.out)) (fun hs_=>fun e_=>Nat.not_le.2 hs_ (by rw[e_];exact dr.out))) (fun hn_=>(Kd.Xc (g:=ak) (o:=.cells #[.int .i64 J,.int .i64 D] 23 (0,0)) U.out k_ hn_)),Or.elim hk_ (fun hs_=>Or.elim hs_ (fun hs_=>fun e_=>Nat.not_le.2 hs_ (by rw[e_];exact dt.out)) (fun hs_=>fun e_=>Nat.not_le.2 hs_ (by rw[e_];exact dt.out))) (fun hn_=>(Kd.Xc (g:=am) (o:=.cells #[.slice ζ B.length γ,.slice η I.length ε] 27 (0,0)) Y.out k_ hn_)),Or.elim hk_ (fun hs_=>Or.elim hs_ (fun hs_=>fun e_=>Nat.not_le.2 hs_ (by rw[e_];exact dv.out)) (fun hs_=>fun e_=>Nat.not_le.2 hs_ (by rw[e_];exact dv.out))) (fun hn_=>(Kd.Xc (g:=a8) (o:=.cells #[.int .i64 δ,.int .i64 L,.int .i64 θ] 29 (0,0)) X.out k_ hn_)),Or.elim hk_ (fun hs_=>Or.elim hs_ (fun hs_=>fun e_=>Nat.not_le.2 hs_ (by rw[e_];exact bb.out)) (fun hs_=>fun e_=>Nat.not_le.2 hs_ (by rw[e_];exact bb.out))) (fun hn_=>(Kd.Xc (g:= ω) (o:=.cells #[.slice ed ao.length ee,.slice ct ay.length ce] 27 (0,0)) τ.out k_ hn_))⟩)) (Qj HB.out))
       have em:=Aside0.mk (Kd.Lb (Kd.Yu (ok':=fun k_=>some k_≠(cu:Value).ownBlock∧some k_≠(cv:Value).ownBlock∧some k_≠(.slice ed ao.length ee:Value).ownBlock∧some k_≠(.slice ct ay.length ce:Value).ownBlock∧k_≠ak∧k_≠am∧k_≠a8∧k_ ≠ ω) a7 (fun k_ hk_=>⟨Or.elim hk_ (fun hs_=>Or.elim hs_ (fun hs_=>fun e_=>Nat.not_le.2 hs_ (Kd.Zf μ.out k_ e_.symm)) (fun hs_=>fun e_=>Nat.not_le.2 hs_ (Kd.Zf μ.out k_ e_.symm))) (fun hn_=>(Kd.fresh' (Kd.Z8 μ.out) k_ hn_)),Or.elim hk_ (fun hs_=>Or.elim hs_ (fun hs_=>fun e_=>Nat.not_le.2 hs_ (Kd.Zf ν.out k_ e_.symm)) (fun hs_=>fun e_=>Nat.not_le.2 hs_ (Kd.Zf ν.out k_ e_.symm))) (fun hn_=>(Kd.fresh' (Kd.Z8 ν.out) k_ hn_)),Or.elim hk_ (fun hs_=>Or.elim hs_ (fun hs_=>fun e_=>Nat.not_le.2 hs_ (Kd.Zf a3.out k_ e_.symm)) (fun hs_=>fun e_=>Nat.not_le.2 hs_ (Kd.Zf a3.out k_ e_.symm))) (fun hn_=>(Kd.fresh' (Kd.Z8 a3.out) k_ hn_)),Or.elim hk_ (fun hs_=>Or.elim hs_ (fun hs_=>fun e_=>Nat.not_le.2 hs_ (Kd.Zf a4.out k_ e_.symm)) (fun hs_=>fun e_=>Nat.not_le.2 hs_ (Kd.Zf a4.out k_ e_.symm))) (fun hn_=>(Kd.fresh' (Kd.Z8 a4.out) k_ hn_)),Or.elim hk_ (fun hs_=>Or.elim hs_ (fun hs_=>fun e_=>Nat.not_le.2 hs_ (by rw[e_];exact dr.out)) (fun hs_=>fun e_=>Nat.not_le.2 hs_ (by rw[e_];exact dr.out))) (fun hn_=>(Kd.Xc (g:=ak) (o:=.cells #[.int .i64 J,.int .i64 D] 23 (0,0)) U.out k_ hn_)),Or.elim hk_ (fun hs_=>Or.elim hs_ (fun hs_=>fun e_=>Nat.not_le.2 hs_ (by rw[e_];exact dt.out)) (fun hs_=>fun e_=>Nat.not_le.2 hs_ (by rw[e_];exact dt.out))) (fun hn_=>(Kd.Xc (g:=am) (o:=.cells #[.slice ζ B.length γ,.slice η I.length ε] 27 (0,0)) Y.out k_ hn_)),Or.elim hk_ (fun hs_=>Or.elim hs_ (fun hs_=>fun e_=>Nat.not_le.2 hs_ (by rw[e_];exact dv.out)) (fun hs_=>fun e_=>Nat.not_le.2 hs_ (by rw[e_];exact dv.out))) (fun hn_=>(Kd.Xc (g:=a8) (o:=.cells #[.int .i64 δ,.int .i64 L,.int .i64 θ] 29 (0,0)) X.out k_ hn_)),Or.elim hk_ (fun hs_=>Or.elim hs_ (fun hs_=>fun e_=>Nat.not_le.2 hs_ (by rw[e_];exact bb.out)) (fun hs_=>fun e_=>Nat.not_le.2 hs_ (by rw[e_];exact bb.out))) (fun hn_=>(Kd.Xc (g:= ω) (o:=.cells #[.slice ed ao.length ee,.slice ct ay.length ce] 27 (0,0)) τ.out k_ hn_))⟩)) (Qj HB.out))
       replace μ :=sRb μ hb
       replace ν :=sRb ν hb
       replace a3:=sRb a3 hb
       replace a4:=sRb a4 hb
       replace U:=sBk U hb
       replace Y:=sBk Y hb
       replace X:=sBk X hb
       replace τ :=sBk τ hb
       replace HB:=sHb hb
       (try clear hb)
       (try clear a0)
       (try clear hk)
       (try clear hi)
       (try clear ρ)
       (try clear a7)
       obtain⟨fk,fl,e9⟩:=Kd.La el.out
       (first|subst e9|(injection e9 with φ a9 χ;have aa:= φ.symm;have ab:= χ.symm;clear φ a9 χ;subst aa;subst ab))
       obtain⟨jh,ji,iq⟩:=Kd.La em.out
       (first|subst iq|(injection iq with φ a9 χ;have aa:= φ.symm;have ab:= χ.symm;clear φ a9 χ;subst aa;subst ab))
       refine hK.out _ _ ⟨qc U,qc U,qc Y,qc Y,qc τ,qc τ,qc X,qc X,qc X⟩ (fun hHeld=>?_)
       clear hK K
       refine qN (some 77) ?_
       refine Zi (i:=16) (N:=some 78) (bN 19 131071) rfl rfl (Q0 HT_.out kr) (by decide) (fun K hK=>?_)
       refine Zc Try.func15 kr rfl #[.agg #[.slice ed ao.length ee,.slice ct ay.length ce],.agg #[.slice fk fv.length fl,.slice jh g8.length ji]] (by rfl) rfl rfl qM ?_
       with_reducible refine(newelref19_Same.calls k _ _ ao _ _ ay _ _ fv _ _ g8 bc _ ?side1 ?side2 ?side3 ?side4 ?side5 ?side6 ?side7 ?side8 e5.out).mono ?_
       (case side1=>exact(Kd.Qq a3.out).2.2)
       (case side2=>exact(Kd.Qq a3.out).2.1)
       (case side3=>exact(Kd.Qq a4.out).2.2)
       (case side4=>exact(Kd.Qq a4.out).2.1)
       (case side5=>exact(Kd.Yi el.out).2.2)
       (case side6=>exact(Kd.Yi el.out).2.1)
       (case side7=>exact(Kd.Yi em.out).2.2)
       (case side8=>exact(Kd.Yi em.out).2.1)
       rintro e jf ⟨rfl,hb⟩
       refine⟨_,rfl, ?_⟩
       replace μ :=sRb μ hb
       replace ν :=sRb ν hb
       replace a3:=sRb a3 hb
       replace a4:=sRb a4 hb
       replace el:=Aside0.mk (Kd.Xj el.out hb)
       replace em:=Aside0.mk (Kd.Xj em.out hb)
       replace U:=sBk U hb
       replace Y:=sBk Y hb
       replace X:=sBk X hb
       replace τ :=sBk τ hb
       replace HB:=sHb hb
       (try clear hb)
       (try clear a0)
       (try clear hk)
       (try clear hi)
       refine hK.out _ _ ⟨qc U,qc U,qc Y,qc Y,qc τ,qc τ,qc X,qc X,qc X⟩ (fun hHeld=>?_)
       clear hK K
       refine qN (some 78) ?_
       refine qP 17 (some 79) (bN 19 262143) HT_ ?_
       refine qP 18 (some 6) (bN 19 524287) HT_ ?_
       refine Zq (Zd HT_.out kr) ?_
       try go_wp2
       go_ret
       exact⟨rfl,HB.out⟩
      ·rw[if_neg an] at H
       exact absurd H (by simp)
     ·rw[if_neg az] at H
      exact absurd H (by simp)
    ·replace ba:=Bool.eq_false_iff.mpr ba
     subst ba
     have H1:(none)=some r:=by rw[if_neg (show ¬ (false=true) by decide)] at H;exact H
     clear H
     have H:=H1
     clear H1
     exact absurd H (by simp)
   ·replace cb:=Bool.eq_false_iff.mpr cb
    subst cb
    have H1:((newellaw19_awake.f k).bind fun bo=>(if bo=true then (if av=191 then ((call_Check.f k J D B I).bind fun bg=>(if bg=0 then ((newelref19_Same.f k ao ay ([]:List (S56)) ([]:List (S62))).bind fun bh=>(some bh)) else (none))) else (none)) else (none)))=some r:=by rw[if_neg (show ¬ (false=true) by decide)] at H;exact H
    clear H
    have H:=H1
    clear H1
    replace H:=Option.bind_eq_some_iff.mp H
    obtain⟨bo,fm,H⟩:=H
    replace H:(if bo=true then (if av=191 then ((call_Check.f k J D B I).bind fun bg=>(if bg=0 then ((newelref19_Same.f k ao ay ([]:List (S56)) ([]:List (S62))).bind fun bh=>(some bh)) else (none))) else (none)) else (none))=some r:=H
    have ir:=Aside0.mk fm
    clear fm
    by_cases ef:bo=true
    ·subst ef
     have H1:(if av=191 then ((call_Check.f k J D B I).bind fun bg=>(if bg=0 then ((newelref19_Same.f k ao ay ([]:List (S56)) ([]:List (S62))).bind fun bh=>(some bh)) else (none))) else (none))=some r:=by rw[if_pos rfl] at H;exact H
     clear H
     have H:=H1
     clear H1
     by_cases dx:av=191
     ·rw[if_pos dx] at H
      have c56b0:(av==191)=true:=beq_iff_eq.mpr dx
      have c56b1:(av != 191)=false:=bne_eq_false_iff_eq.mpr dx
      clear dx
      replace H:=Option.bind_eq_some_iff.mp H
      obtain⟨bg,it,H⟩:=H
      replace H:(if bg=0 then ((newelref19_Same.f k ao ay ([]:List (S56)) ([]:List (S62))).bind fun bh=>(some bh)) else (none))=some r:=H
      have m6:=Aside0.mk it
      clear it
      by_cases du:bg=0
      ·rw[if_pos du] at H
       have c58b0:(bg==0)=true:=beq_iff_eq.mpr du
       have c58b1:(bg != 0)=false:=bne_eq_false_iff_eq.mpr du
       clear du
       replace H:=Option.bind_eq_some_iff.mp H
       obtain⟨bh,iu,H⟩:=H
       replace H:(some bh)=some r:=H
       have m7:=Aside0.mk iu
       clear iu
       obtain rfl:=Option.some.inj H
       go_enter Try.func3,Try.ntmps3
       try go_wp2_with (first|((with_reducible refine Qp (N:=3) rfl ?_);refine qE 3 #[.int .i64 J,.int .i64 D] 23 ?_;intro ak hg jc hbox hb;have U:=Aside0.mk hbox;have dr:=sGe hg;have g9:=sGe hg;replace HB:=sHb hb;clear hb hbox hg)|((with_reducible refine Qp (N:=4) rfl ?_);refine qE 4 #[.slice ζ B.length γ,.slice η I.length ε] 27 ?_;intro am hg ih hbox hb;have Y:=Aside0.mk hbox;have dt:=sGe hg;have gk:=sGe hg;have ci:=sNl U hg;have cp:=sNg U hg;replace U:=sBk U hb;replace HB:=sHb hb;clear hb hbox hg)|((with_reducible refine Qp (N:=5) rfl ?_);refine qE 5 #[.int .i64 δ,.int .i64 L,.int .i64 θ] 29 ?_;intro a8 hg jd hbox hb;have X:=Aside0.mk hbox;have dv:=sGe hg;have gm:=sGe hg;have cx:=sNl U hg;have cy:=sNg U hg;have cq:=sNl Y hg;have cr:=sNg Y hg;replace U:=sBk U hb;replace Y:=sBk Y hb;replace HB:=sHb hb;clear hb hbox hg;have ga:=cp.out;have gb:=ci.out;have gg:=cq.out;have gi:=cr.out;obtain⟨fq,fr,ft,fu⟩:=qD2 Y.out)|((with_reducible refine Q1 (f:=9) rfl ?_);refine Zp (some 10) rfl rfl Try.func9 kr rfl #[.agg #[.slice ζ B.length γ,.slice η I.length ε]] rfl qM ?_;(with_reducible refine(newelref19_Few.calls _ _ B _ _ I true _ ?side1 ?side2 ?side3 ?side4 A4.out).mono ?_);(case side1=>exact(Kd.Qz ag.out HB.out));(case side2=>exact ar.out);(case side3=>exact(Kd.Qz ai.out HB.out));(case side4=>exact au.out);rintro e ij ⟨rfl,hb⟩;refine⟨_,rfl, ?_⟩;replace U:=sBk U hb;replace Y:=sBk Y hb;replace X:=sBk X hb;replace HB:=sHb hb;(try clear hb);(try clear a0);(try clear hk);(try clear hi)))
       replace U:=Aside0.mk (Qb U.out)
       replace Y:=Aside0.mk (Qb Y.out)
       replace X:=Aside0.mk (Qb X.out)
       replace HB:=Aside0.mk (Qe HB.out)
       refine Ze (n:=11) (S:=fun w'=>w'.cell? ⟨ak,0,none⟩=some (.int .i64 J)∧w'.cell? ⟨ak,1,none⟩=some (.int .i64 D)∧w'.cell? ⟨am,0,none⟩=some (.slice ζ B.length γ)∧w'.cell? ⟨am,1,none⟩=some (.slice η I.length ε)∧w'.cell? ⟨a8,0,none⟩=some (.int .i64 δ)∧w'.cell? ⟨a8,1,none⟩=some (.int .i64 L)∧w'.cell? ⟨a8,2,none⟩=some (.int .i64 θ)) (ds:=[]) #[false,false,false,false,false,false,false,false,false,false,false] kr rfl rfl ⟨(Qi U.out 0).trans rfl,(Qi U.out 1).trans rfl,(Qi Y.out 0).trans rfl,(Qi Y.out 1).trans rfl,(Qi X.out 0).trans rfl,(Qi X.out 1).trans rfl,(Qi X.out 2).trans rfl⟩ (fun hHeld=>?_);refine Q4 newellaw19_CallPresses.Lg newellaw19_CallPresses.Vv (fun HT_ HW_=>?_)
       generalize ij.drew=je at U Y X HB hHeld ⊢
       refine qT 0 (some 14) (bN 11 1) HT_ HW_ hHeld ?_
       refine qT 1 (some 15) (bN 11 3) HT_ HW_ hHeld ?_
       refine qT 3 (some 17) (bN 11 11) HT_ HW_ hHeld ?_
       refine Gl (σ:=Value×Value×Value×Value×Nat) 2 (bN 11 511) (fun s_=>[(16,.agg #[s_.1,s_.2.1]),(18,.tuple #[.agg #[s_.2.2.1,s_.2.2.2.1],.int .i64 av]),(7,.pointer (some ⟨s_.2.2.2.2,0,none⟩)),(13,.tuple #[.agg #[s_.2.2.1,s_.2.2.2.1],.int .i64 av]),(19,.agg #[s_.2.2.1,s_.2.2.2.1]),(20,.int .i64 av)]) (fun s_ w'=>(w'.cell? ⟨ak,0,none⟩=some (.int .i64 J)∧w'.cell? ⟨ak,1,none⟩=some (.int .i64 D)∧w'.cell? ⟨am,0,none⟩=some (.slice ζ B.length γ)∧w'.cell? ⟨am,1,none⟩=some (.slice η I.length ε)∧w'.cell? ⟨a8,0,none⟩=some (.int .i64 δ)∧w'.cell? ⟨a8,1,none⟩=some (.int .i64 L)∧w'.cell? ⟨a8,2,none⟩=some (.int .i64 θ))∧(Kd.R k56 56 w' w.heap.size (fun k_=>some k_≠(s_.2.2.1:Value).ownBlock) s_.1 b2)∧(Kd.R k62 62 w' w.heap.size (fun k_=>some k_≠(s_.2.2.2.1:Value).ownBlock) s_.2.1 b3)∧(Kd.R k56 56 w' w.heap.size (fun k_=>some k_≠(s_.1:Value).ownBlock) s_.2.2.1 ao)∧(Kd.R k62 62 w' w.heap.size (fun k_=>some k_≠(s_.2.1:Value).ownBlock) s_.2.2.2.1 ay)∧(w'.heap[ak]?=some (.cells #[.int .i64 J,.int .i64 D] 23 (0,0)))∧(w'.heap[am]?=some (.cells #[.slice ζ B.length γ,.slice η I.length ε] 27 (0,0)))∧(w'.heap[a8]?=some (.cells #[.int .i64 δ,.int .i64 L,.int .i64 θ] 29 (0,0)))∧(w'.heap[s_.2.2.2.2]?=some (.cells #[.slice none 0 0,.slice none 0 0] 27 (0,0)))∧(w.heap.size≤s_.2.2.2.2)∧(w.heap.size≤s_.2.2.2.2)∧(ak≠s_.2.2.2.2)∧(s_.2.2.2.2≠ak)∧(am≠s_.2.2.2.2)∧(s_.2.2.2.2≠am)∧(a8≠s_.2.2.2.2)∧(s_.2.2.2.2≠a8)∧(Below w.heap.size w w')) ?_ ?_
       rotate_left
       ·intro hCont
        refine Ks (i:=2) (j:=8) (Ni:=some 16) (Nj:=some 7) (bN 11 15) (bN 11 267) rfl rfl rfl rfl (Yn HT_.out kr) (by decide) (by decide) (fun K hK=>?_) (fun K hK=>?_)
        ·skip
         refine Zc Try.func12 kr rfl #[.agg #[.slice ζ B.length γ,.slice η I.length ε]] (by rfl) rfl rfl qM ?_
         with_reducible refine(newellaw19_Own.calls _ _ B _ _ I b2 b3 _ ?side1 ?side2 ?side3 ?side4 A6.out).mono ?_
         (case side1=>exact(Kd.Qz ag.out HB.out))
         (case side2=>exact ar.out)
         (case side3=>exact(Kd.Qz ai.out HB.out))
         (case side4=>exact au.out)
         rintro e m8 ⟨cu,cv,rfl,ρ,a7,hb⟩
         refine⟨_,rfl, ?_⟩
         have μ :=Aside0.mk (Kd.Q2 ρ (Qj HB.out))
         have ν :=Aside0.mk (Kd.Q2 a7 (Qj HB.out))
         replace U:=sBk U hb
         replace Y:=sBk Y hb
         replace X:=sBk X hb
         replace HB:=sHb hb
         (try clear hb)
         (try clear a0)
         (try clear hk)
         (try clear hi)
         (try clear ρ)
         (try clear a7)
         obtain⟨iv,iw,ix⟩:=Kd.Q5 μ.out
         (first|subst ix|(injection ix with φ a9 χ;have aa:= φ.symm;have ab:= χ.symm;clear φ a9 χ;subst aa;subst ab))
         obtain⟨dm,dp,dq⟩:=Kd.Q5 ν.out
         (first|subst dq|(injection dq with φ a9 χ;have aa:= φ.symm;have ab:= χ.symm;clear φ a9 χ;subst aa;subst ab))
         refine hK.out _ _ ⟨qc U,qc U,qc Y,qc Y,qc X,qc X,qc X⟩ (fun hHeld=>?_)
         clear hK K
         refine qN (some 16) ?_
         refine Ks (i:=4) (j:=8) (Ni:=some 18) (Nj:=some 7) (bN 11 31) (bN 11 271) rfl rfl rfl rfl (Yn HT_.out kr) (by decide) (by decide) (fun K hK=>?_) (fun K hK=>?_)
         ·skip
          refine Zc Try.func11 kr rfl #[.agg #[.int .i64 J,.int .i64 D],.agg #[.slice iv b2.length iw,.slice dm b3.length dp],.agg #[.int .i64 δ,.int .i64 L,.int .i64 θ]] (by rfl) rfl rfl qM ?_
          with_reducible refine(call_Press.calls k J D _ _ b2 _ _ b3 δ L θ ao ay av _ ?side1 ?side2 ?side3 ?side4 A7.out).mono ?_
          (case side1=>exact(Kd.Qq μ.out).2.2)
          (case side2=>exact(Kd.Qq μ.out).2.1)
          (case side3=>exact(Kd.Qq ν.out).2.2)
          (case side4=>exact(Kd.Qq ν.out).2.1)
          rintro e m4 ⟨bi,bj,rfl,ρ,a7,hb⟩
          refine⟨_,rfl, ?_⟩
          have a3:=Aside0.mk (Kd.Q2 (Kd.Zr ρ (Kd.Z8 μ.out)) (Qj HB.out))
          have a4:=Aside0.mk (Kd.Q2 (Kd.Zr a7 (Kd.Z8 ν.out)) (Qj HB.out))
          replace μ :=Aside0.mk (Kd.Zb μ.out (Kd.Zf ρ) hb)
          replace ν :=Aside0.mk (Kd.Zb ν.out (Kd.Zf a7) hb)
          replace U:=sBk U hb
          replace Y:=sBk Y hb
          replace X:=sBk X hb
          replace HB:=sHb hb
          (try clear hb)
          (try clear a0)
          (try clear hk)
          (try clear hi)
          (try clear ρ)
          (try clear a7)
          refine hK.out _ _ ⟨qc U,qc U,qc Y,qc Y,qc X,qc X,qc X⟩ (fun hHeld=>?_)
          clear hK K
          refine qN (some 18) ?_
          refine qP 5 (some 13) (bN 11 63) HT_ ?_
          refine qP 6 (some 19) (bN 11 127) HT_ ?_
          refine qP 7 (some 20) (bN 11 255) HT_ ?_
          refine Zi (i:=8) (N:=some 7) (bN 11 511) rfl rfl (Q0 HT_.out kr) (by decide) (fun K hK=>?_)
          refine Xo ?hg (N:=7) ?hd (cs:=#[.slice none 0 0,.slice none 0 0]) (t:=27) ?hr ?_;(case hd=>rfl);(case hg=>rfl);(case hr=>go_simp <;> rfl)
          intro ω hg io hbox hb
          have τ :=Aside0.mk hbox
          have bb:=sGe hg
          have bk:=sGe hg
          have a5:=sNl U hg
          have ae:=sNg U hg
          have a6:=sNl Y hg
          have ah:=sNg Y hg
          have a2:=sNl X hg
          have aj:=sNg X hg
          replace μ :=sRb μ hb
          replace ν :=sRb ν hb
          replace a3:=sRb a3 hb
          replace a4:=sRb a4 hb
          replace U:=sBk U hb
          replace Y:=sBk Y hb
          replace X:=sBk X hb
          replace HB:=sHb hb
          clear hb hbox hg
          refine hK.out _ _ ⟨qc U,qc U,qc Y,qc Y,qc X,qc X,qc X⟩ (fun hHeld=>?_)
          clear hK K
          refine qN (some 7) ?_
          exact Xn (by simp only[Z9,Act.put,qS]) (hCont (.slice iv b2.length iw,.slice dm b3.length dp,bi,bj,ω) _ ⟨hHeld,(by(with_reducible repeat first|apply Kd.Qm|apply Kd.Ql|apply Kd.Qn);exact Kd.Qr μ.out (fun _ hk=>hk.2)),(by(with_reducible repeat first|apply Kd.Qm|apply Kd.Ql|apply Kd.Qn);exact Kd.Qr ν.out (fun _ hk=>hk.2)),(by(with_reducible repeat first|apply Kd.Qm|apply Kd.Ql|apply Kd.Qn);exact Kd.Qr a3.out (fun _ hk=>hk.2)),(by(with_reducible repeat first|apply Kd.Qm|apply Kd.Ql|apply Kd.Qn);exact Kd.Qr a4.out (fun _ hk=>hk.2)),U.out,Y.out,X.out,τ.out,bb.out,bk.out,a5.out,ae.out,a6.out,ah.out,a2.out,aj.out,HB.out⟩)
         ·skip
          refine Xo ?hg (N:=7) ?hd (cs:=#[.slice none 0 0,.slice none 0 0]) (t:=27) ?hr ?_;(case hd=>rfl);(case hg=>rfl);(case hr=>go_simp <;> rfl)
          intro ω hg il hbox hb
          have τ :=Aside0.mk hbox
          have bb:=sGe hg
          have bk:=sGe hg
          have a5:=sNl U hg
          have ae:=sNg U hg
          have a6:=sNl Y hg
          have ah:=sNg Y hg
          have a2:=sNl X hg
          have aj:=sNg X hg
          replace μ :=sRb μ hb
          replace ν :=sRb ν hb
          replace U:=sBk U hb
          replace Y:=sBk Y hb
          replace X:=sBk X hb
          replace HB:=sHb hb
          clear hb hbox hg
          obtain⟨dm,dp,dq⟩:=Kd.Q5 μ.out
          (first|subst dq|(injection dq with φ a9 χ;have aa:= φ.symm;have ab:= χ.symm;clear φ a9 χ;subst aa;subst ab))
          obtain⟨et,eu,ek⟩:=Kd.Q5 ν.out
          (first|subst ek|(injection ek with φ a9 χ;have aa:= φ.symm;have ab:= χ.symm;clear φ a9 χ;subst aa;subst ab))
          refine hK.out _ _ ⟨qc U,qc U,qc Y,qc Y,qc X,qc X,qc X⟩ (fun hHeld=>?_)
          clear hK K
          refine qN (some 7) ?_
          refine Zi (i:=4) (N:=some 18) (bN 11 287) rfl rfl (Q0 HT_.out kr) (by decide) (fun K hK=>?_)
          refine Zc Try.func11 kr rfl #[.agg #[.int .i64 J,.int .i64 D],.agg #[.slice dm b2.length dp,.slice et b3.length eu],.agg #[.int .i64 δ,.int .i64 L,.int .i64 θ]] (by rfl) rfl rfl qM ?_
          with_reducible refine(call_Press.calls k J D _ _ b2 _ _ b3 δ L θ ao ay av _ ?side1 ?side2 ?side3 ?side4 A7.out).mono ?_
          (case side1=>exact(Kd.Qq μ.out).2.2)
          (case side2=>exact(Kd.Qq μ.out).2.1)
          (case side3=>exact(Kd.Qq ν.out).2.2)
          (case side4=>exact(Kd.Qq ν.out).2.1)
          rintro e io ⟨bi,bj,rfl,ρ,a7,hb⟩
          refine⟨_,rfl, ?_⟩
          have a3:=Aside0.mk (Kd.Q2 (Kd.Zr ρ (Kd.Z8 μ.out)) (Qj HB.out))
          have a4:=Aside0.mk (Kd.Q2 (Kd.Zr a7 (Kd.Z8 ν.out)) (Qj HB.out))
          replace μ :=Aside0.mk (Kd.Zb μ.out (Kd.Zf ρ) hb)
          replace ν :=Aside0.mk (Kd.Zb ν.out (Kd.Zf a7) hb)
          replace U:=sBk U hb
          replace Y:=sBk Y hb
          replace X:=sBk X hb
          replace τ :=sBk τ hb
          replace HB:=sHb hb
          (try clear hb)
          (try clear a0)
          (try clear hk)
          (try clear hi)
          (try clear ρ)
          (try clear a7)
          refine hK.out _ _ ⟨qc U,qc U,qc Y,qc Y,qc X,qc X,qc X⟩ (fun hHeld=>?_)
          clear hK K
          refine qN (some 18) ?_
          refine qP 5 (some 13) (bN 11 319) HT_ ?_
          refine qP 6 (some 19) (bN 11 383) HT_ ?_
          refine qP 7 (some 20) (bN 11 511) HT_ ?_
          exact Xn (by simp only[Z9,Act.put,qS]) (hCont (.slice dm b2.length dp,.slice et b3.length eu,bi,bj,ω) _ ⟨hHeld,(by(with_reducible repeat first|apply Kd.Qm|apply Kd.Ql|apply Kd.Qn);exact Kd.Qr μ.out (fun _ hk=>hk.2)),(by(with_reducible repeat first|apply Kd.Qm|apply Kd.Ql|apply Kd.Qn);exact Kd.Qr ν.out (fun _ hk=>hk.2)),(by(with_reducible repeat first|apply Kd.Qm|apply Kd.Ql|apply Kd.Qn);exact Kd.Qr a3.out (fun _ hk=>hk.2)),(by(with_reducible repeat first|apply Kd.Qm|apply Kd.Ql|apply Kd.Qn);exact Kd.Qr a4.out (fun _ hk=>hk.2)),U.out,Y.out,X.out,τ.out,bb.out,bk.out,a5.out,ae.out,a6.out,ah.out,a2.out,aj.out,HB.out⟩)
        ·skip
         refine Xo ?hg (N:=7) ?hd (cs:=#[.slice none 0 0,.slice none 0 0]) (t:=27) ?hr ?_;(case hd=>rfl);(case hg=>rfl);(case hr=>go_simp <;> rfl)
         intro ω hg m8 hbox hb
         have τ :=Aside0.mk hbox
         have bb:=sGe hg
         have bk:=sGe hg
         have a5:=sNl U hg
         have ae:=sNg U hg
         have a6:=sNl Y hg
         have ah:=sNg Y hg
         have a2:=sNl X hg
         have aj:=sNg X hg
         replace U:=sBk U hb
         replace Y:=sBk Y hb
         replace X:=sBk X hb
         replace HB:=sHb hb
         clear hb hbox hg
         refine hK.out _ _ ⟨qc U,qc U,qc Y,qc Y,qc X,qc X,qc X⟩ (fun hHeld=>?_)
         clear hK K
         refine qN (some 7) ?_
         refine Zi (i:=2) (N:=some 16) (bN 11 271) rfl rfl (Q0 HT_.out kr) (by decide) (fun K hK=>?_)
         refine Zc Try.func12 kr rfl #[.agg #[.slice ζ B.length γ,.slice η I.length ε]] (by rfl) rfl rfl qM ?_
         with_reducible refine(newellaw19_Own.calls _ _ B _ _ I b2 b3 _ ?side1 ?side2 ?side3 ?side4 A6.out).mono ?_
         (case side1=>exact(Kd.Qz ag.out HB.out))
         (case side2=>exact ar.out)
         (case side3=>exact(Kd.Qz ai.out HB.out))
         (case side4=>exact au.out)
         rintro e il ⟨cu,cv,rfl,ρ,a7,hb⟩
         refine⟨_,rfl, ?_⟩
         have μ :=Aside0.mk (Kd.Q2 ρ (Qj HB.out))
         have ν :=Aside0.mk (Kd.Q2 a7 (Qj HB.out))
         replace U:=sBk U hb
         replace Y:=sBk Y hb
         replace X:=sBk X hb
         replace τ :=sBk τ hb
         replace HB:=sHb hb
         (try clear hb)
         (try clear a0)
         (try clear hk)
         (try clear hi)
         (try clear ρ)
         (try clear a7)
         obtain⟨dm,dp,dq⟩:=Kd.Q5 μ.out
         (first|subst dq|(injection dq with φ a9 χ;have aa:= φ.symm;have ab:= χ.symm;clear φ a9 χ;subst aa;subst ab))
         obtain⟨et,eu,ek⟩:=Kd.Q5 ν.out
         (first|subst ek|(injection ek with φ a9 χ;have aa:= φ.symm;have ab:= χ.symm;clear φ a9 χ;subst aa;subst ab))
         refine hK.out _ _ ⟨qc U,qc U,qc Y,qc Y,qc X,qc X,qc X⟩ (fun hHeld=>?_)
         clear hK K
         refine qN (some 16) ?_
         refine Zi (i:=4) (N:=some 18) (bN 11 287) rfl rfl (Q0 HT_.out kr) (by decide) (fun K hK=>?_)
         refine Zc Try.func11 kr rfl #[.agg #[.int .i64 J,.int .i64 D],.agg #[.slice dm b2.length dp,.slice et b3.length eu],.agg #[.int .i64 δ,.int .i64 L,.int .i64 θ]] (by rfl) rfl rfl qM ?_
         with_reducible refine(call_Press.calls k J D _ _ b2 _ _ b3 δ L θ ao ay av _ ?side1 ?side2 ?side3 ?side4 A7.out).mono ?_
         (case side1=>exact(Kd.Qq μ.out).2.2)
         (case side2=>exact(Kd.Qq μ.out).2.1)
         (case side3=>exact(Kd.Qq ν.out).2.2)
         (case side4=>exact(Kd.Qq ν.out).2.1)
         rintro e io ⟨bi,bj,rfl,ρ,a7,hb⟩
         refine⟨_,rfl, ?_⟩
         have a3:=Aside0.mk (Kd.Q2 (Kd.Zr ρ (Kd.Z8 μ.out)) (Qj HB.out))
         have a4:=Aside0.mk (Kd.Q2 (Kd.Zr a7 (Kd.Z8 ν.out)) (Qj HB.out))
         replace μ :=Aside0.mk (Kd.Zb μ.out (Kd.Zf ρ) hb)
         replace ν :=Aside0.mk (Kd.Zb ν.out (Kd.Zf a7) hb)
         replace U:=sBk U hb
         replace Y:=sBk Y hb
         replace X:=sBk X hb
         replace τ :=sBk τ hb
         replace HB:=sHb hb
         (try clear hb)
         (try clear a0)
         (try clear hk)
         (try clear hi)
         (try clear ρ)
         (try clear a7)
         refine hK.out _ _ ⟨qc U,qc U,qc Y,qc Y,qc X,qc X,qc X⟩ (fun hHeld=>?_)
         clear hK K
         refine qN (some 18) ?_
         refine qP 5 (some 13) (bN 11 319) HT_ ?_
         refine qP 6 (some 19) (bN 11 383) HT_ ?_
         refine qP 7 (some 20) (bN 11 511) HT_ ?_
         exact Xn (by simp only[Z9,Act.put,qS]) (hCont (.slice dm b2.length dp,.slice et b3.length eu,bi,bj,ω) _ ⟨hHeld,(by(with_reducible repeat first|apply Kd.Qm|apply Kd.Ql|apply Kd.Qn);exact Kd.Qr μ.out (fun _ hk=>hk.2)),(by(with_reducible repeat first|apply Kd.Qm|apply Kd.Ql|apply Kd.Qn);exact Kd.Qr ν.out (fun _ hk=>hk.2)),(by(with_reducible repeat first|apply Kd.Qm|apply Kd.Ql|apply Kd.Qn);exact Kd.Qr a3.out (fun _ hk=>hk.2)),(by(with_reducible repeat first|apply Kd.Qm|apply Kd.Ql|apply Kd.Qn);exact Kd.Qr a4.out (fun _ hk=>hk.2)),U.out,Y.out,X.out,τ.out,bb.out,bk.out,a5.out,ae.out,a6.out,ah.out,a2.out,aj.out,HB.out⟩)
       rintro⟨cu,cv,bi,bj,ω⟩ d3 ⟨hS_,cj,ck,cm,cn,co,dy,dz,e0,e3,e4,db,dc,dd,de,df,dh,di⟩
       have O:Aside0 (Kd.R k56 56 d3 w.heap.size (fun k_=>some k_≠(bi:Value).ownBlock) cu b2):=⟨cj⟩
       have Z:Aside0 (Kd.R k62 62 d3 w.heap.size (fun k_=>some k_≠(bj:Value).ownBlock) cv b3):=⟨ck⟩
       have ι :Aside0 (Kd.R k56 56 d3 w.heap.size (fun k_=>some k_≠(cu:Value).ownBlock) bi ao):=⟨cm⟩
       have κ :Aside0 (Kd.R k62 62 d3 w.heap.size (fun k_=>some k_≠(cv:Value).ownBlock) bj ay):=⟨cn⟩
       have ξ :Aside0 (d3.heap[ak]?=some (.cells #[.int .i64 J,.int .i64 D] 23 (0,0))):=⟨co⟩
       have ψ :Aside0 (d3.heap[am]?=some (.cells #[.slice ζ B.length γ,.slice η I.length ε] 27 (0,0))):=⟨dy⟩
       have a1:Aside0 (d3.heap[a8]?=some (.cells #[.int .i64 δ,.int .i64 L,.int .i64 θ] 29 (0,0))):=⟨dz⟩
       have af:Aside0 (d3.heap[ω]?=some (.cells #[.slice none 0 0,.slice none 0 0] 27 (0,0))):=⟨e0⟩
       have al:Aside0 (w.heap.size ≤ ω):=⟨e3⟩
       have ax:Aside0 (w.heap.size ≤ ω):=⟨e4⟩
       have ap:Aside0 (ak ≠ ω):=⟨db⟩
       have aw:Aside0 (ω ≠ ak):=⟨dc⟩
       have b1:Aside0 (am ≠ ω):=⟨dd⟩
       have b8:Aside0 (ω ≠ am):=⟨de⟩
       have b9:Aside0 (a8 ≠ ω):=⟨df⟩
       have be:Aside0 (ω ≠ a8):=⟨dh⟩
       have bf:Aside0 (Below w.heap.size w d3):=⟨di⟩
       clear U
       clear Y
       clear X
       clear HB
       clear cj ck cm cn co dy dz e0 e3 e4 db dc dd de df dh di
       have μ :=O
       have ν :=Z
       have a3:= ι
       have a4:= κ
       have U:= ξ
       have Y:= ψ
       have X:=a1
       have τ :=af
       have bb:=al
       have bk:=ax
       have a5:=ap
       have ae:=aw
       have a6:=b1
       have ah:=b8
       have a2:=b9
       have aj:=be
       have HB:=bf
       clear O Z ι κ ξ ψ a1 af al ax ap aw b1 b8 b9 be bf
       have hHeld:d3.cell? ⟨ak,0,none⟩=some (.int .i64 J)∧d3.cell? ⟨ak,1,none⟩=some (.int .i64 D)∧d3.cell? ⟨am,0,none⟩=some (.slice ζ B.length γ)∧d3.cell? ⟨am,1,none⟩=some (.slice η I.length ε)∧d3.cell? ⟨a8,0,none⟩=some (.int .i64 δ)∧d3.cell? ⟨a8,1,none⟩=some (.int .i64 L)∧d3.cell? ⟨a8,2,none⟩=some (.int .i64 θ):=hS_
       obtain⟨gn,gp,iy⟩:=Kd.Q5 a3.out
       (first|subst iy|(injection iy with φ a9 χ;have aa:= φ.symm;have ab:= χ.symm;clear φ a9 χ;subst aa;subst ab))
       obtain⟨gx,gy,iz⟩:=Kd.Q5 a4.out
       (first|subst iz|(injection iz with φ a9 χ;have aa:= φ.symm;have ab:= χ.symm;clear φ a9 χ;subst aa;subst ab))
       refine Xn (a':=?_) ?_ ?_
       rotate_left
       ·simp only[Z9,Act.put,qS]
        rfl
       refine Zi (i:=9) (N:=none) (bN 11 1023) rfl rfl (Q0 HT_.out kr) (by decide) (fun K hK=>?_)
       have nd:d3.cell? ⟨ω,0,none⟩=some (.slice none 0 0):=(Qi τ.out 0).trans rfl
       have my:=Q6 τ.out 0
       have l2:=a5.out
       have l3:=a6.out
       have l4:=a2.out
       have l5:=ae.out
       have l6:=ah.out
       have l7:=aj.out
       have nf:d3.cell? ⟨ω,1,none⟩=some (.slice none 0 0):=(Qi τ.out 1).trans rfl
       have mz:=Q6 τ.out 1
       have l8:=a5.out
       have lc:=a6.out
       have lf:=a2.out
       have lh:=ae.out
       have ll:=ah.out
       have lm:=aj.out
       refine Y4 (w1:=?_) (by rfl) rfl ?_ ?_
       rotate_left
       ·go_simp
        rfl
       refine hK.out _ _ ⟨((cell_far (p:=⟨ω,_,none⟩) a5.out _).trans (((cell_far (p:=⟨ω,_,none⟩) a5.out _).trans (hHeld.1)))),((cell_far (p:=⟨ω,_,none⟩) a5.out _).trans (((cell_far (p:=⟨ω,_,none⟩) a5.out _).trans (hHeld.2.1)))),((cell_far (p:=⟨ω,_,none⟩) a6.out _).trans (((cell_far (p:=⟨ω,_,none⟩) a6.out _).trans (hHeld.2.2.1)))),((cell_far (p:=⟨ω,_,none⟩) a6.out _).trans (((cell_far (p:=⟨ω,_,none⟩) a6.out _).trans (hHeld.2.2.2.1)))),((cell_far (p:=⟨ω,_,none⟩) a2.out _).trans (((cell_far (p:=⟨ω,_,none⟩) a2.out _).trans (hHeld.2.2.2.2.1)))),((cell_far (p:=⟨ω,_,none⟩) a2.out _).trans (((cell_far (p:=⟨ω,_,none⟩) a2.out _).trans (hHeld.2.2.2.2.2.1)))),((cell_far (p:=⟨ω,_,none⟩) a2.out _).trans (((cell_far (p:=⟨ω,_,none⟩) a2.out _).trans (hHeld.2.2.2.2.2.2))))⟩ (fun hHeld=>?_)
       clear hK K
       refine qP 10 (some 8) (bN 11 2047) HT_ ?_
       refine Zq (Zd HT_.out kr) ?_
       have n0:=cx.out
       have n1:=cy.out
       have j2:=a5.out
       have j3:=ae.out
       obtain⟨ic,ie,ig,ii⟩:=qD2 U.out
       have j4:=a6.out
       have j5:=ah.out
       obtain⟨fw,fx,fy,fz⟩:=qD2 Y.out
       try go_wp2_with (first|((with_reducible refine Q1 (f:=13) rfl ?_);refine Zp (some 23) rfl rfl Try.func13 kr rfl #[.agg #[.int .i64 J,.int .i64 D],.agg #[.slice ζ B.length γ,.slice η I.length ε]] rfl qM ?_;(with_reducible refine(newelref19_May.calls k J D _ _ B _ _ I true _ ?side1 ?side2 ?side3 ?side4 A8.out).mono ?_);(case side1=>exact Kd.Qz ag.out bel);(case side2=>exact ar.out);(case side3=>exact Kd.Qz ai.out bel);(case side4=>exact au.out);rintro e lg ⟨rfl,hb⟩;refine⟨_,rfl, ?_⟩;replace μ :=Aside0.mk (Kd.Qu (by(with_reducible repeat first|apply Kd.Qm|apply Kd.Ql|apply Kd.Qn);exact(Kd.Qr (Kd.Qs (Kd.Qs (Kd.Qv μ.out τ.out (by decide)) (fun _ hk=>hk.2) _) (fun _ hk=>hk.2) _) (fun _ h_=>h_.1))) hb);replace ν :=Aside0.mk (Kd.Qu (by(with_reducible repeat first|apply Kd.Qm|apply Kd.Ql|apply Kd.Qn);exact(Kd.Qr (Kd.Qs (Kd.Qs (Kd.Qv ν.out τ.out (by decide)) (fun _ hk=>hk.2) _) (fun _ hk=>hk.2) _) (fun _ h_=>h_.1))) hb);replace a3:=Aside0.mk (Kd.Qu (by(with_reducible repeat first|apply Kd.Qm|apply Kd.Ql|apply Kd.Qn);exact(Kd.Qr (Kd.Qs (Kd.Qs (Kd.Qv a3.out τ.out (by decide)) (fun _ hk=>hk.2) _) (fun _ hk=>hk.2) _) (fun _ h_=>h_.1))) hb);replace a4:=Aside0.mk (Kd.Qu (by(with_reducible repeat first|apply Kd.Qm|apply Kd.Ql|apply Kd.Qn);exact(Kd.Qr (Kd.Qs (Kd.Qs (Kd.Qv a4.out τ.out (by decide)) (fun _ hk=>hk.2) _) (fun _ hk=>hk.2) _) (fun _ h_=>h_.1))) hb);replace U:=sBk U hb;replace Y:=sBk Y hb;replace X:=sBk X hb;replace τ :=Aside0.mk (Qo (g:= ω) (o:=.cells #[.slice gn ao.length gp,.slice gx ay.length gy] 27 (0,0)) (by(with_reducible repeat first|apply Qf|apply Qb|apply Qg);refine Qw (cs:=#[.slice gn ao.length gp,.slice none 0 0]) ?_ 1 _ rfl;(with_reducible repeat first|apply Qf|apply Qb|apply Qg);refine Qw (cs:=#[.slice none 0 0,.slice none 0 0]) ?_ 0 _ rfl;(with_reducible repeat first|apply Qf|apply Qb|apply Qg);exact τ.out) hb);replace HB:=sHb hb;(try clear hb);(try clear a0);(try clear hk);(try clear hi);obtain⟨lp,lq,lr,ls⟩:=qD2 U.out;have l9:=a2.out;have lb:=aj.out;obtain⟨h5,h6,lu,h7,h8,lv⟩:=qD3 X.out)|((with_reducible refine Q1 (f:=16) rfl ?_);refine Zp (some 44) rfl rfl Try.func16 kr rfl #[.agg #[.int .i64 J,.int .i64 D],.agg #[.int .i64 δ,.int .i64 L,.int .i64 θ]] rfl qM ?_;(with_reducible refine(newelref19_Button.calls J D δ L θ false _ f9.out).mono ?_);rintro e ns ⟨rfl,hb⟩;refine⟨_,rfl, ?_⟩;replace μ :=sRb μ hb;replace ν :=sRb ν hb;replace a3:=sRb a3 hb;replace a4:=sRb a4 hb;replace U:=sBk U hb;replace Y:=sBk Y hb;replace X:=sBk X hb;replace τ :=sBk τ hb;replace HB:=sHb hb;(try clear hb);(try clear a0);(try clear hk);(try clear hi))|((with_reducible refine Q1 (f:=10) rfl ?_);refine Zp (some 46) rfl rfl Try.func10 kr rfl #[] rfl qM ?_;(with_reducible refine(newellaw19_awake.calls k  true _ ir.out).mono ?_);rintro e mi ⟨rfl,hb⟩;refine⟨_,rfl, ?_⟩;replace μ :=sRb μ hb;replace ν :=sRb ν hb;replace a3:=sRb a3 hb;replace a4:=sRb a4 hb;replace U:=sBk U hb;replace Y:=sBk Y hb;replace X:=sBk X hb;replace τ :=sBk τ hb;replace HB:=sHb hb;(try clear hb);(try clear a0);(try clear hk);(try clear hi);obtain⟨h9,ha,he,hh⟩:=qD2 U.out;obtain⟨lw,lx,ly,lz⟩:=qD2 Y.out)|(go_at_call 14;(with_reducible refine(call_Check.calls k J D _ _ B _ _ I bg _ ?side1 ?side2 ?side3 ?side4 m6.out).mono ?_);(case side1=>repeat(first|exact(Kd.Qz ag.out HB.out)|(with_reducible refine Kd.Za ?_ _)|(with_reducible refine Kd.Q9 ?_ _)|(with_reducible refine Kd.Zm ?_)));(case side2=>exact ar.out);(case side3=>repeat(first|exact(Kd.Qz ai.out HB.out)|(with_reducible refine Kd.Za ?_ _)|(with_reducible refine Kd.Q9 ?_ _)|(with_reducible refine Kd.Zm ?_)));(case side4=>exact au.out);rintro e nt ⟨rfl,hb⟩;have O:=Aside0.mk (Kd.Qu (kra μ) hb);have Z:=Aside0.mk (Kd.Qu (kra ν) hb);have ι :=Aside0.mk (Kd.Qu (kra a3) hb);have κ :=Aside0.mk (Kd.Qu (kra a4) hb);have ξ :=Aside0.mk (Qo (g:=ak) (o:=.cells #[.int .i64 J,.int .i64 D] 23 (0,0)) (bka U) hb);have ψ :=Aside0.mk (Qo (g:=am) (o:=.cells #[.slice ζ B.length γ,.slice η I.length ε] 27 (0,0)) (bka Y) hb);have a1:=Aside0.mk (Qo (g:=a8) (o:=.cells #[.int .i64 δ,.int .i64 L,.int .i64 θ] 29 (0,0)) (bka X) hb);have af:=Aside0.mk (Qo (g:= ω) (o:=.cells #[.slice gn ao.length gp,.slice gx ay.length gy] 27 (0,0)) (bka τ) hb);have al:=Aside0.mk (Qt bel hb);clear μ;clear ν;clear a3;clear a4;clear U;clear Y;clear X;clear τ;clear HB;have μ :=O;have ν :=Z;have a3:= ι;have a4:= κ;have U:= ξ;have Y:= ψ;have X:=a1;have τ :=af;have HB:=al;clear O Z ι κ ξ ψ a1 af al;(try clear hb);(try clear a0);(try clear hk);(try clear hi);obtain⟨m0,m1,m2,m3⟩:=qD2 τ.out)|(go_at_call 15;(refine(newelref19_Same.calls k _ _ ao _ _ ay _ _ ([]:List (S56)) _ _ ([]:List (S62)) bh _ ?side1 ?side2 ?side3 ?side4 ?side5 ?side6 ?side7 ?side8 m7.out).mono ?_);(case side1=>repeat(first|exact(Kd.Qq a3.out).2.2|(with_reducible refine Kd.Za ?_ _)|(with_reducible refine Kd.Q9 ?_ _)|(with_reducible refine Kd.Zm ?_)));(case side2=>exact(Kd.Qq a3.out).2.1);(case side3=>repeat(first|exact(Kd.Qq a4.out).2.2|(with_reducible refine Kd.Za ?_ _)|(with_reducible refine Kd.Q9 ?_ _)|(with_reducible refine Kd.Zm ?_)));(case side4=>exact(Kd.Qq a4.out).2.1);(case side5=>exact Kd.Gr _ _);(case side6=>exact Nat.le_refl _);(case side7=>exact Kd.Gr _ _);(case side8=>exact Nat.le_refl _);rintro e nu ⟨rfl,hb⟩;have O:=Aside0.mk (Kd.Qu (kra μ) hb);have Z:=Aside0.mk (Kd.Qu (kra ν) hb);have ι :=Aside0.mk (Kd.Qu (kra a3) hb);have κ :=Aside0.mk (Kd.Qu (kra a4) hb);have ξ :=Aside0.mk (Qo (g:=ak) (o:=.cells #[.int .i64 J,.int .i64 D] 23 (0,0)) (bka U) hb);have ψ :=Aside0.mk (Qo (g:=am) (o:=.cells #[.slice ζ B.length γ,.slice η I.length ε] 27 (0,0)) (bka Y) hb);have a1:=Aside0.mk (Qo (g:=a8) (o:=.cells #[.int .i64 δ,.int .i64 L,.int .i64 θ] 29 (0,0)) (bka X) hb);have af:=Aside0.mk (Qo (g:= ω) (o:=.cells #[.slice gn ao.length gp,.slice gx ay.length gy] 27 (0,0)) (bka τ) hb);have al:=Aside0.mk (Qt bel hb);clear μ;clear ν;clear a3;clear a4;clear U;clear Y;clear X;clear τ;clear HB;have μ :=O;have ν :=Z;have a3:= ι;have a4:= κ;have U:= ξ;have Y:= ψ;have X:=a1;have τ :=af;have HB:=al;clear O Z ι κ ξ ψ a1 af al;(try clear hb);(try clear a0);(try clear hk);(try clear hi)))
       go_ret
       exact⟨rfl,HB.out⟩
      ·rw[if_neg du] at H
       exact absurd H (by simp)
     ·rw[if_neg dx] at H
      exact absurd H (by simp)
    ·replace ef:=Bool.eq_false_iff.mpr ef
     subst ef
     have H1:(none)=some r:=by rw[if_neg (show ¬ (false=true) by decide)] at H;exact H
     clear H
     have H:=H1
     clear H1
     exact absurd H (by simp)
  ·replace c9:=Bool.eq_false_iff.mpr c9
   subst c9
   have H1:((newellaw19_awake.f k).bind fun bs=>(if bs=true then (if av=190 then ((call_Check.f k J D B I).bind fun bl=>(if bl=av then ((newelref19_Same.f k ao ay ([]:List (S56)) ([]:List (S62))).bind fun bm=>(some bm)) else (none))) else (none)) else (none)))=some r:=by rw[if_neg (show ¬ (false=true) by decide)] at H;exact H
   clear H
   have H:=H1
   clear H1
   replace H:=Option.bind_eq_some_iff.mp H
   obtain⟨bs,j6,H⟩:=H
   replace H:(if bs=true then (if av=190 then ((call_Check.f k J D B I).bind fun bl=>(if bl=av then ((newelref19_Same.f k ao ay ([]:List (S56)) ([]:List (S62))).bind fun bm=>(some bm)) else (none))) else (none)) else (none))=some r:=H
   have m9:=Aside0.mk j6
   clear j6
   by_cases h0:bs=true
   ·subst h0
    have H1:(if av=190 then ((call_Check.f k J D B I).bind fun bl=>(if bl=av then ((newelref19_Same.f k ao ay ([]:List (S56)) ([]:List (S62))).bind fun bm=>(some bm)) else (none))) else (none))=some r:=by rw[if_pos rfl] at H;exact H
    clear H
    have H:=H1
    clear H1
    by_cases gv:av=190
    ·rw[if_pos gv] at H
     have c96b0:(av==190)=true:=beq_iff_eq.mpr gv
     have c96b1:(av != 190)=false:=bne_eq_false_iff_eq.mpr gv
     clear gv
     replace H:=Option.bind_eq_some_iff.mp H
     obtain⟨bl,j7,H⟩:=H
     replace H:(if bl=av then ((newelref19_Same.f k ao ay ([]:List (S56)) ([]:List (S62))).bind fun bm=>(some bm)) else (none))=some r:=H
     have ma:=Aside0.mk j7
     clear j7
     by_cases gw:bl=av
     ·rw[if_pos gw] at H
      have c98b0:(bl==av)=true:=beq_iff_eq.mpr gw
      have c98b1:(bl != av)=false:=bne_eq_false_iff_eq.mpr gw
      clear gw
      replace H:=Option.bind_eq_some_iff.mp H
      obtain⟨bm,j8,H⟩:=H
      replace H:(some bm)=some r:=H
      have mb:=Aside0.mk j8
      clear j8
      obtain rfl:=Option.some.inj H
      go_enter Try.func3,Try.ntmps3
      try go_wp2_with (first|((with_reducible refine Qp (N:=3) rfl ?_);refine qE 3 #[.int .i64 J,.int .i64 D] 23 ?_;intro ak hg kh hbox hb;have U:=Aside0.mk hbox;have dr:=sGe hg;have g9:=sGe hg;replace HB:=sHb hb;clear hb hbox hg)|((with_reducible refine Qp (N:=4) rfl ?_);refine qE 4 #[.slice ζ B.length γ,.slice η I.length ε] 27 ?_;intro am hg ln hbox hb;have Y:=Aside0.mk hbox;have dt:=sGe hg;have gk:=sGe hg;have ci:=sNl U hg;have cp:=sNg U hg;replace U:=sBk U hb;replace HB:=sHb hb;clear hb hbox hg)|((with_reducible refine Qp (N:=5) rfl ?_);refine qE 5 #[.int .i64 δ,.int .i64 L,.int .i64 θ] 29 ?_;intro a8 hg ia hbox hb;have X:=Aside0.mk hbox;have dv:=sGe hg;have gm:=sGe hg;have cx:=sNl U hg;have cy:=sNg U hg;have cq:=sNl Y hg;have cr:=sNg Y hg;replace U:=sBk U hb;replace Y:=sBk Y hb;replace HB:=sHb hb;clear hb hbox hg;have mc:=cp.out;have me:=ci.out;have mf:=cq.out;have mg:=cr.out;obtain⟨jj,jk,jl,jm⟩:=qD2 Y.out)|((with_reducible refine Q1 (f:=9) rfl ?_);refine Zp (some 10) rfl rfl Try.func9 kr rfl #[.agg #[.slice ζ B.length γ,.slice η I.length ε]] rfl qM ?_;(with_reducible refine(newelref19_Few.calls _ _ B _ _ I true _ ?side1 ?side2 ?side3 ?side4 A4.out).mono ?_);(case side1=>exact(Kd.Qz ag.out HB.out));(case side2=>exact ar.out);(case side3=>exact(Kd.Qz ai.out HB.out));(case side4=>exact au.out);rintro e i4 ⟨rfl,hb⟩;refine⟨_,rfl, ?_⟩;replace U:=sBk U hb;replace Y:=sBk Y hb;replace X:=sBk X hb;replace HB:=sHb hb;(try clear hb);(try clear a0);(try clear hk);(try clear hi)))
      replace U:=Aside0.mk (Qb U.out)
      replace Y:=Aside0.mk (Qb Y.out)
      replace X:=Aside0.mk (Qb X.out)
      replace HB:=Aside0.mk (Qe HB.out)
      refine Ze (n:=11) (S:=fun w'=>w'.cell? ⟨ak,0,none⟩=some (.int .i64 J)∧w'.cell? ⟨ak,1,none⟩=some (.int .i64 D)∧w'.cell? ⟨am,0,none⟩=some (.slice ζ B.length γ)∧w'.cell? ⟨am,1,none⟩=some (.slice η I.length ε)∧w'.cell? ⟨a8,0,none⟩=some (.int .i64 δ)∧w'.cell? ⟨a8,1,none⟩=some (.int .i64 L)∧w'.cell? ⟨a8,2,none⟩=some (.int .i64 θ)) (ds:=[]) #[false,false,false,false,false,false,false,false,false,false,false] kr rfl rfl ⟨(Qi U.out 0).trans rfl,(Qi U.out 1).trans rfl,(Qi Y.out 0).trans rfl,(Qi Y.out 1).trans rfl,(Qi X.out 0).trans rfl,(Qi X.out 1).trans rfl,(Qi X.out 2).trans rfl⟩ (fun hHeld=>?_);refine Q4 newellaw19_CallPresses.Lg newellaw19_CallPresses.Vv (fun HT_ HW_=>?_)
      generalize i4.drew=ca at U Y X HB hHeld ⊢
      refine qT 0 (some 14) (bN 11 1) HT_ HW_ hHeld ?_
      refine qT 1 (some 15) (bN 11 3) HT_ HW_ hHeld ?_
      refine qT 3 (some 17) (bN 11 11) HT_ HW_ hHeld ?_
      refine Gl (σ:=Value×Value×Value×Value×Nat) 2 (bN 11 511) (fun s_=>[(16,.agg #[s_.1,s_.2.1]),(18,.tuple #[.agg #[s_.2.2.1,s_.2.2.2.1],.int .i64 av]),(7,.pointer (some ⟨s_.2.2.2.2,0,none⟩)),(13,.tuple #[.agg #[s_.2.2.1,s_.2.2.2.1],.int .i64 av]),(19,.agg #[s_.2.2.1,s_.2.2.2.1]),(20,.int .i64 av)]) (fun s_ w'=>(w'.cell? ⟨ak,0,none⟩=some (.int .i64 J)∧w'.cell? ⟨ak,1,none⟩=some (.int .i64 D)∧w'.cell? ⟨am,0,none⟩=some (.slice ζ B.length γ)∧w'.cell? ⟨am,1,none⟩=some (.slice η I.length ε)∧w'.cell? ⟨a8,0,none⟩=some (.int .i64 δ)∧w'.cell? ⟨a8,1,none⟩=some (.int .i64 L)∧w'.cell? ⟨a8,2,none⟩=some (.int .i64 θ))∧(Kd.R k56 56 w' w.heap.size (fun k_=>some k_≠(s_.2.2.1:Value).ownBlock) s_.1 b2)∧(Kd.R k62 62 w' w.heap.size (fun k_=>some k_≠(s_.2.2.2.1:Value).ownBlock) s_.2.1 b3)∧(Kd.R k56 56 w' w.heap.size (fun k_=>some k_≠(s_.1:Value).ownBlock) s_.2.2.1 ao)∧(Kd.R k62 62 w' w.heap.size (fun k_=>some k_≠(s_.2.1:Value).ownBlock) s_.2.2.2.1 ay)∧(w'.heap[ak]?=some (.cells #[.int .i64 J,.int .i64 D] 23 (0,0)))∧(w'.heap[am]?=some (.cells #[.slice ζ B.length γ,.slice η I.length ε] 27 (0,0)))∧(w'.heap[a8]?=some (.cells #[.int .i64 δ,.int .i64 L,.int .i64 θ] 29 (0,0)))∧(w'.heap[s_.2.2.2.2]?=some (.cells #[.slice none 0 0,.slice none 0 0] 27 (0,0)))∧(w.heap.size≤s_.2.2.2.2)∧(w.heap.size≤s_.2.2.2.2)∧(ak≠s_.2.2.2.2)∧(s_.2.2.2.2≠ak)∧(am≠s_.2.2.2.2)∧(s_.2.2.2.2≠am)∧(a8≠s_.2.2.2.2)∧(s_.2.2.2.2≠a8)∧(Below w.heap.size w w')) ?_ ?_
      rotate_left
      ·intro hCont
       refine Ks (i:=2) (j:=8) (Ni:=some 16) (Nj:=some 7) (bN 11 15) (bN 11 267) rfl rfl rfl rfl (Yn HT_.out kr) (by decide) (by decide) (fun K hK=>?_) (fun K hK=>?_)
       ·skip
        refine Zc Try.func12 kr rfl #[.agg #[.slice ζ B.length γ,.slice η I.length ε]] (by rfl) rfl rfl qM ?_
        with_reducible refine(newellaw19_Own.calls _ _ B _ _ I b2 b3 _ ?side1 ?side2 ?side3 ?side4 A6.out).mono ?_
        (case side1=>exact(Kd.Qz ag.out HB.out))
        (case side2=>exact ar.out)
        (case side3=>exact(Kd.Qz ai.out HB.out))
        (case side4=>exact au.out)
        rintro e jn ⟨cu,cv,rfl,ρ,a7,hb⟩
        refine⟨_,rfl, ?_⟩
        have μ :=Aside0.mk (Kd.Q2 ρ (Qj HB.out))
        have ν :=Aside0.mk (Kd.Q2 a7 (Qj HB.out))
        replace U:=sBk U hb
        replace Y:=sBk Y hb
        replace X:=sBk X hb
        replace HB:=sHb hb
        (try clear hb)
        (try clear a0)
        (try clear hk)
        (try clear hi)
        (try clear ρ)
        (try clear a7)
        obtain⟨h4,ho,hu⟩:=Kd.Q5 μ.out
        (first|subst hu|(injection hu with φ a9 χ;have aa:= φ.symm;have ab:= χ.symm;clear φ a9 χ;subst aa;subst ab))
        obtain⟨cf,cg,dj⟩:=Kd.Q5 ν.out
        (first|subst dj|(injection dj with φ a9 χ;have aa:= φ.symm;have ab:= χ.symm;clear φ a9 χ;subst aa;subst ab))
        refine hK.out _ _ ⟨qc U,qc U,qc Y,qc Y,qc X,qc X,qc X⟩ (fun hHeld=>?_)
        clear hK K
        refine qN (some 16) ?_
        refine Ks (i:=4) (j:=8) (Ni:=some 18) (Nj:=some 7) (bN 11 31) (bN 11 271) rfl rfl rfl rfl (Yn HT_.out kr) (by decide) (by decide) (fun K hK=>?_) (fun K hK=>?_)
        ·skip
         refine Zc Try.func11 kr rfl #[.agg #[.int .i64 J,.int .i64 D],.agg #[.slice h4 b2.length ho,.slice cf b3.length cg],.agg #[.int .i64 δ,.int .i64 L,.int .i64 θ]] (by rfl) rfl rfl qM ?_
         with_reducible refine(call_Press.calls k J D _ _ b2 _ _ b3 δ L θ ao ay av _ ?side1 ?side2 ?side3 ?side4 A7.out).mono ?_
         (case side1=>exact(Kd.Qq μ.out).2.2)
         (case side2=>exact(Kd.Qq μ.out).2.1)
         (case side3=>exact(Kd.Qq ν.out).2.2)
         (case side4=>exact(Kd.Qq ν.out).2.1)
         rintro e ng ⟨bi,bj,rfl,ρ,a7,hb⟩
         refine⟨_,rfl, ?_⟩
         have a3:=Aside0.mk (Kd.Q2 (Kd.Zr ρ (Kd.Z8 μ.out)) (Qj HB.out))
         have a4:=Aside0.mk (Kd.Q2 (Kd.Zr a7 (Kd.Z8 ν.out)) (Qj HB.out))
         replace μ :=Aside0.mk (Kd.Zb μ.out (Kd.Zf ρ) hb)
         replace ν :=Aside0.mk (Kd.Zb ν.out (Kd.Zf a7) hb)
         replace U:=sBk U hb
         replace Y:=sBk Y hb
         replace X:=sBk X hb
         replace HB:=sHb hb
         (try clear hb)
         (try clear a0)
         (try clear hk)
         (try clear hi)
         (try clear ρ)
         (try clear a7)
         refine hK.out _ _ ⟨qc U,qc U,qc Y,qc Y,qc X,qc X,qc X⟩ (fun hHeld=>?_)
         clear hK K
         refine qN (some 18) ?_
         refine qP 5 (some 13) (bN 11 63) HT_ ?_
         refine qP 6 (some 19) (bN 11 127) HT_ ?_
         refine qP 7 (some 20) (bN 11 255) HT_ ?_
         refine Zi (i:=8) (N:=some 7) (bN 11 511) rfl rfl (Q0 HT_.out kr) (by decide) (fun K hK=>?_)
         refine Xo ?hg (N:=7) ?hd (cs:=#[.slice none 0 0,.slice none 0 0]) (t:=27) ?hr ?_;(case hd=>rfl);(case hg=>rfl);(case hr=>go_simp <;> rfl)
         intro ω hg ik hbox hb
         have τ :=Aside0.mk hbox
         have bb:=sGe hg
         have bk:=sGe hg
         have a5:=sNl U hg
         have ae:=sNg U hg
         have a6:=sNl Y hg
         have ah:=sNg Y hg
         have a2:=sNl X hg
         have aj:=sNg X hg
         replace μ :=sRb μ hb
         replace ν :=sRb ν hb
         replace a3:=sRb a3 hb
         replace a4:=sRb a4 hb
         replace U:=sBk U hb
         replace Y:=sBk Y hb
         replace X:=sBk X hb
         replace HB:=sHb hb
         clear hb hbox hg
         refine hK.out _ _ ⟨qc U,qc U,qc Y,qc Y,qc X,qc X,qc X⟩ (fun hHeld=>?_)
         clear hK K
         refine qN (some 7) ?_
         exact Xn (by simp only[Z9,Act.put,qS]) (hCont (.slice h4 b2.length ho,.slice cf b3.length cg,bi,bj,ω) _ ⟨hHeld,(by(with_reducible repeat first|apply Kd.Qm|apply Kd.Ql|apply Kd.Qn);exact Kd.Qr μ.out (fun _ hk=>hk.2)),(by(with_reducible repeat first|apply Kd.Qm|apply Kd.Ql|apply Kd.Qn);exact Kd.Qr ν.out (fun _ hk=>hk.2)),(by(with_reducible repeat first|apply Kd.Qm|apply Kd.Ql|apply Kd.Qn);exact Kd.Qr a3.out (fun _ hk=>hk.2)),(by(with_reducible repeat first|apply Kd.Qm|apply Kd.Ql|apply Kd.Qn);exact Kd.Qr a4.out (fun _ hk=>hk.2)),U.out,Y.out,X.out,τ.out,bb.out,bk.out,a5.out,ae.out,a6.out,ah.out,a2.out,aj.out,HB.out⟩)
        ·skip
         refine Xo ?hg (N:=7) ?hd (cs:=#[.slice none 0 0,.slice none 0 0]) (t:=27) ?hr ?_;(case hd=>rfl);(case hg=>rfl);(case hr=>go_simp <;> rfl)
         intro ω hg jo hbox hb
         have τ :=Aside0.mk hbox
         have bb:=sGe hg
         have bk:=sGe hg
         have a5:=sNl U hg
         have ae:=sNg U hg
         have a6:=sNl Y hg
         have ah:=sNg Y hg
         have a2:=sNl X hg
         have aj:=sNg X hg
         replace μ :=sRb μ hb
         replace ν :=sRb ν hb
         replace U:=sBk U hb
         replace Y:=sBk Y hb
         replace X:=sBk X hb
         replace HB:=sHb hb
         clear hb hbox hg
         obtain⟨cf,cg,dj⟩:=Kd.Q5 μ.out
         (first|subst dj|(injection dj with φ a9 χ;have aa:= φ.symm;have ab:= χ.symm;clear φ a9 χ;subst aa;subst ab))
         obtain⟨eo,ep,er⟩:=Kd.Q5 ν.out
         (first|subst er|(injection er with φ a9 χ;have aa:= φ.symm;have ab:= χ.symm;clear φ a9 χ;subst aa;subst ab))
         refine hK.out _ _ ⟨qc U,qc U,qc Y,qc Y,qc X,qc X,qc X⟩ (fun hHeld=>?_)
         clear hK K
         refine qN (some 7) ?_
         refine Zi (i:=4) (N:=some 18) (bN 11 287) rfl rfl (Q0 HT_.out kr) (by decide) (fun K hK=>?_)
         refine Zc Try.func11 kr rfl #[.agg #[.int .i64 J,.int .i64 D],.agg #[.slice cf b2.length cg,.slice eo b3.length ep],.agg #[.int .i64 δ,.int .i64 L,.int .i64 θ]] (by rfl) rfl rfl qM ?_
         with_reducible refine(call_Press.calls k J D _ _ b2 _ _ b3 δ L θ ao ay av _ ?side1 ?side2 ?side3 ?side4 A7.out).mono ?_
         (case side1=>exact(Kd.Qq μ.out).2.2)
         (case side2=>exact(Kd.Qq μ.out).2.1)
         (case side3=>exact(Kd.Qq ν.out).2.2)
         (case side4=>exact(Kd.Qq ν.out).2.1)
         rintro e ik ⟨bi,bj,rfl,ρ,a7,hb⟩
         refine⟨_,rfl, ?_⟩
         have a3:=Aside0.mk (Kd.Q2 (Kd.Zr ρ (Kd.Z8 μ.out)) (Qj HB.out))
         have a4:=Aside0.mk (Kd.Q2 (Kd.Zr a7 (Kd.Z8 ν.out)) (Qj HB.out))
         replace μ :=Aside0.mk (Kd.Zb μ.out (Kd.Zf ρ) hb)
         replace ν :=Aside0.mk (Kd.Zb ν.out (Kd.Zf a7) hb)
         replace U:=sBk U hb
         replace Y:=sBk Y hb
         replace X:=sBk X hb
         replace τ :=sBk τ hb
         replace HB:=sHb hb
         (try clear hb)
         (try clear a0)
         (try clear hk)
         (try clear hi)
         (try clear ρ)
         (try clear a7)
         refine hK.out _ _ ⟨qc U,qc U,qc Y,qc Y,qc X,qc X,qc X⟩ (fun hHeld=>?_)
         clear hK K
         refine qN (some 18) ?_
         refine qP 5 (some 13) (bN 11 319) HT_ ?_
         refine qP 6 (some 19) (bN 11 383) HT_ ?_
         refine qP 7 (some 20) (bN 11 511) HT_ ?_
         exact Xn (by simp only[Z9,Act.put,qS]) (hCont (.slice cf b2.length cg,.slice eo b3.length ep,bi,bj,ω) _ ⟨hHeld,(by(with_reducible repeat first|apply Kd.Qm|apply Kd.Ql|apply Kd.Qn);exact Kd.Qr μ.out (fun _ hk=>hk.2)),(by(with_reducible repeat first|apply Kd.Qm|apply Kd.Ql|apply Kd.Qn);exact Kd.Qr ν.out (fun _ hk=>hk.2)),(by(with_reducible repeat first|apply Kd.Qm|apply Kd.Ql|apply Kd.Qn);exact Kd.Qr a3.out (fun _ hk=>hk.2)),(by(with_reducible repeat first|apply Kd.Qm|apply Kd.Ql|apply Kd.Qn);exact Kd.Qr a4.out (fun _ hk=>hk.2)),U.out,Y.out,X.out,τ.out,bb.out,bk.out,a5.out,ae.out,a6.out,ah.out,a2.out,aj.out,HB.out⟩)
       ·skip
        refine Xo ?hg (N:=7) ?hd (cs:=#[.slice none 0 0,.slice none 0 0]) (t:=27) ?hr ?_;(case hd=>rfl);(case hg=>rfl);(case hr=>go_simp <;> rfl)
        intro ω hg jn hbox hb
        have τ :=Aside0.mk hbox
        have bb:=sGe hg
        have bk:=sGe hg
        have a5:=sNl U hg
        have ae:=sNg U hg
        have a6:=sNl Y hg
        have ah:=sNg Y hg
        have a2:=sNl X hg
        have aj:=sNg X hg
        replace U:=sBk U hb
        replace Y:=sBk Y hb
        replace X:=sBk X hb
        replace HB:=sHb hb
        clear hb hbox hg
        refine hK.out _ _ ⟨qc U,qc U,qc Y,qc Y,qc X,qc X,qc X⟩ (fun hHeld=>?_)
        clear hK K
        refine qN (some 7) ?_
        refine Zi (i:=2) (N:=some 16) (bN 11 271) rfl rfl (Q0 HT_.out kr) (by decide) (fun K hK=>?_)
        refine Zc Try.func12 kr rfl #[.agg #[.slice ζ B.length γ,.slice η I.length ε]] (by rfl) rfl rfl qM ?_
        with_reducible refine(newellaw19_Own.calls _ _ B _ _ I b2 b3 _ ?side1 ?side2 ?side3 ?side4 A6.out).mono ?_
        (case side1=>exact(Kd.Qz ag.out HB.out))
        (case side2=>exact ar.out)
        (case side3=>exact(Kd.Qz ai.out HB.out))
        (case side4=>exact au.out)
        rintro e jo ⟨cu,cv,rfl,ρ,a7,hb⟩
        refine⟨_,rfl, ?_⟩
        have μ :=Aside0.mk (Kd.Q2 ρ (Qj HB.out))
        have ν :=Aside0.mk (Kd.Q2 a7 (Qj HB.out))
        replace U:=sBk U hb
        replace Y:=sBk Y hb
        replace X:=sBk X hb
        replace τ :=sBk τ hb
        replace HB:=sHb hb
        (try clear hb)
        (try clear a0)
        (try clear hk)
        (try clear hi)
        (try clear ρ)
        (try clear a7)
        obtain⟨cf,cg,dj⟩:=Kd.Q5 μ.out
        (first|subst dj|(injection dj with φ a9 χ;have aa:= φ.symm;have ab:= χ.symm;clear φ a9 χ;subst aa;subst ab))
        obtain⟨eo,ep,er⟩:=Kd.Q5 ν.out
        (first|subst er|(injection er with φ a9 χ;have aa:= φ.symm;have ab:= χ.symm;clear φ a9 χ;subst aa;subst ab))
        refine hK.out _ _ ⟨qc U,qc U,qc Y,qc Y,qc X,qc X,qc X⟩ (fun hHeld=>?_)
        clear hK K
        refine qN (some 16) ?_
        refine Zi (i:=4) (N:=some 18) (bN 11 287) rfl rfl (Q0 HT_.out kr) (by decide) (fun K hK=>?_)
        refine Zc Try.func11 kr rfl #[.agg #[.int .i64 J,.int .i64 D],.agg #[.slice cf b2.length cg,.slice eo b3.length ep],.agg #[.int .i64 δ,.int .i64 L,.int .i64 θ]] (by rfl) rfl rfl qM ?_
        with_reducible refine(call_Press.calls k J D _ _ b2 _ _ b3 δ L θ ao ay av _ ?side1 ?side2 ?side3 ?side4 A7.out).mono ?_
        (case side1=>exact(Kd.Qq μ.out).2.2)
        (case side2=>exact(Kd.Qq μ.out).2.1)
        (case side3=>exact(Kd.Qq ν.out).2.2)
        (case side4=>exact(Kd.Qq ν.out).2.1)
        rintro e ik ⟨bi,bj,rfl,ρ,a7,hb⟩
        refine⟨_,rfl, ?_⟩
        have a3:=Aside0.mk (Kd.Q2 (Kd.Zr ρ (Kd.Z8 μ.out)) (Qj HB.out))
        have a4:=Aside0.mk (Kd.Q2 (Kd.Zr a7 (Kd.Z8 ν.out)) (Qj HB.out))
        replace μ :=Aside0.mk (Kd.Zb μ.out (Kd.Zf ρ) hb)
        replace ν :=Aside0.mk (Kd.Zb ν.out (Kd.Zf a7) hb)
        replace U:=sBk U hb
        replace Y:=sBk Y hb
        replace X:=sBk X hb
        replace τ :=sBk τ hb
        replace HB:=sHb hb
        (try clear hb)
        (try clear a0)
        (try clear hk)
        (try clear hi)
        (try clear ρ)
        (try clear a7)
        refine hK.out _ _ ⟨qc U,qc U,qc Y,qc Y,qc X,qc X,qc X⟩ (fun hHeld=>?_)
        clear hK K
        refine qN (some 18) ?_
        refine qP 5 (some 13) (bN 11 319) HT_ ?_
        refine qP 6 (some 19) (bN 11 383) HT_ ?_
        refine qP 7 (some 20) (bN 11 511) HT_ ?_
        exact Xn (by simp only[Z9,Act.put,qS]) (hCont (.slice cf b2.length cg,.slice eo b3.length ep,bi,bj,ω) _ ⟨hHeld,(by(with_reducible repeat first|apply Kd.Qm|apply Kd.Ql|apply Kd.Qn);exact Kd.Qr μ.out (fun _ hk=>hk.2)),(by(with_reducible repeat first|apply Kd.Qm|apply Kd.Ql|apply Kd.Qn);exact Kd.Qr ν.out (fun _ hk=>hk.2)),(by(with_reducible repeat first|apply Kd.Qm|apply Kd.Ql|apply Kd.Qn);exact Kd.Qr a3.out (fun _ hk=>hk.2)),(by(with_reducible repeat first|apply Kd.Qm|apply Kd.Ql|apply Kd.Qn);exact Kd.Qr a4.out (fun _ hk=>hk.2)),U.out,Y.out,X.out,τ.out,bb.out,bk.out,a5.out,ae.out,a6.out,ah.out,a2.out,aj.out,HB.out⟩)
      rintro⟨cu,cv,bi,bj,ω⟩ bu ⟨hS_,cj,ck,cm,cn,co,dy,dz,e0,e3,e4,db,dc,dd,de,df,dh,di⟩
      have O:Aside0 (Kd.R k56 56 bu w.heap.size (fun k_=>some k_≠(bi:Value).ownBlock) cu b2):=⟨cj⟩
      have Z:Aside0 (Kd.R k62 62 bu w.heap.size (fun k_=>some k_≠(bj:Value).ownBlock) cv b3):=⟨ck⟩
      have ι :Aside0 (Kd.R k56 56 bu w.heap.size (fun k_=>some k_≠(cu:Value).ownBlock) bi ao):=⟨cm⟩
      have κ :Aside0 (Kd.R k62 62 bu w.heap.size (fun k_=>some k_≠(cv:Value).ownBlock) bj ay):=⟨cn⟩
      have ξ :Aside0 (bu.heap[ak]?=some (.cells #[.int .i64 J,.int .i64 D] 23 (0,0))):=⟨co⟩
      have ψ :Aside0 (bu.heap[am]?=some (.cells #[.slice ζ B.length γ,.slice η I.length ε] 27 (0,0))):=⟨dy⟩
      have a1:Aside0 (bu.heap[a8]?=some (.cells #[.int .i64 δ,.int .i64 L,.int .i64 θ] 29 (0,0))):=⟨dz⟩
      have af:Aside0 (bu.heap[ω]?=some (.cells #[.slice none 0 0,.slice none 0 0] 27 (0,0))):=⟨e0⟩
      have al:Aside0 (w.heap.size ≤ ω):=⟨e3⟩
      have ax:Aside0 (w.heap.size ≤ ω):=⟨e4⟩
      have ap:Aside0 (ak ≠ ω):=⟨db⟩
      have aw:Aside0 (ω ≠ ak):=⟨dc⟩
      have b1:Aside0 (am ≠ ω):=⟨dd⟩
      have b8:Aside0 (ω ≠ am):=⟨de⟩
      have b9:Aside0 (a8 ≠ ω):=⟨df⟩
      have be:Aside0 (ω ≠ a8):=⟨dh⟩
      have bf:Aside0 (Below w.heap.size w bu):=⟨di⟩
      clear U
      clear Y
      clear X
      clear HB
      clear cj ck cm cn co dy dz e0 e3 e4 db dc dd de df dh di
      have μ :=O
      have ν :=Z
      have a3:= ι
      have a4:= κ
      have U:= ξ
      have Y:= ψ
      have X:=a1
      have τ :=af
      have bb:=al
      have bk:=ax
      have a5:=ap
      have ae:=aw
      have a6:=b1
      have ah:=b8
      have a2:=b9
      have aj:=be
      have HB:=bf
      clear O Z ι κ ξ ψ a1 af al ax ap aw b1 b8 b9 be bf
      have hHeld:bu.cell? ⟨ak,0,none⟩=some (.int .i64 J)∧bu.cell? ⟨ak,1,none⟩=some (.int .i64 D)∧bu.cell? ⟨am,0,none⟩=some (.slice ζ B.length γ)∧bu.cell? ⟨am,1,none⟩=some (.slice η I.length ε)∧bu.cell? ⟨a8,0,none⟩=some (.int .i64 δ)∧bu.cell? ⟨a8,1,none⟩=some (.int .i64 L)∧bu.cell? ⟨a8,2,none⟩=some (.int .i64 θ):=hS_
      obtain⟨fe,ff,hx⟩:=Kd.Q5 a3.out
      (first|subst hx|(injection hx with φ a9 χ;have aa:= φ.symm;have ab:= χ.symm;clear φ a9 χ;subst aa;subst ab))
      obtain⟨gq,gr,hy⟩:=Kd.Q5 a4.out
      (first|subst hy|(injection hy with φ a9 χ;have aa:= φ.symm;have ab:= χ.symm;clear φ a9 χ;subst aa;subst ab))
      refine Xn (a':=?_) ?_ ?_
      rotate_left
      ·simp only[Z9,Act.put,qS]
       rfl
      refine Zi (i:=9) (N:=none) (bN 11 1023) rfl rfl (Q0 HT_.out kr) (by decide) (fun K hK=>?_)
      have n2:bu.cell? ⟨ω,0,none⟩=some (.slice none 0 0):=(Qi τ.out 0).trans rfl
      have mh:=Q6 τ.out 0
      have jp:=a5.out
      have jq:=a6.out
      have jr:=a2.out
      have js:=ae.out
      have jt:=ah.out
      have ju:=aj.out
      have n3:bu.cell? ⟨ω,1,none⟩=some (.slice none 0 0):=(Qi τ.out 1).trans rfl
      have mj:=Q6 τ.out 1
      have jv:=a5.out
      have jw:=a6.out
      have jx:=a2.out
      have jy:=ae.out
      have jz:=ah.out
      have k0:=aj.out
      refine Y4 (w1:=?_) (by rfl) rfl ?_ ?_
      rotate_left
      ·go_simp
       rfl
      refine hK.out _ _ ⟨((cell_far (p:=⟨ω,_,none⟩) a5.out _).trans (((cell_far (p:=⟨ω,_,none⟩) a5.out _).trans (hHeld.1)))),((cell_far (p:=⟨ω,_,none⟩) a5.out _).trans (((cell_far (p:=⟨ω,_,none⟩) a5.out _).trans (hHeld.2.1)))),((cell_far (p:=⟨ω,_,none⟩) a6.out _).trans (((cell_far (p:=⟨ω,_,none⟩) a6.out _).trans (hHeld.2.2.1)))),((cell_far (p:=⟨ω,_,none⟩) a6.out _).trans (((cell_far (p:=⟨ω,_,none⟩) a6.out _).trans (hHeld.2.2.2.1)))),((cell_far (p:=⟨ω,_,none⟩) a2.out _).trans (((cell_far (p:=⟨ω,_,none⟩) a2.out _).trans (hHeld.2.2.2.2.1)))),((cell_far (p:=⟨ω,_,none⟩) a2.out _).trans (((cell_far (p:=⟨ω,_,none⟩) a2.out _).trans (hHeld.2.2.2.2.2.1)))),((cell_far (p:=⟨ω,_,none⟩) a2.out _).trans (((cell_far (p:=⟨ω,_,none⟩) a2.out _).trans (hHeld.2.2.2.2.2.2))))⟩ (fun hHeld=>?_)
      clear hK K
      refine qP 10 (some 8) (bN 11 2047) HT_ ?_
      refine Zq (Zd HT_.out kr) ?_
      have i7:=cx.out
      have i9:=cy.out
      have ml:=a5.out
      have mm:=ae.out
      obtain⟨k1,k2,k3,k4⟩:=qD2 U.out
      have mn:=a6.out
      have mo:=ah.out
      obtain⟨k5,k6,k7,k8⟩:=qD2 Y.out
      try go_wp2_with (first|((with_reducible refine Q1 (f:=13) rfl ?_);refine Zp (some 23) rfl rfl Try.func13 kr rfl #[.agg #[.int .i64 J,.int .i64 D],.agg #[.slice ζ B.length γ,.slice η I.length ε]] rfl qM ?_;(with_reducible refine(newelref19_May.calls k J D _ _ B _ _ I false _ ?side1 ?side2 ?side3 ?side4 A8.out).mono ?_);(case side1=>exact Kd.Qz ag.out bel);(case side2=>exact ar.out);(case side3=>exact Kd.Qz ai.out bel);(case side4=>exact au.out);rintro e nh ⟨rfl,hb⟩;refine⟨_,rfl, ?_⟩;replace μ :=Aside0.mk (Kd.Qu (by(with_reducible repeat first|apply Kd.Qm|apply Kd.Ql|apply Kd.Qn);exact(Kd.Qr (Kd.Qs (Kd.Qs (Kd.Qv μ.out τ.out (by decide)) (fun _ hk=>hk.2) _) (fun _ hk=>hk.2) _) (fun _ h_=>h_.1))) hb);replace ν :=Aside0.mk (Kd.Qu (by(with_reducible repeat first|apply Kd.Qm|apply Kd.Ql|apply Kd.Qn);exact(Kd.Qr (Kd.Qs (Kd.Qs (Kd.Qv ν.out τ.out (by decide)) (fun _ hk=>hk.2) _) (fun _ hk=>hk.2) _) (fun _ h_=>h_.1))) hb);replace a3:=Aside0.mk (Kd.Qu (by(with_reducible repeat first|apply Kd.Qm|apply Kd.Ql|apply Kd.Qn);exact(Kd.Qr (Kd.Qs (Kd.Qs (Kd.Qv a3.out τ.out (by decide)) (fun _ hk=>hk.2) _) (fun _ hk=>hk.2) _) (fun _ h_=>h_.1))) hb);replace a4:=Aside0.mk (Kd.Qu (by(with_reducible repeat first|apply Kd.Qm|apply Kd.Ql|apply Kd.Qn);exact(Kd.Qr (Kd.Qs (Kd.Qs (Kd.Qv a4.out τ.out (by decide)) (fun _ hk=>hk.2) _) (fun _ hk=>hk.2) _) (fun _ h_=>h_.1))) hb);replace U:=sBk U hb;replace Y:=sBk Y hb;replace X:=sBk X hb;replace τ :=Aside0.mk (Qo (g:= ω) (o:=.cells #[.slice fe ao.length ff,.slice gq ay.length gr] 27 (0,0)) (by(with_reducible repeat first|apply Qf|apply Qb|apply Qg);refine Qw (cs:=#[.slice fe ao.length ff,.slice none 0 0]) ?_ 1 _ rfl;(with_reducible repeat first|apply Qf|apply Qb|apply Qg);refine Qw (cs:=#[.slice none 0 0,.slice none 0 0]) ?_ 0 _ rfl;(with_reducible repeat first|apply Qf|apply Qb|apply Qg);exact τ.out) hb);replace HB:=sHb hb;(try clear hb);(try clear a0);(try clear hk);(try clear hi))|((with_reducible refine Q1 (f:=10) rfl ?_);refine Zp (some 25) rfl rfl Try.func10 kr rfl #[] rfl qM ?_;(with_reducible refine(newellaw19_awake.calls k  true _ m9.out).mono ?_);rintro e ni ⟨rfl,hb⟩;refine⟨_,rfl, ?_⟩;replace μ :=sRb μ hb;replace ν :=sRb ν hb;replace a3:=sRb a3 hb;replace a4:=sRb a4 hb;replace U:=sBk U hb;replace Y:=sBk Y hb;replace X:=sBk X hb;replace τ :=sBk τ hb;replace HB:=sHb hb;(try clear hb);(try clear a0);(try clear hk);(try clear hi);obtain⟨k9,ka,kb,kc⟩:=qD2 U.out;obtain⟨kd,ke,kf,kg⟩:=qD2 Y.out)|(go_at_call 14;(with_reducible refine(call_Check.calls k J D _ _ B _ _ I bl _ ?side1 ?side2 ?side3 ?side4 ma.out).mono ?_);(case side1=>repeat(first|exact(Kd.Qz ag.out HB.out)|(with_reducible refine Kd.Za ?_ _)|(with_reducible refine Kd.Q9 ?_ _)|(with_reducible refine Kd.Zm ?_)));(case side2=>exact ar.out);(case side3=>repeat(first|exact(Kd.Qz ai.out HB.out)|(with_reducible refine Kd.Za ?_ _)|(with_reducible refine Kd.Q9 ?_ _)|(with_reducible refine Kd.Zm ?_)));(case side4=>exact au.out);rintro e nj ⟨rfl,hb⟩;have O:=Aside0.mk (Kd.Qu (kra μ) hb);have Z:=Aside0.mk (Kd.Qu (kra ν) hb);have ι :=Aside0.mk (Kd.Qu (kra a3) hb);have κ :=Aside0.mk (Kd.Qu (kra a4) hb);have ξ :=Aside0.mk (Qo (g:=ak) (o:=.cells #[.int .i64 J,.int .i64 D] 23 (0,0)) (bka U) hb);have ψ :=Aside0.mk (Qo (g:=am) (o:=.cells #[.slice ζ B.length γ,.slice η I.length ε] 27 (0,0)) (bka Y) hb);have a1:=Aside0.mk (Qo (g:=a8) (o:=.cells #[.int .i64 δ,.int .i64 L,.int .i64 θ] 29 (0,0)) (bka X) hb);have af:=Aside0.mk (Qo (g:= ω) (o:=.cells #[.slice fe ao.length ff,.slice gq ay.length gr] 27 (0,0)) (bka τ) hb);have al:=Aside0.mk (Qt bel hb);clear μ;clear ν;clear a3;clear a4;clear U;clear Y;clear X;clear τ;clear HB;have μ :=O;have ν :=Z;have a3:= ι;have a4:= κ;have U:= ξ;have Y:= ψ;have X:=a1;have τ :=af;have HB:=al;clear O Z ι κ ξ ψ a1 af al;(try clear hb);(try clear a0);(try clear hk);(try clear hi);have mq:=aj.out;have mr:=a2.out;obtain⟨ki,kj,kk,kl⟩:=qD2 τ.out)|(go_at_call 15;(refine(newelref19_Same.calls k _ _ ao _ _ ay _ _ ([]:List (S56)) _ _ ([]:List (S62)) bm _ ?side1 ?side2 ?side3 ?side4 ?side5 ?side6 ?side7 ?side8 mb.out).mono ?_);(case side1=>repeat(first|exact(Kd.Qq a3.out).2.2|(with_reducible refine Kd.Za ?_ _)|(with_reducible refine Kd.Q9 ?_ _)|(with_reducible refine Kd.Zm ?_)));(case side2=>exact(Kd.Qq a3.out).2.1);(case side3=>repeat(first|exact(Kd.Qq a4.out).2.2|(with_reducible refine Kd.Za ?_ _)|(with_reducible refine Kd.Q9 ?_ _)|(with_reducible refine Kd.Zm ?_)));(case side4=>exact(Kd.Qq a4.out).2.1);(case side5=>exact Kd.Gr _ _);(case side6=>exact Nat.le_refl _);(case side7=>exact Kd.Gr _ _);(case side8=>exact Nat.le_refl _);rintro e nk ⟨rfl,hb⟩;have O:=Aside0.mk (Kd.Qu (kra μ) hb);have Z:=Aside0.mk (Kd.Qu (kra ν) hb);have ι :=Aside0.mk (Kd.Qu (kra a3) hb);have κ :=Aside0.mk (Kd.Qu (kra a4) hb);have ξ :=Aside0.mk (Qo (g:=ak) (o:=.cells #[.int .i64 J,.int .i64 D] 23 (0,0)) (bka U) hb);have ψ :=Aside0.mk (Qo (g:=am) (o:=.cells #[.slice ζ B.length γ,.slice η I.length ε] 27 (0,0)) (bka Y) hb);have a1:=Aside0.mk (Qo (g:=a8) (o:=.cells #[.int .i64 δ,.int .i64 L,.int .i64 θ] 29 (0,0)) (bka X) hb);have af:=Aside0.mk (Qo (g:= ω) (o:=.cells #[.slice fe ao.length ff,.slice gq ay.length gr] 27 (0,0)) (bka τ) hb);have al:=Aside0.mk (Qt bel hb);clear μ;clear ν;clear a3;clear a4;clear U;clear Y;clear X;clear τ;clear HB;have μ :=O;have ν :=Z;have a3:= ι;have a4:= κ;have U:= ξ;have Y:= ψ;have X:=a1;have τ :=af;have HB:=al;clear O Z ι κ ξ ψ a1 af al;(try clear hb);(try clear a0);(try clear hk);(try clear hi)))
      go_ret
      exact⟨rfl,HB.out⟩
     ·rw[if_neg gw] at H
      exact absurd H (by simp)
    ·rw[if_neg gv] at H
     exact absurd H (by simp)
   ·replace h0:=Bool.eq_false_iff.mpr h0
    subst h0
    have H1:(none)=some r:=by rw[if_neg (show ¬ (false=true) by decide)] at H;exact H
    clear H
    have H:=H1
    clear H1
    exact absurd H (by simp)
 ·replace c5:=Bool.eq_false_iff.mpr c5
  subst c5
  have H1:((newellaw19_awake.f k).bind fun dn=>(some dn))=some r:=by rw[if_neg (show ¬ (false=true) by decide)] at H;exact H
  clear H
  have H:=H1
  clear H1
  replace H:=Option.bind_eq_some_iff.mp H
  obtain⟨dn,i0,H⟩:=H
  replace H:(some dn)=some r:=H
  have km:=Aside0.mk i0
  clear i0
  obtain rfl:=Option.some.inj H
  go_enter Try.func3,Try.ntmps3
  go_wp2_with (first|((with_reducible refine Qp (N:=3) rfl ?_);refine qE 3 #[.int .i64 J,.int .i64 D] 23 ?_;intro ak hg nl hbox hb;have U:=Aside0.mk hbox;have dr:=sGe hg;have g9:=sGe hg;replace HB:=sHb hb;clear hb hbox hg)|((with_reducible refine Qp (N:=4) rfl ?_);refine qE 4 #[.slice ζ B.length γ,.slice η I.length ε] 27 ?_;intro am hg nm hbox hb;have Y:=Aside0.mk hbox;have dt:=sGe hg;have gk:=sGe hg;have ci:=sNl U hg;have cp:=sNg U hg;replace U:=sBk U hb;replace HB:=sHb hb;clear hb hbox hg)|((with_reducible refine Qp (N:=5) rfl ?_);refine qE 5 #[.int .i64 δ,.int .i64 L,.int .i64 θ] 29 ?_;intro a8 hg nn hbox hb;have X:=Aside0.mk hbox;have dv:=sGe hg;have gm:=sGe hg;have cx:=sNl U hg;have cy:=sNg U hg;have cq:=sNl Y hg;have cr:=sNg Y hg;replace U:=sBk U hb;replace Y:=sBk Y hb;replace HB:=sHb hb;clear hb hbox hg;have ms:=cp.out;have mt:=ci.out;have mu:=cq.out;have mw:=cr.out;obtain⟨kn,ko,kp,kq⟩:=qD2 Y.out)|((with_reducible refine Q1 (f:=9) rfl ?_);refine Zp (some 10) rfl rfl Try.func9 kr rfl #[.agg #[.slice ζ B.length γ,.slice η I.length ε]] rfl qM ?_;(with_reducible refine(newelref19_Few.calls _ _ B _ _ I false _ ?side1 ?side2 ?side3 ?side4 A4.out).mono ?_);(case side1=>exact(Kd.Qz ag.out HB.out));(case side2=>exact ar.out);(case side3=>exact(Kd.Qz ai.out HB.out));(case side4=>exact au.out);rintro e no ⟨rfl,hb⟩;refine⟨_,rfl, ?_⟩;replace U:=sBk U hb;replace Y:=sBk Y hb;replace X:=sBk X hb;replace HB:=sHb hb;(try clear hb);(try clear a0);(try clear hk);(try clear hi))|((with_reducible refine Q1 (f:=10) rfl ?_);refine Zp (some 12) rfl rfl Try.func10 kr rfl #[] rfl qM ?_;(with_reducible refine(newellaw19_awake.calls k  dn _ km.out).mono ?_);rintro e np ⟨rfl,hb⟩;refine⟨_,rfl, ?_⟩;replace U:=sBk U hb;replace Y:=sBk Y hb;replace X:=sBk X hb;replace HB:=sHb hb;(try clear hb);(try clear a0);(try clear hk);(try clear hi)))
  go_ret
  exact⟨rfl,HB.out⟩
end Go.Proofs.Ytjehhhlhalkieaa.C
namespace Go.Proofs.Ytjehhhlhalkieaa.Call
open Go.RowKit Go.Proofs.YtjehhhlhalkieaaW.PrintWords Go.Proofs.YtjehhhlhalkieaaW.PrintLast Go.Proofs.YtjehhhlhalkieaaW.PrintMore Go.Proofs.Ytjehhhlhalkieaa.C
set_option linter.unusedVariables false
set_option linter.unusedSimpArgs false
def btn (F C kind fl car:Int):Bool:=if kind=2 then Yw F C car fl else Xq F C fl (J8 kind) (-1)
theorem V3 {F C:Int} (kind fl car:Int) (hF:2≤F∧F≤64) (hC:1≤C∧C≤8):newelref19_Button.f F C kind fl car=some (btn F C kind fl car):=by
  have w1:wrap64 (F-2)=F-2:=by unfold wrap64;omega
  have Y:wrap64 (F-1)=F-1:=by unfold wrap64;omega
  have hb:=fun d=>K4 (F:=F) (C:=C) (D:=fl) (J:=d) (X:= -1) hF hC
  have tt:∀ d,∀ p:Prop,[Decidable p]→(p↔((d=1∨d = -1)∧(0≤fl∧fl≤F-1)∧(0≤fl+d∧fl+d≤F-1)∧(-1≤(-1:Int)∧(-1:Int)≤C-1)))→(some (decide p):Option Bool)=some (Xq F C fl d (-1)):=by
    intro d p _ hp
    congr 1
    cases h:Xq F C fl d (-1)
    · have:=hb d
      rw[h] at this
      exact decide_eq_false (fun q=>Bool.noConfusion (this.2 (hp.1 q)))
    · exact decide_eq_true (hp.2 ((hb d).1 h))
  unfold newelref19_Button.f btn J8
  rw[w1,Y]
  by_cases U:kind=0
  · subst U
    rw[if_pos rfl,if_neg (show ¬ ((0:Int)=2) by decide),if_pos rfl]
    by_cases h:fl≥0
    · rw[if_pos h]
      exact tt 1 _ (by omega)
    · rw[if_neg h]
      exact tt 1 False ⟨False.elim,fun q=>by omega⟩
  · rw[if_neg U]
    by_cases h1:kind=1
    · subst h1
      rw[if_pos rfl,if_neg (show ¬ ((1:Int)=2) by decide),if_neg (show ¬ ((1:Int)=0) by decide),if_pos rfl]
      by_cases h:fl≥1
      · rw[if_pos h]
        exact tt (-1) _ (by omega)
      · rw[if_neg h]
        exact tt (-1) False ⟨False.elim,fun q=>by omega⟩
    · rw[if_neg h1]
      by_cases O:kind=2
      · rw[if_pos O,if_pos O,Ku _ _ hF hC]
        rfl
      · rw[if_neg O,if_neg O,if_neg U,if_neg h1]
        exact tt 0 False ⟨False.elim,fun q=>by omega⟩
theorem Ut {F C:Int} {H:List Hall} {I:List Ins} (hok:okB F C H I=true) (kind fl car:Int) (hb:btn F C kind fl car=true) (k:Nat) (hH:H.length≤100000) (hI:I.length≤100000) (hk:H.length+I.length+3<k):
    newelref19_Press.f k H I kind fl car=some (if kind=2 then (H,Yz ⟨car,fl⟩ I) else (Ys ⟨fl,J8 kind,-1⟩ H,I)):=by
  obtain⟨hF,hC,⟨h1,O⟩,L,Y⟩:=Yq.1 hok
  unfold newelref19_Press.f
  by_cases k2:kind=2
  · rw[if_pos k2,if_pos k2]
    unfold newelref19_withIn.f
    have:=Ln ⟨car,fl⟩ I (by omega) I.length k 0 [] false (by omega) (by omega) (by simp)
    simp only[List.drop_zero,List.nil_append,Bool.false_eq_true,if_false] at this
    rw[Lt _ _ Y] at this
    rw[show((0:Nat):Int)=0 from rfl] at this
    rw[this]
    rfl
  · rw[if_neg k2,if_neg k2]
    have main:∀ d,newelref19_withHall.f k H fl d (-1)=some (Ys ⟨fl,d,-1⟩ H):=by
      intro d
      unfold newelref19_withHall.f
      have:=Lo ⟨fl,d,-1⟩ H (by omega) H.length k 0 [] false (by omega) (by omega) (by simp)
      simp only[List.drop_zero,List.nil_append,Bool.false_eq_true,if_false] at this
      rw[Lv _ _ O] at this
      exact this
    unfold J8
    by_cases k1:kind=1
    · rw[if_pos k1,main,if_neg (by omega),if_pos k1]
      rfl
    · by_cases k0:kind=0
      · rw[if_neg k1,main,if_pos k0]
        rfl
      · exfalso
        unfold btn J8 at hb
        rw[if_neg k2,if_neg k0,if_neg k1] at hb
        have:=(K4 hF hC).1 hb
        omega
theorem Lp {F C:Int} {H:List Hall} {I:List Ins} (kind fl car:Int):(Jw F C H I kind fl car).1.length≤H.length+1∧(Jw F C H I kind fl car).2.1.length≤I.length+1:=by
  have hh:=Lf ⟨fl,J8 kind,-1⟩ H
  have hi:=Le ⟨car,fl⟩ I
  have L:(Ys ⟨fl,J8 kind,-1⟩ H).length≤H.length+1:=by rcases hh with h|h <;> rw[h] <;> omega
  have a2:(Yz ⟨car,fl⟩ I).length≤I.length+1:=by rcases hi with h|h <;> rw[h] <;> omega
  unfold Jw
  split
  · split
    · split
      · exact⟨by dsimp only;omega,a2⟩
      · exact⟨Nat.zero_le _,Nat.zero_le _⟩
    · split
      · exact⟨L,by dsimp only;omega⟩
      · exact⟨Nat.zero_le _,Nat.zero_le _⟩
  · exact⟨Nat.zero_le _,Nat.zero_le _⟩
theorem Wi (F C:Int) (H:List Hall) (I:List Ins) (kind fl car:Int) (hC:i64 C) (hf:i64 fl) (K:Nat) (hK:3000≤K):newellaw19_CallPresses.f K F C H I kind fl car=some true:=by
  unfold newellaw19_CallPresses.f
  rw[M7 K (by omega)]
  rcases En H I with h|⟨h,h1,O⟩
  · rw[h]
    simp only[Option.bind_some]
    rfl
  rw[h,Ei H I (by omega) (by omega)]
  simp only[Option.bind_some]
  obtain⟨k,rfl⟩:∃ k,K=k+2:=⟨K-2,by omega⟩
  rw[if_pos trivial,Mi k F C H I kind fl car (by omega) (by omega) hC hf,Lm _ F C H I (by omega) (by omega) (by omega),U3 (k+1) F C H I (by omega) (by omega) hC]
  simp only[Option.bind_some]
  cases hok:okB F C H I
  · have hp:Jw F C H I kind fl car=([],[],190):=by unfold Jw;rw[hok];rfl
    rw[hp]
    simp only[Bool.false_eq_true,eq_self,if_true,if_false]
    rw[Gh _ (by omega)]
    rfl
  · obtain⟨hF,B⟩:=Ml hok
    have hp:Jw F C H I kind fl car=if btn F C kind fl car=true then (if kind=2 then (H,Yz ⟨car,fl⟩ I,0) else (Ys ⟨fl,J8 kind,-1⟩ H,I,0)) else ([],[],191):=by
      unfold Jw btn
      rw[if_pos hok]
      by_cases k2:kind=2
      · simp only[if_pos k2]
      · simp only[if_neg k2]
    simp only[Bool.false_eq_true,eq_self,if_true,if_false]
    rw[V3 kind fl car hF B]
    simp only[Option.bind_some]
    cases hb:btn F C kind fl car
    · rw[hp,hb]
      simp only[Bool.false_eq_true,eq_self,if_true,if_false]
      rw[Gh _ (by omega)]
      rfl
    · have hl:=Lp (F:=F) (C:=C) (H:=H) (I:=I) kind fl car
      rw[hp,hb] at hl
      rw[hp,hb,Ut hok kind fl car hb _ (by omega) (by omega) (by omega)]
      by_cases k2:kind=2
      · simp only[if_pos k2,eq_self,if_true,Option.bind_some] at hl ⊢
        rw[Jv _ _ _ (by omega)]
        rfl
      · simp only[if_neg k2,eq_self,if_true,Option.bind_some] at hl ⊢
        rw[Jv _ _ _ (by omega)]
        rfl
end Go.Proofs.Ytjehhhlhalkieaa.Call
