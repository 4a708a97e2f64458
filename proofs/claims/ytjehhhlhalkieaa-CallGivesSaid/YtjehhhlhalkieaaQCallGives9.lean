/- Texts of this claim, one behind the other: what the law's functions come to, walked (printed by a program, with the words that the print uses), and what that is, in plain Lean. No conditions of their own. -/
import Derived.Test.YtjehhhlhalkieaaQCallGives8
namespace Go.Proofs.Ytjehhhlhalkieaa.C
open Go.RowKit Go.Proofs.YtjehhhlhalkieaaW.PrintWords Go.Proofs.YtjehhhlhalkieaaW.PrintLast Go.Proofs.YtjehhhlhalkieaaW.PrintMore
attribute [local go_sem] Z2 Z0 Xb Xa Zq Zp Z1 Zz
set_option linter.unusedVariables false
set_option linter.unusedSimpArgs false
def newellaw19_CallOnce.j0:Nat→Bool→Option (Bool)
 |0,_=>none
 |k+1,B=>some B
def newellaw19_CallOnce.f (k:Nat) (I:Int) (J:Int) (B:List (S56)) (D:List (S62)) (X:Int) (L:Int) (ζ :Int):Option (Bool):=(newelref19_Few.f B D).bind fun g0=>(if g0=true then ((newellaw19_Own.f B D).bind fun d7=>((call_Press.f k I J d7.1 d7.2 X L ζ).bind fun af=>(if af.2.2=0 then ((call_Press.f k I J af.1 af.2.1 X L ζ).bind fun bj=>((newellaw19_awake.f k).bind fun cz=>(if cz=true then (if bj.2.2=0 then ((call_Same.f k af.1 af.2.1 bj.1 bj.2.1).bind fun bz=>(if bz=true then ((call_Check.f k I J af.1 af.2.1).bind fun bl=>(if bl=0 then (if (wrap64 ((wrap64 ((wrap64 ((af.1.length:Int)+(af.2.1.length:Int))) - (B.length:Int))) - (D.length:Int)))=1 then (newellaw19_CallOnce.j0 k true) else (if (wrap64 ((wrap64 ((wrap64 ((af.1.length:Int)+(af.2.1.length:Int))) - (B.length:Int))) - (D.length:Int)))=0 then ((call_Same.f k af.1 af.2.1 B D).bind fun bm=>(newellaw19_CallOnce.j0 k bm)) else (none))) else (none))) else (none))) else (none)) else (none)))) else ((newellaw19_awake.f k).bind fun d8=>(some d8))))) else ((newellaw19_awake.f k).bind fun e0=>(some e0)))
theorem newellaw19_CallOnce.Zi:∀ k,(∀ D,LeO (newellaw19_CallOnce.j0 k D) (newellaw19_CallOnce.j0 (k+1) D))
 |0=>fun _ r h=>by simp[newellaw19_CallOnce.j0] at h
 |k+1=>by
  have B:=newellaw19_CallOnce.Zi k
  ·intro D
   unfold newellaw19_CallOnce.j0
   repeat' first
   |(with_reducible exact B _)
   |(with_reducible exact call_Check.mono _ _ _ _ _)
   |(with_reducible exact call_Press.mono _ _ _ _ _ _ _ _)
   |(with_reducible exact call_Same.mono _ _ _ _ _)
   |(with_reducible exact newellaw19_awake.mono _)
   |(with_reducible exact LeO.refl _)
   |(with_reducible exact LeO.none _)
   |(with_reducible refine LeO.ite ?_ ?_)
   |(with_reducible refine LeO.bind ?_ (fun _=>?_))
   |exact B _
   |exact call_Check.mono _ _ _ _ _
   |exact call_Press.mono _ _ _ _ _ _ _ _
   |exact call_Same.mono _ _ _ _ _
   |exact newellaw19_awake.mono _
   |exact LeO.none _
   |refine LeO.ite ?_ ?_
   |refine LeO.bind ?_ (fun _=>?_)
theorem newellaw19_CallOnce.mono:∀ I D a2 X J a5 L k,LeO (newellaw19_CallOnce.f k I D a2 X J a5 L) (newellaw19_CallOnce.f (k+1) I D a2 X J a5 L):=by
 intro I D a2 X J a5 L k
 have B:=newellaw19_CallOnce.Zi k
 unfold newellaw19_CallOnce.f
 repeat' first
   |(with_reducible exact B _)
   |(with_reducible exact call_Check.mono _ _ _ _ _)
   |(with_reducible exact call_Press.mono _ _ _ _ _ _ _ _)
   |(with_reducible exact call_Same.mono _ _ _ _ _)
   |(with_reducible exact newellaw19_awake.mono _)
   |(with_reducible exact LeO.refl _)
   |(with_reducible exact LeO.none _)
   |(with_reducible refine LeO.ite ?_ ?_)
   |(with_reducible refine LeO.bind ?_ (fun _=>?_))
   |exact B _
   |exact call_Check.mono _ _ _ _ _
   |exact call_Press.mono _ _ _ _ _ _ _ _
   |exact call_Same.mono _ _ _ _ _
   |exact newellaw19_awake.mono _
   |exact LeO.none _
   |refine LeO.ite ?_ ?_
   |refine LeO.bind ?_ (fun _=>?_)
def newellaw19_CallOnce.T3:Bool×List (List Nat×List Nat):=(true,[([],[]),([],[]),([1],[1]),([],[]),([0,2,3,2],[0,2,3]),([4],[4]),([5],[5]),([5],[5]),([],[]),([8,6,4,0,1,2,3,4,5,6,8],[6,8]),([7,9,0,1,2,3,4,5,6,7,8,9],[7])])
def newellaw19_CallOnce.B3:List Nat:=[0,0,2,0,15,31,63,63,0,383,1023]
theorem newellaw19_CallOnce.Wn:rtab .any (opsOf Try.f6 3)=newellaw19_CallOnce.T3:=by kernel_rfl
theorem newellaw19_CallOnce.Vh:Zr newellaw19_CallOnce.T3.2 newellaw19_CallOnce.B3=true:=by kernel_rfl
set_option maxHeartbeats 8000000 in
set_option maxRecDepth 100000 in
theorem newellaw19_CallOnce.calls (k:Nat) (I:Int) (J:Int) (η :Option Addr) (δ :Nat) (B:List (S56)) (θ :Option Addr) (ε :Nat) (D:List (S62)) (X:Int) (L:Int) (ζ :Int) (r:Bool) (w:World) (b4:Kd.C k56 w η B.length B) (b5:B.length ≤ δ) (b6:Kd.C k62 w θ D.length D) (b7:D.length ≤ ε) (h:newellaw19_CallOnce.f k I J B D X L ζ = some r):
  Calls Try.prog 6 #[.agg #[.int .i64 I,.int .i64 J],.agg #[.slice η B.length δ,.slice θ D.length ε],.agg #[.int .i64 X,.int .i64 L,.int .i64 ζ]] w fun e w'=>e = .returned (.bool r)∧Below w.heap.size w w':=by
 have dn:=Try.underlying23
 have d4:=Try.underlying27
 have k2:=Try.underlying29
 have ag:=Aside0.mk b4
 have ar:=Aside0.mk b5
 clear b4 b5
 have ah:=Aside0.mk b6
 have aw:=Aside0.mk b7
 clear b6 b7
 have HB:=Aside0.mk (Below.refl w.heap.size w)
 have H:((newelref19_Few.f B D).bind fun g0=>(if g0=true then ((newellaw19_Own.f B D).bind fun d7=>((call_Press.f k I J d7.1 d7.2 X L ζ).bind fun af=>(if af.2.2=0 then ((call_Press.f k I J af.1 af.2.1 X L ζ).bind fun bj=>((newellaw19_awake.f k).bind fun cz=>(if cz=true then (if bj.2.2=0 then ((call_Same.f k af.1 af.2.1 bj.1 bj.2.1).bind fun bz=>(if bz=true then ((call_Check.f k I J af.1 af.2.1).bind fun bl=>(if bl=0 then (if (wrap64 ((wrap64 ((wrap64 ((af.1.length:Int)+(af.2.1.length:Int))) - (B.length:Int))) - (D.length:Int)))=1 then (newellaw19_CallOnce.j0 k true) else (if (wrap64 ((wrap64 ((wrap64 ((af.1.length:Int)+(af.2.1.length:Int))) - (B.length:Int))) - (D.length:Int)))=0 then ((call_Same.f k af.1 af.2.1 B D).bind fun bm=>(newellaw19_CallOnce.j0 k bm)) else (none))) else (none))) else (none))) else (none)) else (none)))) else ((newellaw19_awake.f k).bind fun d8=>(some d8))))) else ((newellaw19_awake.f k).bind fun e0=>(some e0))))=some r:=h
 clear h
 replace H:=Option.bind_eq_some_iff.mp H
 obtain⟨g0,bv,H⟩:=H
 replace H:(if g0=true then ((newellaw19_Own.f B D).bind fun d7=>((call_Press.f k I J d7.1 d7.2 X L ζ).bind fun af=>(if af.2.2=0 then ((call_Press.f k I J af.1 af.2.1 X L ζ).bind fun bj=>((newellaw19_awake.f k).bind fun cz=>(if cz=true then (if bj.2.2=0 then ((call_Same.f k af.1 af.2.1 bj.1 bj.2.1).bind fun bz=>(if bz=true then ((call_Check.f k I J af.1 af.2.1).bind fun bl=>(if bl=0 then (if (wrap64 ((wrap64 ((wrap64 ((af.1.length:Int)+(af.2.1.length:Int))) - (B.length:Int))) - (D.length:Int)))=1 then (newellaw19_CallOnce.j0 k true) else (if (wrap64 ((wrap64 ((wrap64 ((af.1.length:Int)+(af.2.1.length:Int))) - (B.length:Int))) - (D.length:Int)))=0 then ((call_Same.f k af.1 af.2.1 B D).bind fun bm=>(newellaw19_CallOnce.j0 k bm)) else (none))) else (none))) else (none))) else (none)) else (none)))) else ((newellaw19_awake.f k).bind fun d8=>(some d8))))) else ((newellaw19_awake.f k).bind fun e0=>(some e0)))=some r:=H
 have A4:=Aside0.mk bv
 clear bv
 by_cases c5:g0=true
 ·subst c5
  have H1:((newellaw19_Own.f B D).bind fun d7=>((call_Press.f k I J d7.1 d7.2 X L ζ).bind fun af=>(if af.2.2=0 then ((call_Press.f k I J af.1 af.2.1 X L ζ).bind fun bj=>((newellaw19_awake.f k).bind fun cz=>(if cz=true then (if bj.2.2=0 then ((call_Same.f k af.1 af.2.1 bj.1 bj.2.1).bind fun bz=>(if bz=true then ((call_Check.f k I J af.1 af.2.1).bind fun bl=>(if bl=0 then (if (wrap64 ((wrap64 ((wrap64 ((af.1.length:Int)+(af.2.1.length:Int))) - (B.length:Int))) - (D.length:Int)))=1 then (newellaw19_CallOnce.j0 k true) else (if (wrap64 ((wrap64 ((wrap64 ((af.1.length:Int)+(af.2.1.length:Int))) - (B.length:Int))) - (D.length:Int)))=0 then ((call_Same.f k af.1 af.2.1 B D).bind fun bm=>(newellaw19_CallOnce.j0 k bm)) else (none))) else (none))) else (none))) else (none)) else (none)))) else ((newellaw19_awake.f k).bind fun d8=>(some d8)))))=some r:=by rw[if_pos rfl] at H;exact H
  clear H
  have H:=H1
  clear H1
  replace H:=Option.bind_eq_some_iff.mp H
  obtain⟨⟨bn,bo⟩,d0,H⟩:=H
  replace H:((call_Press.f k I J bn bo X L ζ).bind fun af=>(if af.2.2=0 then ((call_Press.f k I J af.1 af.2.1 X L ζ).bind fun bj=>((newellaw19_awake.f k).bind fun cz=>(if cz=true then (if bj.2.2=0 then ((call_Same.f k af.1 af.2.1 bj.1 bj.2.1).bind fun bz=>(if bz=true then ((call_Check.f k I J af.1 af.2.1).bind fun bl=>(if bl=0 then (if (wrap64 ((wrap64 ((wrap64 ((af.1.length:Int)+(af.2.1.length:Int))) - (B.length:Int))) - (D.length:Int)))=1 then (newellaw19_CallOnce.j0 k true) else (if (wrap64 ((wrap64 ((wrap64 ((af.1.length:Int)+(af.2.1.length:Int))) - (B.length:Int))) - (D.length:Int)))=0 then ((call_Same.f k af.1 af.2.1 B D).bind fun bm=>(newellaw19_CallOnce.j0 k bm)) else (none))) else (none))) else (none))) else (none)) else (none)))) else ((newellaw19_awake.f k).bind fun d8=>(some d8))))=some r:=H
  have A6:=Aside0.mk d0
  clear d0
  replace H:=Option.bind_eq_some_iff.mp H
  obtain⟨⟨a9,ae,cd⟩,g2,H⟩:=H
  replace H:(if cd=0 then ((call_Press.f k I J a9 ae X L ζ).bind fun bj=>((newellaw19_awake.f k).bind fun cz=>(if cz=true then (if bj.2.2=0 then ((call_Same.f k a9 ae bj.1 bj.2.1).bind fun bz=>(if bz=true then ((call_Check.f k I J a9 ae).bind fun bl=>(if bl=0 then (if (wrap64 ((wrap64 ((wrap64 ((a9.length:Int)+(ae.length:Int))) - (B.length:Int))) - (D.length:Int)))=1 then (newellaw19_CallOnce.j0 k true) else (if (wrap64 ((wrap64 ((wrap64 ((a9.length:Int)+(ae.length:Int))) - (B.length:Int))) - (D.length:Int)))=0 then ((call_Same.f k a9 ae B D).bind fun bm=>(newellaw19_CallOnce.j0 k bm)) else (none))) else (none))) else (none))) else (none)) else (none)))) else ((newellaw19_awake.f k).bind fun d8=>(some d8)))=some r:=H
  have A7:=Aside0.mk g2
  clear g2
  by_cases c8:cd=0
  ·rw[if_pos c8] at H
   have c8b0:(cd==0)=true:=beq_iff_eq.mpr c8
   have c8b1:(cd != 0)=false:=bne_eq_false_iff_eq.mpr c8
   clear c8
   replace H:=Option.bind_eq_some_iff.mp H
   obtain⟨⟨bg,bk,fb⟩,g1,H⟩:=H
   replace H:((newellaw19_awake.f k).bind fun cz=>(if cz=true then (if fb=0 then ((call_Same.f k a9 ae bg bk).bind fun bz=>(if bz=true then ((call_Check.f k I J a9 ae).bind fun bl=>(if bl=0 then (if (wrap64 ((wrap64 ((wrap64 ((a9.length:Int)+(ae.length:Int))) - (B.length:Int))) - (D.length:Int)))=1 then (newellaw19_CallOnce.j0 k true) else (if (wrap64 ((wrap64 ((wrap64 ((a9.length:Int)+(ae.length:Int))) - (B.length:Int))) - (D.length:Int)))=0 then ((call_Same.f k a9 ae B D).bind fun bm=>(newellaw19_CallOnce.j0 k bm)) else (none))) else (none))) else (none))) else (none)) else (none)))=some r:=H
   have A9:=Aside0.mk g1
   clear g1
   have ir:=Aside0.mk H
   clear H
   go_enter Try.func6,Try.ntmps6
   try go_wp2_with (first|((with_reducible refine Qr (N:=3) rfl ?_);refine Q5 ?hg (N:=3) ?hd (cs:=#[.int .i64 I,.int .i64 J]) (t:=23) ?hr ?_;(case hd=>rfl);(case hg=>rfl);(case hr=>first|(go_simp;done)|(go_simp;rfl));intro ν hg e5 hbox hb;have U:=Aside0.mk (Qt (by repeat(first|(with_reducible first|exact HB.out|apply Qh|apply Qb|apply Qf)|exact HB.out)) hb);have γ:=Aside0.mk (hbox);have ι :=Aside0.mk ((by rw[hg];exact(Qi (by repeat(first|(with_reducible first|exact HB.out|apply Qh|apply Qb|apply Qf)|exact HB.out))):w.heap.size ≤ ν));have κ :=Aside0.mk ((by rw[hg];exact(Qi (by repeat(first|(with_reducible first|exact HB.out|apply Qh|apply Qb|apply Qf)|exact HB.out))):w.heap.size ≤ ν));clear HB;have HB:=U;have O:=γ;have jf:= ι;have a2:= κ;clear U γ ι κ;clear hb hbox hg)|((with_reducible refine Qr (N:=4) rfl ?_);refine Q5 ?hg (N:=4) ?hd (cs:=#[.slice η B.length δ,.slice θ D.length ε]) (t:=27) ?hr ?_;(case hd=>rfl);(case hg=>rfl);(case hr=>first|(go_simp;done)|(go_simp;rfl));intro ρ hg dt hbox hb;have U:=Aside0.mk (Qm (g:= ν) (o:=.cells #[.int .i64 I,.int .i64 J] 23 (0,0)) (by(with_reducible repeat first|apply Qd|apply Qa|apply Qe);exact O.out) hb);have γ:=Aside0.mk (Qt (by repeat(first|(with_reducible first|exact HB.out|apply Qh|apply Qb|apply Qf|refine Qc ?_ a2.out)|exact HB.out)) hb);have ι :=Aside0.mk (hbox);have κ :=Aside0.mk ((by rw[hg];exact(Qi (by repeat(first|(with_reducible first|exact HB.out|apply Qh|apply Qb|apply Qf|refine Qc ?_ a2.out)|exact HB.out))):w.heap.size≤ρ));have ξ :=Aside0.mk ((by rw[hg];exact(Qi (by repeat(first|(with_reducible first|exact HB.out|apply Qh|apply Qb|apply Qf|refine Qc ?_ a2.out)|exact HB.out))):w.heap.size≤ρ));have χ :=Aside0.mk ((by rw[hg];exact Nat.ne_of_lt (Q3 (g:= ν) (o:=.cells #[.int .i64 I,.int .i64 J] 23 (0,0)) (by(with_reducible repeat first|apply Qd|apply Qa|apply Qe);exact O.out)): ν ≠ ρ));have a1:=Aside0.mk ((by rw[hg];exact Nat.ne_of_gt (Q3 (g:= ν) (o:=.cells #[.int .i64 I,.int .i64 J] 23 (0,0)) (by(with_reducible repeat first|apply Qd|apply Qa|apply Qe);exact O.out)):ρ ≠ ν));clear O;clear HB;have O:=U;have HB:=γ;have Y:= ι;have jg:= κ;have a6:= ξ;have cp:= χ;have cq:=a1;clear U γ ι κ ξ χ a1;clear hb hbox hg)|((with_reducible refine Qr (N:=5) rfl ?_);refine Q5 ?hg (N:=5) ?hd (cs:=#[.int .i64 X,.int .i64 L,.int .i64 ζ]) (t:=29) ?hr ?_;(case hd=>rfl);(case hg=>rfl);(case hr=>first|(go_simp;done)|(go_simp;rfl));intro τ hg ed hbox hb;have U:=Aside0.mk (Qm (g:= ν) (o:=.cells #[.int .i64 I,.int .i64 J] 23 (0,0)) (by(with_reducible repeat first|apply Qd|apply Qa|apply Qe);exact O.out) hb);have γ:=Aside0.mk (Qm (g:=ρ) (o:=.cells #[.slice η B.length δ,.slice θ D.length ε] 27 (0,0)) (by(with_reducible repeat first|apply Qd|apply Qa|apply Qe);exact Y.out) hb);have ι :=Aside0.mk (Qt (by repeat(first|(with_reducible first|exact HB.out|apply Qh|apply Qb|apply Qf|refine Qc ?_ a2.out|refine Qc ?_ a6.out)|exact HB.out)) hb);have κ :=Aside0.mk (hbox);have ξ :=Aside0.mk ((by rw[hg];exact(Qi (by repeat(first|(with_reducible first|exact HB.out|apply Qh|apply Qb|apply Qf|refine Qc ?_ a2.out|refine Qc ?_ a6.out)|exact HB.out))):w.heap.size ≤ τ));have χ :=Aside0.mk ((by rw[hg];exact(Qi (by repeat(first|(with_reducible first|exact HB.out|apply Qh|apply Qb|apply Qf|refine Qc ?_ a2.out|refine Qc ?_ a6.out)|exact HB.out))):w.heap.size ≤ τ));have a1:=Aside0.mk ((by rw[hg];exact Nat.ne_of_lt (Q3 (g:= ν) (o:=.cells #[.int .i64 I,.int .i64 J] 23 (0,0)) (by(with_reducible repeat first|apply Qd|apply Qa|apply Qe);exact O.out)): ν ≠ τ));have ak:=Aside0.mk ((by rw[hg];exact Nat.ne_of_gt (Q3 (g:= ν) (o:=.cells #[.int .i64 I,.int .i64 J] 23 (0,0)) (by(with_reducible repeat first|apply Qd|apply Qa|apply Qe);exact O.out)): τ ≠ ν));have am:=Aside0.mk ((by rw[hg];exact Nat.ne_of_lt (Q3 (g:=ρ) (o:=.cells #[.slice η B.length δ,.slice θ D.length ε] 27 (0,0)) (by(with_reducible repeat first|apply Qd|apply Qa|apply Qe);exact Y.out)):ρ ≠ τ));have ax:=Aside0.mk ((by rw[hg];exact Nat.ne_of_gt (Q3 (g:=ρ) (o:=.cells #[.slice η B.length δ,.slice θ D.length ε] 27 (0,0)) (by(with_reducible repeat first|apply Qd|apply Qa|apply Qe);exact Y.out)): τ ≠ ρ));clear O;clear Y;clear HB;have O:=U;have Y:=γ;have HB:= ι;have Z:= κ;have jh:= ξ;have a8:= χ;have dl:=a1;have dm:=ak;have d2:=am;have d3:=ax;clear U γ ι κ ξ χ a1 ak am ax;clear hb hbox hg;have ie:=cq.out;have ig:=cp.out;have iv:=d2.out;have iw:=d3.out;obtain⟨jo,jp,jq,jr⟩:=qD2 Y.out)|((with_reducible refine Q0 (f:=9) rfl ?_);refine Zk (some 13) rfl rfl Try.func9 kr rfl #[.agg #[.slice η B.length δ,.slice θ D.length ε]] rfl (by(try simp only[List.map_toArray,List.map_cons,List.map_nil]);first|done|rfl|(simp only[List.length_drop,List.length_take];rfl)) ?_;(with_reducible refine(newelref19_Few.calls _ _ B _ _ D true _ ?side1 ?side2 ?side3 ?side4 A4.out).mono ?_);(case side1=>repeat(first|exact(Kd.Qx ag.out HB.out)|(with_reducible refine Kd.Za ?_ _)|(with_reducible refine Kd.Q9 ?_ _)|(with_reducible refine Kd.Zf ?_)));(case side2=>exact ar.out);(case side3=>repeat(first|exact(Kd.Qx ah.out HB.out)|(with_reducible refine Kd.Za ?_ _)|(with_reducible refine Kd.Q9 ?_ _)|(with_reducible refine Kd.Zf ?_)));(case side4=>exact aw.out);rintro e gb ⟨rfl,hb⟩;refine⟨_,rfl, ?_⟩;have U:=Aside0.mk (Qm (g:= ν) (o:=.cells #[.int .i64 I,.int .i64 J] 23 (0,0)) (by(with_reducible repeat first|apply Qd|apply Qa|apply Qe);exact O.out) hb);have γ:=Aside0.mk (Qm (g:=ρ) (o:=.cells #[.slice η B.length δ,.slice θ D.length ε] 27 (0,0)) (by(with_reducible repeat first|apply Qd|apply Qa|apply Qe);exact Y.out) hb);have ι :=Aside0.mk (Qm (g:= τ) (o:=.cells #[.int .i64 X,.int .i64 L,.int .i64 ζ] 29 (0,0)) (by(with_reducible repeat first|apply Qd|apply Qa|apply Qe);exact Z.out) hb);have κ :=Aside0.mk (Qt (by repeat(first|(with_reducible first|exact HB.out|apply Qh|apply Qb|apply Qf|refine Qc ?_ a2.out|refine Qc ?_ a6.out|refine Qc ?_ a8.out)|exact HB.out)) hb);clear O;clear Y;clear Z;clear HB;have O:=U;have Y:=γ;have Z:= ι;have HB:= κ;clear U γ ι κ;(try clear hb);(try clear a0);(try clear hk);(try clear hi)))
   have U:=Aside0.mk (Qa O.out)
   have γ:=Aside0.mk (Qa Y.out)
   have ι :=Aside0.mk (Qa Z.out)
   have κ :=Aside0.mk (Qf HB.out)
   clear O
   clear Y
   clear Z
   clear HB
   have O:=U
   have Y:=γ
   have Z:= ι
   have HB:= κ
   clear U γ ι κ
   refine Zn (n:=11) (S:=fun w'=>w'.cell? ⟨ν,0,none⟩=some (.int .i64 I)∧w'.cell? ⟨ν,1,none⟩=some (.int .i64 J)∧w'.cell? ⟨ρ,0,none⟩=some (.slice η B.length δ)∧w'.cell? ⟨ρ,1,none⟩=some (.slice θ D.length ε)∧w'.cell? ⟨τ,0,none⟩=some (.int .i64 X)∧w'.cell? ⟨τ,1,none⟩=some (.int .i64 L)∧w'.cell? ⟨τ,2,none⟩=some (.int .i64 ζ)) (ds:=[]) #[false,false,false,false,false,false,false,false,false,false,false] kr rfl rfl ⟨(Ql O.out 0).trans rfl,(Ql O.out 1).trans rfl,(Ql Y.out 0).trans rfl,(Ql Y.out 1).trans rfl,(Ql Z.out 0).trans rfl,(Ql Z.out 1).trans rfl,(Ql Z.out 2).trans rfl⟩ (fun hHeld=>?_);refine Q8 newellaw19_CallOnce.Wn newellaw19_CallOnce.Vh (fun HT_ HW_=>?_)
   generalize gb.drew=m9 at O Y Z HB hHeld ⊢
   refine qT 0 (some 17) (qB 11 1) HT_ HW_ hHeld ?_
   refine qT 1 (some 18) (qB 11 3) HT_ HW_ hHeld ?_
   refine qT 3 (some 20) (qB 11 11) HT_ HW_ hHeld ?_
   refine K9 (σ:=Value×Value×Value×Value×Nat) 2 #[true,true,true,true,true,true,true,true,true,false,false] (fun s_=>[(19,.agg #[s_.1,s_.2.1]),(21,.tuple #[.agg #[s_.2.2.1,s_.2.2.2.1],.int .i64 cd]),(7,.pointer (some ⟨s_.2.2.2.2,0,none⟩)),(16,.tuple #[.agg #[s_.2.2.1,s_.2.2.2.1],.int .i64 cd]),(22,.agg #[s_.2.2.1,s_.2.2.2.1]),(23,.int .i64 cd)]) (fun s_ w'=>(w'.cell? ⟨ν,0,none⟩=some (.int .i64 I)∧w'.cell? ⟨ν,1,none⟩=some (.int .i64 J)∧w'.cell? ⟨ρ,0,none⟩=some (.slice η B.length δ)∧w'.cell? ⟨ρ,1,none⟩=some (.slice θ D.length ε)∧w'.cell? ⟨τ,0,none⟩=some (.int .i64 X)∧w'.cell? ⟨τ,1,none⟩=some (.int .i64 L)∧w'.cell? ⟨τ,2,none⟩=some (.int .i64 ζ))∧(Kd.R k56 56 w' w.heap.size (fun k_=>some k_≠(s_.2.2.1:Value).ownBlock) s_.1 bn)∧(Kd.R k62 62 w' w.heap.size (fun k_=>some k_≠(s_.2.2.2.1:Value).ownBlock) s_.2.1 bo)∧(Kd.R k56 56 w' w.heap.size (fun k_=>some k_≠(s_.1:Value).ownBlock) s_.2.2.1 a9)∧(Kd.R k62 62 w' w.heap.size (fun k_=>some k_≠(s_.2.1:Value).ownBlock) s_.2.2.2.1 ae)∧(w'.heap[ν]?=some (.cells #[.int .i64 I,.int .i64 J] 23 (0,0)))∧(w'.heap[ρ]?=some (.cells #[.slice η B.length δ,.slice θ D.length ε] 27 (0,0)))∧(w'.heap[τ]?=some (.cells #[.int .i64 X,.int .i64 L,.int .i64 ζ] 29 (0,0)))∧(w'.heap[s_.2.2.2.2]?=some (.cells #[.slice none 0 0,.slice none 0 0] 27 (0,0)))∧(w.heap.size≤s_.2.2.2.2)∧(w.heap.size≤s_.2.2.2.2)∧(ν ≠ s_.2.2.2.2)∧(s_.2.2.2.2 ≠ ν)∧(ρ≠s_.2.2.2.2)∧(s_.2.2.2.2≠ρ)∧(τ ≠ s_.2.2.2.2)∧(s_.2.2.2.2 ≠ τ)∧(Below w.heap.size w w')) ?_ ?_
   rotate_left
   ·intro hCont
    refine Kj (i:=2) (j:=8) (Ni:=some 19) (Nj:=some 7) #[true,true,true,true,false,false,false,false,false,false,false] #[true,true,false,true,false,false,false,false,true,false,false] rfl rfl rfl rfl (Ye HT_.out kr) (by decide) (by decide) (fun K hK=>?_) (fun K hK=>?_)
    ·skip
     refine Ze Try.func12 kr rfl #[.agg #[.slice η B.length δ,.slice θ D.length ε]] (by rfl) rfl rfl (by(try simp only[List.map_toArray,List.map_cons,List.map_nil]);first|done|rfl|(simp only[List.length_drop,List.length_take];rfl)) ?_
     with_reducible refine(newellaw19_Own.calls _ _ B _ _ D bn bo _ ?side1 ?side2 ?side3 ?side4 A6.out).mono ?_
     (case side1=>repeat(first|exact(Kd.Qx ag.out HB.out)|(with_reducible refine Kd.Za ?_ _)|(with_reducible refine Kd.Q9 ?_ _)|(with_reducible refine Kd.Zf ?_)))
     (case side2=>exact ar.out)
     (case side3=>repeat(first|exact(Kd.Qx ah.out HB.out)|(with_reducible refine Kd.Za ?_ _)|(with_reducible refine Kd.Q9 ?_ _)|(with_reducible refine Kd.Zf ?_)))
     (case side4=>exact aw.out)
     rintro e eg ⟨e3,e4,rfl,φ,a7,hb⟩
     refine⟨_,rfl, ?_⟩
     have U:=Aside0.mk (Kd.Q2 φ (Qi (by repeat(first|(with_reducible first|exact HB.out|apply Qh|apply Qb|apply Qf|refine Qc ?_ a2.out|refine Qc ?_ a6.out|refine Qc ?_ a8.out)|exact HB.out))))
     have γ:=Aside0.mk (Kd.Q2 a7 (Qi (by repeat(first|(with_reducible first|exact HB.out|apply Qh|apply Qb|apply Qf|refine Qc ?_ a2.out|refine Qc ?_ a6.out|refine Qc ?_ a8.out)|exact HB.out))))
     have ι :=Aside0.mk (Qm (g:= ν) (o:=.cells #[.int .i64 I,.int .i64 J] 23 (0,0)) (by(with_reducible repeat first|apply Qd|apply Qa|apply Qe);exact O.out) hb)
     have κ :=Aside0.mk (Qm (g:=ρ) (o:=.cells #[.slice η B.length δ,.slice θ D.length ε] 27 (0,0)) (by(with_reducible repeat first|apply Qd|apply Qa|apply Qe);exact Y.out) hb)
     have ξ :=Aside0.mk (Qm (g:= τ) (o:=.cells #[.int .i64 X,.int .i64 L,.int .i64 ζ] 29 (0,0)) (by(with_reducible repeat first|apply Qd|apply Qa|apply Qe);exact Z.out) hb)
     have χ :=Aside0.mk (Qt (by repeat(first|(with_reducible first|exact HB.out|apply Qh|apply Qb|apply Qf|refine Qc ?_ a2.out|refine Qc ?_ a6.out|refine Qc ?_ a8.out)|exact HB.out)) hb)
     clear O
     clear Y
     clear Z
     clear HB
     have a3:=U
     have a4:=γ
     have O:= ι
     have Y:= κ
     have Z:= ξ
     have HB:= χ
     clear U γ ι κ ξ χ
     (try clear hb)
     (try clear a0)
     (try clear hk)
     (try clear hi)
     (try clear φ)
     (try clear a7)
     obtain⟨k8,k9,ka⟩:=Kd.Q4 a3.out
     (first|subst ka|(injection ka with ψ aa ω;have ab:= ψ.symm;have ac:= ω.symm;clear ψ aa ω;subst ab;subst ac))
     obtain⟨ej,ek,el⟩:=Kd.Q4 a4.out
     (first|subst el|(injection el with ψ aa ω;have ab:= ψ.symm;have ac:= ω.symm;clear ψ aa ω;subst ab;subst ac))
     refine hK.out _ _ ⟨qc O,qc O,qc Y,qc Y,qc Z,qc Z,qc Z⟩ (fun hHeld=>?_)
     clear hK K
     refine qN (some 19) ?_
     refine Kj (i:=4) (j:=8) (Ni:=some 21) (Nj:=some 7) #[true,true,true,true,true,false,false,false,false,false,false] #[true,true,true,true,false,false,false,false,true,false,false] rfl rfl rfl rfl (Ye HT_.out kr) (by decide) (by decide) (fun K hK=>?_) (fun K hK=>?_)
     ·skip
      refine Ze Try.func11 kr rfl #[.agg #[.int .i64 I,.int .i64 J],.agg #[.slice k8 bn.length k9,.slice ej bo.length ek],.agg #[.int .i64 X,.int .i64 L,.int .i64 ζ]] (by rfl) rfl rfl (by(try simp only[List.map_toArray,List.map_cons,List.map_nil]);first|done|rfl|(simp only[List.length_drop,List.length_take];rfl)) ?_
      with_reducible refine(call_Press.calls k I J _ _ bn _ _ bo X L ζ a9 ae cd _ ?side1 ?side2 ?side3 ?side4 A7.out).mono ?_
      (case side1=>repeat(first|exact(Kd.Qo a3.out).2.2|(with_reducible refine Kd.Za ?_ _)|(with_reducible refine Kd.Q9 ?_ _)|(with_reducible refine Kd.Zf ?_)))
      (case side2=>exact(Kd.Qo a3.out).2.1)
      (case side3=>repeat(first|exact(Kd.Qo a4.out).2.2|(with_reducible refine Kd.Za ?_ _)|(with_reducible refine Kd.Q9 ?_ _)|(with_reducible refine Kd.Zf ?_)))
      (case side4=>exact(Kd.Qo a4.out).2.1)
      rintro e du ⟨cr,ct,rfl,φ,a7,hb⟩
      refine⟨_,rfl, ?_⟩
      have U:=Aside0.mk (Kd.Q7 (by(with_reducible repeat first|apply Kd.Qk|apply Kd.Qj|apply Kd.Qn);exact a3.out) (Kd.Zh φ) hb)
      have γ:=Aside0.mk (Kd.Q7 (by(with_reducible repeat first|apply Kd.Qk|apply Kd.Qj|apply Kd.Qn);exact a4.out) (Kd.Zh a7) hb)
      have ι :=Aside0.mk (Kd.Q2 (Kd.Zl φ (Kd.Zy (by(with_reducible repeat first|apply Kd.Qk|apply Kd.Qj|apply Kd.Qn);exact a3.out))) (Qi (by repeat(first|(with_reducible first|exact HB.out|apply Qh|apply Qb|apply Qf|refine Qc ?_ a2.out|refine Qc ?_ a6.out|refine Qc ?_ a8.out)|exact HB.out))))
      have κ :=Aside0.mk (Kd.Q2 (Kd.Zl a7 (Kd.Zy (by(with_reducible repeat first|apply Kd.Qk|apply Kd.Qj|apply Kd.Qn);exact a4.out))) (Qi (by repeat(first|(with_reducible first|exact HB.out|apply Qh|apply Qb|apply Qf|refine Qc ?_ a2.out|refine Qc ?_ a6.out|refine Qc ?_ a8.out)|exact HB.out))))
      have ξ :=Aside0.mk (Qm (g:= ν) (o:=.cells #[.int .i64 I,.int .i64 J] 23 (0,0)) (by(with_reducible repeat first|apply Qd|apply Qa|apply Qe);exact O.out) hb)
      have χ :=Aside0.mk (Qm (g:=ρ) (o:=.cells #[.slice η B.length δ,.slice θ D.length ε] 27 (0,0)) (by(with_reducible repeat first|apply Qd|apply Qa|apply Qe);exact Y.out) hb)
      have a1:=Aside0.mk (Qm (g:= τ) (o:=.cells #[.int .i64 X,.int .i64 L,.int .i64 ζ] 29 (0,0)) (by(with_reducible repeat first|apply Qd|apply Qa|apply Qe);exact Z.out) hb)
      have ak:=Aside0.mk (Qt (by repeat(first|(with_reducible first|exact HB.out|apply Qh|apply Qb|apply Qf|refine Qc ?_ a2.out|refine Qc ?_ a6.out|refine Qc ?_ a8.out)|exact HB.out)) hb)
      clear a3
      clear a4
      clear O
      clear Y
      clear Z
      clear HB
      have a3:=U
      have a4:=γ
      have ai:= ι
      have aj:= κ
      have O:= ξ
      have Y:= χ
      have Z:=a1
      have HB:=ak
      clear U γ ι κ ξ χ a1 ak
      (try clear hb)
      (try clear a0)
      (try clear hk)
      (try clear hi)
      (try clear φ)
      (try clear a7)
      refine hK.out _ _ ⟨qc O,qc O,qc Y,qc Y,qc Z,qc Z,qc Z⟩ (fun hHeld=>?_)
      clear hK K
      refine qN (some 21) ?_
      refine qP 5 (some 16) (qB 11 63) HT_ ?_
      refine qP 6 (some 22) (qB 11 127) HT_ ?_
      refine qP 7 (some 23) (qB 11 255) HT_ ?_
      refine Zg (i:=8) (N:=some 7) #[true,true,true,true,true,true,true,true,true,false,false] rfl rfl (Q1 HT_.out kr) (by decide) (fun K hK=>?_)
      refine Xk ?hg (N:=7) ?hd (cs:=#[.slice none 0 0,.slice none 0 0]) (t:=27) ?hr ?_;(case hd=>rfl);(case hg=>rfl);(case hr=>first|(go_simp;done)|(go_simp;rfl))
      intro μ hg dq hbox hb
      have U:=Aside0.mk (Kd.Qu (by(with_reducible repeat first|apply Kd.Qk|apply Kd.Qj|apply Kd.Qn);exact a3.out) hb)
      have γ:=Aside0.mk (Kd.Qu (by(with_reducible repeat first|apply Kd.Qk|apply Kd.Qj|apply Kd.Qn);exact a4.out) hb)
      have ι :=Aside0.mk (Kd.Qu (by(with_reducible repeat first|apply Kd.Qk|apply Kd.Qj|apply Kd.Qn);exact ai.out) hb)
      have κ :=Aside0.mk (Kd.Qu (by(with_reducible repeat first|apply Kd.Qk|apply Kd.Qj|apply Kd.Qn);exact aj.out) hb)
      have ξ :=Aside0.mk (Qm (g:= ν) (o:=.cells #[.int .i64 I,.int .i64 J] 23 (0,0)) (by(with_reducible repeat first|apply Qd|apply Qa|apply Qe);exact O.out) hb)
      have χ :=Aside0.mk (Qm (g:=ρ) (o:=.cells #[.slice η B.length δ,.slice θ D.length ε] 27 (0,0)) (by(with_reducible repeat first|apply Qd|apply Qa|apply Qe);exact Y.out) hb)
      have a1:=Aside0.mk (Qm (g:= τ) (o:=.cells #[.int .i64 X,.int .i64 L,.int .i64 ζ] 29 (0,0)) (by(with_reducible repeat first|apply Qd|apply Qa|apply Qe);exact Z.out) hb)
      have ak:=Aside0.mk (Qt (by repeat(first|(with_reducible first|exact HB.out|apply Qh|apply Qb|apply Qf|refine Qc ?_ a2.out|refine Qc ?_ a6.out|refine Qc ?_ a8.out)|exact HB.out)) hb)
      have am:=Aside0.mk (hbox)
      have ax:=Aside0.mk ((by rw[hg];exact(Qi (by repeat(first|(with_reducible first|exact HB.out|apply Qh|apply Qb|apply Qf|refine Qc ?_ a2.out|refine Qc ?_ a6.out|refine Qc ?_ a8.out)|exact HB.out))):w.heap.size ≤ μ))
      have ap:=Aside0.mk ((by rw[hg];exact(Qi (by repeat(first|(with_reducible first|exact HB.out|apply Qh|apply Qb|apply Qf|refine Qc ?_ a2.out|refine Qc ?_ a6.out|refine Qc ?_ a8.out)|exact HB.out))):w.heap.size ≤ μ))
      have av:=Aside0.mk ((by rw[hg];exact Nat.ne_of_lt (Q3 (g:= ν) (o:=.cells #[.int .i64 I,.int .i64 J] 23 (0,0)) (by(with_reducible repeat first|apply Qd|apply Qa|apply Qe);exact O.out)): ν ≠ μ))
      have b0:=Aside0.mk ((by rw[hg];exact Nat.ne_of_gt (Q3 (g:= ν) (o:=.cells #[.int .i64 I,.int .i64 J] 23 (0,0)) (by(with_reducible repeat first|apply Qd|apply Qa|apply Qe);exact O.out)): μ ≠ ν))
      have b8:=Aside0.mk ((by rw[hg];exact Nat.ne_of_lt (Q3 (g:=ρ) (o:=.cells #[.slice η B.length δ,.slice θ D.length ε] 27 (0,0)) (by(with_reducible repeat first|apply Qd|apply Qa|apply Qe);exact Y.out)):ρ ≠ μ))
      have b9:=Aside0.mk ((by rw[hg];exact Nat.ne_of_gt (Q3 (g:=ρ) (o:=.cells #[.slice η B.length δ,.slice θ D.length ε] 27 (0,0)) (by(with_reducible repeat first|apply Qd|apply Qa|apply Qe);exact Y.out)): μ ≠ ρ))
      have be:=Aside0.mk ((by rw[hg];exact Nat.ne_of_lt (Q3 (g:= τ) (o:=.cells #[.int .i64 X,.int .i64 L,.int .i64 ζ] 29 (0,0)) (by(with_reducible repeat first|apply Qd|apply Qa|apply Qe);exact Z.out)): τ ≠ μ))
      have bf:=Aside0.mk ((by rw[hg];exact Nat.ne_of_gt (Q3 (g:= τ) (o:=.cells #[.int .i64 X,.int .i64 L,.int .i64 ζ] 29 (0,0)) (by(with_reducible repeat first|apply Qd|apply Qa|apply Qe);exact Z.out)): μ ≠ τ))
      clear a3
      clear a4
      clear ai
      clear aj
      clear O
      clear Y
      clear Z
      clear HB
      have a3:=U
      have a4:=γ
      have ai:= ι
      have aj:= κ
      have O:= ξ
      have Y:= χ
      have Z:=a1
      have HB:=ak
      have a5:=am
      have cy:=ax
      have au:=ap
      have an:=av
      have b1:=b0
      have ao:=b8
      have b2:=b9
      have al:=be
      have b3:=bf
      clear U γ ι κ ξ χ a1 ak am ax ap av b0 b8 b9 be bf
      clear hb hbox hg
      refine hK.out _ _ ⟨qc O,qc O,qc Y,qc Y,qc Z,qc Z,qc Z⟩ (fun hHeld=>?_)
      clear hK K
      refine qN (some 7) ?_
      exact Xj (by simp only[Zx,Act.put,qS]) (hCont (.slice k8 bn.length k9,.slice ej bo.length ek,cr,ct,μ) _ ⟨hHeld,(by(with_reducible repeat first|apply Kd.Qk|apply Kd.Qj|apply Kd.Qn);exact Kd.Qq a3.out (fun _ hk=>hk.2)),(by(with_reducible repeat first|apply Kd.Qk|apply Kd.Qj|apply Kd.Qn);exact Kd.Qq a4.out (fun _ hk=>hk.2)),(by(with_reducible repeat first|apply Kd.Qk|apply Kd.Qj|apply Kd.Qn);exact Kd.Qq ai.out (fun _ hk=>hk.2)),(by(with_reducible repeat first|apply Kd.Qk|apply Kd.Qj|apply Kd.Qn);exact Kd.Qq aj.out (fun _ hk=>hk.2)),(by(with_reducible repeat first|apply Qd|apply Qa|apply Qe);exact O.out),(by(with_reducible repeat first|apply Qd|apply Qa|apply Qe);exact Y.out),(by(with_reducible repeat first|apply Qd|apply Qa|apply Qe);exact Z.out),(by(with_reducible repeat first|apply Qd|apply Qa|apply Qe);exact a5.out),cy.out,au.out,an.out,b1.out,ao.out,b2.out,al.out,b3.out,(by repeat(first|(with_reducible first|exact HB.out|apply Qh|apply Qb|apply Qf|refine Qc ?_ a2.out|refine Qc ?_ a6.out|refine Qc ?_ a8.out|refine Qc ?_ au.out)|exact HB.out))⟩)
     ·skip
      refine Xk ?hg (N:=7) ?hd (cs:=#[.slice none 0 0,.slice none 0 0]) (t:=27) ?hr ?_;(case hd=>rfl);(case hg=>rfl);(case hr=>first|(go_simp;done)|(go_simp;rfl))
      intro μ hg dp hbox hb
      have U:=Aside0.mk (Kd.Qu (by(with_reducible repeat first|apply Kd.Qk|apply Kd.Qj|apply Kd.Qn);exact a3.out) hb)
      have γ:=Aside0.mk (Kd.Qu (by(with_reducible repeat first|apply Kd.Qk|apply Kd.Qj|apply Kd.Qn);exact a4.out) hb)
      have ι :=Aside0.mk (Qm (g:= ν) (o:=.cells #[.int .i64 I,.int .i64 J] 23 (0,0)) (by(with_reducible repeat first|apply Qd|apply Qa|apply Qe);exact O.out) hb)
      have κ :=Aside0.mk (Qm (g:=ρ) (o:=.cells #[.slice η B.length δ,.slice θ D.length ε] 27 (0,0)) (by(with_reducible repeat first|apply Qd|apply Qa|apply Qe);exact Y.out) hb)
      have ξ :=Aside0.mk (Qm (g:= τ) (o:=.cells #[.int .i64 X,.int .i64 L,.int .i64 ζ] 29 (0,0)) (by(with_reducible repeat first|apply Qd|apply Qa|apply Qe);exact Z.out) hb)
      have χ :=Aside0.mk (Qt (by repeat(first|(with_reducible first|exact HB.out|apply Qh|apply Qb|apply Qf|refine Qc ?_ a2.out|refine Qc ?_ a6.out|refine Qc ?_ a8.out)|exact HB.out)) hb)
      have a1:=Aside0.mk (hbox)
      have ak:=Aside0.mk ((by rw[hg];exact(Qi (by repeat(first|(with_reducible first|exact HB.out|apply Qh|apply Qb|apply Qf|refine Qc ?_ a2.out|refine Qc ?_ a6.out|refine Qc ?_ a8.out)|exact HB.out))):w.heap.size ≤ μ))
      have am:=Aside0.mk ((by rw[hg];exact(Qi (by repeat(first|(with_reducible first|exact HB.out|apply Qh|apply Qb|apply Qf|refine Qc ?_ a2.out|refine Qc ?_ a6.out|refine Qc ?_ a8.out)|exact HB.out))):w.heap.size ≤ μ))
      have ax:=Aside0.mk ((by rw[hg];exact Nat.ne_of_lt (Q3 (g:= ν) (o:=.cells #[.int .i64 I,.int .i64 J] 23 (0,0)) (by(with_reducible repeat first|apply Qd|apply Qa|apply Qe);exact O.out)): ν ≠ μ))
      have ap:=Aside0.mk ((by rw[hg];exact Nat.ne_of_gt (Q3 (g:= ν) (o:=.cells #[.int .i64 I,.int .i64 J] 23 (0,0)) (by(with_reducible repeat first|apply Qd|apply Qa|apply Qe);exact O.out)): μ ≠ ν))
      have av:=Aside0.mk ((by rw[hg];exact Nat.ne_of_lt (Q3 (g:=ρ) (o:=.cells #[.slice η B.length δ,.slice θ D.length ε] 27 (0,0)) (by(with_reducible repeat first|apply Qd|apply Qa|apply Qe);exact Y.out)):ρ ≠ μ))
      have b0:=Aside0.mk ((by rw[hg];exact Nat.ne_of_gt (Q3 (g:=ρ) (o:=.cells #[.slice η B.length δ,.slice θ D.length ε] 27 (0,0)) (by(with_reducible repeat first|apply Qd|apply Qa|apply Qe);exact Y.out)): μ ≠ ρ))
      have b8:=Aside0.mk ((by rw[hg];exact Nat.ne_of_lt (Q3 (g:= τ) (o:=.cells #[.int .i64 X,.int .i64 L,.int .i64 ζ] 29 (0,0)) (by(with_reducible repeat first|apply Qd|apply Qa|apply Qe);exact Z.out)): τ ≠ μ))
      have b9:=Aside0.mk ((by rw[hg];exact Nat.ne_of_gt (Q3 (g:= τ) (o:=.cells #[.int .i64 X,.int .i64 L,.int .i64 ζ] 29 (0,0)) (by(with_reducible repeat first|apply Qd|apply Qa|apply Qe);exact Z.out)): μ ≠ τ))
      clear a3
      clear a4
      clear O
      clear Y
      clear Z
      clear HB
      have a3:=U
      have a4:=γ
      have O:= ι
      have Y:= κ
      have Z:= ξ
      have HB:= χ
      have a5:=a1
      have cy:=ak
      have au:=am
      have an:=ax
      have b1:=ap
      have ao:=av
      have b2:=b0
      have al:=b8
      have b3:=b9
      clear U γ ι κ ξ χ a1 ak am ax ap av b0 b8 b9
      clear hb hbox hg
      obtain⟨ej,ek,el⟩:=Kd.Q4 a3.out
      (first|subst el|(injection el with ψ aa ω;have ab:= ψ.symm;have ac:= ω.symm;clear ψ aa ω;subst ab;subst ac))
      obtain⟨g8,g9,ga⟩:=Kd.Q4 a4.out
      (first|subst ga|(injection ga with ψ aa ω;have ab:= ψ.symm;have ac:= ω.symm;clear ψ aa ω;subst ab;subst ac))
      refine hK.out _ _ ⟨qc O,qc O,qc Y,qc Y,qc Z,qc Z,qc Z⟩ (fun hHeld=>?_)
      clear hK K
      refine qN (some 7) ?_
      refine Zg (i:=4) (N:=some 21) #[true,true,true,true,true,false,false,false,true,false,false] rfl rfl (Q1 HT_.out kr) (by decide) (fun K hK=>?_)
      refine Ze Try.func11 kr rfl #[.agg #[.int .i64 I,.int .i64 J],.agg #[.slice ej bn.length ek,.slice g8 bo.length g9],.agg #[.int .i64 X,.int .i64 L,.int .i64 ζ]] (by rfl) rfl rfl (by(try simp only[List.map_toArray,List.map_cons,List.map_nil]);first|done|rfl|(simp only[List.length_drop,List.length_take];rfl)) ?_
      with_reducible refine(call_Press.calls k I J _ _ bn _ _ bo X L ζ a9 ae cd _ ?side1 ?side2 ?side3 ?side4 A7.out).mono ?_
      (case side1=>repeat(first|exact(Kd.Qo a3.out).2.2|(with_reducible refine Kd.Za ?_ _)|(with_reducible refine Kd.Q9 ?_ _)|(with_reducible refine Kd.Zf ?_)))
      (case side2=>exact(Kd.Qo a3.out).2.1)
      (case side3=>repeat(first|exact(Kd.Qo a4.out).2.2|(with_reducible refine Kd.Za ?_ _)|(with_reducible refine Kd.Q9 ?_ _)|(with_reducible refine Kd.Zf ?_)))
      (case side4=>exact(Kd.Qo a4.out).2.1)
      rintro e dq ⟨cr,ct,rfl,φ,a7,hb⟩
      refine⟨_,rfl, ?_⟩
      have U:=Aside0.mk (Kd.Q7 (by(with_reducible repeat first|apply Kd.Qk|apply Kd.Qj|apply Kd.Qn);exact a3.out) (Kd.Zh φ) hb)
      have γ:=Aside0.mk (Kd.Q7 (by(with_reducible repeat first|apply Kd.Qk|apply Kd.Qj|apply Kd.Qn);exact a4.out) (Kd.Zh a7) hb)
      have ι :=Aside0.mk (Kd.Q2 (Kd.Zl φ (Kd.Zy (by(with_reducible repeat first|apply Kd.Qk|apply Kd.Qj|apply Kd.Qn);exact a3.out))) (Qi (by repeat(first|(with_reducible first|exact HB.out|apply Qh|apply Qb|apply Qf|refine Qc ?_ a2.out|refine Qc ?_ a6.out|refine Qc ?_ a8.out|refine Qc ?_ au.out)|exact HB.out))))
      have κ :=Aside0.mk (Kd.Q2 (Kd.Zl a7 (Kd.Zy (by(with_reducible repeat first|apply Kd.Qk|apply Kd.Qj|apply Kd.Qn);exact a4.out))) (Qi (by repeat(first|(with_reducible first|exact HB.out|apply Qh|apply Qb|apply Qf|refine Qc ?_ a2.out|refine Qc ?_ a6.out|refine Qc ?_ a8.out|refine Qc ?_ au.out)|exact HB.out))))
      have ξ :=Aside0.mk (Qm (g:= ν) (o:=.cells #[.int .i64 I,.int .i64 J] 23 (0,0)) (by(with_reducible repeat first|apply Qd|apply Qa|apply Qe);exact O.out) hb)
      have χ :=Aside0.mk (Qm (g:=ρ) (o:=.cells #[.slice η B.length δ,.slice θ D.length ε] 27 (0,0)) (by(with_reducible repeat first|apply Qd|apply Qa|apply Qe);exact Y.out) hb)
      have a1:=Aside0.mk (Qm (g:= τ) (o:=.cells #[.int .i64 X,.int .i64 L,.int .i64 ζ] 29 (0,0)) (by(with_reducible repeat first|apply Qd|apply Qa|apply Qe);exact Z.out) hb)
      have ak:=Aside0.mk (Qm (g:= μ) (o:=.cells #[.slice none 0 0,.slice none 0 0] 27 (0,0)) (by(with_reducible repeat first|apply Qd|apply Qa|apply Qe);exact a5.out) hb)
      have am:=Aside0.mk (Qt (by repeat(first|(with_reducible first|exact HB.out|apply Qh|apply Qb|apply Qf|refine Qc ?_ a2.out|refine Qc ?_ a6.out|refine Qc ?_ a8.out|refine Qc ?_ au.out)|exact HB.out)) hb)
      clear a3
      clear a4
      clear O
      clear Y
      clear Z
      clear a5
      clear HB
      have a3:=U
      have a4:=γ
      have ai:= ι
      have aj:= κ
      have O:= ξ
      have Y:= χ
      have Z:=a1
      have a5:=ak
      have HB:=am
      clear U γ ι κ ξ χ a1 ak am
      (try clear hb)
      (try clear a0)
      (try clear hk)
      (try clear hi)
      (try clear φ)
      (try clear a7)
      refine hK.out _ _ ⟨qc O,qc O,qc Y,qc Y,qc Z,qc Z,qc Z⟩ (fun hHeld=>?_)
      clear hK K
      refine qN (some 21) ?_
      refine qP 5 (some 16) (qB 11 319) HT_ ?_
      refine qP 6 (some 22) (qB 11 383) HT_ ?_
      refine qP 7 (some 23) (qB 11 511) HT_ ?_
      exact Xj (by simp only[Zx,Act.put,qS]) (hCont (.slice ej bn.length ek,.slice g8 bo.length g9,cr,ct,μ) _ ⟨hHeld,(by(with_reducible repeat first|apply Kd.Qk|apply Kd.Qj|apply Kd.Qn);exact Kd.Qq a3.out (fun _ hk=>hk.2)),(by(with_reducible repeat first|apply Kd.Qk|apply Kd.Qj|apply Kd.Qn);exact Kd.Qq a4.out (fun _ hk=>hk.2)),(by(with_reducible repeat first|apply Kd.Qk|apply Kd.Qj|apply Kd.Qn);exact Kd.Qq ai.out (fun _ hk=>hk.2)),(by(with_reducible repeat first|apply Kd.Qk|apply Kd.Qj|apply Kd.Qn);exact Kd.Qq aj.out (fun _ hk=>hk.2)),(by(with_reducible repeat first|apply Qd|apply Qa|apply Qe);exact O.out),(by(with_reducible repeat first|apply Qd|apply Qa|apply Qe);exact Y.out),(by(with_reducible repeat first|apply Qd|apply Qa|apply Qe);exact Z.out),(by(with_reducible repeat first|apply Qd|apply Qa|apply Qe);exact a5.out),cy.out,au.out,an.out,b1.out,ao.out,b2.out,al.out,b3.out,(by repeat(first|(with_reducible first|exact HB.out|apply Qh|apply Qb|apply Qf|refine Qc ?_ a2.out|refine Qc ?_ a6.out|refine Qc ?_ a8.out|refine Qc ?_ au.out)|exact HB.out))⟩)
    ·skip
     refine Xk ?hg (N:=7) ?hd (cs:=#[.slice none 0 0,.slice none 0 0]) (t:=27) ?hr ?_;(case hd=>rfl);(case hg=>rfl);(case hr=>first|(go_simp;done)|(go_simp;rfl))
     intro μ hg eg hbox hb
     have U:=Aside0.mk (Qm (g:= ν) (o:=.cells #[.int .i64 I,.int .i64 J] 23 (0,0)) (by(with_reducible repeat first|apply Qd|apply Qa|apply Qe);exact O.out) hb)
     have γ:=Aside0.mk (Qm (g:=ρ) (o:=.cells #[.slice η B.length δ,.slice θ D.length ε] 27 (0,0)) (by(with_reducible repeat first|apply Qd|apply Qa|apply Qe);exact Y.out) hb)
     have ι :=Aside0.mk (Qm (g:= τ) (o:=.cells #[.int .i64 X,.int .i64 L,.int .i64 ζ] 29 (0,0)) (by(with_reducible repeat first|apply Qd|apply Qa|apply Qe);exact Z.out) hb)
     have κ :=Aside0.mk (Qt (by repeat(first|(with_reducible first|exact HB.out|apply Qh|apply Qb|apply Qf|refine Qc ?_ a2.out|refine Qc ?_ a6.out|refine Qc ?_ a8.out)|exact HB.out)) hb)
     have ξ :=Aside0.mk (hbox)
     have χ :=Aside0.mk ((by rw[hg];exact(Qi (by repeat(first|(with_reducible first|exact HB.out|apply Qh|apply Qb|apply Qf|refine Qc ?_ a2.out|refine Qc ?_ a6.out|refine Qc ?_ a8.out)|exact HB.out))):w.heap.size ≤ μ))
     have a1:=Aside0.mk ((by rw[hg];exact(Qi (by repeat(first|(with_reducible first|exact HB.out|apply Qh|apply Qb|apply Qf|refine Qc ?_ a2.out|refine Qc ?_ a6.out|refine Qc ?_ a8.out)|exact HB.out))):w.heap.size ≤ μ))
     have ak:=Aside0.mk ((by rw[hg];exact Nat.ne_of_lt (Q3 (g:= ν) (o:=.cells #[.int .i64 I,.int .i64 J] 23 (0,0)) (by(with_reducible repeat first|apply Qd|apply Qa|apply Qe);exact O.out)): ν ≠ μ))
     have am:=Aside0.mk ((by rw[hg];exact Nat.ne_of_gt (Q3 (g:= ν) (o:=.cells #[.int .i64 I,.int .i64 J] 23 (0,0)) (by(with_reducible repeat first|apply Qd|apply Qa|apply Qe);exact O.out)): μ ≠ ν))
     have ax:=Aside0.mk ((by rw[hg];exact Nat.ne_of_lt (Q3 (g:=ρ) (o:=.cells #[.slice η B.length δ,.slice θ D.length ε] 27 (0,0)) (by(with_reducible repeat first|apply Qd|apply Qa|apply Qe);exact Y.out)):ρ ≠ μ))
     have ap:=Aside0.mk ((by rw[hg];exact Nat.ne_of_gt (Q3 (g:=ρ) (o:=.cells #[.slice η B.length δ,.slice θ D.length ε] 27 (0,0)) (by(with_reducible repeat first|apply Qd|apply Qa|apply Qe);exact Y.out)): μ ≠ ρ))
     have av:=Aside0.mk ((by rw[hg];exact Nat.ne_of_lt (Q3 (g:= τ) (o:=.cells #[.int .i64 X,.int .i64 L,.int .i64 ζ] 29 (0,0)) (by(with_reducible repeat first|apply Qd|apply Qa|apply Qe);exact Z.out)): τ ≠ μ))
     have b0:=Aside0.mk ((by rw[hg];exact Nat.ne_of_gt (Q3 (g:= τ) (o:=.cells #[.int .i64 X,.int .i64 L,.int .i64 ζ] 29 (0,0)) (by(with_reducible repeat first|apply Qd|apply Qa|apply Qe);exact Z.out)): μ ≠ τ))
     clear O
     clear Y
     clear Z
     clear HB
     have O:=U
     have Y:=γ
     have Z:= ι
     have HB:= κ
     have a5:= ξ
     have cy:= χ
     have au:=a1
     have an:=ak
     have b1:=am
     have ao:=ax
     have b2:=ap
     have al:=av
     have b3:=b0
     clear U γ ι κ ξ χ a1 ak am ax ap av b0
     clear hb hbox hg
     refine hK.out _ _ ⟨qc O,qc O,qc Y,qc Y,qc Z,qc Z,qc Z⟩ (fun hHeld=>?_)
     clear hK K
     refine qN (some 7) ?_
     refine Zg (i:=2) (N:=some 19) #[true,true,true,true,false,false,false,false,true,false,false] rfl rfl (Q1 HT_.out kr) (by decide) (fun K hK=>?_)
     refine Ze Try.func12 kr rfl #[.agg #[.slice η B.length δ,.slice θ D.length ε]] (by rfl) rfl rfl (by(try simp only[List.map_toArray,List.map_cons,List.map_nil]);first|done|rfl|(simp only[List.length_drop,List.length_take];rfl)) ?_
     with_reducible refine(newellaw19_Own.calls _ _ B _ _ D bn bo _ ?side1 ?side2 ?side3 ?side4 A6.out).mono ?_
     (case side1=>repeat(first|exact(Kd.Qx ag.out HB.out)|(with_reducible refine Kd.Za ?_ _)|(with_reducible refine Kd.Q9 ?_ _)|(with_reducible refine Kd.Zf ?_)))
     (case side2=>exact ar.out)
     (case side3=>repeat(first|exact(Kd.Qx ah.out HB.out)|(with_reducible refine Kd.Za ?_ _)|(with_reducible refine Kd.Q9 ?_ _)|(with_reducible refine Kd.Zf ?_)))
     (case side4=>exact aw.out)
     rintro e dp ⟨e3,e4,rfl,φ,a7,hb⟩
     refine⟨_,rfl, ?_⟩
     have U:=Aside0.mk (Kd.Q2 φ (Qi (by repeat(first|(with_reducible first|exact HB.out|apply Qh|apply Qb|apply Qf|refine Qc ?_ a2.out|refine Qc ?_ a6.out|refine Qc ?_ a8.out|refine Qc ?_ au.out)|exact HB.out))))
     have γ:=Aside0.mk (Kd.Q2 a7 (Qi (by repeat(first|(with_reducible first|exact HB.out|apply Qh|apply Qb|apply Qf|refine Qc ?_ a2.out|refine Qc ?_ a6.out|refine Qc ?_ a8.out|refine Qc ?_ au.out)|exact HB.out))))
     have ι :=Aside0.mk (Qm (g:= ν) (o:=.cells #[.int .i64 I,.int .i64 J] 23 (0,0)) (by(with_reducible repeat first|apply Qd|apply Qa|apply Qe);exact O.out) hb)
     have κ :=Aside0.mk (Qm (g:=ρ) (o:=.cells #[.slice η B.length δ,.slice θ D.length ε] 27 (0,0)) (by(with_reducible repeat first|apply Qd|apply Qa|apply Qe);exact Y.out) hb)
     have ξ :=Aside0.mk (Qm (g:= τ) (o:=.cells #[.int .i64 X,.int .i64 L,.int .i64 ζ] 29 (0,0)) (by(with_reducible repeat first|apply Qd|apply Qa|apply Qe);exact Z.out) hb)
     have χ :=Aside0.mk (Qm (g:= μ) (o:=.cells #[.slice none 0 0,.slice none 0 0] 27 (0,0)) (by(with_reducible repeat first|apply Qd|apply Qa|apply Qe);exact a5.out) hb)
     have a1:=Aside0.mk (Qt (by repeat(first|(with_reducible first|exact HB.out|apply Qh|apply Qb|apply Qf|refine Qc ?_ a2.out|refine Qc ?_ a6.out|refine Qc ?_ a8.out|refine Qc ?_ au.out)|exact HB.out)) hb)
     clear O
     clear Y
     clear Z
     clear a5
     clear HB
     have a3:=U
     have a4:=γ
     have O:= ι
     have Y:= κ
     have Z:= ξ
     have a5:= χ
     have HB:=a1
     clear U γ ι κ ξ χ a1
     (try clear hb)
     (try clear a0)
     (try clear hk)
     (try clear hi)
     (try clear φ)
     (try clear a7)
     obtain⟨ej,ek,el⟩:=Kd.Q4 a3.out
     (first|subst el|(injection el with ψ aa ω;have ab:= ψ.symm;have ac:= ω.symm;clear ψ aa ω;subst ab;subst ac))
     obtain⟨g8,g9,ga⟩:=Kd.Q4 a4.out
     (first|subst ga|(injection ga with ψ aa ω;have ab:= ψ.symm;have ac:= ω.symm;clear ψ aa ω;subst ab;subst ac))
     refine hK.out _ _ ⟨qc O,qc O,qc Y,qc Y,qc Z,qc Z,qc Z⟩ (fun hHeld=>?_)
     clear hK K
     refine qN (some 19) ?_
     refine Zg (i:=4) (N:=some 21) #[true,true,true,true,true,false,false,false,true,false,false] rfl rfl (Q1 HT_.out kr) (by decide) (fun K hK=>?_)
     refine Ze Try.func11 kr rfl #[.agg #[.int .i64 I,.int .i64 J],.agg #[.slice ej bn.length ek,.slice g8 bo.length g9],.agg #[.int .i64 X,.int .i64 L,.int .i64 ζ]] (by rfl) rfl rfl (by(try simp only[List.map_toArray,List.map_cons,List.map_nil]);first|done|rfl|(simp only[List.length_drop,List.length_take];rfl)) ?_
     with_reducible refine(call_Press.calls k I J _ _ bn _ _ bo X L ζ a9 ae cd _ ?side1 ?side2 ?side3 ?side4 A7.out).mono ?_
     (case side1=>repeat(first|exact(Kd.Qo a3.out).2.2|(with_reducible refine Kd.Za ?_ _)|(with_reducible refine Kd.Q9 ?_ _)|(with_reducible refine Kd.Zf ?_)))
     (case side2=>exact(Kd.Qo a3.out).2.1)
     (case side3=>repeat(first|exact(Kd.Qo a4.out).2.2|(with_reducible refine Kd.Za ?_ _)|(with_reducible refine Kd.Q9 ?_ _)|(with_reducible refine Kd.Zf ?_)))
     (case side4=>exact(Kd.Qo a4.out).2.1)
     rintro e dq ⟨cr,ct,rfl,φ,a7,hb⟩
     refine⟨_,rfl, ?_⟩
     have U:=Aside0.mk (Kd.Q7 (by(with_reducible repeat first|apply Kd.Qk|apply Kd.Qj|apply Kd.Qn);exact a3.out) (Kd.Zh φ) hb)
     have γ:=Aside0.mk (Kd.Q7 (by(with_reducible repeat first|apply Kd.Qk|apply Kd.Qj|apply Kd.Qn);exact a4.out) (Kd.Zh a7) hb)
     have ι :=Aside0.mk (Kd.Q2 (Kd.Zl φ (Kd.Zy (by(with_reducible repeat first|apply Kd.Qk|apply Kd.Qj|apply Kd.Qn);exact a3.out))) (Qi (by repeat(first|(with_reducible first|exact HB.out|apply Qh|apply Qb|apply Qf|refine Qc ?_ a2.out|refine Qc ?_ a6.out|refine Qc ?_ a8.out|refine Qc ?_ au.out)|exact HB.out))))
     have κ :=Aside0.mk (Kd.Q2 (Kd.Zl a7 (Kd.Zy (by(with_reducible repeat first|apply Kd.Qk|apply Kd.Qj|apply Kd.Qn);exact a4.out))) (Qi (by repeat(first|(with_reducible first|exact HB.out|apply Qh|apply Qb|apply Qf|refine Qc ?_ a2.out|refine Qc ?_ a6.out|refine Qc ?_ a8.out|refine Qc ?_ au.out)|exact HB.out))))
     have ξ :=Aside0.mk (Qm (g:= ν) (o:=.cells #[.int .i64 I,.int .i64 J] 23 (0,0)) (by(with_reducible repeat first|apply Qd|apply Qa|apply Qe);exact O.out) hb)
     have χ :=Aside0.mk (Qm (g:=ρ) (o:=.cells #[.slice η B.length δ,.slice θ D.length ε] 27 (0,0)) (by(with_reducible repeat first|apply Qd|apply Qa|apply Qe);exact Y.out) hb)
     have a1:=Aside0.mk (Qm (g:= τ) (o:=.cells #[.int .i64 X,.int .i64 L,.int .i64 ζ] 29 (0,0)) (by(with_reducible repeat first|apply Qd|apply Qa|apply Qe);exact Z.out) hb)
     have ak:=Aside0.mk (Qm (g:= μ) (o:=.cells #[.slice none 0 0,.slice none 0 0] 27 (0,0)) (by(with_reducible repeat first|apply Qd|apply Qa|apply Qe);exact a5.out) hb)
     have am:=Aside0.mk (Qt (by repeat(first|(with_reducible first|exact HB.out|apply Qh|apply Qb|apply Qf|refine Qc ?_ a2.out|refine Qc ?_ a6.out|refine Qc ?_ a8.out|refine Qc ?_ au.out)|exact HB.out)) hb)
     clear a3
     clear a4
     clear O
     clear Y
     clear Z
     clear a5
     clear HB
     have a3:=U
     have a4:=γ
     have ai:= ι
     have aj:= κ
     have O:= ξ
     have Y:= χ
     have Z:=a1
     have a5:=ak
     have HB:=am
     clear U γ ι κ ξ χ a1 ak am
     (try clear hb)
     (try clear a0)
     (try clear hk)
     (try clear hi)
     (try clear φ)
     (try clear a7)
     refine hK.out _ _ ⟨qc O,qc O,qc Y,qc Y,qc Z,qc Z,qc Z⟩ (fun hHeld=>?_)
     clear hK K
     refine qN (some 21) ?_
     refine qP 5 (some 16) (qB 11 319) HT_ ?_
     refine qP 6 (some 22) (qB 11 383) HT_ ?_
     refine qP 7 (some 23) (qB 11 511) HT_ ?_
     exact Xj (by simp only[Zx,Act.put,qS]) (hCont (.slice ej bn.length ek,.slice g8 bo.length g9,cr,ct,μ) _ ⟨hHeld,(by(with_reducible repeat first|apply Kd.Qk|apply Kd.Qj|apply Kd.Qn);exact Kd.Qq a3.out (fun _ hk=>hk.2)),(by(with_reducible repeat first|apply Kd.Qk|apply Kd.Qj|apply Kd.Qn);exact Kd.Qq a4.out (fun _ hk=>hk.2)),(by(with_reducible repeat first|apply Kd.Qk|apply Kd.Qj|apply Kd.Qn);exact Kd.Qq ai.out (fun _ hk=>hk.2)),(by(with_reducible repeat first|apply Kd.Qk|apply Kd.Qj|apply Kd.Qn);exact Kd.Qq aj.out (fun _ hk=>hk.2)),(by(with_reducible repeat first|apply Qd|apply Qa|apply Qe);exact O.out),(by(with_reducible repeat first|apply Qd|apply Qa|apply Qe);exact Y.out),(by(with_reducible repeat first|apply Qd|apply Qa|apply Qe);exact Z.out),(by(with_reducible repeat first|apply Qd|apply Qa|apply Qe);exact a5.out),cy.out,au.out,an.out,b1.out,ao.out,b2.out,al.out,b3.out,(by repeat(first|(with_reducible first|exact HB.out|apply Qh|apply Qb|apply Qf|refine Qc ?_ a2.out|refine Qc ?_ a6.out|refine Qc ?_ a8.out|refine Qc ?_ au.out)|exact HB.out))⟩)
   rintro⟨e3,e4,cr,ct,μ⟩ bu ⟨hS_,cj,ck,cm,cn,co,dv,dw,dx,dy,dz,d9,da,db,dc,dd,de,df⟩
   have U:Aside0 (Kd.R k56 56 bu w.heap.size (fun k_=>some k_≠(cr:Value).ownBlock) e3 bn):=⟨cj⟩
   have γ:Aside0 (Kd.R k62 62 bu w.heap.size (fun k_=>some k_≠(ct:Value).ownBlock) e4 bo):=⟨ck⟩
   have ι :Aside0 (Kd.R k56 56 bu w.heap.size (fun k_=>some k_≠(e3:Value).ownBlock) cr a9):=⟨cm⟩
   have κ :Aside0 (Kd.R k62 62 bu w.heap.size (fun k_=>some k_≠(e4:Value).ownBlock) ct ae):=⟨cn⟩
   have ξ :Aside0 (bu.heap[ν]?=some (.cells #[.int .i64 I,.int .i64 J] 23 (0,0))):=⟨co⟩
   have χ :Aside0 (bu.heap[ρ]?=some (.cells #[.slice η B.length δ,.slice θ D.length ε] 27 (0,0))):=⟨dv⟩
   have a1:Aside0 (bu.heap[τ]?=some (.cells #[.int .i64 X,.int .i64 L,.int .i64 ζ] 29 (0,0))):=⟨dw⟩
   have ak:Aside0 (bu.heap[μ]?=some (.cells #[.slice none 0 0,.slice none 0 0] 27 (0,0))):=⟨dx⟩
   have am:Aside0 (w.heap.size ≤ μ):=⟨dy⟩
   have ax:Aside0 (w.heap.size ≤ μ):=⟨dz⟩
   have ap:Aside0 (ν ≠ μ):=⟨d9⟩
   have av:Aside0 (μ ≠ ν):=⟨da⟩
   have b0:Aside0 (ρ ≠ μ):=⟨db⟩
   have b8:Aside0 (μ ≠ ρ):=⟨dc⟩
   have b9:Aside0 (τ ≠ μ):=⟨dd⟩
   have be:Aside0 (μ ≠ τ):=⟨de⟩
   have bf:Aside0 (Below w.heap.size w bu):=⟨df⟩
   clear O
   clear Y
   clear Z
   clear HB
   clear cj ck cm cn co dv dw dx dy dz d9 da db dc dd de df
   have a3:=U
   have a4:=γ
   have ai:= ι
   have aj:= κ
   have O:= ξ
   have Y:= χ
   have Z:=a1
   have a5:=ak
   have cy:=am
   have au:=ax
   have an:=ap
   have b1:=av
   have ao:=b0
   have b2:=b8
   have al:=b9
   have b3:=be
   have HB:=bf
   clear U γ ι κ ξ χ a1 ak am ax ap av b0 b8 b9 be bf
   have hHeld:bu.cell? ⟨ν,0,none⟩=some (.int .i64 I)∧bu.cell? ⟨ν,1,none⟩=some (.int .i64 J)∧bu.cell? ⟨ρ,0,none⟩=some (.slice η B.length δ)∧bu.cell? ⟨ρ,1,none⟩=some (.slice θ D.length ε)∧bu.cell? ⟨τ,0,none⟩=some (.int .i64 X)∧bu.cell? ⟨τ,1,none⟩=some (.int .i64 L)∧bu.cell? ⟨τ,2,none⟩=some (.int .i64 ζ):=hS_
   obtain⟨bq,bp,kb⟩:=Kd.Q4 ai.out
   (first|subst kb|(injection kb with ψ aa ω;have ab:= ψ.symm;have ac:= ω.symm;clear ψ aa ω;subst ab;subst ac))
   obtain⟨bd,bc,ii⟩:=Kd.Q4 aj.out
   (first|subst ii|(injection ii with ψ aa ω;have ab:= ψ.symm;have ac:= ω.symm;clear ψ aa ω;subst ab;subst ac))
   refine Xj (a':=?_) ?_ ?_
   rotate_left
   ·simp only[Zx,Act.put,qS]
    rfl
   refine Zg (i:=9) (N:=none) #[true,true,true,true,true,true,true,true,true,true,false] rfl rfl (Q1 HT_.out kr) (by decide) (fun K hK=>?_)
   have mx:bu.cell? ⟨μ,0,none⟩=some (.slice none 0 0):=(Ql a5.out 0).trans rfl
   have mm:=Q6 a5.out 0
   have lw:=an.out
   have lx:=ao.out
   have ly:=al.out
   have lz:=b1.out
   have m0:=b2.out
   have m1:=b3.out
   have my:bu.cell? ⟨μ,1,none⟩=some (.slice none 0 0):=(Ql a5.out 1).trans rfl
   have mn:=Q6 a5.out 1
   have m2:=an.out
   have m3:=ao.out
   have m4:=al.out
   have m5:=b1.out
   have m6:=b2.out
   have m7:=b3.out
   refine Js (w1:=?_) (by rfl) rfl ?_ ?_
   rotate_left
   ·go_simp
    rfl
   refine hK.out _ _ ⟨((cell_far (p:=⟨μ,_,none⟩) an.out _).trans (((cell_far (p:=⟨μ,_,none⟩) an.out _).trans (hHeld.1)))),((cell_far (p:=⟨μ,_,none⟩) an.out _).trans (((cell_far (p:=⟨μ,_,none⟩) an.out _).trans (hHeld.2.1)))),((cell_far (p:=⟨μ,_,none⟩) ao.out _).trans (((cell_far (p:=⟨μ,_,none⟩) ao.out _).trans (hHeld.2.2.1)))),((cell_far (p:=⟨μ,_,none⟩) ao.out _).trans (((cell_far (p:=⟨μ,_,none⟩) ao.out _).trans (hHeld.2.2.2.1)))),((cell_far (p:=⟨μ,_,none⟩) al.out _).trans (((cell_far (p:=⟨μ,_,none⟩) al.out _).trans (hHeld.2.2.2.2.1)))),((cell_far (p:=⟨μ,_,none⟩) al.out _).trans (((cell_far (p:=⟨μ,_,none⟩) al.out _).trans (hHeld.2.2.2.2.2.1)))),((cell_far (p:=⟨μ,_,none⟩) al.out _).trans (((cell_far (p:=⟨μ,_,none⟩) al.out _).trans (hHeld.2.2.2.2.2.2))))⟩ (fun hHeld=>?_)
   clear hK K
   refine qP 10 (some 8) (qB 11 2047) HT_ ?_
   refine Zu (Zj HT_.out kr) ?_
   have ix:=dl.out
   have iy:=dm.out
   have hu:=an.out
   have hx:=b1.out
   obtain⟨fj,fk,fl,fm⟩:=qD2 O.out
   have fc:=b2.out
   have fe:=ao.out
   have g3:=b3.out
   have g4:=al.out
   obtain⟨e6,e7,e8,e9⟩:=qD2 a5.out
   obtain⟨er,et,jw,eu,ev,jx⟩:=qD3 Z.out
   go_upto_region 8 with(first|((with_reducible refine Q0 (f:=11) rfl ?_);refine Zk (some 31) rfl rfl Try.func11 kr rfl #[.agg #[.int .i64 I,.int .i64 J],.agg #[.slice bq a9.length bp,.slice bd ae.length bc],.agg #[.int .i64 X,.int .i64 L,.int .i64 ζ]] rfl (by(try simp only[List.map_toArray,List.map_cons,List.map_nil]);first|done|rfl|(simp only[List.length_drop,List.length_take];rfl)) ?_;(with_reducible refine(call_Press.calls k I J _ _ a9 _ _ ae X L ζ bg bk fb _ ?side1 ?side2 ?side3 ?side4 A9.out).mono ?_);(case side1=>refine(Kd.Qo (e:=56) (base:=w.heap.size) (ok:=fun k_=>some k_≠(e3:Value).ownBlock) (n:=a9.length) (c:=bp) ?_).2.2;exact(by(with_reducible repeat first|apply Kd.Qk|apply Kd.Qj|apply Kd.Qn);exact(Kd.Qq (Kd.Qs (p:=⟨μ,1,none⟩) (Kd.Qs (p:=⟨μ,0,none⟩) (Kd.Qw ai.out a5.out (by decide)) (fun _ hk=>hk.2) (.slice bq a9.length bp)) (fun _ hk=>hk.2) (.slice bd ae.length bc)) (fun _ h_=>h_.1))));(case side2=>exact(Kd.Qo ai.out).2.1);(case side3=>refine(Kd.Qo (e:=62) (base:=w.heap.size) (ok:=fun k_=>some k_≠(e4:Value).ownBlock) (n:=ae.length) (c:=bc) ?_).2.2;exact(by(with_reducible repeat first|apply Kd.Qk|apply Kd.Qj|apply Kd.Qn);exact(Kd.Qq (Kd.Qs (p:=⟨μ,1,none⟩) (Kd.Qs (p:=⟨μ,0,none⟩) (Kd.Qw aj.out a5.out (by decide)) (fun _ hk=>hk.2) (.slice bq a9.length bp)) (fun _ hk=>hk.2) (.slice bd ae.length bc)) (fun _ h_=>h_.1))));(case side4=>exact(Kd.Qo aj.out).2.1);rintro e ma ⟨mz,n0,rfl,φ,a7,hb⟩;refine⟨_,rfl, ?_⟩;have U:=Aside0.mk (Kd.Q7 (by(with_reducible repeat first|apply Kd.Qk|apply Kd.Qj|apply Kd.Qn);exact(Kd.Qq (Kd.Qs (p:=⟨μ,1,none⟩) (Kd.Qs (p:=⟨μ,0,none⟩) (Kd.Qw a3.out a5.out (by decide)) (fun _ hk=>hk.2) (.slice bq a9.length bp)) (fun _ hk=>hk.2) (.slice bd ae.length bc)) (fun _ h_=>h_.1))) (Kd.Zh φ) hb);have γ:=Aside0.mk (Kd.Q7 (by(with_reducible repeat first|apply Kd.Qk|apply Kd.Qj|apply Kd.Qn);exact(Kd.Qq (Kd.Qs (p:=⟨μ,1,none⟩) (Kd.Qs (p:=⟨μ,0,none⟩) (Kd.Qw a4.out a5.out (by decide)) (fun _ hk=>hk.2) (.slice bq a9.length bp)) (fun _ hk=>hk.2) (.slice bd ae.length bc)) (fun _ h_=>h_.1))) (Kd.Zh a7) hb);have ι :=Aside0.mk (Kd.Q7 (by(with_reducible repeat first|apply Kd.Qk|apply Kd.Qj|apply Kd.Qn);exact(Kd.Qq (Kd.Qs (p:=⟨μ,1,none⟩) (Kd.Qs (p:=⟨μ,0,none⟩) (Kd.Qw ai.out a5.out (by decide)) (fun _ hk=>hk.2) (.slice bq a9.length bp)) (fun _ hk=>hk.2) (.slice bd ae.length bc)) (fun _ h_=>h_.1))) (Kd.Zh φ) hb);have κ :=Aside0.mk (Kd.Q7 (by(with_reducible repeat first|apply Kd.Qk|apply Kd.Qj|apply Kd.Qn);exact(Kd.Qq (Kd.Qs (p:=⟨μ,1,none⟩) (Kd.Qs (p:=⟨μ,0,none⟩) (Kd.Qw aj.out a5.out (by decide)) (fun _ hk=>hk.2) (.slice bq a9.length bp)) (fun _ hk=>hk.2) (.slice bd ae.length bc)) (fun _ h_=>h_.1))) (Kd.Zh a7) hb);have ξ :=Aside0.mk (Kd.Q2 (Kd.Zl (Kd.Zl φ (Kd.Zy (by(with_reducible repeat first|apply Kd.Qk|apply Kd.Qj|apply Kd.Qn);exact(Kd.Qq (Kd.Qs (p:=⟨μ,1,none⟩) (Kd.Qs (p:=⟨μ,0,none⟩) (Kd.Qw a3.out a5.out (by decide)) (fun _ hk=>hk.2) (.slice bq a9.length bp)) (fun _ hk=>hk.2) (.slice bd ae.length bc)) (fun _ h_=>h_.1))))) (Kd.Zy (by(with_reducible repeat first|apply Kd.Qk|apply Kd.Qj|apply Kd.Qn);exact(Kd.Qq (Kd.Qs (p:=⟨μ,1,none⟩) (Kd.Qs (p:=⟨μ,0,none⟩) (Kd.Qw ai.out a5.out (by decide)) (fun _ hk=>hk.2) (.slice bq a9.length bp)) (fun _ hk=>hk.2) (.slice bd ae.length bc)) (fun _ h_=>h_.1))))) (Qi (by repeat(first|(with_reducible first|exact HB.out|apply Qh|apply Qb|apply Qf|refine Qc ?_ a2.out|refine Qc ?_ a6.out|refine Qc ?_ a8.out|refine Qc ?_ au.out)|exact HB.out))));have χ :=Aside0.mk (Kd.Q2 (Kd.Zl (Kd.Zl a7 (Kd.Zy (by(with_reducible repeat first|apply Kd.Qk|apply Kd.Qj|apply Kd.Qn);exact(Kd.Qq (Kd.Qs (p:=⟨μ,1,none⟩) (Kd.Qs (p:=⟨μ,0,none⟩) (Kd.Qw a4.out a5.out (by decide)) (fun _ hk=>hk.2) (.slice bq a9.length bp)) (fun _ hk=>hk.2) (.slice bd ae.length bc)) (fun _ h_=>h_.1))))) (Kd.Zy (by(with_reducible repeat first|apply Kd.Qk|apply Kd.Qj|apply Kd.Qn);exact(Kd.Qq (Kd.Qs (p:=⟨μ,1,none⟩) (Kd.Qs (p:=⟨μ,0,none⟩) (Kd.Qw aj.out a5.out (by decide)) (fun _ hk=>hk.2) (.slice bq a9.length bp)) (fun _ hk=>hk.2) (.slice bd ae.length bc)) (fun _ h_=>h_.1))))) (Qi (by repeat(first|(with_reducible first|exact HB.out|apply Qh|apply Qb|apply Qf|refine Qc ?_ a2.out|refine Qc ?_ a6.out|refine Qc ?_ a8.out|refine Qc ?_ au.out)|exact HB.out))));have a1:=Aside0.mk (Qm (g:= ν) (o:=.cells #[.int .i64 I,.int .i64 J] 23 (0,0)) (by(with_reducible repeat first|apply Qd|apply Qa|apply Qe);refine Zm ?_ an.out _;(with_reducible repeat first|apply Qd|apply Qa|apply Qe);refine Zm ?_ an.out _;(with_reducible repeat first|apply Qd|apply Qa|apply Qe);exact O.out) hb);have ak:=Aside0.mk (Qm (g:=ρ) (o:=.cells #[.slice η B.length δ,.slice θ D.length ε] 27 (0,0)) (by(with_reducible repeat first|apply Qd|apply Qa|apply Qe);refine Zm ?_ ao.out _;(with_reducible repeat first|apply Qd|apply Qa|apply Qe);refine Zm ?_ ao.out _;(with_reducible repeat first|apply Qd|apply Qa|apply Qe);exact Y.out) hb);have am:=Aside0.mk (Qm (g:= τ) (o:=.cells #[.int .i64 X,.int .i64 L,.int .i64 ζ] 29 (0,0)) (by(with_reducible repeat first|apply Qd|apply Qa|apply Qe);refine Zm ?_ al.out _;(with_reducible repeat first|apply Qd|apply Qa|apply Qe);refine Zm ?_ al.out _;(with_reducible repeat first|apply Qd|apply Qa|apply Qe);exact Z.out) hb);have ax:=Aside0.mk (Qm (g:= μ) (o:=.cells #[.slice bq a9.length bp,.slice bd ae.length bc] 27 (0,0)) (by(with_reducible repeat first|apply Qd|apply Qa|apply Qe);refine Qv (cs:=#[.slice bq a9.length bp,.slice none 0 0]) ?_ 1 _ rfl;(with_reducible repeat first|apply Qd|apply Qa|apply Qe);refine Qv (cs:=#[.slice none 0 0,.slice none 0 0]) ?_ 0 _ rfl;(with_reducible repeat first|apply Qd|apply Qa|apply Qe);exact a5.out) hb);have ap:=Aside0.mk (Qt (by repeat(first|(with_reducible first|exact HB.out|apply Qh|apply Qb|apply Qf|refine Qc ?_ a2.out|refine Qc ?_ a6.out|refine Qc ?_ a8.out|refine Qc ?_ au.out)|exact HB.out)) hb);clear a3;clear a4;clear ai;clear aj;clear O;clear Y;clear Z;clear a5;clear HB;have a3:=U;have a4:=γ;have ai:= ι;have aj:= κ;have ba:= ξ;have bb:= χ;have O:=a1;have Y:=ak;have Z:=am;have a5:=ax;have HB:=ap;clear U γ ι κ ξ χ a1 ak am ax ap;(try clear hb);(try clear a0);(try clear hk);(try clear hi);(try clear φ);(try clear a7))|((with_reducible refine Qr (N:=9) rfl ?_);refine Q5 ?hg (N:=9) ?hd (cs:=#[.slice none 0 0,.slice none 0 0]) (t:=27) ?hr ?_;(case hd=>rfl);(case hg=>rfl);(case hr=>first|(go_simp;done)|(go_simp;rfl));intro ay hg kz hbox hb;have U:=Aside0.mk (Kd.Qu (by(with_reducible repeat first|apply Kd.Qk|apply Kd.Qj|apply Kd.Qn);exact a3.out) hb);have γ:=Aside0.mk (Kd.Qu (by(with_reducible repeat first|apply Kd.Qk|apply Kd.Qj|apply Kd.Qn);exact a4.out) hb);have ι :=Aside0.mk (Kd.Qu (by(with_reducible repeat first|apply Kd.Qk|apply Kd.Qj|apply Kd.Qn);exact ai.out) hb);have κ :=Aside0.mk (Kd.Qu (by(with_reducible repeat first|apply Kd.Qk|apply Kd.Qj|apply Kd.Qn);exact aj.out) hb);have ξ :=Aside0.mk (Kd.Qu (by(with_reducible repeat first|apply Kd.Qk|apply Kd.Qj|apply Kd.Qn);exact ba.out) hb);have χ :=Aside0.mk (Kd.Qu (by(with_reducible repeat first|apply Kd.Qk|apply Kd.Qj|apply Kd.Qn);exact bb.out) hb);have a1:=Aside0.mk (Qm (g:= ν) (o:=.cells #[.int .i64 I,.int .i64 J] 23 (0,0)) (by(with_reducible repeat first|apply Qd|apply Qa|apply Qe);exact O.out) hb);have ak:=Aside0.mk (Qm (g:=ρ) (o:=.cells #[.slice η B.length δ,.slice θ D.length ε] 27 (0,0)) (by(with_reducible repeat first|apply Qd|apply Qa|apply Qe);exact Y.out) hb);have am:=Aside0.mk (Qm (g:= τ) (o:=.cells #[.int .i64 X,.int .i64 L,.int .i64 ζ] 29 (0,0)) (by(with_reducible repeat first|apply Qd|apply Qa|apply Qe);exact Z.out) hb);have ax:=Aside0.mk (Qm (g:= μ) (o:=.cells #[.slice bq a9.length bp,.slice bd ae.length bc] 27 (0,0)) (by(with_reducible repeat first|apply Qd|apply Qa|apply Qe);exact a5.out) hb);have ap:=Aside0.mk (Qt (by repeat(first|(with_reducible first|exact HB.out|apply Qh|apply Qb|apply Qf|refine Qc ?_ a2.out|refine Qc ?_ a6.out|refine Qc ?_ a8.out|refine Qc ?_ au.out)|exact HB.out)) hb);have av:=Aside0.mk (hbox);have b0:=Aside0.mk ((by rw[hg];exact(Qi (by repeat(first|(with_reducible first|exact HB.out|apply Qh|apply Qb|apply Qf|refine Qc ?_ a2.out|refine Qc ?_ a6.out|refine Qc ?_ a8.out|refine Qc ?_ au.out)|exact HB.out))):w.heap.size≤ay));have b8:=Aside0.mk ((by rw[hg];exact(Qi (by repeat(first|(with_reducible first|exact HB.out|apply Qh|apply Qb|apply Qf|refine Qc ?_ a2.out|refine Qc ?_ a6.out|refine Qc ?_ a8.out|refine Qc ?_ au.out)|exact HB.out))):w.heap.size≤ay));have b9:=Aside0.mk ((by rw[hg];exact Nat.ne_of_lt (Q3 (g:= ν) (o:=.cells #[.int .i64 I,.int .i64 J] 23 (0,0)) (by(with_reducible repeat first|apply Qd|apply Qa|apply Qe);exact O.out)): ν ≠ ay));have be:=Aside0.mk ((by rw[hg];exact Nat.ne_of_gt (Q3 (g:= ν) (o:=.cells #[.int .i64 I,.int .i64 J] 23 (0,0)) (by(with_reducible repeat first|apply Qd|apply Qa|apply Qe);exact O.out)):ay ≠ ν));have bf:=Aside0.mk ((by rw[hg];exact Nat.ne_of_lt (Q3 (g:=ρ) (o:=.cells #[.slice η B.length δ,.slice θ D.length ε] 27 (0,0)) (by(with_reducible repeat first|apply Qd|apply Qa|apply Qe);exact Y.out)):ρ≠ay));have d5:=Aside0.mk ((by rw[hg];exact Nat.ne_of_gt (Q3 (g:=ρ) (o:=.cells #[.slice η B.length δ,.slice θ D.length ε] 27 (0,0)) (by(with_reducible repeat first|apply Qd|apply Qa|apply Qe);exact Y.out)):ay≠ρ));have d6:=Aside0.mk ((by rw[hg];exact Nat.ne_of_lt (Q3 (g:= τ) (o:=.cells #[.int .i64 X,.int .i64 L,.int .i64 ζ] 29 (0,0)) (by(with_reducible repeat first|apply Qd|apply Qa|apply Qe);exact Z.out)): τ ≠ ay));have kc:=Aside0.mk ((by rw[hg];exact Nat.ne_of_gt (Q3 (g:= τ) (o:=.cells #[.int .i64 X,.int .i64 L,.int .i64 ζ] 29 (0,0)) (by(with_reducible repeat first|apply Qd|apply Qa|apply Qe);exact Z.out)):ay ≠ τ));have kd:=Aside0.mk ((by rw[hg];exact Nat.ne_of_lt (Q3 (g:= μ) (o:=.cells #[.slice bq a9.length bp,.slice bd ae.length bc] 27 (0,0)) (by(with_reducible repeat first|apply Qd|apply Qa|apply Qe);exact a5.out)): μ ≠ ay));have ke:=Aside0.mk ((by rw[hg];exact Nat.ne_of_gt (Q3 (g:= μ) (o:=.cells #[.slice bq a9.length bp,.slice bd ae.length bc] 27 (0,0)) (by(with_reducible repeat first|apply Qd|apply Qa|apply Qe);exact a5.out)):ay ≠ μ));clear a3;clear a4;clear ai;clear aj;clear ba;clear bb;clear O;clear Y;clear Z;clear a5;clear HB;have a3:=U;have a4:=γ;have ai:= ι;have aj:= κ;have ba:= ξ;have bb:= χ;have O:=a1;have Y:=ak;have Z:=am;have a5:=ax;have HB:=ap;have az:=av;have mo:=b0;have dk:=b8;have cu:=b9;have em:=be;have cv:=bf;have en:=d5;have cw:=d6;have eo:=kc;have cx:=kd;have ep:=ke;clear U γ ι κ ξ χ a1 ak am ax ap av b0 b8 b9 be bf d5 d6 kc kd ke;clear hb hbox hg;obtain⟨br,bs,l6⟩:=Kd.Q4 ba.out;subst l6;have i3:=em.out;have i4:=cu.out;have ew:=en.out;have ey:=cv.out;have g5:=eo.out;have g6:=cw.out;have ho:=ep.out;have ia:=cx.out;obtain⟨gk,gs,gt,gu⟩:=qD2 az.out;obtain⟨bi,bh,iq⟩:=Kd.Q4 bb.out;subst iq;obtain⟨gv,gw,gx,gy⟩:=qD2 a5.out;obtain⟨gz,h0,h4,h5⟩:=qD2 Y.out))
   (try simp only[Act.put,qS])
   go_cut [6] (fun v6 wc=>∃ (kq:Nat) (it:Bool),v6 = .bool it∧Aside0 (newellaw19_CallOnce.j0 kq it=some r)∧Aside0 (kq≤k)∧Aside0 (Kd.R k56 56 wc w.heap.size (fun k_=>some k_≠((.slice br bg.length bs):Value).ownBlock) (.slice bq a9.length bp) a9)∧Aside0 (Kd.R k62 62 wc w.heap.size (fun k_=>some k_≠((.slice bi bk.length bh):Value).ownBlock) (.slice bd ae.length bc) ae)∧Aside0 (Kd.R k56 56 wc w.heap.size (fun k_=>some k_≠((.slice bq a9.length bp):Value).ownBlock) (.slice br bg.length bs) bg)∧Aside0 (Kd.R k62 62 wc w.heap.size (fun k_=>some k_≠((.slice bd ae.length bc):Value).ownBlock) (.slice bi bk.length bh) bk)∧Aside0 (wc.heap[ν]?=some (.cells #[.int .i64 I,.int .i64 J] 23 (0,0)))∧Aside0 (wc.heap[ρ]?=some (.cells #[(.slice η B.length δ),(.slice θ D.length ε)] 27 (0,0)))∧Aside0 (wc.heap[τ]?=some (.cells #[.int .i64 X,.int .i64 L,.int .i64 ζ] 29 (0,0)))∧Aside0 (wc.heap[μ]?=some (.cells #[(.slice bq a9.length bp),(.slice bd ae.length bc)] 27 (0,0)))∧Aside0 (wc.heap[ay]?=some (.cells #[(.slice br bg.length bs),(.slice bi bk.length bh)] 27 (0,0)))∧Aside0 (Below w.heap.size w wc))
   case first=>
    have H:=ir.out
    clear ir
    replace H:=Option.bind_eq_some_iff.mp H
    obtain⟨cz,kf,H⟩:=H
    replace H:(if cz=true then (if fb=0 then ((call_Same.f k a9 ae bg bk).bind fun bz=>(if bz=true then ((call_Check.f k I J a9 ae).bind fun bl=>(if bl=0 then (if (wrap64 ((wrap64 ((wrap64 ((a9.length:Int)+(ae.length:Int))) - (B.length:Int))) - (D.length:Int)))=1 then (newellaw19_CallOnce.j0 k true) else (if (wrap64 ((wrap64 ((wrap64 ((a9.length:Int)+(ae.length:Int))) - (B.length:Int))) - (D.length:Int)))=0 then ((call_Same.f k a9 ae B D).bind fun bm=>(newellaw19_CallOnce.j0 k bm)) else (none))) else (none))) else (none))) else (none)) else (none))=some r:=H
    have l4:=Aside0.mk kf
    clear kf
    by_cases fa:cz=true
    ·subst fa
     have H1:(if fb=0 then ((call_Same.f k a9 ae bg bk).bind fun bz=>(if bz=true then ((call_Check.f k I J a9 ae).bind fun bl=>(if bl=0 then (if (wrap64 ((wrap64 ((wrap64 ((a9.length:Int)+(ae.length:Int))) - (B.length:Int))) - (D.length:Int)))=1 then (newellaw19_CallOnce.j0 k true) else (if (wrap64 ((wrap64 ((wrap64 ((a9.length:Int)+(ae.length:Int))) - (B.length:Int))) - (D.length:Int)))=0 then ((call_Same.f k a9 ae B D).bind fun bm=>(newellaw19_CallOnce.j0 k bm)) else (none))) else (none))) else (none))) else (none))=some r:=by rw[if_pos rfl] at H;exact H
     clear H
     have H:=H1
     clear H1
     by_cases ee:fb=0
     ·rw[if_pos ee] at H
      have c49b0:(fb==0)=true:=beq_iff_eq.mpr ee
      have c49b1:(fb != 0)=false:=bne_eq_false_iff_eq.mpr ee
      clear ee
      (first|rw[c49b0]|(simp only[X5,Ys];rw[c49b0])|skip)
      replace H:=Option.bind_eq_some_iff.mp H
      obtain⟨bz,g7,H⟩:=H
      replace H:(if bz=true then ((call_Check.f k I J a9 ae).bind fun bl=>(if bl=0 then (if (wrap64 ((wrap64 ((wrap64 ((a9.length:Int)+(ae.length:Int))) - (B.length:Int))) - (D.length:Int)))=1 then (newellaw19_CallOnce.j0 k true) else (if (wrap64 ((wrap64 ((wrap64 ((a9.length:Int)+(ae.length:Int))) - (B.length:Int))) - (D.length:Int)))=0 then ((call_Same.f k a9 ae B D).bind fun bm=>(newellaw19_CallOnce.j0 k bm)) else (none))) else (none))) else (none))=some r:=H
      have ca:=Aside0.mk g7
      clear g7
      by_cases eh:bz=true
      ·subst eh
       have H1:((call_Check.f k I J a9 ae).bind fun bl=>(if bl=0 then (if (wrap64 ((wrap64 ((wrap64 ((a9.length:Int)+(ae.length:Int))) - (B.length:Int))) - (D.length:Int)))=1 then (newellaw19_CallOnce.j0 k true) else (if (wrap64 ((wrap64 ((wrap64 ((a9.length:Int)+(ae.length:Int))) - (B.length:Int))) - (D.length:Int)))=0 then ((call_Same.f k a9 ae B D).bind fun bm=>(newellaw19_CallOnce.j0 k bm)) else (none))) else (none)))=some r:=by rw[if_pos rfl] at H;exact H
       clear H
       have H:=H1
       clear H1
       replace H:=Option.bind_eq_some_iff.mp H
       obtain⟨bl,kg,H⟩:=H
       replace H:(if bl=0 then (if (wrap64 ((wrap64 ((wrap64 ((a9.length:Int)+(ae.length:Int))) - (B.length:Int))) - (D.length:Int)))=1 then (newellaw19_CallOnce.j0 k true) else (if (wrap64 ((wrap64 ((wrap64 ((a9.length:Int)+(ae.length:Int))) - (B.length:Int))) - (D.length:Int)))=0 then ((call_Same.f k a9 ae B D).bind fun bm=>(newellaw19_CallOnce.j0 k bm)) else (none))) else (none))=some r:=H
       have l5:=Aside0.mk kg
       clear kg
       by_cases eb:bl=0
       ·rw[if_pos eb] at H
        have c53b0:(bl==0)=true:=beq_iff_eq.mpr eb
        have c53b1:(bl != 0)=false:=bne_eq_false_iff_eq.mpr eb
        clear eb
        by_cases ec:(wrap64 ((wrap64 ((wrap64 ((a9.length:Int)+(ae.length:Int))) - (B.length:Int))) - (D.length:Int)))=1
        ·rw[if_pos ec] at H
         have c54b0:((wrap64 ((wrap64 ((wrap64 ((a9.length:Int)+(ae.length:Int))) - (B.length:Int))) - (D.length:Int)))==1)=true:=beq_iff_eq.mpr ec
         have c54b1:((wrap64 ((wrap64 ((wrap64 ((a9.length:Int)+(ae.length:Int))) - (B.length:Int))) - (D.length:Int))) != 1)=false:=bne_eq_false_iff_eq.mpr ec
         clear ec
         have H':=Aside0.mk H
         clear H
         go_wp2_with (first|((with_reducible refine Q0 (f:=10) rfl ?_);refine Zk (some 49) rfl rfl Try.func10 kr rfl #[] rfl (by(try simp only[List.map_toArray,List.map_cons,List.map_nil]);first|done|rfl|(simp only[List.length_drop,List.length_take];rfl)) ?_;(with_reducible refine(newellaw19_awake.calls k  true _ l4.out).mono ?_);rintro e ij ⟨rfl,hb⟩;refine⟨_,rfl, ?_⟩;have U:=Aside0.mk (Kd.Qu (by(with_reducible repeat first|apply Kd.Qk|apply Kd.Qj|apply Kd.Qn);exact(Kd.Qq (Kd.Qs (p:=⟨ay,1,none⟩) (Kd.Qs (p:=⟨ay,0,none⟩) (Kd.Qw a3.out az.out (by decide)) (fun _ hk=>hk.2) (.slice br bg.length bs)) (fun _ hk=>hk.2) (.slice bi bk.length bh)) (fun _ h_=>h_.1))) hb);have γ:=Aside0.mk (Kd.Qu (by(with_reducible repeat first|apply Kd.Qk|apply Kd.Qj|apply Kd.Qn);exact(Kd.Qq (Kd.Qs (p:=⟨ay,1,none⟩) (Kd.Qs (p:=⟨ay,0,none⟩) (Kd.Qw a4.out az.out (by decide)) (fun _ hk=>hk.2) (.slice br bg.length bs)) (fun _ hk=>hk.2) (.slice bi bk.length bh)) (fun _ h_=>h_.1))) hb);have ι :=Aside0.mk (Kd.Qu (by(with_reducible repeat first|apply Kd.Qk|apply Kd.Qj|apply Kd.Qn);exact(Kd.Qq (Kd.Qs (p:=⟨ay,1,none⟩) (Kd.Qs (p:=⟨ay,0,none⟩) (Kd.Qw ai.out az.out (by decide)) (fun _ hk=>hk.2) (.slice br bg.length bs)) (fun _ hk=>hk.2) (.slice bi bk.length bh)) (fun _ h_=>h_.1))) hb);have κ :=Aside0.mk (Kd.Qu (by(with_reducible repeat first|apply Kd.Qk|apply Kd.Qj|apply Kd.Qn);exact(Kd.Qq (Kd.Qs (p:=⟨ay,1,none⟩) (Kd.Qs (p:=⟨ay,0,none⟩) (Kd.Qw aj.out az.out (by decide)) (fun _ hk=>hk.2) (.slice br bg.length bs)) (fun _ hk=>hk.2) (.slice bi bk.length bh)) (fun _ h_=>h_.1))) hb);have ξ :=Aside0.mk (Kd.Qu (by(with_reducible repeat first|apply Kd.Qk|apply Kd.Qj|apply Kd.Qn);exact(Kd.Qq (Kd.Qs (p:=⟨ay,1,none⟩) (Kd.Qs (p:=⟨ay,0,none⟩) (Kd.Qw ba.out az.out (by decide)) (fun _ hk=>hk.2) (.slice br bg.length bs)) (fun _ hk=>hk.2) (.slice bi bk.length bh)) (fun _ h_=>h_.1))) hb);have χ :=Aside0.mk (Kd.Qu (by(with_reducible repeat first|apply Kd.Qk|apply Kd.Qj|apply Kd.Qn);exact(Kd.Qq (Kd.Qs (p:=⟨ay,1,none⟩) (Kd.Qs (p:=⟨ay,0,none⟩) (Kd.Qw bb.out az.out (by decide)) (fun _ hk=>hk.2) (.slice br bg.length bs)) (fun _ hk=>hk.2) (.slice bi bk.length bh)) (fun _ h_=>h_.1))) hb);have a1:=Aside0.mk (Qm (g:= ν) (o:=.cells #[.int .i64 I,.int .i64 J] 23 (0,0)) (by(with_reducible repeat first|apply Qd|apply Qa|apply Qe);refine Zm ?_ cu.out _;(with_reducible repeat first|apply Qd|apply Qa|apply Qe);refine Zm ?_ cu.out _;(with_reducible repeat first|apply Qd|apply Qa|apply Qe);exact O.out) hb);have ak:=Aside0.mk (Qm (g:=ρ) (o:=.cells #[.slice η B.length δ,.slice θ D.length ε] 27 (0,0)) (by(with_reducible repeat first|apply Qd|apply Qa|apply Qe);refine Zm ?_ cv.out _;(with_reducible repeat first|apply Qd|apply Qa|apply Qe);refine Zm ?_ cv.out _;(with_reducible repeat first|apply Qd|apply Qa|apply Qe);exact Y.out) hb);have am:=Aside0.mk (Qm (g:= τ) (o:=.cells #[.int .i64 X,.int .i64 L,.int .i64 ζ] 29 (0,0)) (by(with_reducible repeat first|apply Qd|apply Qa|apply Qe);refine Zm ?_ cw.out _;(with_reducible repeat first|apply Qd|apply Qa|apply Qe);refine Zm ?_ cw.out _;(with_reducible repeat first|apply Qd|apply Qa|apply Qe);exact Z.out) hb);have ax:=Aside0.mk (Qm (g:= μ) (o:=.cells #[.slice bq a9.length bp,.slice bd ae.length bc] 27 (0,0)) (by(with_reducible repeat first|apply Qd|apply Qa|apply Qe);refine Zm ?_ cx.out _;(with_reducible repeat first|apply Qd|apply Qa|apply Qe);refine Zm ?_ cx.out _;(with_reducible repeat first|apply Qd|apply Qa|apply Qe);exact a5.out) hb);have ap:=Aside0.mk (Qm (g:=ay) (o:=.cells #[.slice br bg.length bs,.slice bi bk.length bh] 27 (0,0)) (by(with_reducible repeat first|apply Qd|apply Qa|apply Qe);refine Qv (cs:=#[.slice br bg.length bs,.slice none 0 0]) ?_ 1 _ rfl;(with_reducible repeat first|apply Qd|apply Qa|apply Qe);refine Qv (cs:=#[.slice none 0 0,.slice none 0 0]) ?_ 0 _ rfl;(with_reducible repeat first|apply Qd|apply Qa|apply Qe);exact az.out) hb);have av:=Aside0.mk (Qt (by repeat(first|(with_reducible first|exact HB.out|apply Qh|apply Qb|apply Qf|refine Qc ?_ a2.out|refine Qc ?_ a6.out|refine Qc ?_ a8.out|refine Qc ?_ au.out|refine Qc ?_ dk.out)|exact HB.out)) hb);clear a3;clear a4;clear ai;clear aj;clear ba;clear bb;clear O;clear Y;clear Z;clear a5;clear az;clear HB;have a3:=U;have a4:=γ;have ai:= ι;have aj:= κ;have ba:= ξ;have bb:= χ;have O:=a1;have Y:=ak;have Z:=am;have a5:=ax;have az:=ap;have HB:=av;clear U γ ι κ ξ χ a1 ak am ax ap av;(try clear hb);(try clear a0);(try clear hk);(try clear hi);have mq:=b1.out;have mr:=an.out;have kk:=b2.out;have kl:=ao.out;have hy:=b3.out;have i0:=al.out;have iz:=cx.out;have j2:=ep.out;obtain⟨ge,gf,gg,gh⟩:=qD2 a5.out;have ib:=em.out;have ic:=cu.out;have i5:=en.out;have i6:=cv.out;have ff:=eo.out;have fg:=cw.out;obtain⟨gi,gj,gl,gm⟩:=qD2 az.out)|(go_at_call 27;(with_reducible refine(call_Same.calls k _ _ a9 _ _ ae _ _ bg _ _ bk true _ ?side1 ?side2 ?side3 ?side4 ?side5 ?side6 ?side7 ?side8 ca.out).mono ?_);(case side1=>repeat(first|exact(Kd.Qo ai.out).2.2|(with_reducible refine Kd.Za ?_ _)|(with_reducible refine Kd.Q9 ?_ _)|(with_reducible refine Kd.Zf ?_)));(case side2=>exact(Kd.Qo ai.out).2.1);(case side3=>repeat(first|exact(Kd.Qo aj.out).2.2|(with_reducible refine Kd.Za ?_ _)|(with_reducible refine Kd.Q9 ?_ _)|(with_reducible refine Kd.Zf ?_)));(case side4=>exact(Kd.Qo aj.out).2.1);(case side5=>repeat(first|exact(Kd.Qo ba.out).2.2|(with_reducible refine Kd.Za ?_ _)|(with_reducible refine Kd.Q9 ?_ _)|(with_reducible refine Kd.Zf ?_)));(case side6=>exact(Kd.Qo ba.out).2.1);(case side7=>repeat(first|exact(Kd.Qo bb.out).2.2|(with_reducible refine Kd.Za ?_ _)|(with_reducible refine Kd.Q9 ?_ _)|(with_reducible refine Kd.Zf ?_)));(case side8=>exact(Kd.Qo bb.out).2.1);rintro e nc ⟨rfl,hb⟩;have U:=Aside0.mk (Kd.Qu (by(with_reducible repeat first|apply Kd.Qk|apply Kd.Qj|apply Kd.Qn);exact a3.out) hb);have γ:=Aside0.mk (Kd.Qu (by(with_reducible repeat first|apply Kd.Qk|apply Kd.Qj|apply Kd.Qn);exact a4.out) hb);have ι :=Aside0.mk (Kd.Qu (by(with_reducible repeat first|apply Kd.Qk|apply Kd.Qj|apply Kd.Qn);exact ai.out) hb);have κ :=Aside0.mk (Kd.Qu (by(with_reducible repeat first|apply Kd.Qk|apply Kd.Qj|apply Kd.Qn);exact aj.out) hb);have ξ :=Aside0.mk (Kd.Qu (by(with_reducible repeat first|apply Kd.Qk|apply Kd.Qj|apply Kd.Qn);exact ba.out) hb);have χ :=Aside0.mk (Kd.Qu (by(with_reducible repeat first|apply Kd.Qk|apply Kd.Qj|apply Kd.Qn);exact bb.out) hb);have a1:=Aside0.mk (Qm (g:= ν) (o:=.cells #[.int .i64 I,.int .i64 J] 23 (0,0)) (by(with_reducible repeat first|apply Qd|apply Qa|apply Qe);exact O.out) hb);have ak:=Aside0.mk (Qm (g:=ρ) (o:=.cells #[.slice η B.length δ,.slice θ D.length ε] 27 (0,0)) (by(with_reducible repeat first|apply Qd|apply Qa|apply Qe);exact Y.out) hb);have am:=Aside0.mk (Qm (g:= τ) (o:=.cells #[.int .i64 X,.int .i64 L,.int .i64 ζ] 29 (0,0)) (by(with_reducible repeat first|apply Qd|apply Qa|apply Qe);exact Z.out) hb);have ax:=Aside0.mk (Qm (g:= μ) (o:=.cells #[.slice bq a9.length bp,.slice bd ae.length bc] 27 (0,0)) (by(with_reducible repeat first|apply Qd|apply Qa|apply Qe);exact a5.out) hb);have ap:=Aside0.mk (Qm (g:=ay) (o:=.cells #[.slice br bg.length bs,.slice bi bk.length bh] 27 (0,0)) (by(with_reducible repeat first|apply Qd|apply Qa|apply Qe);exact az.out) hb);have av:=Aside0.mk (Qt (by repeat(first|(with_reducible first|exact HB.out|apply Qh|apply Qb|apply Qf|refine Qc ?_ a2.out|refine Qc ?_ a6.out|refine Qc ?_ a8.out|refine Qc ?_ au.out|refine Qc ?_ dk.out)|exact HB.out)) hb);clear a3;clear a4;clear ai;clear aj;clear ba;clear bb;clear O;clear Y;clear Z;clear a5;clear az;clear HB;have a3:=U;have a4:=γ;have ai:= ι;have aj:= κ;have ba:= ξ;have bb:= χ;have O:=a1;have Y:=ak;have Z:=am;have a5:=ax;have az:=ap;have HB:=av;clear U γ ι κ ξ χ a1 ak am ax ap av;(try clear hb);(try clear a0);(try clear hk);(try clear hi);have km:=cp.out;have kn:=cq.out;have j3:=dl.out;have j4:=dm.out;obtain⟨fr,ft,fu,fv⟩:=qD2 O.out;obtain⟨fn,fo,fp,fq⟩:=qD2 a5.out)|(go_at_call 14;(with_reducible refine(call_Check.calls k I J _ _ a9 _ _ ae bl _ ?side1 ?side2 ?side3 ?side4 l5.out).mono ?_);(case side1=>repeat(first|exact(Kd.Qo ai.out).2.2|(with_reducible refine Kd.Za ?_ _)|(with_reducible refine Kd.Q9 ?_ _)|(with_reducible refine Kd.Zf ?_)));(case side2=>exact(Kd.Qo ai.out).2.1);(case side3=>repeat(first|exact(Kd.Qo aj.out).2.2|(with_reducible refine Kd.Za ?_ _)|(with_reducible refine Kd.Q9 ?_ _)|(with_reducible refine Kd.Zf ?_)));(case side4=>exact(Kd.Qo aj.out).2.1);rintro e m8 ⟨rfl,hb⟩;have U:=Aside0.mk (Kd.Qu (by(with_reducible repeat first|apply Kd.Qk|apply Kd.Qj|apply Kd.Qn);exact a3.out) hb);have γ:=Aside0.mk (Kd.Qu (by(with_reducible repeat first|apply Kd.Qk|apply Kd.Qj|apply Kd.Qn);exact a4.out) hb);have ι :=Aside0.mk (Kd.Qu (by(with_reducible repeat first|apply Kd.Qk|apply Kd.Qj|apply Kd.Qn);exact ai.out) hb);have κ :=Aside0.mk (Kd.Qu (by(with_reducible repeat first|apply Kd.Qk|apply Kd.Qj|apply Kd.Qn);exact aj.out) hb);have ξ :=Aside0.mk (Kd.Qu (by(with_reducible repeat first|apply Kd.Qk|apply Kd.Qj|apply Kd.Qn);exact ba.out) hb);have χ :=Aside0.mk (Kd.Qu (by(with_reducible repeat first|apply Kd.Qk|apply Kd.Qj|apply Kd.Qn);exact bb.out) hb);have a1:=Aside0.mk (Qm (g:= ν) (o:=.cells #[.int .i64 I,.int .i64 J] 23 (0,0)) (by(with_reducible repeat first|apply Qd|apply Qa|apply Qe);exact O.out) hb);have ak:=Aside0.mk (Qm (g:=ρ) (o:=.cells #[.slice η B.length δ,.slice θ D.length ε] 27 (0,0)) (by(with_reducible repeat first|apply Qd|apply Qa|apply Qe);exact Y.out) hb);have am:=Aside0.mk (Qm (g:= τ) (o:=.cells #[.int .i64 X,.int .i64 L,.int .i64 ζ] 29 (0,0)) (by(with_reducible repeat first|apply Qd|apply Qa|apply Qe);exact Z.out) hb);have ax:=Aside0.mk (Qm (g:= μ) (o:=.cells #[.slice bq a9.length bp,.slice bd ae.length bc] 27 (0,0)) (by(with_reducible repeat first|apply Qd|apply Qa|apply Qe);exact a5.out) hb);have ap:=Aside0.mk (Qm (g:=ay) (o:=.cells #[.slice br bg.length bs,.slice bi bk.length bh] 27 (0,0)) (by(with_reducible repeat first|apply Qd|apply Qa|apply Qe);exact az.out) hb);have av:=Aside0.mk (Qt (by repeat(first|(with_reducible first|exact HB.out|apply Qh|apply Qb|apply Qf|refine Qc ?_ a2.out|refine Qc ?_ a6.out|refine Qc ?_ a8.out|refine Qc ?_ au.out|refine Qc ?_ dk.out)|exact HB.out)) hb);clear a3;clear a4;clear ai;clear aj;clear ba;clear bb;clear O;clear Y;clear Z;clear a5;clear az;clear HB;have a3:=U;have a4:=γ;have ai:= ι;have aj:= κ;have ba:= ξ;have bb:= χ;have O:=a1;have Y:=ak;have Z:=am;have a5:=ax;have az:=ap;have HB:=av;clear U γ ι κ ξ χ a1 ak am ax ap av;(try clear hb);(try clear a0);(try clear hk);(try clear hi)))
         go_meet
         case rel=>exact⟨_,(true),qR,H',⟨by first|omega|exact Nat.le_refl _⟩,⟨by(with_reducible repeat first|apply Kd.Qk|apply Kd.Qj|apply Kd.Qn);exact Kd.Qq ai.out (fun _ hk=>hk.2)⟩,⟨by(with_reducible repeat first|apply Kd.Qk|apply Kd.Qj|apply Kd.Qn);exact Kd.Qq aj.out (fun _ hk=>hk.2)⟩,⟨by(with_reducible repeat first|apply Kd.Qk|apply Kd.Qj|apply Kd.Qn);exact Kd.Qq ba.out (fun _ hk=>hk.2)⟩,⟨by(with_reducible repeat first|apply Kd.Qk|apply Kd.Qj|apply Kd.Qn);exact Kd.Qq bb.out (fun _ hk=>hk.2)⟩,⟨by(with_reducible repeat first|apply Qd|apply Qa|apply Qe);exact O.out⟩,⟨by(with_reducible repeat first|apply Qd|apply Qa|apply Qe);exact Y.out⟩,⟨by(with_reducible repeat first|apply Qd|apply Qa|apply Qe);exact Z.out⟩,⟨by(with_reducible repeat first|apply Qd|apply Qa|apply Qe);exact a5.out⟩,⟨by(with_reducible repeat first|apply Qd|apply Qa|apply Qe);exact az.out⟩,⟨by repeat(first|(with_reducible first|exact HB.out|apply Qh|apply Qb|apply Qf|refine Qc ?_ a2.out|refine Qc ?_ a6.out|refine Qc ?_ a8.out|refine Qc ?_ au.out|refine Qc ?_ dk.out)|exact HB.out)⟩⟩
        ·rw[if_neg ec] at H
         have c54b0:((wrap64 ((wrap64 ((wrap64 ((a9.length:Int)+(ae.length:Int))) - (B.length:Int))) - (D.length:Int)))==1)=false:=beq_eq_false_iff_ne.mpr ec
         have c54b1:((wrap64 ((wrap64 ((wrap64 ((a9.length:Int)+(ae.length:Int))) - (B.length:Int))) - (D.length:Int))) != 1)=true:=bne_iff_ne.mpr ec
         by_cases h6:(wrap64 ((wrap64 ((wrap64 ((a9.length:Int)+(ae.length:Int))) - (B.length:Int))) - (D.length:Int)))=0
         ·rw[if_pos h6] at H
          have c71b0:((wrap64 ((wrap64 ((wrap64 ((a9.length:Int)+(ae.length:Int))) - (B.length:Int))) - (D.length:Int)))==0)=true:=beq_iff_eq.mpr h6
          have c71b1:((wrap64 ((wrap64 ((wrap64 ((a9.length:Int)+(ae.length:Int))) - (B.length:Int))) - (D.length:Int))) != 0)=false:=bne_eq_false_iff_eq.mpr h6
          clear h6
          replace H:=Option.bind_eq_some_iff.mp H
          obtain⟨bm,kh,H⟩:=H
          replace H:(newellaw19_CallOnce.j0 k bm)=some r:=H
          have me:=Aside0.mk kh
          clear kh
          have H':=Aside0.mk H
          clear H
          go_wp2_with (first|((with_reducible refine Q0 (f:=10) rfl ?_);refine Zk (some 49) rfl rfl Try.func10 kr rfl #[] rfl (by(try simp only[List.map_toArray,List.map_cons,List.map_nil]);first|done|rfl|(simp only[List.length_drop,List.length_take];rfl)) ?_;(with_reducible refine(newellaw19_awake.calls k  true _ l4.out).mono ?_);rintro e d1 ⟨rfl,hb⟩;refine⟨_,rfl, ?_⟩;have U:=Aside0.mk (Kd.Qu (by(with_reducible repeat first|apply Kd.Qk|apply Kd.Qj|apply Kd.Qn);exact(Kd.Qq (Kd.Qs (p:=⟨ay,1,none⟩) (Kd.Qs (p:=⟨ay,0,none⟩) (Kd.Qw a3.out az.out (by decide)) (fun _ hk=>hk.2) (.slice br bg.length bs)) (fun _ hk=>hk.2) (.slice bi bk.length bh)) (fun _ h_=>h_.1))) hb);have γ:=Aside0.mk (Kd.Qu (by(with_reducible repeat first|apply Kd.Qk|apply Kd.Qj|apply Kd.Qn);exact(Kd.Qq (Kd.Qs (p:=⟨ay,1,none⟩) (Kd.Qs (p:=⟨ay,0,none⟩) (Kd.Qw a4.out az.out (by decide)) (fun _ hk=>hk.2) (.slice br bg.length bs)) (fun _ hk=>hk.2) (.slice bi bk.length bh)) (fun _ h_=>h_.1))) hb);have ι :=Aside0.mk (Kd.Qu (by(with_reducible repeat first|apply Kd.Qk|apply Kd.Qj|apply Kd.Qn);exact(Kd.Qq (Kd.Qs (p:=⟨ay,1,none⟩) (Kd.Qs (p:=⟨ay,0,none⟩) (Kd.Qw ai.out az.out (by decide)) (fun _ hk=>hk.2) (.slice br bg.length bs)) (fun _ hk=>hk.2) (.slice bi bk.length bh)) (fun _ h_=>h_.1))) hb);have κ :=Aside0.mk (Kd.Qu (by(with_reducible repeat first|apply Kd.Qk|apply Kd.Qj|apply Kd.Qn);exact(Kd.Qq (Kd.Qs (p:=⟨ay,1,none⟩) (Kd.Qs (p:=⟨ay,0,none⟩) (Kd.Qw aj.out az.out (by decide)) (fun _ hk=>hk.2) (.slice br bg.length bs)) (fun _ hk=>hk.2) (.slice bi bk.length bh)) (fun _ h_=>h_.1))) hb);have ξ :=Aside0.mk (Kd.Qu (by(with_reducible repeat first|apply Kd.Qk|apply Kd.Qj|apply Kd.Qn);exact(Kd.Qq (Kd.Qs (p:=⟨ay,1,none⟩) (Kd.Qs (p:=⟨ay,0,none⟩) (Kd.Qw ba.out az.out (by decide)) (fun _ hk=>hk.2) (.slice br bg.length bs)) (fun _ hk=>hk.2) (.slice bi bk.length bh)) (fun _ h_=>h_.1))) hb);have χ :=Aside0.mk (Kd.Qu (by(with_reducible repeat first|apply Kd.Qk|apply Kd.Qj|apply Kd.Qn);exact(Kd.Qq (Kd.Qs (p:=⟨ay,1,none⟩) (Kd.Qs (p:=⟨ay,0,none⟩) (Kd.Qw bb.out az.out (by decide)) (fun _ hk=>hk.2) (.slice br bg.length bs)) (fun _ hk=>hk.2) (.slice bi bk.length bh)) (fun _ h_=>h_.1))) hb);have a1:=Aside0.mk (Qm (g:= ν) (o:=.cells #[.int .i64 I,.int .i64 J] 23 (0,0)) (by(with_reducible repeat first|apply Qd|apply Qa|apply Qe);refine Zm ?_ cu.out _;(with_reducible repeat first|apply Qd|apply Qa|apply Qe);refine Zm ?_ cu.out _;(with_reducible repeat first|apply Qd|apply Qa|apply Qe);exact O.out) hb);have ak:=Aside0.mk (Qm (g:=ρ) (o:=.cells #[.slice η B.length δ,.slice θ D.length ε] 27 (0,0)) (by(with_reducible repeat first|apply Qd|apply Qa|apply Qe);refine Zm ?_ cv.out _;(with_reducible repeat first|apply Qd|apply Qa|apply Qe);refine Zm ?_ cv.out _;(with_reducible repeat first|apply Qd|apply Qa|apply Qe);exact Y.out) hb);have am:=Aside0.mk (Qm (g:= τ) (o:=.cells #[.int .i64 X,.int .i64 L,.int .i64 ζ] 29 (0,0)) (by(with_reducible repeat first|apply Qd|apply Qa|apply Qe);refine Zm ?_ cw.out _;(with_reducible repeat first|apply Qd|apply Qa|apply Qe);refine Zm ?_ cw.out _;(with_reducible repeat first|apply Qd|apply Qa|apply Qe);exact Z.out) hb);have ax:=Aside0.mk (Qm (g:= μ) (o:=.cells #[.slice bq a9.length bp,.slice bd ae.length bc] 27 (0,0)) (by(with_reducible repeat first|apply Qd|apply Qa|apply Qe);refine Zm ?_ cx.out _;(with_reducible repeat first|apply Qd|apply Qa|apply Qe);refine Zm ?_ cx.out _;(with_reducible repeat first|apply Qd|apply Qa|apply Qe);exact a5.out) hb);have ap:=Aside0.mk (Qm (g:=ay) (o:=.cells #[.slice br bg.length bs,.slice bi bk.length bh] 27 (0,0)) (by(with_reducible repeat first|apply Qd|apply Qa|apply Qe);refine Qv (cs:=#[.slice br bg.length bs,.slice none 0 0]) ?_ 1 _ rfl;(with_reducible repeat first|apply Qd|apply Qa|apply Qe);refine Qv (cs:=#[.slice none 0 0,.slice none 0 0]) ?_ 0 _ rfl;(with_reducible repeat first|apply Qd|apply Qa|apply Qe);exact az.out) hb);have av:=Aside0.mk (Qt (by repeat(first|(with_reducible first|exact HB.out|apply Qh|apply Qb|apply Qf|refine Qc ?_ a2.out|refine Qc ?_ a6.out|refine Qc ?_ a8.out|refine Qc ?_ au.out|refine Qc ?_ dk.out)|exact HB.out)) hb);clear a3;clear a4;clear ai;clear aj;clear ba;clear bb;clear O;clear Y;clear Z;clear a5;clear az;clear HB;have a3:=U;have a4:=γ;have ai:= ι;have aj:= κ;have ba:= ξ;have bb:= χ;have O:=a1;have Y:=ak;have Z:=am;have a5:=ax;have az:=ap;have HB:=av;clear U γ ι κ ξ χ a1 ak am ax ap av;(try clear hb);(try clear a0);(try clear hk);(try clear hi);have ko:=b1.out;have kp:=an.out;have j5:=b2.out;have j6:=ao.out;have i1:=b3.out;have i2:=al.out;have j7:=cx.out;have j8:=ep.out;obtain⟨ez,f3,f4,f7⟩:=qD2 a5.out;have i7:=em.out;have i9:=cu.out;have j9:=en.out;have ja:=cv.out;have jb:=eo.out;have jc:=cw.out;obtain⟨fw,fx,fy,fz⟩:=qD2 az.out)|(go_at_call 27;(with_reducible refine(call_Same.calls k _ _ a9 _ _ ae _ _ bg _ _ bk true _ ?side1 ?side2 ?side3 ?side4 ?side5 ?side6 ?side7 ?side8 ca.out).mono ?_);(case side1=>repeat(first|exact(Kd.Qo ai.out).2.2|(with_reducible refine Kd.Za ?_ _)|(with_reducible refine Kd.Q9 ?_ _)|(with_reducible refine Kd.Zf ?_)));(case side2=>exact(Kd.Qo ai.out).2.1);(case side3=>repeat(first|exact(Kd.Qo aj.out).2.2|(with_reducible refine Kd.Za ?_ _)|(with_reducible refine Kd.Q9 ?_ _)|(with_reducible refine Kd.Zf ?_)));(case side4=>exact(Kd.Qo aj.out).2.1);(case side5=>repeat(first|exact(Kd.Qo ba.out).2.2|(with_reducible refine Kd.Za ?_ _)|(with_reducible refine Kd.Q9 ?_ _)|(with_reducible refine Kd.Zf ?_)));(case side6=>exact(Kd.Qo ba.out).2.1);(case side7=>repeat(first|exact(Kd.Qo bb.out).2.2|(with_reducible refine Kd.Za ?_ _)|(with_reducible refine Kd.Q9 ?_ _)|(with_reducible refine Kd.Zf ?_)));(case side8=>exact(Kd.Qo bb.out).2.1);rintro e l3 ⟨rfl,hb⟩;have U:=Aside0.mk (Kd.Qu (by(with_reducible repeat first|apply Kd.Qk|apply Kd.Qj|apply Kd.Qn);exact a3.out) hb);have γ:=Aside0.mk (Kd.Qu (by(with_reducible repeat first|apply Kd.Qk|apply Kd.Qj|apply Kd.Qn);exact a4.out) hb);have ι :=Aside0.mk (Kd.Qu (by(with_reducible repeat first|apply Kd.Qk|apply Kd.Qj|apply Kd.Qn);exact ai.out) hb);have κ :=Aside0.mk (Kd.Qu (by(with_reducible repeat first|apply Kd.Qk|apply Kd.Qj|apply Kd.Qn);exact aj.out) hb);have ξ :=Aside0.mk (Kd.Qu (by(with_reducible repeat first|apply Kd.Qk|apply Kd.Qj|apply Kd.Qn);exact ba.out) hb);have χ :=Aside0.mk (Kd.Qu (by(with_reducible repeat first|apply Kd.Qk|apply Kd.Qj|apply Kd.Qn);exact bb.out) hb);have a1:=Aside0.mk (Qm (g:= ν) (o:=.cells #[.int .i64 I,.int .i64 J] 23 (0,0)) (by(with_reducible repeat first|apply Qd|apply Qa|apply Qe);exact O.out) hb);have ak:=Aside0.mk (Qm (g:=ρ) (o:=.cells #[.slice η B.length δ,.slice θ D.length ε] 27 (0,0)) (by(with_reducible repeat first|apply Qd|apply Qa|apply Qe);exact Y.out) hb);have am:=Aside0.mk (Qm (g:= τ) (o:=.cells #[.int .i64 X,.int .i64 L,.int .i64 ζ] 29 (0,0)) (by(with_reducible repeat first|apply Qd|apply Qa|apply Qe);exact Z.out) hb);have ax:=Aside0.mk (Qm (g:= μ) (o:=.cells #[.slice bq a9.length bp,.slice bd ae.length bc] 27 (0,0)) (by(with_reducible repeat first|apply Qd|apply Qa|apply Qe);exact a5.out) hb);have ap:=Aside0.mk (Qm (g:=ay) (o:=.cells #[.slice br bg.length bs,.slice bi bk.length bh] 27 (0,0)) (by(with_reducible repeat first|apply Qd|apply Qa|apply Qe);exact az.out) hb);have av:=Aside0.mk (Qt (by repeat(first|(with_reducible first|exact HB.out|apply Qh|apply Qb|apply Qf|refine Qc ?_ a2.out|refine Qc ?_ a6.out|refine Qc ?_ a8.out|refine Qc ?_ au.out|refine Qc ?_ dk.out)|exact HB.out)) hb);clear a3;clear a4;clear ai;clear aj;clear ba;clear bb;clear O;clear Y;clear Z;clear a5;clear az;clear HB;have a3:=U;have a4:=γ;have ai:= ι;have aj:= κ;have ba:= ξ;have bb:= χ;have O:=a1;have Y:=ak;have Z:=am;have a5:=ax;have az:=ap;have HB:=av;clear U γ ι κ ξ χ a1 ak am ax ap av;(try clear hb);(try clear a0);(try clear hk);(try clear hi);have ms:=cp.out;have mt:=cq.out;have kw:=dl.out;have kx:=dm.out;obtain⟨h7,h8,h9,ha⟩:=qD2 O.out;obtain⟨jy,jz,k0,k1⟩:=qD2 a5.out)|(go_at_call 14;(with_reducible refine(call_Check.calls k I J _ _ a9 _ _ ae bl _ ?side1 ?side2 ?side3 ?side4 l5.out).mono ?_);(case side1=>repeat(first|exact(Kd.Qo ai.out).2.2|(with_reducible refine Kd.Za ?_ _)|(with_reducible refine Kd.Q9 ?_ _)|(with_reducible refine Kd.Zf ?_)));(case side2=>exact(Kd.Qo ai.out).2.1);(case side3=>repeat(first|exact(Kd.Qo aj.out).2.2|(with_reducible refine Kd.Za ?_ _)|(with_reducible refine Kd.Q9 ?_ _)|(with_reducible refine Kd.Zf ?_)));(case side4=>exact(Kd.Qo aj.out).2.1);rintro e mf ⟨rfl,hb⟩;have U:=Aside0.mk (Kd.Qu (by(with_reducible repeat first|apply Kd.Qk|apply Kd.Qj|apply Kd.Qn);exact a3.out) hb);have γ:=Aside0.mk (Kd.Qu (by(with_reducible repeat first|apply Kd.Qk|apply Kd.Qj|apply Kd.Qn);exact a4.out) hb);have ι :=Aside0.mk (Kd.Qu (by(with_reducible repeat first|apply Kd.Qk|apply Kd.Qj|apply Kd.Qn);exact ai.out) hb);have κ :=Aside0.mk (Kd.Qu (by(with_reducible repeat first|apply Kd.Qk|apply Kd.Qj|apply Kd.Qn);exact aj.out) hb);have ξ :=Aside0.mk (Kd.Qu (by(with_reducible repeat first|apply Kd.Qk|apply Kd.Qj|apply Kd.Qn);exact ba.out) hb);have χ :=Aside0.mk (Kd.Qu (by(with_reducible repeat first|apply Kd.Qk|apply Kd.Qj|apply Kd.Qn);exact bb.out) hb);have a1:=Aside0.mk (Qm (g:= ν) (o:=.cells #[.int .i64 I,.int .i64 J] 23 (0,0)) (by(with_reducible repeat first|apply Qd|apply Qa|apply Qe);exact O.out) hb);have ak:=Aside0.mk (Qm (g:=ρ) (o:=.cells #[.slice η B.length δ,.slice θ D.length ε] 27 (0,0)) (by(with_reducible repeat first|apply Qd|apply Qa|apply Qe);exact Y.out) hb);have am:=Aside0.mk (Qm (g:= τ) (o:=.cells #[.int .i64 X,.int .i64 L,.int .i64 ζ] 29 (0,0)) (by(with_reducible repeat first|apply Qd|apply Qa|apply Qe);exact Z.out) hb);have ax:=Aside0.mk (Qm (g:= μ) (o:=.cells #[.slice bq a9.length bp,.slice bd ae.length bc] 27 (0,0)) (by(with_reducible repeat first|apply Qd|apply Qa|apply Qe);exact a5.out) hb);have ap:=Aside0.mk (Qm (g:=ay) (o:=.cells #[.slice br bg.length bs,.slice bi bk.length bh] 27 (0,0)) (by(with_reducible repeat first|apply Qd|apply Qa|apply Qe);exact az.out) hb);have av:=Aside0.mk (Qt (by repeat(first|(with_reducible first|exact HB.out|apply Qh|apply Qb|apply Qf|refine Qc ?_ a2.out|refine Qc ?_ a6.out|refine Qc ?_ a8.out|refine Qc ?_ au.out|refine Qc ?_ dk.out)|exact HB.out)) hb);clear a3;clear a4;clear ai;clear aj;clear ba;clear bb;clear O;clear Y;clear Z;clear a5;clear az;clear HB;have a3:=U;have a4:=γ;have ai:= ι;have aj:= κ;have ba:= ξ;have bb:= χ;have O:=a1;have Y:=ak;have Z:=am;have a5:=ax;have az:=ap;have HB:=av;clear U γ ι κ ξ χ a1 ak am ax ap av;(try clear hb);(try clear a0);(try clear hk);(try clear hi);obtain⟨he,hh,hj,hl⟩:=qD2 a5.out;have ks:=d2.out;have kt:=d3.out;obtain⟨gn,gp,gq,gr⟩:=qD2 Y.out)|(go_at_call 27;(with_reducible refine(call_Same.calls k _ _ a9 _ _ ae _ _ B _ _ D bm _ ?side1 ?side2 ?side3 ?side4 ?side5 ?side6 ?side7 ?side8 me.out).mono ?_);(case side1=>repeat(first|exact(Kd.Qo ai.out).2.2|(with_reducible refine Kd.Za ?_ _)|(with_reducible refine Kd.Q9 ?_ _)|(with_reducible refine Kd.Zf ?_)));(case side2=>exact(Kd.Qo ai.out).2.1);(case side3=>repeat(first|exact(Kd.Qo aj.out).2.2|(with_reducible refine Kd.Za ?_ _)|(with_reducible refine Kd.Q9 ?_ _)|(with_reducible refine Kd.Zf ?_)));(case side4=>exact(Kd.Qo aj.out).2.1);(case side5=>repeat(first|exact(Kd.Qx ag.out HB.out)|(with_reducible refine Kd.Za ?_ _)|(with_reducible refine Kd.Q9 ?_ _)|(with_reducible refine Kd.Zf ?_)));(case side6=>exact ar.out);(case side7=>repeat(first|exact(Kd.Qx ah.out HB.out)|(with_reducible refine Kd.Za ?_ _)|(with_reducible refine Kd.Q9 ?_ _)|(with_reducible refine Kd.Zf ?_)));(case side8=>exact aw.out);rintro e nd ⟨rfl,hb⟩;have U:=Aside0.mk (Kd.Qu (by(with_reducible repeat first|apply Kd.Qk|apply Kd.Qj|apply Kd.Qn);exact a3.out) hb);have γ:=Aside0.mk (Kd.Qu (by(with_reducible repeat first|apply Kd.Qk|apply Kd.Qj|apply Kd.Qn);exact a4.out) hb);have ι :=Aside0.mk (Kd.Qu (by(with_reducible repeat first|apply Kd.Qk|apply Kd.Qj|apply Kd.Qn);exact ai.out) hb);have κ :=Aside0.mk (Kd.Qu (by(with_reducible repeat first|apply Kd.Qk|apply Kd.Qj|apply Kd.Qn);exact aj.out) hb);have ξ :=Aside0.mk (Kd.Qu (by(with_reducible repeat first|apply Kd.Qk|apply Kd.Qj|apply Kd.Qn);exact ba.out) hb);have χ :=Aside0.mk (Kd.Qu (by(with_reducible repeat first|apply Kd.Qk|apply Kd.Qj|apply Kd.Qn);exact bb.out) hb);have a1:=Aside0.mk (Qm (g:= ν) (o:=.cells #[.int .i64 I,.int .i64 J] 23 (0,0)) (by(with_reducible repeat first|apply Qd|apply Qa|apply Qe);exact O.out) hb);have ak:=Aside0.mk (Qm (g:=ρ) (o:=.cells #[.slice η B.length δ,.slice θ D.length ε] 27 (0,0)) (by(with_reducible repeat first|apply Qd|apply Qa|apply Qe);exact Y.out) hb);have am:=Aside0.mk (Qm (g:= τ) (o:=.cells #[.int .i64 X,.int .i64 L,.int .i64 ζ] 29 (0,0)) (by(with_reducible repeat first|apply Qd|apply Qa|apply Qe);exact Z.out) hb);have ax:=Aside0.mk (Qm (g:= μ) (o:=.cells #[.slice bq a9.length bp,.slice bd ae.length bc] 27 (0,0)) (by(with_reducible repeat first|apply Qd|apply Qa|apply Qe);exact a5.out) hb);have ap:=Aside0.mk (Qm (g:=ay) (o:=.cells #[.slice br bg.length bs,.slice bi bk.length bh] 27 (0,0)) (by(with_reducible repeat first|apply Qd|apply Qa|apply Qe);exact az.out) hb);have av:=Aside0.mk (Qt (by repeat(first|(with_reducible first|exact HB.out|apply Qh|apply Qb|apply Qf|refine Qc ?_ a2.out|refine Qc ?_ a6.out|refine Qc ?_ a8.out|refine Qc ?_ au.out|refine Qc ?_ dk.out)|exact HB.out)) hb);clear a3;clear a4;clear ai;clear aj;clear ba;clear bb;clear O;clear Y;clear Z;clear a5;clear az;clear HB;have a3:=U;have a4:=γ;have ai:= ι;have aj:= κ;have ba:= ξ;have bb:= χ;have O:=a1;have Y:=ak;have Z:=am;have a5:=ax;have az:=ap;have HB:=av;clear U γ ι κ ξ χ a1 ak am ax ap av;(try clear hb);(try clear a0);(try clear hk);(try clear hi)))
          go_meet
          case rel=>exact⟨_,(bm),qR,H',⟨by first|omega|exact Nat.le_refl _⟩,⟨by(with_reducible repeat first|apply Kd.Qk|apply Kd.Qj|apply Kd.Qn);exact Kd.Qq ai.out (fun _ hk=>hk.2)⟩,⟨by(with_reducible repeat first|apply Kd.Qk|apply Kd.Qj|apply Kd.Qn);exact Kd.Qq aj.out (fun _ hk=>hk.2)⟩,⟨by(with_reducible repeat first|apply Kd.Qk|apply Kd.Qj|apply Kd.Qn);exact Kd.Qq ba.out (fun _ hk=>hk.2)⟩,⟨by(with_reducible repeat first|apply Kd.Qk|apply Kd.Qj|apply Kd.Qn);exact Kd.Qq bb.out (fun _ hk=>hk.2)⟩,⟨by(with_reducible repeat first|apply Qd|apply Qa|apply Qe);exact O.out⟩,⟨by(with_reducible repeat first|apply Qd|apply Qa|apply Qe);exact Y.out⟩,⟨by(with_reducible repeat first|apply Qd|apply Qa|apply Qe);exact Z.out⟩,⟨by(with_reducible repeat first|apply Qd|apply Qa|apply Qe);exact a5.out⟩,⟨by(with_reducible repeat first|apply Qd|apply Qa|apply Qe);exact az.out⟩,⟨by repeat(first|(with_reducible first|exact HB.out|apply Qh|apply Qb|apply Qf|refine Qc ?_ a2.out|refine Qc ?_ a6.out|refine Qc ?_ a8.out|refine Qc ?_ au.out|refine Qc ?_ dk.out)|exact HB.out)⟩⟩
         ·rw[if_neg h6] at H
          exact absurd H (by simp)
       ·rw[if_neg eb] at H
        exact absurd H (by simp)
      ·replace eh:=Bool.eq_false_iff.mpr eh
       subst eh
       have H1:(none)=some r:=by rw[if_neg (show ¬ (false=true) by decide)] at H;exact H
       clear H
       have H:=H1
       clear H1
       exact absurd H (by simp)
     ·rw[if_neg ee] at H
      exact absurd H (by simp)
    ·replace fa:=Bool.eq_false_iff.mpr fa
     subst fa
     have H1:(none)=some r:=by rw[if_neg (show ¬ (false=true) by decide)] at H;exact H
     clear H
     have H:=H1
     clear H1
     exact absurd H (by simp)
   case rest=>
    clear ir
    try clear c1
    try clear c2
    try clear p2
    try clear c3
    try clear c4
    try clear c5
    try clear c6
    try clear p6
    try clear c7
    try clear c8
    try clear c9
    try clear c10
    try clear cb
    try clear ce
    try clear cf
    try clear mb
    try clear k3
    try clear l2
    try clear mc
    try clear ky
    try clear n3
    try clear dr
    try clear fa
    try clear ee
    try clear c49b0
    try clear c49b1
    try clear eh
    try clear eb
    try clear c53b0
    try clear c53b1
    try clear ec
    try clear c54b0
    try clear c54b1
    try clear ea
    try clear ef
    try clear ei
    try clear nf
    try clear ng
    try clear nh
    try clear ni
    try clear p64
    try clear nj
    try clear nk
    try clear h6
    try clear c71b0
    try clear c71b1
    try clear nl
    try clear nm
    try clear nn
    try clear no
    try clear np
    try clear nq
    try clear nr
    try clear ns
    try clear nt
    try clear nu
    try clear fj
    try clear fk
    try clear e6
    try clear e7
    try clear er
    try clear et
    try clear jw
    try clear gk
    try clear gs
    try clear gv
    try clear gw
    try clear gz
    try clear h0
    try clear ge
    try clear gf
    try clear gi
    try clear gj
    try clear fr
    try clear ft
    try clear fn
    try clear fo
    try clear ez
    try clear f3
    try clear fw
    try clear fx
    try clear h7
    try clear h8
    try clear jy
    try clear jz
    try clear he
    try clear hh
    try clear gn
    try clear gp
    try clear fl
    try clear fm
    try clear e8
    try clear e9
    try clear eu
    try clear ev
    try clear jx
    try clear gt
    try clear gu
    try clear gx
    try clear gy
    try clear h4
    try clear h5
    try clear gg
    try clear gh
    try clear gl
    try clear gm
    try clear fu
    try clear fv
    try clear fp
    try clear fq
    try clear f4
    try clear f7
    try clear fy
    try clear fz
    try clear h9
    try clear ha
    try clear k0
    try clear k1
    try clear hj
    try clear hl
    try clear gq
    try clear gr
    obtain⟨kq,it,rfl,HA,nv,HO_538000,HO_538001,HO_547000,HO_547001,O,Y,Z,a5,az,HB⟩:=hcut
    cases kq with
    |zero=>exact absurd HA.out (by simp[newellaw19_CallOnce.j0])
    |succ nw=>
     have H:=HA.out
     clear HA
     simp only[newellaw19_CallOnce.j0] at H
     obtain rfl:=Option.some.inj H
     go_wp2
     go_ret
     exact⟨by first|rfl|(simp[Qz,Qy] <;> rfl)|(simp[*,Qz,Qy] <;> rfl),by repeat(first|(with_reducible first|exact HB.out|apply Qh|apply Qb|apply Qf|refine Qc ?_ a2.out|refine Qc ?_ a6.out|refine Qc ?_ a8.out|refine Qc ?_ au.out|refine Qc ?_ dk.out)|exact HB.out)⟩
  ·rw[if_neg c8] at H
   have c8b0:(cd==0)=false:=beq_eq_false_iff_ne.mpr c8
   have c8b1:(cd != 0)=true:=bne_iff_ne.mpr c8
   replace H:=Option.bind_eq_some_iff.mp H
   obtain⟨d8,ki,H⟩:=H
   replace H:(some d8)=some r:=H
   have mg:=Aside0.mk ki
   clear ki
   obtain rfl:=Option.some.inj H
   go_enter Try.func6,Try.ntmps6
   try go_wp2_with (first|((with_reducible refine Qr (N:=3) rfl ?_);refine Q5 ?hg (N:=3) ?hd (cs:=#[.int .i64 I,.int .i64 J]) (t:=23) ?hr ?_;(case hd=>rfl);(case hg=>rfl);(case hr=>first|(go_simp;done)|(go_simp;rfl));intro ν hg nx hbox hb;have U:=Aside0.mk (Qt (by repeat(first|(with_reducible first|exact HB.out|apply Qh|apply Qb|apply Qf)|exact HB.out)) hb);have γ:=Aside0.mk (hbox);have ι :=Aside0.mk ((by rw[hg];exact(Qi (by repeat(first|(with_reducible first|exact HB.out|apply Qh|apply Qb|apply Qf)|exact HB.out))):w.heap.size ≤ ν));have κ :=Aside0.mk ((by rw[hg];exact(Qi (by repeat(first|(with_reducible first|exact HB.out|apply Qh|apply Qb|apply Qf)|exact HB.out))):w.heap.size ≤ ν));clear HB;have HB:=U;have O:=γ;have jf:= ι;have a2:= κ;clear U γ ι κ;clear hb hbox hg)|((with_reducible refine Qr (N:=4) rfl ?_);refine Q5 ?hg (N:=4) ?hd (cs:=#[.slice η B.length δ,.slice θ D.length ε]) (t:=27) ?hr ?_;(case hd=>rfl);(case hg=>rfl);(case hr=>first|(go_simp;done)|(go_simp;rfl));intro ρ hg mh hbox hb;have U:=Aside0.mk (Qm (g:= ν) (o:=.cells #[.int .i64 I,.int .i64 J] 23 (0,0)) (by(with_reducible repeat first|apply Qd|apply Qa|apply Qe);exact O.out) hb);have γ:=Aside0.mk (Qt (by repeat(first|(with_reducible first|exact HB.out|apply Qh|apply Qb|apply Qf|refine Qc ?_ a2.out)|exact HB.out)) hb);have ι :=Aside0.mk (hbox);have κ :=Aside0.mk ((by rw[hg];exact(Qi (by repeat(first|(with_reducible first|exact HB.out|apply Qh|apply Qb|apply Qf|refine Qc ?_ a2.out)|exact HB.out))):w.heap.size≤ρ));have ξ :=Aside0.mk ((by rw[hg];exact(Qi (by repeat(first|(with_reducible first|exact HB.out|apply Qh|apply Qb|apply Qf|refine Qc ?_ a2.out)|exact HB.out))):w.heap.size≤ρ));have χ :=Aside0.mk ((by rw[hg];exact Nat.ne_of_lt (Q3 (g:= ν) (o:=.cells #[.int .i64 I,.int .i64 J] 23 (0,0)) (by(with_reducible repeat first|apply Qd|apply Qa|apply Qe);exact O.out)): ν ≠ ρ));have a1:=Aside0.mk ((by rw[hg];exact Nat.ne_of_gt (Q3 (g:= ν) (o:=.cells #[.int .i64 I,.int .i64 J] 23 (0,0)) (by(with_reducible repeat first|apply Qd|apply Qa|apply Qe);exact O.out)):ρ ≠ ν));clear O;clear HB;have O:=U;have HB:=γ;have Y:= ι;have jg:= κ;have a6:= ξ;have cp:= χ;have cq:=a1;clear U γ ι κ ξ χ a1;clear hb hbox hg)|((with_reducible refine Qr (N:=5) rfl ?_);refine Q5 ?hg (N:=5) ?hd (cs:=#[.int .i64 X,.int .i64 L,.int .i64 ζ]) (t:=29) ?hr ?_;(case hd=>rfl);(case hg=>rfl);(case hr=>first|(go_simp;done)|(go_simp;rfl));intro τ hg mi hbox hb;have U:=Aside0.mk (Qm (g:= ν) (o:=.cells #[.int .i64 I,.int .i64 J] 23 (0,0)) (by(with_reducible repeat first|apply Qd|apply Qa|apply Qe);exact O.out) hb);have γ:=Aside0.mk (Qm (g:=ρ) (o:=.cells #[.slice η B.length δ,.slice θ D.length ε] 27 (0,0)) (by(with_reducible repeat first|apply Qd|apply Qa|apply Qe);exact Y.out) hb);have ι :=Aside0.mk (Qt (by repeat(first|(with_reducible first|exact HB.out|apply Qh|apply Qb|apply Qf|refine Qc ?_ a2.out|refine Qc ?_ a6.out)|exact HB.out)) hb);have κ :=Aside0.mk (hbox);have ξ :=Aside0.mk ((by rw[hg];exact(Qi (by repeat(first|(with_reducible first|exact HB.out|apply Qh|apply Qb|apply Qf|refine Qc ?_ a2.out|refine Qc ?_ a6.out)|exact HB.out))):w.heap.size ≤ τ));have χ :=Aside0.mk ((by rw[hg];exact(Qi (by repeat(first|(with_reducible first|exact HB.out|apply Qh|apply Qb|apply Qf|refine Qc ?_ a2.out|refine Qc ?_ a6.out)|exact HB.out))):w.heap.size ≤ τ));have a1:=Aside0.mk ((by rw[hg];exact Nat.ne_of_lt (Q3 (g:= ν) (o:=.cells #[.int .i64 I,.int .i64 J] 23 (0,0)) (by(with_reducible repeat first|apply Qd|apply Qa|apply Qe);exact O.out)): ν ≠ τ));have ak:=Aside0.mk ((by rw[hg];exact Nat.ne_of_gt (Q3 (g:= ν) (o:=.cells #[.int .i64 I,.int .i64 J] 23 (0,0)) (by(with_reducible repeat first|apply Qd|apply Qa|apply Qe);exact O.out)): τ ≠ ν));have am:=Aside0.mk ((by rw[hg];exact Nat.ne_of_lt (Q3 (g:=ρ) (o:=.cells #[.slice η B.length δ,.slice θ D.length ε] 27 (0,0)) (by(with_reducible repeat first|apply Qd|apply Qa|apply Qe);exact Y.out)):ρ ≠ τ));have ax:=Aside0.mk ((by rw[hg];exact Nat.ne_of_gt (Q3 (g:=ρ) (o:=.cells #[.slice η B.length δ,.slice θ D.length ε] 27 (0,0)) (by(with_reducible repeat first|apply Qd|apply Qa|apply Qe);exact Y.out)): τ ≠ ρ));clear O;clear Y;clear HB;have O:=U;have Y:=γ;have HB:= ι;have Z:= κ;have jh:= ξ;have a8:= χ;have dl:=a1;have dm:=ak;have d2:=am;have d3:=ax;clear U γ ι κ ξ χ a1 ak am ax;clear hb hbox hg;have ku:=cq.out;have kv:=cp.out;have jd:=d2.out;have je:=d3.out;obtain⟨js,jt,ju,jv⟩:=qD2 Y.out)|((with_reducible refine Q0 (f:=9) rfl ?_);refine Zk (some 13) rfl rfl Try.func9 kr rfl #[.agg #[.slice η B.length δ,.slice θ D.length ε]] rfl (by(try simp only[List.map_toArray,List.map_cons,List.map_nil]);first|done|rfl|(simp only[List.length_drop,List.length_take];rfl)) ?_;(with_reducible refine(newelref19_Few.calls _ _ B _ _ D true _ ?side1 ?side2 ?side3 ?side4 A4.out).mono ?_);(case side1=>repeat(first|exact(Kd.Qx ag.out HB.out)|(with_reducible refine Kd.Za ?_ _)|(with_reducible refine Kd.Q9 ?_ _)|(with_reducible refine Kd.Zf ?_)));(case side2=>exact ar.out);(case side3=>repeat(first|exact(Kd.Qx ah.out HB.out)|(with_reducible refine Kd.Za ?_ _)|(with_reducible refine Kd.Q9 ?_ _)|(with_reducible refine Kd.Zf ?_)));(case side4=>exact aw.out);rintro e l7 ⟨rfl,hb⟩;refine⟨_,rfl, ?_⟩;have U:=Aside0.mk (Qm (g:= ν) (o:=.cells #[.int .i64 I,.int .i64 J] 23 (0,0)) (by(with_reducible repeat first|apply Qd|apply Qa|apply Qe);exact O.out) hb);have γ:=Aside0.mk (Qm (g:=ρ) (o:=.cells #[.slice η B.length δ,.slice θ D.length ε] 27 (0,0)) (by(with_reducible repeat first|apply Qd|apply Qa|apply Qe);exact Y.out) hb);have ι :=Aside0.mk (Qm (g:= τ) (o:=.cells #[.int .i64 X,.int .i64 L,.int .i64 ζ] 29 (0,0)) (by(with_reducible repeat first|apply Qd|apply Qa|apply Qe);exact Z.out) hb);have κ :=Aside0.mk (Qt (by repeat(first|(with_reducible first|exact HB.out|apply Qh|apply Qb|apply Qf|refine Qc ?_ a2.out|refine Qc ?_ a6.out|refine Qc ?_ a8.out)|exact HB.out)) hb);clear O;clear Y;clear Z;clear HB;have O:=U;have Y:=γ;have Z:= ι;have HB:= κ;clear U γ ι κ;(try clear hb);(try clear a0);(try clear hk);(try clear hi)))
   have U:=Aside0.mk (Qa O.out)
   have γ:=Aside0.mk (Qa Y.out)
   have ι :=Aside0.mk (Qa Z.out)
   have κ :=Aside0.mk (Qf HB.out)
   clear O
   clear Y
   clear Z
   clear HB
   have O:=U
   have Y:=γ
   have Z:= ι
   have HB:= κ
   clear U γ ι κ
   refine Zn (n:=11) (S:=fun w'=>w'.cell? ⟨ν,0,none⟩=some (.int .i64 I)∧w'.cell? ⟨ν,1,none⟩=some (.int .i64 J)∧w'.cell? ⟨ρ,0,none⟩=some (.slice η B.length δ)∧w'.cell? ⟨ρ,1,none⟩=some (.slice θ D.length ε)∧w'.cell? ⟨τ,0,none⟩=some (.int .i64 X)∧w'.cell? ⟨τ,1,none⟩=some (.int .i64 L)∧w'.cell? ⟨τ,2,none⟩=some (.int .i64 ζ)) (ds:=[]) #[false,false,false,false,false,false,false,false,false,false,false] kr rfl rfl ⟨(Ql O.out 0).trans rfl,(Ql O.out 1).trans rfl,(Ql Y.out 0).trans rfl,(Ql Y.out 1).trans rfl,(Ql Z.out 0).trans rfl,(Ql Z.out 1).trans rfl,(Ql Z.out 2).trans rfl⟩ (fun hHeld=>?_);refine Q8 newellaw19_CallOnce.Wn newellaw19_CallOnce.Vh (fun HT_ HW_=>?_)
   generalize l7.drew=kj at O Y Z HB hHeld ⊢
   refine qT 0 (some 17) (qB 11 1) HT_ HW_ hHeld ?_
   refine qT 1 (some 18) (qB 11 3) HT_ HW_ hHeld ?_
   refine qT 3 (some 20) (qB 11 11) HT_ HW_ hHeld ?_
   refine K9 (σ:=Value×Value×Value×Value×Nat) 2 #[true,true,true,true,true,true,true,true,true,false,false] (fun s_=>[(19,.agg #[s_.1,s_.2.1]),(21,.tuple #[.agg #[s_.2.2.1,s_.2.2.2.1],.int .i64 cd]),(7,.pointer (some ⟨s_.2.2.2.2,0,none⟩)),(16,.tuple #[.agg #[s_.2.2.1,s_.2.2.2.1],.int .i64 cd]),(22,.agg #[s_.2.2.1,s_.2.2.2.1]),(23,.int .i64 cd)]) (fun s_ w'=>(w'.cell? ⟨ν,0,none⟩=some (.int .i64 I)∧w'.cell? ⟨ν,1,none⟩=some (.int .i64 J)∧w'.cell? ⟨ρ,0,none⟩=some (.slice η B.length δ)∧w'.cell? ⟨ρ,1,none⟩=some (.slice θ D.length ε)∧w'.cell? ⟨τ,0,none⟩=some (.int .i64 X)∧w'.cell? ⟨τ,1,none⟩=some (.int .i64 L)∧w'.cell? ⟨τ,2,none⟩=some (.int .i64 ζ))∧(Kd.R k56 56 w' w.heap.size (fun k_=>some k_≠(s_.2.2.1:Value).ownBlock) s_.1 bn)∧(Kd.R k62 62 w' w.heap.size (fun k_=>some k_≠(s_.2.2.2.1:Value).ownBlock) s_.2.1 bo)∧(Kd.R k56 56 w' w.heap.size (fun k_=>some k_≠(s_.1:Value).ownBlock) s_.2.2.1 a9)∧(Kd.R k62 62 w' w.heap.size (fun k_=>some k_≠(s_.2.1:Value).ownBlock) s_.2.2.2.1 ae)∧(w'.heap[ν]?=some (.cells #[.int .i64 I,.int .i64 J] 23 (0,0)))∧(w'.heap[ρ]?=some (.cells #[.slice η B.length δ,.slice θ D.length ε] 27 (0,0)))∧(w'.heap[τ]?=some (.cells #[.int .i64 X,.int .i64 L,.int .i64 ζ] 29 (0,0)))∧(w'.heap[s_.2.2.2.2]?=some (.cells #[.slice none 0 0,.slice none 0 0] 27 (0,0)))∧(w.heap.size≤s_.2.2.2.2)∧(w.heap.size≤s_.2.2.2.2)∧(ν ≠ s_.2.2.2.2)∧(s_.2.2.2.2 ≠ ν)∧(ρ≠s_.2.2.2.2)∧(s_.2.2.2.2≠ρ)∧(τ ≠ s_.2.2.2.2)∧(s_.2.2.2.2 ≠ τ)∧(Below w.heap.size w w')) ?_ ?_
   rotate_left
   ·intro hCont
    refine Kj (i:=2) (j:=8) (Ni:=some 19) (Nj:=some 7) #[true,true,true,true,false,false,false,false,false,false,false] #[true,true,false,true,false,false,false,false,true,false,false] rfl rfl rfl rfl (Ye HT_.out kr) (by decide) (by decide) (fun K hK=>?_) (fun K hK=>?_)
    ·skip
     refine Ze Try.func12 kr rfl #[.agg #[.slice η B.length δ,.slice θ D.length ε]] (by rfl) rfl rfl (by(try simp only[List.map_toArray,List.map_cons,List.map_nil]);first|done|rfl|(simp only[List.length_drop,List.length_take];rfl)) ?_
     with_reducible refine(newellaw19_Own.calls _ _ B _ _ D bn bo _ ?side1 ?side2 ?side3 ?side4 A6.out).mono ?_
     (case side1=>repeat(first|exact(Kd.Qx ag.out HB.out)|(with_reducible refine Kd.Za ?_ _)|(with_reducible refine Kd.Q9 ?_ _)|(with_reducible refine Kd.Zf ?_)))
     (case side2=>exact ar.out)
     (case side3=>repeat(first|exact(Kd.Qx ah.out HB.out)|(with_reducible refine Kd.Za ?_ _)|(with_reducible refine Kd.Q9 ?_ _)|(with_reducible refine Kd.Zf ?_)))
     (case side4=>exact aw.out)
     rintro e ik ⟨e3,e4,rfl,φ,a7,hb⟩
     refine⟨_,rfl, ?_⟩
     have U:=Aside0.mk (Kd.Q2 φ (Qi (by repeat(first|(with_reducible first|exact HB.out|apply Qh|apply Qb|apply Qf|refine Qc ?_ a2.out|refine Qc ?_ a6.out|refine Qc ?_ a8.out)|exact HB.out))))
     have γ:=Aside0.mk (Kd.Q2 a7 (Qi (by repeat(first|(with_reducible first|exact HB.out|apply Qh|apply Qb|apply Qf|refine Qc ?_ a2.out|refine Qc ?_ a6.out|refine Qc ?_ a8.out)|exact HB.out))))
     have ι :=Aside0.mk (Qm (g:= ν) (o:=.cells #[.int .i64 I,.int .i64 J] 23 (0,0)) (by(with_reducible repeat first|apply Qd|apply Qa|apply Qe);exact O.out) hb)
     have κ :=Aside0.mk (Qm (g:=ρ) (o:=.cells #[.slice η B.length δ,.slice θ D.length ε] 27 (0,0)) (by(with_reducible repeat first|apply Qd|apply Qa|apply Qe);exact Y.out) hb)
     have ξ :=Aside0.mk (Qm (g:= τ) (o:=.cells #[.int .i64 X,.int .i64 L,.int .i64 ζ] 29 (0,0)) (by(with_reducible repeat first|apply Qd|apply Qa|apply Qe);exact Z.out) hb)
     have χ :=Aside0.mk (Qt (by repeat(first|(with_reducible first|exact HB.out|apply Qh|apply Qb|apply Qf|refine Qc ?_ a2.out|refine Qc ?_ a6.out|refine Qc ?_ a8.out)|exact HB.out)) hb)
     clear O
     clear Y
     clear Z
     clear HB
     have a3:=U
     have a4:=γ
     have O:= ι
     have Y:= κ
     have Z:= ξ
     have HB:= χ
     clear U γ ι κ ξ χ
     (try clear hb)
     (try clear a0)
     (try clear hk)
     (try clear hi)
     (try clear φ)
     (try clear a7)
     obtain⟨ji,jj,jk⟩:=Kd.Q4 a3.out
     (first|subst jk|(injection jk with ψ aa ω;have ab:= ψ.symm;have ac:= ω.symm;clear ψ aa ω;subst ab;subst ac))
     obtain⟨dh,di,dj⟩:=Kd.Q4 a4.out
     (first|subst dj|(injection dj with ψ aa ω;have ab:= ψ.symm;have ac:= ω.symm;clear ψ aa ω;subst ab;subst ac))
     refine hK.out _ _ ⟨qc O,qc O,qc Y,qc Y,qc Z,qc Z,qc Z⟩ (fun hHeld=>?_)
     clear hK K
     refine qN (some 19) ?_
     refine Kj (i:=4) (j:=8) (Ni:=some 21) (Nj:=some 7) #[true,true,true,true,true,false,false,false,false,false,false] #[true,true,true,true,false,false,false,false,true,false,false] rfl rfl rfl rfl (Ye HT_.out kr) (by decide) (by decide) (fun K hK=>?_) (fun K hK=>?_)
     ·skip
      refine Ze Try.func11 kr rfl #[.agg #[.int .i64 I,.int .i64 J],.agg #[.slice ji bn.length jj,.slice dh bo.length di],.agg #[.int .i64 X,.int .i64 L,.int .i64 ζ]] (by rfl) rfl rfl (by(try simp only[List.map_toArray,List.map_cons,List.map_nil]);first|done|rfl|(simp only[List.length_drop,List.length_take];rfl)) ?_
      with_reducible refine(call_Press.calls k I J _ _ bn _ _ bo X L ζ a9 ae cd _ ?side1 ?side2 ?side3 ?side4 A7.out).mono ?_
      (case side1=>repeat(first|exact(Kd.Qo a3.out).2.2|(with_reducible refine Kd.Za ?_ _)|(with_reducible refine Kd.Q9 ?_ _)|(with_reducible refine Kd.Zf ?_)))
      (case side2=>exact(Kd.Qo a3.out).2.1)
      (case side3=>repeat(first|exact(Kd.Qo a4.out).2.2|(with_reducible refine Kd.Za ?_ _)|(with_reducible refine Kd.Q9 ?_ _)|(with_reducible refine Kd.Zf ?_)))
      (case side4=>exact(Kd.Qo a4.out).2.1)
      rintro e n1 ⟨cr,ct,rfl,φ,a7,hb⟩
      refine⟨_,rfl, ?_⟩
      have U:=Aside0.mk (Kd.Q7 (by(with_reducible repeat first|apply Kd.Qk|apply Kd.Qj|apply Kd.Qn);exact a3.out) (Kd.Zh φ) hb)
      have γ:=Aside0.mk (Kd.Q7 (by(with_reducible repeat first|apply Kd.Qk|apply Kd.Qj|apply Kd.Qn);exact a4.out) (Kd.Zh a7) hb)
      have ι :=Aside0.mk (Kd.Q2 (Kd.Zl φ (Kd.Zy (by(with_reducible repeat first|apply Kd.Qk|apply Kd.Qj|apply Kd.Qn);exact a3.out))) (Qi (by repeat(first|(with_reducible first|exact HB.out|apply Qh|apply Qb|apply Qf|refine Qc ?_ a2.out|refine Qc ?_ a6.out|refine Qc ?_ a8.out)|exact HB.out))))
      have κ :=Aside0.mk (Kd.Q2 (Kd.Zl a7 (Kd.Zy (by(with_reducible repeat first|apply Kd.Qk|apply Kd.Qj|apply Kd.Qn);exact a4.out))) (Qi (by repeat(first|(with_reducible first|exact HB.out|apply Qh|apply Qb|apply Qf|refine Qc ?_ a2.out|refine Qc ?_ a6.out|refine Qc ?_ a8.out)|exact HB.out))))
      have ξ :=Aside0.mk (Qm (g:= ν) (o:=.cells #[.int .i64 I,.int .i64 J] 23 (0,0)) (by(with_reducible repeat first|apply Qd|apply Qa|apply Qe);exact O.out) hb)
      have χ :=Aside0.mk (Qm (g:=ρ) (o:=.cells #[.slice η B.length δ,.slice θ D.length ε] 27 (0,0)) (by(with_reducible repeat first|apply Qd|apply Qa|apply Qe);exact Y.out) hb)
      have a1:=Aside0.mk (Qm (g:= τ) (o:=.cells #[.int .i64 X,.int .i64 L,.int .i64 ζ] 29 (0,0)) (by(with_reducible repeat first|apply Qd|apply Qa|apply Qe);exact Z.out) hb)
      have ak:=Aside0.mk (Qt (by repeat(first|(with_reducible first|exact HB.out|apply Qh|apply Qb|apply Qf|refine Qc ?_ a2.out|refine Qc ?_ a6.out|refine Qc ?_ a8.out)|exact HB.out)) hb)
      clear a3
      clear a4
      clear O
      clear Y
      clear Z
      clear HB
      have a3:=U
      have a4:=γ
      have ai:= ι
      have aj:= κ
      have O:= ξ
      have Y:= χ
      have Z:=a1
      have HB:=ak
      clear U γ ι κ ξ χ a1 ak
      (try clear hb)
      (try clear a0)
      (try clear hk)
      (try clear hi)
      (try clear φ)
      (try clear a7)
      refine hK.out _ _ ⟨qc O,qc O,qc Y,qc Y,qc Z,qc Z,qc Z⟩ (fun hHeld=>?_)
      clear hK K
      refine qN (some 21) ?_
      refine qP 5 (some 16) (qB 11 63) HT_ ?_
      refine qP 6 (some 22) (qB 11 127) HT_ ?_
      refine qP 7 (some 23) (qB 11 255) HT_ ?_
      refine Zg (i:=8) (N:=some 7) #[true,true,true,true,true,true,true,true,true,false,false] rfl rfl (Q1 HT_.out kr) (by decide) (fun K hK=>?_)
      refine Xk ?hg (N:=7) ?hd (cs:=#[.slice none 0 0,.slice none 0 0]) (t:=27) ?hr ?_;(case hd=>rfl);(case hg=>rfl);(case hr=>first|(go_simp;done)|(go_simp;rfl))
      intro μ hg iu hbox hb
      have U:=Aside0.mk (Kd.Qu (by(with_reducible repeat first|apply Kd.Qk|apply Kd.Qj|apply Kd.Qn);exact a3.out) hb)
      have γ:=Aside0.mk (Kd.Qu (by(with_reducible repeat first|apply Kd.Qk|apply Kd.Qj|apply Kd.Qn);exact a4.out) hb)
      have ι :=Aside0.mk (Kd.Qu (by(with_reducible repeat first|apply Kd.Qk|apply Kd.Qj|apply Kd.Qn);exact ai.out) hb)
      have κ :=Aside0.mk (Kd.Qu (by(with_reducible repeat first|apply Kd.Qk|apply Kd.Qj|apply Kd.Qn);exact aj.out) hb)
      have ξ :=Aside0.mk (Qm (g:= ν) (o:=.cells #[.int .i64 I,.int .i64 J] 23 (0,0)) (by(with_reducible repeat first|apply Qd|apply Qa|apply Qe);exact O.out) hb)
      have χ :=Aside0.mk (Qm (g:=ρ) (o:=.cells #[.slice η B.length δ,.slice θ D.length ε] 27 (0,0)) (by(with_reducible repeat first|apply Qd|apply Qa|apply Qe);exact Y.out) hb)
      have a1:=Aside0.mk (Qm (g:= τ) (o:=.cells #[.int .i64 X,.int .i64 L,.int .i64 ζ] 29 (0,0)) (by(with_reducible repeat first|apply Qd|apply Qa|apply Qe);exact Z.out) hb)
      have ak:=Aside0.mk (Qt (by repeat(first|(with_reducible first|exact HB.out|apply Qh|apply Qb|apply Qf|refine Qc ?_ a2.out|refine Qc ?_ a6.out|refine Qc ?_ a8.out)|exact HB.out)) hb)
      have am:=Aside0.mk (hbox)
      have ax:=Aside0.mk ((by rw[hg];exact(Qi (by repeat(first|(with_reducible first|exact HB.out|apply Qh|apply Qb|apply Qf|refine Qc ?_ a2.out|refine Qc ?_ a6.out|refine Qc ?_ a8.out)|exact HB.out))):w.heap.size ≤ μ))
      have ap:=Aside0.mk ((by rw[hg];exact(Qi (by repeat(first|(with_reducible first|exact HB.out|apply Qh|apply Qb|apply Qf|refine Qc ?_ a2.out|refine Qc ?_ a6.out|refine Qc ?_ a8.out)|exact HB.out))):w.heap.size ≤ μ))
      have av:=Aside0.mk ((by rw[hg];exact Nat.ne_of_lt (Q3 (g:= ν) (o:=.cells #[.int .i64 I,.int .i64 J] 23 (0,0)) (by(with_reducible repeat first|apply Qd|apply Qa|apply Qe);exact O.out)): ν ≠ μ))
      have b0:=Aside0.mk ((by rw[hg];exact Nat.ne_of_gt (Q3 (g:= ν) (o:=.cells #[.int .i64 I,.int .i64 J] 23 (0,0)) (by(with_reducible repeat first|apply Qd|apply Qa|apply Qe);exact O.out)): μ ≠ ν))
      have b8:=Aside0.mk ((by rw[hg];exact Nat.ne_of_lt (Q3 (g:=ρ) (o:=.cells #[.slice η B.length δ,.slice θ D.length ε] 27 (0,0)) (by(with_reducible repeat first|apply Qd|apply Qa|apply Qe);exact Y.out)):ρ ≠ μ))
      have b9:=Aside0.mk ((by rw[hg];exact Nat.ne_of_gt (Q3 (g:=ρ) (o:=.cells #[.slice η B.length δ,.slice θ D.length ε] 27 (0,0)) (by(with_reducible repeat first|apply Qd|apply Qa|apply Qe);exact Y.out)): μ ≠ ρ))
      have be:=Aside0.mk ((by rw[hg];exact Nat.ne_of_lt (Q3 (g:= τ) (o:=.cells #[.int .i64 X,.int .i64 L,.int .i64 ζ] 29 (0,0)) (by(with_reducible repeat first|apply Qd|apply Qa|apply Qe);exact Z.out)): τ ≠ μ))
      have bf:=Aside0.mk ((by rw[hg];exact Nat.ne_of_gt (Q3 (g:= τ) (o:=.cells #[.int .i64 X,.int .i64 L,.int .i64 ζ] 29 (0,0)) (by(with_reducible repeat first|apply Qd|apply Qa|apply Qe);exact Z.out)): μ ≠ τ))
      clear a3
      clear a4
      clear ai
      clear aj
      clear O
      clear Y
      clear Z
      clear HB
      have a3:=U
      have a4:=γ
      have ai:= ι
      have aj:= κ
      have O:= ξ
      have Y:= χ
      have Z:=a1
      have HB:=ak
      have a5:=am
      have cy:=ax
      have au:=ap
      have an:=av
      have b1:=b0
      have ao:=b8
      have b2:=b9
      have al:=be
      have b3:=bf
      clear U γ ι κ ξ χ a1 ak am ax ap av b0 b8 b9 be bf
      clear hb hbox hg
      refine hK.out _ _ ⟨qc O,qc O,qc Y,qc Y,qc Z,qc Z,qc Z⟩ (fun hHeld=>?_)
      clear hK K
      refine qN (some 7) ?_
      exact Xj (by simp only[Zx,Act.put,qS]) (hCont (.slice ji bn.length jj,.slice dh bo.length di,cr,ct,μ) _ ⟨hHeld,(by(with_reducible repeat first|apply Kd.Qk|apply Kd.Qj|apply Kd.Qn);exact Kd.Qq a3.out (fun _ hk=>hk.2)),(by(with_reducible repeat first|apply Kd.Qk|apply Kd.Qj|apply Kd.Qn);exact Kd.Qq a4.out (fun _ hk=>hk.2)),(by(with_reducible repeat first|apply Kd.Qk|apply Kd.Qj|apply Kd.Qn);exact Kd.Qq ai.out (fun _ hk=>hk.2)),(by(with_reducible repeat first|apply Kd.Qk|apply Kd.Qj|apply Kd.Qn);exact Kd.Qq aj.out (fun _ hk=>hk.2)),(by(with_reducible repeat first|apply Qd|apply Qa|apply Qe);exact O.out),(by(with_reducible repeat first|apply Qd|apply Qa|apply Qe);exact Y.out),(by(with_reducible repeat first|apply Qd|apply Qa|apply Qe);exact Z.out),(by(with_reducible repeat first|apply Qd|apply Qa|apply Qe);exact a5.out),cy.out,au.out,an.out,b1.out,ao.out,b2.out,al.out,b3.out,(by repeat(first|(with_reducible first|exact HB.out|apply Qh|apply Qb|apply Qf|refine Qc ?_ a2.out|refine Qc ?_ a6.out|refine Qc ?_ a8.out|refine Qc ?_ au.out)|exact HB.out))⟩)
     ·skip
      refine Xk ?hg (N:=7) ?hd (cs:=#[.slice none 0 0,.slice none 0 0]) (t:=27) ?hr ?_;(case hd=>rfl);(case hg=>rfl);(case hr=>first|(go_simp;done)|(go_simp;rfl))
      intro μ hg ih hbox hb
      have U:=Aside0.mk (Kd.Qu (by(with_reducible repeat first|apply Kd.Qk|apply Kd.Qj|apply Kd.Qn);exact a3.out) hb)
      have γ:=Aside0.mk (Kd.Qu (by(with_reducible repeat first|apply Kd.Qk|apply Kd.Qj|apply Kd.Qn);exact a4.out) hb)
      have ι :=Aside0.mk (Qm (g:= ν) (o:=.cells #[.int .i64 I,.int .i64 J] 23 (0,0)) (by(with_reducible repeat first|apply Qd|apply Qa|apply Qe);exact O.out) hb)
      have κ :=Aside0.mk (Qm (g:=ρ) (o:=.cells #[.slice η B.length δ,.slice θ D.length ε] 27 (0,0)) (by(with_reducible repeat first|apply Qd|apply Qa|apply Qe);exact Y.out) hb)
      have ξ :=Aside0.mk (Qm (g:= τ) (o:=.cells #[.int .i64 X,.int .i64 L,.int .i64 ζ] 29 (0,0)) (by(with_reducible repeat first|apply Qd|apply Qa|apply Qe);exact Z.out) hb)
      have χ :=Aside0.mk (Qt (by repeat(first|(with_reducible first|exact HB.out|apply Qh|apply Qb|apply Qf|refine Qc ?_ a2.out|refine Qc ?_ a6.out|refine Qc ?_ a8.out)|exact HB.out)) hb)
      have a1:=Aside0.mk (hbox)
      have ak:=Aside0.mk ((by rw[hg];exact(Qi (by repeat(first|(with_reducible first|exact HB.out|apply Qh|apply Qb|apply Qf|refine Qc ?_ a2.out|refine Qc ?_ a6.out|refine Qc ?_ a8.out)|exact HB.out))):w.heap.size ≤ μ))
      have am:=Aside0.mk ((by rw[hg];exact(Qi (by repeat(first|(with_reducible first|exact HB.out|apply Qh|apply Qb|apply Qf|refine Qc ?_ a2.out|refine Qc ?_ a6.out|refine Qc ?_ a8.out)|exact HB.out))):w.heap.size ≤ μ))
      have ax:=Aside0.mk ((by rw[hg];exact Nat.ne_of_lt (Q3 (g:= ν) (o:=.cells #[.int .i64 I,.int .i64 J] 23 (0,0)) (by(with_reducible repeat first|apply Qd|apply Qa|apply Qe);exact O.out)): ν ≠ μ))
      have ap:=Aside0.mk ((by rw[hg];exact Nat.ne_of_gt (Q3 (g:= ν) (o:=.cells #[.int .i64 I,.int .i64 J] 23 (0,0)) (by(with_reducible repeat first|apply Qd|apply Qa|apply Qe);exact O.out)): μ ≠ ν))
      have av:=Aside0.mk ((by rw[hg];exact Nat.ne_of_lt (Q3 (g:=ρ) (o:=.cells #[.slice η B.length δ,.slice θ D.length ε] 27 (0,0)) (by(with_reducible repeat first|apply Qd|apply Qa|apply Qe);exact Y.out)):ρ ≠ μ))
      have b0:=Aside0.mk ((by rw[hg];exact Nat.ne_of_gt (Q3 (g:=ρ) (o:=.cells #[.slice η B.length δ,.slice θ D.length ε] 27 (0,0)) (by(with_reducible repeat first|apply Qd|apply Qa|apply Qe);exact Y.out)): μ ≠ ρ))
      have b8:=Aside0.mk ((by rw[hg];exact Nat.ne_of_lt (Q3 (g:= τ) (o:=.cells #[.int .i64 X,.int .i64 L,.int .i64 ζ] 29 (0,0)) (by(with_reducible repeat first|apply Qd|apply Qa|apply Qe);exact Z.out)): τ ≠ μ))
      have b9:=Aside0.mk ((by rw[hg];exact Nat.ne_of_gt (Q3 (g:= τ) (o:=.cells #[.int .i64 X,.int .i64 L,.int .i64 ζ] 29 (0,0)) (by(with_reducible repeat first|apply Qd|apply Qa|apply Qe);exact Z.out)): μ ≠ τ))
      clear a3
      clear a4
      clear O
      clear Y
      clear Z
      clear HB
      have a3:=U
      have a4:=γ
      have O:= ι
      have Y:= κ
      have Z:= ξ
      have HB:= χ
      have a5:=a1
      have cy:=ak
      have au:=am
      have an:=ax
      have b1:=ap
      have ao:=av
      have b2:=b0
      have al:=b8
      have b3:=b9
      clear U γ ι κ ξ χ a1 ak am ax ap av b0 b8 b9
      clear hb hbox hg
      obtain⟨dh,di,dj⟩:=Kd.Q4 a3.out
      (first|subst dj|(injection dj with ψ aa ω;have ab:= ψ.symm;have ac:= ω.symm;clear ψ aa ω;subst ab;subst ac))
      obtain⟨cg,ch,ci⟩:=Kd.Q4 a4.out
      (first|subst ci|(injection ci with ψ aa ω;have ab:= ψ.symm;have ac:= ω.symm;clear ψ aa ω;subst ab;subst ac))
      refine hK.out _ _ ⟨qc O,qc O,qc Y,qc Y,qc Z,qc Z,qc Z⟩ (fun hHeld=>?_)
      clear hK K
      refine qN (some 7) ?_
      refine Zg (i:=4) (N:=some 21) #[true,true,true,true,true,false,false,false,true,false,false] rfl rfl (Q1 HT_.out kr) (by decide) (fun K hK=>?_)
      refine Ze Try.func11 kr rfl #[.agg #[.int .i64 I,.int .i64 J],.agg #[.slice dh bn.length di,.slice cg bo.length ch],.agg #[.int .i64 X,.int .i64 L,.int .i64 ζ]] (by rfl) rfl rfl (by(try simp only[List.map_toArray,List.map_cons,List.map_nil]);first|done|rfl|(simp only[List.length_drop,List.length_take];rfl)) ?_
      with_reducible refine(call_Press.calls k I J _ _ bn _ _ bo X L ζ a9 ae cd _ ?side1 ?side2 ?side3 ?side4 A7.out).mono ?_
      (case side1=>repeat(first|exact(Kd.Qo a3.out).2.2|(with_reducible refine Kd.Za ?_ _)|(with_reducible refine Kd.Q9 ?_ _)|(with_reducible refine Kd.Zf ?_)))
      (case side2=>exact(Kd.Qo a3.out).2.1)
      (case side3=>repeat(first|exact(Kd.Qo a4.out).2.2|(with_reducible refine Kd.Za ?_ _)|(with_reducible refine Kd.Q9 ?_ _)|(with_reducible refine Kd.Zf ?_)))
      (case side4=>exact(Kd.Qo a4.out).2.1)
      rintro e iu ⟨cr,ct,rfl,φ,a7,hb⟩
      refine⟨_,rfl, ?_⟩
      have U:=Aside0.mk (Kd.Q7 (by(with_reducible repeat first|apply Kd.Qk|apply Kd.Qj|apply Kd.Qn);exact a3.out) (Kd.Zh φ) hb)
      have γ:=Aside0.mk (Kd.Q7 (by(with_reducible repeat first|apply Kd.Qk|apply Kd.Qj|apply Kd.Qn);exact a4.out) (Kd.Zh a7) hb)
      have ι :=Aside0.mk (Kd.Q2 (Kd.Zl φ (Kd.Zy (by(with_reducible repeat first|apply Kd.Qk|apply Kd.Qj|apply Kd.Qn);exact a3.out))) (Qi (by repeat(first|(with_reducible first|exact HB.out|apply Qh|apply Qb|apply Qf|refine Qc ?_ a2.out|refine Qc ?_ a6.out|refine Qc ?_ a8.out|refine Qc ?_ au.out)|exact HB.out))))
      have κ :=Aside0.mk (Kd.Q2 (Kd.Zl a7 (Kd.Zy (by(with_reducible repeat first|apply Kd.Qk|apply Kd.Qj|apply Kd.Qn);exact a4.out))) (Qi (by repeat(first|(with_reducible first|exact HB.out|apply Qh|apply Qb|apply Qf|refine Qc ?_ a2.out|refine Qc ?_ a6.out|refine Qc ?_ a8.out|refine Qc ?_ au.out)|exact HB.out))))
      have ξ :=Aside0.mk (Qm (g:= ν) (o:=.cells #[.int .i64 I,.int .i64 J] 23 (0,0)) (by(with_reducible repeat first|apply Qd|apply Qa|apply Qe);exact O.out) hb)
      have χ :=Aside0.mk (Qm (g:=ρ) (o:=.cells #[.slice η B.length δ,.slice θ D.length ε] 27 (0,0)) (by(with_reducible repeat first|apply Qd|apply Qa|apply Qe);exact Y.out) hb)
      have a1:=Aside0.mk (Qm (g:= τ) (o:=.cells #[.int .i64 X,.int .i64 L,.int .i64 ζ] 29 (0,0)) (by(with_reducible repeat first|apply Qd|apply Qa|apply Qe);exact Z.out) hb)
      have ak:=Aside0.mk (Qm (g:= μ) (o:=.cells #[.slice none 0 0,.slice none 0 0] 27 (0,0)) (by(with_reducible repeat first|apply Qd|apply Qa|apply Qe);exact a5.out) hb)
      have am:=Aside0.mk (Qt (by repeat(first|(with_reducible first|exact HB.out|apply Qh|apply Qb|apply Qf|refine Qc ?_ a2.out|refine Qc ?_ a6.out|refine Qc ?_ a8.out|refine Qc ?_ au.out)|exact HB.out)) hb)
      clear a3
      clear a4
      clear O
      clear Y
      clear Z
      clear a5
      clear HB
      have a3:=U
      have a4:=γ
      have ai:= ι
      have aj:= κ
      have O:= ξ
      have Y:= χ
      have Z:=a1
      have a5:=ak
      have HB:=am
      clear U γ ι κ ξ χ a1 ak am
      (try clear hb)
      (try clear a0)
      (try clear hk)
      (try clear hi)
      (try clear φ)
      (try clear a7)
      refine hK.out _ _ ⟨qc O,qc O,qc Y,qc Y,qc Z,qc Z,qc Z⟩ (fun hHeld=>?_)
      clear hK K
      refine qN (some 21) ?_
      refine qP 5 (some 16) (qB 11 319) HT_ ?_
      refine qP 6 (some 22) (qB 11 383) HT_ ?_
      refine qP 7 (some 23) (qB 11 511) HT_ ?_
      exact Xj (by simp only[Zx,Act.put,qS]) (hCont (.slice dh bn.length di,.slice cg bo.length ch,cr,ct,μ) _ ⟨hHeld,(by(with_reducible repeat first|apply Kd.Qk|apply Kd.Qj|apply Kd.Qn);exact Kd.Qq a3.out (fun _ hk=>hk.2)),(by(with_reducible repeat first|apply Kd.Qk|apply Kd.Qj|apply Kd.Qn);exact Kd.Qq a4.out (fun _ hk=>hk.2)),(by(with_reducible repeat first|apply Kd.Qk|apply Kd.Qj|apply Kd.Qn);exact Kd.Qq ai.out (fun _ hk=>hk.2)),(by(with_reducible repeat first|apply Kd.Qk|apply Kd.Qj|apply Kd.Qn);exact Kd.Qq aj.out (fun _ hk=>hk.2)),(by(with_reducible repeat first|apply Qd|apply Qa|apply Qe);exact O.out),(by(with_reducible repeat first|apply Qd|apply Qa|apply Qe);exact Y.out),(by(with_reducible repeat first|apply Qd|apply Qa|apply Qe);exact Z.out),(by(with_reducible repeat first|apply Qd|apply Qa|apply Qe);exact a5.out),cy.out,au.out,an.out,b1.out,ao.out,b2.out,al.out,b3.out,(by repeat(first|(with_reducible first|exact HB.out|apply Qh|apply Qb|apply Qf|refine Qc ?_ a2.out|refine Qc ?_ a6.out|refine Qc ?_ a8.out|refine Qc ?_ au.out)|exact HB.out))⟩)
    ·skip
     refine Xk ?hg (N:=7) ?hd (cs:=#[.slice none 0 0,.slice none 0 0]) (t:=27) ?hr ?_;(case hd=>rfl);(case hg=>rfl);(case hr=>first|(go_simp;done)|(go_simp;rfl))
     intro μ hg ik hbox hb
     have U:=Aside0.mk (Qm (g:= ν) (o:=.cells #[.int .i64 I,.int .i64 J] 23 (0,0)) (by(with_reducible repeat first|apply Qd|apply Qa|apply Qe);exact O.out) hb)
     have γ:=Aside0.mk (Qm (g:=ρ) (o:=.cells #[.slice η B.length δ,.slice θ D.length ε] 27 (0,0)) (by(with_reducible repeat first|apply Qd|apply Qa|apply Qe);exact Y.out) hb)
     have ι :=Aside0.mk (Qm (g:= τ) (o:=.cells #[.int .i64 X,.int .i64 L,.int .i64 ζ] 29 (0,0)) (by(with_reducible repeat first|apply Qd|apply Qa|apply Qe);exact Z.out) hb)
     have κ :=Aside0.mk (Qt (by repeat(first|(with_reducible first|exact HB.out|apply Qh|apply Qb|apply Qf|refine Qc ?_ a2.out|refine Qc ?_ a6.out|refine Qc ?_ a8.out)|exact HB.out)) hb)
     have ξ :=Aside0.mk (hbox)
     have χ :=Aside0.mk ((by rw[hg];exact(Qi (by repeat(first|(with_reducible first|exact HB.out|apply Qh|apply Qb|apply Qf|refine Qc ?_ a2.out|refine Qc ?_ a6.out|refine Qc ?_ a8.out)|exact HB.out))):w.heap.size ≤ μ))
     have a1:=Aside0.mk ((by rw[hg];exact(Qi (by repeat(first|(with_reducible first|exact HB.out|apply Qh|apply Qb|apply Qf|refine Qc ?_ a2.out|refine Qc ?_ a6.out|refine Qc ?_ a8.out)|exact HB.out))):w.heap.size ≤ μ))
     have ak:=Aside0.mk ((by rw[hg];exact Nat.ne_of_lt (Q3 (g:= ν) (o:=.cells #[.int .i64 I,.int .i64 J] 23 (0,0)) (by(with_reducible repeat first|apply Qd|apply Qa|apply Qe);exact O.out)): ν ≠ μ))
     have am:=Aside0.mk ((by rw[hg];exact Nat.ne_of_gt (Q3 (g:= ν) (o:=.cells #[.int .i64 I,.int .i64 J] 23 (0,0)) (by(with_reducible repeat first|apply Qd|apply Qa|apply Qe);exact O.out)): μ ≠ ν))
     have ax:=Aside0.mk ((by rw[hg];exact Nat.ne_of_lt (Q3 (g:=ρ) (o:=.cells #[.slice η B.length δ,.slice θ D.length ε] 27 (0,0)) (by(with_reducible repeat first|apply Qd|apply Qa|apply Qe);exact Y.out)):ρ ≠ μ))
     have ap:=Aside0.mk ((by rw[hg];exact Nat.ne_of_gt (Q3 (g:=ρ) (o:=.cells #[.slice η B.length δ,.slice θ D.length ε] 27 (0,0)) (by(with_reducible repeat first|apply Qd|apply Qa|apply Qe);exact Y.out)): μ ≠ ρ))
     have av:=Aside0.mk ((by rw[hg];exact Nat.ne_of_lt (Q3 (g:= τ) (o:=.cells #[.int .i64 X,.int .i64 L,.int .i64 ζ] 29 (0,0)) (by(with_reducible repeat first|apply Qd|apply Qa|apply Qe);exact Z.out)): τ ≠ μ))
     have b0:=Aside0.mk ((by rw[hg];exact Nat.ne_of_gt (Q3 (g:= τ) (o:=.cells #[.int .i64 X,.int .i64 L,.int .i64 ζ] 29 (0,0)) (by(with_reducible repeat first|apply Qd|apply Qa|apply Qe);exact Z.out)): μ ≠ τ))
     clear O
     clear Y
     clear Z
     clear HB
     have O:=U
     have Y:=γ
     have Z:= ι
     have HB:= κ
     have a5:= ξ
     have cy:= χ
     have au:=a1
     have an:=ak
     have b1:=am
     have ao:=ax
     have b2:=ap
     have al:=av
     have b3:=b0
     clear U γ ι κ ξ χ a1 ak am ax ap av b0
     clear hb hbox hg
     refine hK.out _ _ ⟨qc O,qc O,qc Y,qc Y,qc Z,qc Z,qc Z⟩ (fun hHeld=>?_)
     clear hK K
     refine qN (some 7) ?_
     refine Zg (i:=2) (N:=some 19) #[true,true,true,true,false,false,false,false,true,false,false] rfl rfl (Q1 HT_.out kr) (by decide) (fun K hK=>?_)
     refine Ze Try.func12 kr rfl #[.agg #[.slice η B.length δ,.slice θ D.length ε]] (by rfl) rfl rfl (by(try simp only[List.map_toArray,List.map_cons,List.map_nil]);first|done|rfl|(simp only[List.length_drop,List.length_take];rfl)) ?_
     with_reducible refine(newellaw19_Own.calls _ _ B _ _ D bn bo _ ?side1 ?side2 ?side3 ?side4 A6.out).mono ?_
     (case side1=>repeat(first|exact(Kd.Qx ag.out HB.out)|(with_reducible refine Kd.Za ?_ _)|(with_reducible refine Kd.Q9 ?_ _)|(with_reducible refine Kd.Zf ?_)))
     (case side2=>exact ar.out)
     (case side3=>repeat(first|exact(Kd.Qx ah.out HB.out)|(with_reducible refine Kd.Za ?_ _)|(with_reducible refine Kd.Q9 ?_ _)|(with_reducible refine Kd.Zf ?_)))
     (case side4=>exact aw.out)
     rintro e ih ⟨e3,e4,rfl,φ,a7,hb⟩
     refine⟨_,rfl, ?_⟩
     have U:=Aside0.mk (Kd.Q2 φ (Qi (by repeat(first|(with_reducible first|exact HB.out|apply Qh|apply Qb|apply Qf|refine Qc ?_ a2.out|refine Qc ?_ a6.out|refine Qc ?_ a8.out|refine Qc ?_ au.out)|exact HB.out))))
     have γ:=Aside0.mk (Kd.Q2 a7 (Qi (by repeat(first|(with_reducible first|exact HB.out|apply Qh|apply Qb|apply Qf|refine Qc ?_ a2.out|refine Qc ?_ a6.out|refine Qc ?_ a8.out|refine Qc ?_ au.out)|exact HB.out))))
     have ι :=Aside0.mk (Qm (g:= ν) (o:=.cells #[.int .i64 I,.int .i64 J] 23 (0,0)) (by(with_reducible repeat first|apply Qd|apply Qa|apply Qe);exact O.out) hb)
     have κ :=Aside0.mk (Qm (g:=ρ) (o:=.cells #[.slice η B.length δ,.slice θ D.length ε] 27 (0,0)) (by(with_reducible repeat first|apply Qd|apply Qa|apply Qe);exact Y.out) hb)
     have ξ :=Aside0.mk (Qm (g:= τ) (o:=.cells #[.int .i64 X,.int .i64 L,.int .i64 ζ] 29 (0,0)) (by(with_reducible repeat first|apply Qd|apply Qa|apply Qe);exact Z.out) hb)
     have χ :=Aside0.mk (Qm (g:= μ) (o:=.cells #[.slice none 0 0,.slice none 0 0] 27 (0,0)) (by(with_reducible repeat first|apply Qd|apply Qa|apply Qe);exact a5.out) hb)
     have a1:=Aside0.mk (Qt (by repeat(first|(with_reducible first|exact HB.out|apply Qh|apply Qb|apply Qf|refine Qc ?_ a2.out|refine Qc ?_ a6.out|refine Qc ?_ a8.out|refine Qc ?_ au.out)|exact HB.out)) hb)
     clear O
     clear Y
     clear Z
     clear a5
     clear HB
     have a3:=U
     have a4:=γ
     have O:= ι
     have Y:= κ
     have Z:= ξ
     have a5:= χ
     have HB:=a1
     clear U γ ι κ ξ χ a1
     (try clear hb)
     (try clear a0)
     (try clear hk)
     (try clear hi)
     (try clear φ)
     (try clear a7)
     obtain⟨dh,di,dj⟩:=Kd.Q4 a3.out
     (first|subst dj|(injection dj with ψ aa ω;have ab:= ψ.symm;have ac:= ω.symm;clear ψ aa ω;subst ab;subst ac))
     obtain⟨cg,ch,ci⟩:=Kd.Q4 a4.out
     (first|subst ci|(injection ci with ψ aa ω;have ab:= ψ.symm;have ac:= ω.symm;clear ψ aa ω;subst ab;subst ac))
     refine hK.out _ _ ⟨qc O,qc O,qc Y,qc Y,qc Z,qc Z,qc Z⟩ (fun hHeld=>?_)
     clear hK K
     refine qN (some 19) ?_
     refine Zg (i:=4) (N:=some 21) #[true,true,true,true,true,false,false,false,true,false,false] rfl rfl (Q1 HT_.out kr) (by decide) (fun K hK=>?_)
     refine Ze Try.func11 kr rfl #[.agg #[.int .i64 I,.int .i64 J],.agg #[.slice dh bn.length di,.slice cg bo.length ch],.agg #[.int .i64 X,.int .i64 L,.int .i64 ζ]] (by rfl) rfl rfl (by(try simp only[List.map_toArray,List.map_cons,List.map_nil]);first|done|rfl|(simp only[List.length_drop,List.length_take];rfl)) ?_
     with_reducible refine(call_Press.calls k I J _ _ bn _ _ bo X L ζ a9 ae cd _ ?side1 ?side2 ?side3 ?side4 A7.out).mono ?_
     (case side1=>repeat(first|exact(Kd.Qo a3.out).2.2|(with_reducible refine Kd.Za ?_ _)|(with_reducible refine Kd.Q9 ?_ _)|(with_reducible refine Kd.Zf ?_)))
     (case side2=>exact(Kd.Qo a3.out).2.1)
     (case side3=>repeat(first|exact(Kd.Qo a4.out).2.2|(with_reducible refine Kd.Za ?_ _)|(with_reducible refine Kd.Q9 ?_ _)|(with_reducible refine Kd.Zf ?_)))
     (case side4=>exact(Kd.Qo a4.out).2.1)
     rintro e iu ⟨cr,ct,rfl,φ,a7,hb⟩
     refine⟨_,rfl, ?_⟩
     have U:=Aside0.mk (Kd.Q7 (by(with_reducible repeat first|apply Kd.Qk|apply Kd.Qj|apply Kd.Qn);exact a3.out) (Kd.Zh φ) hb)
     have γ:=Aside0.mk (Kd.Q7 (by(with_reducible repeat first|apply Kd.Qk|apply Kd.Qj|apply Kd.Qn);exact a4.out) (Kd.Zh a7) hb)
     have ι :=Aside0.mk (Kd.Q2 (Kd.Zl φ (Kd.Zy (by(with_reducible repeat first|apply Kd.Qk|apply Kd.Qj|apply Kd.Qn);exact a3.out))) (Qi (by repeat(first|(with_reducible first|exact HB.out|apply Qh|apply Qb|apply Qf|refine Qc ?_ a2.out|refine Qc ?_ a6.out|refine Qc ?_ a8.out|refine Qc ?_ au.out)|exact HB.out))))
     have κ :=Aside0.mk (Kd.Q2 (Kd.Zl a7 (Kd.Zy (by(with_reducible repeat first|apply Kd.Qk|apply Kd.Qj|apply Kd.Qn);exact a4.out))) (Qi (by repeat(first|(with_reducible first|exact HB.out|apply Qh|apply Qb|apply Qf|refine Qc ?_ a2.out|refine Qc ?_ a6.out|refine Qc ?_ a8.out|refine Qc ?_ au.out)|exact HB.out))))
     have ξ :=Aside0.mk (Qm (g:= ν) (o:=.cells #[.int .i64 I,.int .i64 J] 23 (0,0)) (by(with_reducible repeat first|apply Qd|apply Qa|apply Qe);exact O.out) hb)
     have χ :=Aside0.mk (Qm (g:=ρ) (o:=.cells #[.slice η B.length δ,.slice θ D.length ε] 27 (0,0)) (by(with_reducible repeat first|apply Qd|apply Qa|apply Qe);exact Y.out) hb)
     have a1:=Aside0.mk (Qm (g:= τ) (o:=.cells #[.int .i64 X,.int .i64 L,.int .i64 ζ] 29 (0,0)) (by(with_reducible repeat first|apply Qd|apply Qa|apply Qe);exact Z.out) hb)
     have ak:=Aside0.mk (Qm (g:= μ) (o:=.cells #[.slice none 0 0,.slice none 0 0] 27 (0,0)) (by(with_reducible repeat first|apply Qd|apply Qa|apply Qe);exact a5.out) hb)
     have am:=Aside0.mk (Qt (by repeat(first|(with_reducible first|exact HB.out|apply Qh|apply Qb|apply Qf|refine Qc ?_ a2.out|refine Qc ?_ a6.out|refine Qc ?_ a8.out|refine Qc ?_ au.out)|exact HB.out)) hb)
     clear a3
     clear a4
     clear O
     clear Y
     clear Z
     clear a5
     clear HB
     have a3:=U
     have a4:=γ
     have ai:= ι
     have aj:= κ
     have O:= ξ
     have Y:= χ
     have Z:=a1
     have a5:=ak
     have HB:=am
     clear U γ ι κ ξ χ a1 ak am
     (try clear hb)
     (try clear a0)
     (try clear hk)
     (try clear hi)
     (try clear φ)
     (try clear a7)
     refine hK.out _ _ ⟨qc O,qc O,qc Y,qc Y,qc Z,qc Z,qc Z⟩ (fun hHeld=>?_)
     clear hK K
     refine qN (some 21) ?_
     refine qP 5 (some 16) (qB 11 319) HT_ ?_
     refine qP 6 (some 22) (qB 11 383) HT_ ?_
     refine qP 7 (some 23) (qB 11 511) HT_ ?_
     exact Xj (by simp only[Zx,Act.put,qS]) (hCont (.slice dh bn.length di,.slice cg bo.length ch,cr,ct,μ) _ ⟨hHeld,(by(with_reducible repeat first|apply Kd.Qk|apply Kd.Qj|apply Kd.Qn);exact Kd.Qq a3.out (fun _ hk=>hk.2)),(by(with_reducible repeat first|apply Kd.Qk|apply Kd.Qj|apply Kd.Qn);exact Kd.Qq a4.out (fun _ hk=>hk.2)),(by(with_reducible repeat first|apply Kd.Qk|apply Kd.Qj|apply Kd.Qn);exact Kd.Qq ai.out (fun _ hk=>hk.2)),(by(with_reducible repeat first|apply Kd.Qk|apply Kd.Qj|apply Kd.Qn);exact Kd.Qq aj.out (fun _ hk=>hk.2)),(by(with_reducible repeat first|apply Qd|apply Qa|apply Qe);exact O.out),(by(with_reducible repeat first|apply Qd|apply Qa|apply Qe);exact Y.out),(by(with_reducible repeat first|apply Qd|apply Qa|apply Qe);exact Z.out),(by(with_reducible repeat first|apply Qd|apply Qa|apply Qe);exact a5.out),cy.out,au.out,an.out,b1.out,ao.out,b2.out,al.out,b3.out,(by repeat(first|(with_reducible first|exact HB.out|apply Qh|apply Qb|apply Qf|refine Qc ?_ a2.out|refine Qc ?_ a6.out|refine Qc ?_ a8.out|refine Qc ?_ au.out)|exact HB.out))⟩)
   rintro⟨e3,e4,cr,ct,μ⟩ bw ⟨hS_,cj,ck,cm,cn,co,dv,dw,dx,dy,dz,d9,da,db,dc,dd,de,df⟩
   have U:Aside0 (Kd.R k56 56 bw w.heap.size (fun k_=>some k_≠(cr:Value).ownBlock) e3 bn):=⟨cj⟩
   have γ:Aside0 (Kd.R k62 62 bw w.heap.size (fun k_=>some k_≠(ct:Value).ownBlock) e4 bo):=⟨ck⟩
   have ι :Aside0 (Kd.R k56 56 bw w.heap.size (fun k_=>some k_≠(e3:Value).ownBlock) cr a9):=⟨cm⟩
   have κ :Aside0 (Kd.R k62 62 bw w.heap.size (fun k_=>some k_≠(e4:Value).ownBlock) ct ae):=⟨cn⟩
   have ξ :Aside0 (bw.heap[ν]?=some (.cells #[.int .i64 I,.int .i64 J] 23 (0,0))):=⟨co⟩
   have χ :Aside0 (bw.heap[ρ]?=some (.cells #[.slice η B.length δ,.slice θ D.length ε] 27 (0,0))):=⟨dv⟩
   have a1:Aside0 (bw.heap[τ]?=some (.cells #[.int .i64 X,.int .i64 L,.int .i64 ζ] 29 (0,0))):=⟨dw⟩
   have ak:Aside0 (bw.heap[μ]?=some (.cells #[.slice none 0 0,.slice none 0 0] 27 (0,0))):=⟨dx⟩
   have am:Aside0 (w.heap.size ≤ μ):=⟨dy⟩
   have ax:Aside0 (w.heap.size ≤ μ):=⟨dz⟩
   have ap:Aside0 (ν ≠ μ):=⟨d9⟩
   have av:Aside0 (μ ≠ ν):=⟨da⟩
   have b0:Aside0 (ρ ≠ μ):=⟨db⟩
   have b8:Aside0 (μ ≠ ρ):=⟨dc⟩
   have b9:Aside0 (τ ≠ μ):=⟨dd⟩
   have be:Aside0 (μ ≠ τ):=⟨de⟩
   have bf:Aside0 (Below w.heap.size w bw):=⟨df⟩
   clear O
   clear Y
   clear Z
   clear HB
   clear cj ck cm cn co dv dw dx dy dz d9 da db dc dd de df
   have a3:=U
   have a4:=γ
   have ai:= ι
   have aj:= κ
   have O:= ξ
   have Y:= χ
   have Z:=a1
   have a5:=ak
   have cy:=am
   have au:=ax
   have an:=ap
   have b1:=av
   have ao:=b0
   have b2:=b8
   have al:=b9
   have b3:=be
   have HB:=bf
   clear U γ ι κ ξ χ a1 ak am ax ap av b0 b8 b9 be bf
   have hHeld:bw.cell? ⟨ν,0,none⟩=some (.int .i64 I)∧bw.cell? ⟨ν,1,none⟩=some (.int .i64 J)∧bw.cell? ⟨ρ,0,none⟩=some (.slice η B.length δ)∧bw.cell? ⟨ρ,1,none⟩=some (.slice θ D.length ε)∧bw.cell? ⟨τ,0,none⟩=some (.int .i64 X)∧bw.cell? ⟨τ,1,none⟩=some (.int .i64 L)∧bw.cell? ⟨τ,2,none⟩=some (.int .i64 ζ):=hS_
   obtain⟨f8,f9,jl⟩:=Kd.Q4 ai.out
   (first|subst jl|(injection jl with ψ aa ω;have ab:= ψ.symm;have ac:= ω.symm;clear ψ aa ω;subst ab;subst ac))
   obtain⟨fh,fi,jm⟩:=Kd.Q4 aj.out
   (first|subst jm|(injection jm with ψ aa ω;have ab:= ψ.symm;have ac:= ω.symm;clear ψ aa ω;subst ab;subst ac))
   refine Xj (a':=?_) ?_ ?_
   rotate_left
   ·simp only[Zx,Act.put,qS]
    rfl
   refine Zg (i:=9) (N:=none) #[true,true,true,true,true,true,true,true,true,true,false] rfl rfl (Q1 HT_.out kr) (by decide) (fun K hK=>?_)
   have mu:bw.cell? ⟨μ,0,none⟩=some (.slice none 0 0):=(Ql a5.out 0).trans rfl
   have mj:=Q6 a5.out 0
   have l8:=an.out
   have l9:=ao.out
   have lb:=al.out
   have lc:=b1.out
   have lf:=b2.out
   have lg:=b3.out
   have mw:bw.cell? ⟨μ,1,none⟩=some (.slice none 0 0):=(Ql a5.out 1).trans rfl
   have ml:=Q6 a5.out 1
   have lh:=an.out
   have ll:=ao.out
   have lm:=al.out
   have ln:=b1.out
   have lp:=b2.out
   have lq:=b3.out
   refine Js (w1:=?_) (by rfl) rfl ?_ ?_
   rotate_left
   ·go_simp
    rfl
   refine hK.out _ _ ⟨((cell_far (p:=⟨μ,_,none⟩) an.out _).trans (((cell_far (p:=⟨μ,_,none⟩) an.out _).trans (hHeld.1)))),((cell_far (p:=⟨μ,_,none⟩) an.out _).trans (((cell_far (p:=⟨μ,_,none⟩) an.out _).trans (hHeld.2.1)))),((cell_far (p:=⟨μ,_,none⟩) ao.out _).trans (((cell_far (p:=⟨μ,_,none⟩) ao.out _).trans (hHeld.2.2.1)))),((cell_far (p:=⟨μ,_,none⟩) ao.out _).trans (((cell_far (p:=⟨μ,_,none⟩) ao.out _).trans (hHeld.2.2.2.1)))),((cell_far (p:=⟨μ,_,none⟩) al.out _).trans (((cell_far (p:=⟨μ,_,none⟩) al.out _).trans (hHeld.2.2.2.2.1)))),((cell_far (p:=⟨μ,_,none⟩) al.out _).trans (((cell_far (p:=⟨μ,_,none⟩) al.out _).trans (hHeld.2.2.2.2.2.1)))),((cell_far (p:=⟨μ,_,none⟩) al.out _).trans (((cell_far (p:=⟨μ,_,none⟩) al.out _).trans (hHeld.2.2.2.2.2.2))))⟩ (fun hHeld=>?_)
   clear hK K
   refine qP 10 (some 8) (qB 11 2047) HT_ ?_
   refine Zu (Zj HT_.out kr) ?_
   try go_wp2_with (first|((with_reducible refine Q0 (f:=10) rfl ?_);refine Zk (some 26) rfl rfl Try.func10 kr rfl #[] rfl (by(try simp only[List.map_toArray,List.map_cons,List.map_nil]);first|done|rfl|(simp only[List.length_drop,List.length_take];rfl)) ?_;(with_reducible refine(newellaw19_awake.calls k  d8 _ mg.out).mono ?_);rintro e n2 ⟨rfl,hb⟩;refine⟨_,rfl, ?_⟩;have U:=Aside0.mk (Kd.Qu (by(with_reducible repeat first|apply Kd.Qk|apply Kd.Qj|apply Kd.Qn);exact(Kd.Qq (Kd.Qs (p:=⟨μ,1,none⟩) (Kd.Qs (p:=⟨μ,0,none⟩) (Kd.Qw a3.out a5.out (by decide)) (fun _ hk=>hk.2) (.slice f8 a9.length f9)) (fun _ hk=>hk.2) (.slice fh ae.length fi)) (fun _ h_=>h_.1))) hb);have γ:=Aside0.mk (Kd.Qu (by(with_reducible repeat first|apply Kd.Qk|apply Kd.Qj|apply Kd.Qn);exact(Kd.Qq (Kd.Qs (p:=⟨μ,1,none⟩) (Kd.Qs (p:=⟨μ,0,none⟩) (Kd.Qw a4.out a5.out (by decide)) (fun _ hk=>hk.2) (.slice f8 a9.length f9)) (fun _ hk=>hk.2) (.slice fh ae.length fi)) (fun _ h_=>h_.1))) hb);have ι :=Aside0.mk (Kd.Qu (by(with_reducible repeat first|apply Kd.Qk|apply Kd.Qj|apply Kd.Qn);exact(Kd.Qq (Kd.Qs (p:=⟨μ,1,none⟩) (Kd.Qs (p:=⟨μ,0,none⟩) (Kd.Qw ai.out a5.out (by decide)) (fun _ hk=>hk.2) (.slice f8 a9.length f9)) (fun _ hk=>hk.2) (.slice fh ae.length fi)) (fun _ h_=>h_.1))) hb);have κ :=Aside0.mk (Kd.Qu (by(with_reducible repeat first|apply Kd.Qk|apply Kd.Qj|apply Kd.Qn);exact(Kd.Qq (Kd.Qs (p:=⟨μ,1,none⟩) (Kd.Qs (p:=⟨μ,0,none⟩) (Kd.Qw aj.out a5.out (by decide)) (fun _ hk=>hk.2) (.slice f8 a9.length f9)) (fun _ hk=>hk.2) (.slice fh ae.length fi)) (fun _ h_=>h_.1))) hb);have ξ :=Aside0.mk (Qm (g:= ν) (o:=.cells #[.int .i64 I,.int .i64 J] 23 (0,0)) (by(with_reducible repeat first|apply Qd|apply Qa|apply Qe);refine Zm ?_ an.out _;(with_reducible repeat first|apply Qd|apply Qa|apply Qe);refine Zm ?_ an.out _;(with_reducible repeat first|apply Qd|apply Qa|apply Qe);exact O.out) hb);have χ :=Aside0.mk (Qm (g:=ρ) (o:=.cells #[.slice η B.length δ,.slice θ D.length ε] 27 (0,0)) (by(with_reducible repeat first|apply Qd|apply Qa|apply Qe);refine Zm ?_ ao.out _;(with_reducible repeat first|apply Qd|apply Qa|apply Qe);refine Zm ?_ ao.out _;(with_reducible repeat first|apply Qd|apply Qa|apply Qe);exact Y.out) hb);have a1:=Aside0.mk (Qm (g:= τ) (o:=.cells #[.int .i64 X,.int .i64 L,.int .i64 ζ] 29 (0,0)) (by(with_reducible repeat first|apply Qd|apply Qa|apply Qe);refine Zm ?_ al.out _;(with_reducible repeat first|apply Qd|apply Qa|apply Qe);refine Zm ?_ al.out _;(with_reducible repeat first|apply Qd|apply Qa|apply Qe);exact Z.out) hb);have ak:=Aside0.mk (Qm (g:= μ) (o:=.cells #[.slice f8 a9.length f9,.slice fh ae.length fi] 27 (0,0)) (by(with_reducible repeat first|apply Qd|apply Qa|apply Qe);refine Qv (cs:=#[.slice f8 a9.length f9,.slice none 0 0]) ?_ 1 _ rfl;(with_reducible repeat first|apply Qd|apply Qa|apply Qe);refine Qv (cs:=#[.slice none 0 0,.slice none 0 0]) ?_ 0 _ rfl;(with_reducible repeat first|apply Qd|apply Qa|apply Qe);exact a5.out) hb);have am:=Aside0.mk (Qt (by repeat(first|(with_reducible first|exact HB.out|apply Qh|apply Qb|apply Qf|refine Qc ?_ a2.out|refine Qc ?_ a6.out|refine Qc ?_ a8.out|refine Qc ?_ au.out)|exact HB.out)) hb);clear a3;clear a4;clear ai;clear aj;clear O;clear Y;clear Z;clear a5;clear HB;have a3:=U;have a4:=γ;have ai:= ι;have aj:= κ;have O:= ξ;have Y:= χ;have Z:=a1;have a5:=ak;have HB:=am;clear U γ ι κ ξ χ a1 ak am;(try clear hb);(try clear a0);(try clear hk);(try clear hi)))
   go_ret
   exact⟨by first|rfl|(simp[Qz,Qy] <;> rfl)|(simp[*,Qz,Qy] <;> rfl),by repeat(first|(with_reducible first|exact HB.out|apply Qh|apply Qb|apply Qf|refine Qc ?_ a2.out|refine Qc ?_ a6.out|refine Qc ?_ a8.out|refine Qc ?_ au.out)|exact HB.out)⟩
 ·replace c5:=Bool.eq_false_iff.mpr c5
  subst c5
  have H1:((newellaw19_awake.f k).bind fun e0=>(some e0))=some r:=by rw[if_neg (show ¬ (false=true) by decide)] at H;exact H
  clear H
  have H:=H1
  clear H1
  replace H:=Option.bind_eq_some_iff.mp H
  obtain⟨e0,jn,H⟩:=H
  replace H:(some e0)=some r:=H
  have lr:=Aside0.mk jn
  clear jn
  obtain rfl:=Option.some.inj H
  go_enter Try.func6,Try.ntmps6
  go_wp2_with (first|((with_reducible refine Qr (N:=3) rfl ?_);refine Q5 ?hg (N:=3) ?hd (cs:=#[.int .i64 I,.int .i64 J]) (t:=23) ?hr ?_;(case hd=>rfl);(case hg=>rfl);(case hr=>first|(go_simp;done)|(go_simp;rfl));intro ν hg ls hbox hb;have U:=Aside0.mk (Qt (by repeat(first|(with_reducible first|exact HB.out|apply Qh|apply Qb|apply Qf)|exact HB.out)) hb);have γ:=Aside0.mk (hbox);have ι :=Aside0.mk ((by rw[hg];exact(Qi (by repeat(first|(with_reducible first|exact HB.out|apply Qh|apply Qb|apply Qf)|exact HB.out))):w.heap.size ≤ ν));have κ :=Aside0.mk ((by rw[hg];exact(Qi (by repeat(first|(with_reducible first|exact HB.out|apply Qh|apply Qb|apply Qf)|exact HB.out))):w.heap.size ≤ ν));clear HB;have HB:=U;have O:=γ;have jf:= ι;have a2:= κ;clear U γ ι κ;clear hb hbox hg)|((with_reducible refine Qr (N:=4) rfl ?_);refine Q5 ?hg (N:=4) ?hd (cs:=#[.slice η B.length δ,.slice θ D.length ε]) (t:=27) ?hr ?_;(case hd=>rfl);(case hg=>rfl);(case hr=>first|(go_simp;done)|(go_simp;rfl));intro ρ hg lu hbox hb;have U:=Aside0.mk (Qm (g:= ν) (o:=.cells #[.int .i64 I,.int .i64 J] 23 (0,0)) (by(with_reducible repeat first|apply Qd|apply Qa|apply Qe);exact O.out) hb);have γ:=Aside0.mk (Qt (by repeat(first|(with_reducible first|exact HB.out|apply Qh|apply Qb|apply Qf|refine Qc ?_ a2.out)|exact HB.out)) hb);have ι :=Aside0.mk (hbox);have κ :=Aside0.mk ((by rw[hg];exact(Qi (by repeat(first|(with_reducible first|exact HB.out|apply Qh|apply Qb|apply Qf|refine Qc ?_ a2.out)|exact HB.out))):w.heap.size≤ρ));have ξ :=Aside0.mk ((by rw[hg];exact(Qi (by repeat(first|(with_reducible first|exact HB.out|apply Qh|apply Qb|apply Qf|refine Qc ?_ a2.out)|exact HB.out))):w.heap.size≤ρ));have χ :=Aside0.mk ((by rw[hg];exact Nat.ne_of_lt (Q3 (g:= ν) (o:=.cells #[.int .i64 I,.int .i64 J] 23 (0,0)) (by(with_reducible repeat first|apply Qd|apply Qa|apply Qe);exact O.out)): ν ≠ ρ));have a1:=Aside0.mk ((by rw[hg];exact Nat.ne_of_gt (Q3 (g:= ν) (o:=.cells #[.int .i64 I,.int .i64 J] 23 (0,0)) (by(with_reducible repeat first|apply Qd|apply Qa|apply Qe);exact O.out)):ρ ≠ ν));clear O;clear HB;have O:=U;have HB:=γ;have Y:= ι;have jg:= κ;have a6:= ξ;have cp:= χ;have cq:=a1;clear U γ ι κ ξ χ a1;clear hb hbox hg)|((with_reducible refine Qr (N:=5) rfl ?_);refine Q5 ?hg (N:=5) ?hd (cs:=#[.int .i64 X,.int .i64 L,.int .i64 ζ]) (t:=29) ?hr ?_;(case hd=>rfl);(case hg=>rfl);(case hr=>first|(go_simp;done)|(go_simp;rfl));intro τ hg lv hbox hb;have U:=Aside0.mk (Qm (g:= ν) (o:=.cells #[.int .i64 I,.int .i64 J] 23 (0,0)) (by(with_reducible repeat first|apply Qd|apply Qa|apply Qe);exact O.out) hb);have γ:=Aside0.mk (Qm (g:=ρ) (o:=.cells #[.slice η B.length δ,.slice θ D.length ε] 27 (0,0)) (by(with_reducible repeat first|apply Qd|apply Qa|apply Qe);exact Y.out) hb);have ι :=Aside0.mk (Qt (by repeat(first|(with_reducible first|exact HB.out|apply Qh|apply Qb|apply Qf|refine Qc ?_ a2.out|refine Qc ?_ a6.out)|exact HB.out)) hb);have κ :=Aside0.mk (hbox);have ξ :=Aside0.mk ((by rw[hg];exact(Qi (by repeat(first|(with_reducible first|exact HB.out|apply Qh|apply Qb|apply Qf|refine Qc ?_ a2.out|refine Qc ?_ a6.out)|exact HB.out))):w.heap.size ≤ τ));have χ :=Aside0.mk ((by rw[hg];exact(Qi (by repeat(first|(with_reducible first|exact HB.out|apply Qh|apply Qb|apply Qf|refine Qc ?_ a2.out|refine Qc ?_ a6.out)|exact HB.out))):w.heap.size ≤ τ));have a1:=Aside0.mk ((by rw[hg];exact Nat.ne_of_lt (Q3 (g:= ν) (o:=.cells #[.int .i64 I,.int .i64 J] 23 (0,0)) (by(with_reducible repeat first|apply Qd|apply Qa|apply Qe);exact O.out)): ν ≠ τ));have ak:=Aside0.mk ((by rw[hg];exact Nat.ne_of_gt (Q3 (g:= ν) (o:=.cells #[.int .i64 I,.int .i64 J] 23 (0,0)) (by(with_reducible repeat first|apply Qd|apply Qa|apply Qe);exact O.out)): τ ≠ ν));have am:=Aside0.mk ((by rw[hg];exact Nat.ne_of_lt (Q3 (g:=ρ) (o:=.cells #[.slice η B.length δ,.slice θ D.length ε] 27 (0,0)) (by(with_reducible repeat first|apply Qd|apply Qa|apply Qe);exact Y.out)):ρ ≠ τ));have ax:=Aside0.mk ((by rw[hg];exact Nat.ne_of_gt (Q3 (g:=ρ) (o:=.cells #[.slice η B.length δ,.slice θ D.length ε] 27 (0,0)) (by(with_reducible repeat first|apply Qd|apply Qa|apply Qe);exact Y.out)): τ ≠ ρ));clear O;clear Y;clear HB;have O:=U;have Y:=γ;have HB:= ι;have Z:= κ;have jh:= ξ;have a8:= χ;have dl:=a1;have dm:=ak;have d2:=am;have d3:=ax;clear U γ ι κ ξ χ a1 ak am ax;clear hb hbox hg;have k4:=cq.out;have k5:=cp.out;have k6:=d2.out;have k7:=d3.out;obtain⟨il,im,io,ip⟩:=qD2 Y.out)|((with_reducible refine Q0 (f:=9) rfl ?_);refine Zk (some 13) rfl rfl Try.func9 kr rfl #[.agg #[.slice η B.length δ,.slice θ D.length ε]] rfl (by(try simp only[List.map_toArray,List.map_cons,List.map_nil]);first|done|rfl|(simp only[List.length_drop,List.length_take];rfl)) ?_;(with_reducible refine(newelref19_Few.calls _ _ B _ _ D false _ ?side1 ?side2 ?side3 ?side4 A4.out).mono ?_);(case side1=>repeat(first|exact(Kd.Qx ag.out HB.out)|(with_reducible refine Kd.Za ?_ _)|(with_reducible refine Kd.Q9 ?_ _)|(with_reducible refine Kd.Zf ?_)));(case side2=>exact ar.out);(case side3=>repeat(first|exact(Kd.Qx ah.out HB.out)|(with_reducible refine Kd.Za ?_ _)|(with_reducible refine Kd.Q9 ?_ _)|(with_reducible refine Kd.Zf ?_)));(case side4=>exact aw.out);rintro e na ⟨rfl,hb⟩;refine⟨_,rfl, ?_⟩;have U:=Aside0.mk (Qm (g:= ν) (o:=.cells #[.int .i64 I,.int .i64 J] 23 (0,0)) (by(with_reducible repeat first|apply Qd|apply Qa|apply Qe);exact O.out) hb);have γ:=Aside0.mk (Qm (g:=ρ) (o:=.cells #[.slice η B.length δ,.slice θ D.length ε] 27 (0,0)) (by(with_reducible repeat first|apply Qd|apply Qa|apply Qe);exact Y.out) hb);have ι :=Aside0.mk (Qm (g:= τ) (o:=.cells #[.int .i64 X,.int .i64 L,.int .i64 ζ] 29 (0,0)) (by(with_reducible repeat first|apply Qd|apply Qa|apply Qe);exact Z.out) hb);have κ :=Aside0.mk (Qt (by repeat(first|(with_reducible first|exact HB.out|apply Qh|apply Qb|apply Qf|refine Qc ?_ a2.out|refine Qc ?_ a6.out|refine Qc ?_ a8.out)|exact HB.out)) hb);clear O;clear Y;clear Z;clear HB;have O:=U;have Y:=γ;have Z:= ι;have HB:= κ;clear U γ ι κ;(try clear hb);(try clear a0);(try clear hk);(try clear hi))|((with_reducible refine Q0 (f:=10) rfl ?_);refine Zk (some 15) rfl rfl Try.func10 kr rfl #[] rfl (by(try simp only[List.map_toArray,List.map_cons,List.map_nil]);first|done|rfl|(simp only[List.length_drop,List.length_take];rfl)) ?_;(with_reducible refine(newellaw19_awake.calls k  e0 _ lr.out).mono ?_);rintro e nb ⟨rfl,hb⟩;refine⟨_,rfl, ?_⟩;have U:=Aside0.mk (Qm (g:= ν) (o:=.cells #[.int .i64 I,.int .i64 J] 23 (0,0)) (by(with_reducible repeat first|apply Qd|apply Qa|apply Qe);exact O.out) hb);have γ:=Aside0.mk (Qm (g:=ρ) (o:=.cells #[.slice η B.length δ,.slice θ D.length ε] 27 (0,0)) (by(with_reducible repeat first|apply Qd|apply Qa|apply Qe);exact Y.out) hb);have ι :=Aside0.mk (Qm (g:= τ) (o:=.cells #[.int .i64 X,.int .i64 L,.int .i64 ζ] 29 (0,0)) (by(with_reducible repeat first|apply Qd|apply Qa|apply Qe);exact Z.out) hb);have κ :=Aside0.mk (Qt (by repeat(first|(with_reducible first|exact HB.out|apply Qh|apply Qb|apply Qf|refine Qc ?_ a2.out|refine Qc ?_ a6.out|refine Qc ?_ a8.out)|exact HB.out)) hb);clear O;clear Y;clear Z;clear HB;have O:=U;have Y:=γ;have Z:= ι;have HB:= κ;clear U γ ι κ;(try clear hb);(try clear a0);(try clear hk);(try clear hi)))
  go_ret
  exact⟨by first|rfl|(simp[Qz,Qy] <;> rfl)|(simp[*,Qz,Qy] <;> rfl),by repeat(first|(with_reducible first|exact HB.out|apply Qh|apply Qb|apply Qf|refine Qc ?_ a2.out|refine Qc ?_ a6.out|refine Qc ?_ a8.out)|exact HB.out)⟩
end Go.Proofs.Ytjehhhlhalkieaa.C
namespace Go.Proofs.Ytjehhhlhalkieaa.Call
open Go.RowKit Go.Proofs.YtjehhhlhalkieaaW.PrintWords Go.Proofs.YtjehhhlhalkieaaW.PrintLast Go.Proofs.YtjehhhlhalkieaaW.PrintMore Go.Proofs.Ytjehhhlhalkieaa.C
set_option linter.unusedVariables false
set_option linter.unusedSimpArgs false
theorem Ua (F C:Int):newelref19_House.f F C=some (decide ((2≤F∧F≤64)∧(1≤C∧C≤8))):=by
  unfold newelref19_House.f
  by_cases h1:F≥2
  · rw[if_pos h1]
    by_cases O:F≤64
    · rw[if_pos O]
      by_cases D:C≥1
      · rw[if_pos D]
        congr 1
        rw[decide_eq_decide]
        omega
      · rw[if_neg D,decide_eq_false (by omega)]
    · rw[if_neg O,decide_eq_false (by omega)]
  · rw[if_neg h1,decide_eq_false (by omega)]
theorem Gs (k:Nat) {F C:Int} (J L X:Int) (hF:2≤F∧F≤64) (hC:1≤C∧C≤8):newelref19_Hall.f (k+1) F C J L X=some (Xp F C J L X):=by
  have hb:=L2 (F:=F) (C:=C) (J:=J) (L:=L) (X:=X) hF hC
  have w1:wrap64 (F-2)=F-2:=by unfold wrap64;omega
  have Z:wrap64 (F-1)=F-1:=by unfold wrap64;omega
  have tt:∀ p:Prop,[Decidable p]→(p↔((L=1∨L = -1)∧(0≤J∧J≤F-1)∧(0≤J+L∧J+L≤F-1)∧(-1≤X∧X≤C-1)))→(some (decide p):Option Bool)=some (Xp F C J L X):=by
    intro p _ hp
    congr 1
    cases h:Xp F C J L X
    · rw[h] at hb
      exact decide_eq_false (fun q=>Bool.noConfusion (hb.2 (hp.1 q)))
    · exact decide_eq_true (hp.2 (hb.1 h))
  have ff:¬ ((L=1∨L = -1)∧(0≤J∧J≤F-1)∧(0≤J+L∧J+L≤F-1)∧(-1≤X∧X≤C-1))→(some false:Option Bool)=some (Xp F C J L X):=fun h=>tt False ⟨False.elim,h⟩
  have j:∀ b:Bool,b=decide (X < -1∨X≥C)→newelref19_Hall.j0 (k+1) b F C J L X=some (Xp F C J L X):=by
    intro b hbb
    simp only[newelref19_Hall.j0]
    rw[w1,Z]
    by_cases U:X < -1∨X≥C
    · rw[hbb,decide_eq_true U,if_pos rfl]
      exact ff (by omega)
    · rw[hbb,decide_eq_false U,if_neg (by decide)]
      by_cases h1:L=1
      · rw[if_pos h1]
        by_cases O:J≥0
        · rw[if_pos O]
          exact tt _ (by omega)
        · rw[if_neg O]
          exact ff (by omega)
      · rw[if_neg h1]
        by_cases O:L = -1
        · rw[if_pos O]
          by_cases D:J≥1
          · rw[if_pos D]
            exact tt _ (by omega)
          · rw[if_neg D]
            exact ff (by omega)
        · rw[if_neg O]
          exact ff (by omega)
  unfold newelref19_Hall.f
  by_cases h:X < -1
  · rw[if_pos h]
    exact j _ (decide_eq_true (.inl h)).symm
  · rw[if_neg h]
    exact j _ (by rw[decide_eq_decide];omega)
theorem Ub (k:Nat) {F C:Int} (J L X:Int) (hF:2≤F∧F≤64) (hC:1≤C∧C≤8) (hk:0<k):newelref19_Hall.f k F C J L X=some (Xp F C J L X):=by
  obtain⟨k,rfl⟩:∃ m,k=m+1:=⟨k-1,by omega⟩
  exact Gs k J L X hF hC
theorem Vo {F C:Int} (J L:Int) (hF:2≤F∧F≤64) (hC:1≤C∧C≤8):newelref19_Inside.f F C J L=some (Y0 F C J L):=by
  have hb:=We (F:=F) (C:=C) (J:=J) (L:=L) hF hC
  have tt:∀ p:Prop,[Decidable p]→(p↔((0≤J∧J≤C-1)∧(0≤L∧L≤F-1)))→(some (decide p):Option Bool)=some (Y0 F C J L):=by
    intro p _ hp
    congr 1
    cases h:Y0 F C J L
    · rw[h] at hb
      exact decide_eq_false (fun q=>Bool.noConfusion (hb.2 (hp.1 q)))
    · exact decide_eq_true (hp.2 (hb.1 h))
  have ff:¬ ((0≤J∧J≤C-1)∧(0≤L∧L≤F-1))→(some false:Option Bool)=some (Y0 F C J L):=fun h=>tt False ⟨False.elim,h⟩
  unfold newelref19_Inside.f
  by_cases h1:J≥0
  · rw[if_pos h1]
    by_cases O:J<C
    · rw[if_pos O]
      by_cases D:L≥0
      · rw[if_pos D]
        exact tt _ (by omega)
      · rw[if_neg D]
        exact ff (by omega)
    · rw[if_neg O]
      exact ff (by omega)
  · rw[if_neg h1]
    exact ff (by omega)
theorem Uc (x y:Hall):newelref19_ahead.f x.f0 x.f1 x.f2 y.f0 y.f1 y.f2=some (ltH x y):=by
  unfold newelref19_ahead.f
  by_cases h1:x.f0<y.f0
  · rw[if_pos h1,(Yu x y).2 (.inl h1)]
  · rw[if_neg h1]
    by_cases O:x.f0=y.f0
    · rw[if_pos O]
      congr 1
      cases h:ltH x y
      · exact decide_eq_false (fun q=>by rw[(Yu x y).2 (.inr ⟨O,q⟩)] at h;cases h)
      · have:=(Yu x y).1 h
        exact decide_eq_true (by omega)
    · rw[if_neg O]
      cases h:ltH x y
      · rfl
      · have:=(Yu x y).1 h
        omega
theorem Vq (x y:Ins):newelref19_before.f x.f0 x.f1 y.f0 y.f1=some (ltI x y):=by
  unfold newelref19_before.f
  by_cases h1:x.f0<y.f0
  · rw[if_pos h1,(J5 x y).2 (.inl h1)]
  · rw[if_neg h1]
    by_cases O:x.f0=y.f0
    · rw[if_pos O]
      congr 1
      cases h:ltI x y
      · exact decide_eq_false (fun q=>by rw[(J5 x y).2 (.inr ⟨O,q⟩)] at h;cases h)
      · have:=(J5 x y).1 h
        exact decide_eq_true (by omega)
    · rw[if_neg O]
      cases h:ltI x y
      · rfl
      · have:=(J5 x y).1 h
        omega
theorem Nw {F C:Int} (hF:2≤F∧F≤64) (hC:1≤C∧C≤8) (H:List Hall) (I:List Ins) (hm:I.length≤1000000000) (j:Nat):∀ (f i:Nat),i+j=I.length→j+1<f→newelref19_May.l1 f (i:Int) F C H I=some (Zo (fun x=>Y0 F C x.f0 x.f1) ltI (if i=0 then none else I[i-1]?) (I.drop i)):=by
  induction j with
  |zero=>
    intro f i hi hf
    obtain⟨f,rfl⟩:∃ m,f=m+1:=⟨f-1,by omega⟩
    simp only[newelref19_May.l1]
    rw[if_neg (by omega),List.drop_of_length_le (by omega)]
    cases(if i=0 then none else I[i-1]?) <;> rfl
  |succ j ih=>
    intro f i hi hf
    obtain⟨f,rfl⟩:∃ m,f=m+1:=⟨f-1,by omega⟩
    have ha:i<I.length:=by omega
    have ei:wrap64 ((i:Int)+1)=((i+1:Nat):Int):=by unfold wrap64;omega
    have Y:=ih f (i+1) (by omega) (by omega)
    rw[if_neg (by omega),Nat.add_sub_cancel,List.getElem?_eq_getElem ha] at Y
    simp only[newelref19_May.l1]
    rw[if_pos (by omega),if_pos (by omega),Yq I i ha,Vo _ _ hF hC,List.drop_eq_getElem_cons ha]
    simp only[Option.bind_some]
    cases h1:Y0 F C I[i].f0 I[i].f1
    · rw[if_neg (by decide)]
      cases(if i=0 then none else I[i-1]?) <;> simp only[Zo,h1,Bool.false_and]
    · rw[if_pos rfl]
      by_cases U:i=0
      · subst U
        rw[if_neg (by omega),ei,Y,if_pos rfl]
        simp only[Zo,h1,Bool.true_and]
      · have ep:wrap64 ((i:Int)-1)=((i-1:Nat):Int):=by unfold wrap64;omega
        rw[if_pos (by omega),ep,if_pos (by omega),if_pos (by omega),Yq I (i-1) (by omega),Vq,if_neg U,List.getElem?_eq_getElem (by omega)]
        simp only[Option.bind_some,Zo,h1,Bool.true_and]
        cases O:ltI (I[i-1]'(by omega)) I[i]
        · rw[if_neg (by decide),Bool.false_and]
        · rw[if_pos rfl,ei,Y,Bool.true_and]
theorem Nx {F C:Int} (hF:2≤F∧F≤64) (hC:1≤C∧C≤8) (H:List Hall) (I:List Ins) (hH:H.length≤1000000000) (hm:I.length≤1000000000) (j:Nat):∀ (f i:Nat),i+j=H.length→j+I.length+3<f→newelref19_May.l0 f (i:Int) F C H I=some (Zo (fun x=>Xp F C x.f0 x.f1 x.f2) ltH (if i=0 then none else H[i-1]?) (H.drop i)&&Zo (fun x=>Y0 F C x.f0 x.f1) ltI none I):=by
  induction j with
  |zero=>
    intro f i hi hf
    obtain⟨f,rfl⟩:∃ m,f=m+1:=⟨f-1,by omega⟩
    have h1:=Nw hF hC H I hm I.length f 0 (by omega) (by omega)
    rw[if_pos rfl,List.drop_zero] at h1
    simp only[newelref19_May.l0]
    rw[if_neg (by omega),List.drop_of_length_le (by omega)]
    refine h1.trans ?_
    cases(if i=0 then none else H[i-1]?) <;> rfl
  |succ j ih=>
    intro f i hi hf
    obtain⟨f,rfl⟩:∃ m,f=m+1:=⟨f-1,by omega⟩
    have ha:i<H.length:=by omega
    have ei:wrap64 ((i:Int)+1)=((i+1:Nat):Int):=by unfold wrap64;omega
    have Y:=ih f (i+1) (by omega) (by omega)
    rw[if_neg (by omega),Nat.add_sub_cancel,List.getElem?_eq_getElem ha] at Y
    simp only[newelref19_May.l0]
    rw[if_pos (by omega),if_pos (by omega),Yj H i ha,Ub _ _ _ _ hF hC (by omega),List.drop_eq_getElem_cons ha]
    simp only[Option.bind_some]
    cases h1:Xp F C H[i].f0 H[i].f1 H[i].f2
    · rw[if_neg (by decide)]
      cases(if i=0 then none else H[i-1]?) <;> simp only[Zo,h1,Bool.false_and]
    · rw[if_pos rfl]
      by_cases U:i=0
      · subst U
        rw[if_neg (by omega),ei,Y,if_pos rfl]
        simp only[Zo,h1,Bool.true_and]
      · have ep:wrap64 ((i:Int)-1)=((i-1:Nat):Int):=by unfold wrap64;omega
        rw[if_pos (by omega),ep,if_pos (by omega),if_pos (by omega),Yj H (i-1) (by omega),Uc,if_neg U,List.getElem?_eq_getElem (by omega)]
        simp only[Option.bind_some,Zo,h1,Bool.true_and]
        cases O:ltH (H[i-1]'(by omega)) H[i]
        · rw[if_neg (by decide),Bool.false_and,Bool.false_and]
        · rw[if_pos rfl,ei,Y,Bool.true_and]
theorem Wt (k:Nat) (F C:Int) (H:List Hall) (I:List Ins) (hH:H.length≤1000000000) (hI:I.length≤1000000000) (hk:H.length+I.length+3<k):newelref19_May.f k F C H I=some (okB F C H I):=by
  unfold newelref19_May.f
  rw[Ua]
  simp only[Option.bind_some]
  by_cases h:(2≤F∧F≤64)∧(1≤C∧C≤8)
  · have:=Nx h.1 h.2 H I hH hI H.length k 0 (by omega) hk
    rw[if_pos rfl,List.drop_zero] at this
    rw[decide_eq_true h,if_pos rfl]
    refine this.trans ?_
    unfold okB
    rw[decide_eq_true h.1,decide_eq_true h.2,Bool.true_and,Bool.true_and]
  · rw[decide_eq_false h,if_neg (by decide)]
    congr 1
    cases hb:okB F C H I
    · rfl
    · exact absurd ⟨(Jk.1 hb).1,(Jk.1 hb).2.1⟩ h
theorem Lq {F C:Int} {H:List Hall} {I:List Ins} (h:okB F C H I=true):(2≤F∧F≤64)∧(1≤C∧C≤8):=⟨(Jk.1 h).1,(Jk.1 h).2.1⟩
theorem Ga (x y:Hall):(!(x.f0==y.f0)||(!(x.f1==y.f1) || !(x.f2==y.f2)))=true ↔ ¬ x=y:=by
  obtain⟨a,b,c⟩:=x
  obtain⟨d,e,f⟩:=y
  simp only[Bool.or_eq_true,Bool.not_eq_true',beq_eq_false_iff_ne,S56.mk.injEq]
  omega
theorem Gt (x y:Ins):(!(x.f0==y.f0)||(!(x.f1==y.f1)))=true ↔ ¬ x=y:=by
  obtain⟨a,b⟩:=x
  obtain⟨d,e⟩:=y
  simp only[Bool.or_eq_true,Bool.not_eq_true',beq_eq_false_iff_ne,S62.mk.injEq]
  omega
theorem Ur (H:List Hall) (I:List Ins) (H':List Hall) (I':List Ins) (hm:I.length≤1000000000) (hl:I.length=I'.length) (j:Nat):∀ (f i:Nat),i+j=I.length→j<f → ∃ b,newelref19_Same.l1 f (i:Int) H I H' I'=some b∧(b=true↔I.drop i=I'.drop i):=by
  induction j with
  |zero=>
    intro f i hi hf
    obtain⟨f,rfl⟩:∃ m,f=m+1:=⟨f-1,by omega⟩
    simp only[newelref19_Same.l1]
    rw[if_neg (by omega),List.drop_of_length_le (by omega),List.drop_of_length_le (by omega)]
    exact⟨true,rfl,by simp⟩
  |succ j ih=>
    intro f i hi hf
    obtain⟨f,rfl⟩:∃ m,f=m+1:=⟨f-1,by omega⟩
    have ha:i<I.length:=by omega
    have hb:i<I'.length:=by omega
    have ei:wrap64 ((i:Int)+1)=((i+1:Nat):Int):=by unfold wrap64;omega
    simp only[newelref19_Same.l1]
    rw[if_pos (by omega),if_pos (by omega),if_pos (by omega),Yq I i ha,Yq I' i hb,List.drop_eq_getElem_cons ha,List.drop_eq_getElem_cons hb,ei]
    by_cases h:I[i]=I'[i]
    · obtain⟨b,e,a0⟩:=ih f (i+1) (by omega) (by omega)
      rw[if_neg (by rw[Gt];exact fun q=>q h)]
      exact⟨b,e,a0.trans ⟨fun q=>by rw[h,q],fun q=>(List.cons.inj q).2⟩⟩
    · rw[if_pos ((Gt _ _).2 h)]
      exact⟨false,rfl,⟨fun q=>(by cases q),fun q=>absurd (List.cons.inj q).1 h⟩⟩
theorem Us (H:List Hall) (I:List Ins) (H':List Hall) (I':List Ins) (hm:H.length≤1000000000) (hI:I.length≤1000000000) (hH:H.length=H'.length) (hl:I.length=I'.length) (j:Nat):∀ (f i:Nat),i+j=H.length→j+I.length+1<f → ∃ b,newelref19_Same.l0 f (i:Int) H I H' I'=some b∧(b=true↔(H.drop i=H'.drop i∧I=I')):=by
  induction j with
  |zero=>
    intro f i hi hf
    obtain⟨f,rfl⟩:∃ m,f=m+1:=⟨f-1,by omega⟩
    obtain⟨b,e,hb⟩:=Ur H I H' I' hI hl I.length f 0 (by omega) (by omega)
    rw[List.drop_zero,List.drop_zero] at hb
    simp only[newelref19_Same.l0]
    rw[if_neg (by omega),List.drop_of_length_le (by omega),List.drop_of_length_le (by omega)]
    exact⟨b,e,hb.trans ⟨fun q=>⟨rfl,q⟩,fun q=>q.2⟩⟩
  |succ j ih=>
    intro f i hi hf
    obtain⟨f,rfl⟩:∃ m,f=m+1:=⟨f-1,by omega⟩
    have ha:i<H.length:=by omega
    have hb:i<H'.length:=by omega
    have ei:wrap64 ((i:Int)+1)=((i+1:Nat):Int):=by unfold wrap64;omega
    simp only[newelref19_Same.l0]
    rw[if_pos (by omega),if_pos (by omega),if_pos (by omega),Yj H i ha,Yj H' i hb,List.drop_eq_getElem_cons ha,List.drop_eq_getElem_cons hb,ei]
    by_cases h:H[i]=H'[i]
    · obtain⟨b,e,a0⟩:=ih f (i+1) (by omega) (by omega)
      rw[if_neg (by rw[Ga];exact fun q=>q h)]
      exact⟨b,e,a0.trans ⟨fun q=>⟨by rw[h,q.1],q.2⟩,fun q=>⟨(List.cons.inj q.1).2,q.2⟩⟩⟩
    · rw[if_pos ((Ga _ _).2 h)]
      exact⟨false,rfl,⟨fun q=>(by cases q),fun q=>absurd (List.cons.inj q.1).1 h⟩⟩
theorem Gr (k:Nat) (H:List Hall) (I:List Ins) (H':List Hall) (I':List Ins) (hH:H.length≤1000000000) (hI:I.length≤1000000000) (hk:H.length+I.length+3<k):∃ b,newelref19_Same.f k H I H' I'=some b∧(b=true↔(H=H'∧I=I')):=by
  obtain⟨k,rfl⟩:∃ m,k=m+1:=⟨k-1,by omega⟩
  unfold newelref19_Same.f
  by_cases h1:H.length=H'.length
  · rw[if_pos (by omega)]
    simp only[newelref19_Same.j0]
    by_cases O:I.length=I'.length
    · obtain⟨b,e,hb⟩:=Us H I H' I' hH hI h1 O H.length k 0 (by omega) (by omega)
      rw[List.drop_zero,List.drop_zero] at hb
      rw[if_neg (by rw[O];simp)]
      exact⟨b,e,hb⟩
    · rw[if_pos (by simp;omega)]
      exact⟨false,rfl,⟨fun q=>(by cases q),fun q=>absurd (by rw[q.2]) O⟩⟩
  · rw[if_neg (by omega)]
    simp only[newelref19_Same.j0]
    rw[if_pos trivial]
    exact⟨false,rfl,⟨fun q=>(by cases q),fun q=>absurd (by rw[q.1]) h1⟩⟩
theorem Km (k:Nat) (H:List Hall) (I:List Ins) (hk:H.length+I.length+3<k) (hH:H.length≤1000000000:=by omega) (hI:I.length≤1000000000:=by omega):newelref19_Same.f k H I H I=some true:=by
  obtain⟨b,hb,h⟩:=Gr k H I H I hH hI hk
  rw[hb,h.2 ⟨rfl,rfl⟩]
theorem K6 (k:Nat) (hk:3<k):newelref19_Same.f k ([]:List Hall) ([]:List Ins) [] []=some true:=Km k [] [] (by simpa using hk) (by simp) (by simp)
end Go.Proofs.Ytjehhhlhalkieaa.Call
