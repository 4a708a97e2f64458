/- Texts of this claim, one behind the other: what the law's functions come to, walked (printed by a program, with the words that the print uses), and what that is, in plain Lean. No conditions of their own. -/
import Derived.Test.YtjehhhlhalkieaaQCallPresses9
namespace Go.Proofs.Ytjehhhlhalkieaa.C
open Go.RowKit Go.Proofs.YtjehhhlhalkieaaW.PrintWords Go.Proofs.YtjehhhlhalkieaaW.PrintLast Go.Proofs.YtjehhhlhalkieaaW.PrintMore
attribute [local go_sem] Z4 Z2 Xe Xd Zx Zw Z3 Z1
set_option linter.unusedVariables false
set_option linter.unusedSimpArgs false
def newellaw19_CallOnce.j0:Nat→Bool→Option (Bool)
 |0,_=>none
 |k+1,L=>some L
def newellaw19_CallOnce.f (k:Nat) (J:Int) (D:Int) (B:List (S56)) (I:List (S62)) (δ :Int) (L:Int) (θ :Int):Option (Bool):=(newelref19_Few.f B I).bind fun g4=>(if g4=true then ((newellaw19_Own.f B I).bind fun d9=>((call_Press.f k J D d9.1 d9.2 δ L θ).bind fun ah=>(if ah.2.2=0 then ((call_Press.f k J D ah.1 ah.2.1 δ L θ).bind fun bj=>((newellaw19_awake.f k).bind fun cz=>(if cz=true then (if bj.2.2=0 then ((call_Same.f k ah.1 ah.2.1 bj.1 bj.2.1).bind fun bw=>(if bw=true then ((call_Check.f k J D ah.1 ah.2.1).bind fun bl=>(if bl=0 then (if (wrap64 ((wrap64 ((wrap64 ((ah.1.length:Int)+(ah.2.1.length:Int))) - (B.length:Int))) - (I.length:Int)))=1 then (newellaw19_CallOnce.j0 k true) else (if (wrap64 ((wrap64 ((wrap64 ((ah.1.length:Int)+(ah.2.1.length:Int))) - (B.length:Int))) - (I.length:Int)))=0 then ((call_Same.f k ah.1 ah.2.1 B I).bind fun bo=>(newellaw19_CallOnce.j0 k bo)) else (none))) else (none))) else (none))) else (none)) else (none)))) else ((newellaw19_awake.f k).bind fun da=>(some da))))) else ((newellaw19_awake.f k).bind fun e8=>(some e8)))
theorem newellaw19_CallOnce.Zn:∀ k,(∀ I,LeO (newellaw19_CallOnce.j0 k I) (newellaw19_CallOnce.j0 (k+1) I))
 |0=>fun _ r h=>by simp[newellaw19_CallOnce.j0] at h
 |k+1=>by
  have B:=newellaw19_CallOnce.Zn k
  ·intro I
   unfold newellaw19_CallOnce.j0
   repeat' first
   |(with_reducible exact B _)
   |(with_reducible exact call_Check.mono _ _ _ _ _)
   |(with_reducible exact call_Press.mono _ _ _ _ _ _ _ _)
   |(with_reducible exact call_Same.mono _ _ _ _ _)
   |(with_reducible exact newellaw19_awake.mono _)
   |(with_reducible exact LeO.refl _)
   |(with_reducible exact LeO.none _)
   |(with_reducible refine LeO.ite ?_ ?_)
   |(with_reducible refine LeO.bind ?_ (fun _=>?_))
   |exact B _
   |exact call_Check.mono _ _ _ _ _
   |exact call_Press.mono _ _ _ _ _ _ _ _
   |exact call_Same.mono _ _ _ _ _
   |exact newellaw19_awake.mono _
   |exact LeO.none _
   |refine LeO.ite ?_ ?_
   |refine LeO.bind ?_ (fun _=>?_)
theorem newellaw19_CallOnce.mono:∀ D L a2 X I a5 J k,LeO (newellaw19_CallOnce.f k D L a2 X I a5 J) (newellaw19_CallOnce.f (k+1) D L a2 X I a5 J):=by
 intro D L a2 X I a5 J k
 have B:=newellaw19_CallOnce.Zn k
 unfold newellaw19_CallOnce.f
 repeat' first
   |(with_reducible exact B _)
   |(with_reducible exact call_Check.mono _ _ _ _ _)
   |(with_reducible exact call_Press.mono _ _ _ _ _ _ _ _)
   |(with_reducible exact call_Same.mono _ _ _ _ _)
   |(with_reducible exact newellaw19_awake.mono _)
   |(with_reducible exact LeO.refl _)
   |(with_reducible exact LeO.none _)
   |(with_reducible refine LeO.ite ?_ ?_)
   |(with_reducible refine LeO.bind ?_ (fun _=>?_))
   |exact B _
   |exact call_Check.mono _ _ _ _ _
   |exact call_Press.mono _ _ _ _ _ _ _ _
   |exact call_Same.mono _ _ _ _ _
   |exact newellaw19_awake.mono _
   |exact LeO.none _
   |refine LeO.ite ?_ ?_
   |refine LeO.bind ?_ (fun _=>?_)
def newellaw19_CallOnce.T3:Bool×List (List Nat×List Nat):=(true,[([],[]),([],[]),([1],[1]),([],[]),([0,2,3,2],[0,2,3]),([4],[4]),([5],[5]),([5],[5]),([],[]),([8,6,4,0,1,2,3,4,5,6,8],[6,8]),([7,9,0,1,2,3,4,5,6,7,8,9],[7])])
def newellaw19_CallOnce.B3:List Nat:=[0,0,2,0,15,31,63,63,0,383,1023]
theorem newellaw19_CallOnce.Lg:rtab .any (opsOf Try.f6 3)=newellaw19_CallOnce.T3:=by kernel_rfl
theorem newellaw19_CallOnce.Vv:Zv newellaw19_CallOnce.T3.2 newellaw19_CallOnce.B3=true:=by kernel_rfl
set_option maxHeartbeats 8000000 in
set_option maxRecDepth 100000 in
theorem newellaw19_CallOnce.calls (k:Nat) (J:Int) (D:Int) (ζ :Option Addr) (γ:Nat) (B:List (S56)) (η :Option Addr) (ε :Nat) (I:List (S62)) (δ :Int) (L:Int) (θ :Int) (r:Bool) (w:World) (b4:Kd.C k56 w ζ B.length B) (b5:B.length≤γ) (b6:Kd.C k62 w η I.length I) (b7:I.length ≤ ε) (h:newellaw19_CallOnce.f k J D B I δ L θ = some r):
  Calls Try.prog 6 #[.agg #[.int .i64 J,.int .i64 D],.agg #[.slice ζ B.length γ,.slice η I.length ε],.agg #[.int .i64 δ,.int .i64 L,.int .i64 θ]] w fun e w'=>e = .returned (.bool r)∧Below w.heap.size w w':=by
 have dk:=Try.underlying23
 have d6:=Try.underlying27
 have gf:=Try.underlying29
 have ag:=Aside0.mk b4
 have ar:=Aside0.mk b5
 clear b4 b5
 have ai:=Aside0.mk b6
 have au:=Aside0.mk b7
 clear b6 b7
 have HB:=Aside0.mk (Below.refl w.heap.size w)
 have H:((newelref19_Few.f B I).bind fun g4=>(if g4=true then ((newellaw19_Own.f B I).bind fun d9=>((call_Press.f k J D d9.1 d9.2 δ L θ).bind fun ah=>(if ah.2.2=0 then ((call_Press.f k J D ah.1 ah.2.1 δ L θ).bind fun bj=>((newellaw19_awake.f k).bind fun cz=>(if cz=true then (if bj.2.2=0 then ((call_Same.f k ah.1 ah.2.1 bj.1 bj.2.1).bind fun bw=>(if bw=true then ((call_Check.f k J D ah.1 ah.2.1).bind fun bl=>(if bl=0 then (if (wrap64 ((wrap64 ((wrap64 ((ah.1.length:Int)+(ah.2.1.length:Int))) - (B.length:Int))) - (I.length:Int)))=1 then (newellaw19_CallOnce.j0 k true) else (if (wrap64 ((wrap64 ((wrap64 ((ah.1.length:Int)+(ah.2.1.length:Int))) - (B.length:Int))) - (I.length:Int)))=0 then ((call_Same.f k ah.1 ah.2.1 B I).bind fun bo=>(newellaw19_CallOnce.j0 k bo)) else (none))) else (none))) else (none))) else (none)) else (none)))) else ((newellaw19_awake.f k).bind fun da=>(some da))))) else ((newellaw19_awake.f k).bind fun e8=>(some e8))))=some r:=h
 clear h
 replace H:=Option.bind_eq_some_iff.mp H
 obtain⟨g4,bv,H⟩:=H
 replace H:(if g4=true then ((newellaw19_Own.f B I).bind fun d9=>((call_Press.f k J D d9.1 d9.2 δ L θ).bind fun ah=>(if ah.2.2=0 then ((call_Press.f k J D ah.1 ah.2.1 δ L θ).bind fun bj=>((newellaw19_awake.f k).bind fun cz=>(if cz=true then (if bj.2.2=0 then ((call_Same.f k ah.1 ah.2.1 bj.1 bj.2.1).bind fun bw=>(if bw=true then ((call_Check.f k J D ah.1 ah.2.1).bind fun bl=>(if bl=0 then (if (wrap64 ((wrap64 ((wrap64 ((ah.1.length:Int)+(ah.2.1.length:Int))) - (B.length:Int))) - (I.length:Int)))=1 then (newellaw19_CallOnce.j0 k true) else (if (wrap64 ((wrap64 ((wrap64 ((ah.1.length:Int)+(ah.2.1.length:Int))) - (B.length:Int))) - (I.length:Int)))=0 then ((call_Same.f k ah.1 ah.2.1 B I).bind fun bo=>(newellaw19_CallOnce.j0 k bo)) else (none))) else (none))) else (none))) else (none)) else (none)))) else ((newellaw19_awake.f k).bind fun da=>(some da))))) else ((newellaw19_awake.f k).bind fun e8=>(some e8)))=some r:=H
 have A4:=Aside0.mk bv
 clear bv
 by_cases c5:g4=true
 ·subst c5
  have H1:((newellaw19_Own.f B I).bind fun d9=>((call_Press.f k J D d9.1 d9.2 δ L θ).bind fun ah=>(if ah.2.2=0 then ((call_Press.f k J D ah.1 ah.2.1 δ L θ).bind fun bj=>((newellaw19_awake.f k).bind fun cz=>(if cz=true then (if bj.2.2=0 then ((call_Same.f k ah.1 ah.2.1 bj.1 bj.2.1).bind fun bw=>(if bw=true then ((call_Check.f k J D ah.1 ah.2.1).bind fun bl=>(if bl=0 then (if (wrap64 ((wrap64 ((wrap64 ((ah.1.length:Int)+(ah.2.1.length:Int))) - (B.length:Int))) - (I.length:Int)))=1 then (newellaw19_CallOnce.j0 k true) else (if (wrap64 ((wrap64 ((wrap64 ((ah.1.length:Int)+(ah.2.1.length:Int))) - (B.length:Int))) - (I.length:Int)))=0 then ((call_Same.f k ah.1 ah.2.1 B I).bind fun bo=>(newellaw19_CallOnce.j0 k bo)) else (none))) else (none))) else (none))) else (none)) else (none)))) else ((newellaw19_awake.f k).bind fun da=>(some da)))))=some r:=by rw[if_pos rfl] at H;exact H
  clear H
  have H:=H1
  clear H1
  replace H:=Option.bind_eq_some_iff.mp H
  obtain⟨⟨bp,bq⟩,ch,H⟩:=H
  replace H:((call_Press.f k J D bp bq δ L θ).bind fun ah=>(if ah.2.2=0 then ((call_Press.f k J D ah.1 ah.2.1 δ L θ).bind fun bj=>((newellaw19_awake.f k).bind fun cz=>(if cz=true then (if bj.2.2=0 then ((call_Same.f k ah.1 ah.2.1 bj.1 bj.2.1).bind fun bw=>(if bw=true then ((call_Check.f k J D ah.1 ah.2.1).bind fun bl=>(if bl=0 then (if (wrap64 ((wrap64 ((wrap64 ((ah.1.length:Int)+(ah.2.1.length:Int))) - (B.length:Int))) - (I.length:Int)))=1 then (newellaw19_CallOnce.j0 k true) else (if (wrap64 ((wrap64 ((wrap64 ((ah.1.length:Int)+(ah.2.1.length:Int))) - (B.length:Int))) - (I.length:Int)))=0 then ((call_Same.f k ah.1 ah.2.1 B I).bind fun bo=>(newellaw19_CallOnce.j0 k bo)) else (none))) else (none))) else (none))) else (none)) else (none)))) else ((newellaw19_awake.f k).bind fun da=>(some da))))=some r:=H
  have A6:=Aside0.mk ch
  clear ch
  replace H:=Option.bind_eq_some_iff.mp H
  obtain⟨⟨ac,ae,cd⟩,en,H⟩:=H
  replace H:(if cd=0 then ((call_Press.f k J D ac ae δ L θ).bind fun bj=>((newellaw19_awake.f k).bind fun cz=>(if cz=true then (if bj.2.2=0 then ((call_Same.f k ac ae bj.1 bj.2.1).bind fun bw=>(if bw=true then ((call_Check.f k J D ac ae).bind fun bl=>(if bl=0 then (if (wrap64 ((wrap64 ((wrap64 ((ac.length:Int)+(ae.length:Int))) - (B.length:Int))) - (I.length:Int)))=1 then (newellaw19_CallOnce.j0 k true) else (if (wrap64 ((wrap64 ((wrap64 ((ac.length:Int)+(ae.length:Int))) - (B.length:Int))) - (I.length:Int)))=0 then ((call_Same.f k ac ae B I).bind fun bo=>(newellaw19_CallOnce.j0 k bo)) else (none))) else (none))) else (none))) else (none)) else (none)))) else ((newellaw19_awake.f k).bind fun da=>(some da)))=some r:=H
  have A7:=Aside0.mk en
  clear en
  by_cases c8:cd=0
  ·rw[if_pos c8] at H
   have c8b0:(cd==0)=true:=beq_iff_eq.mpr c8
   have c8b1:(cd != 0)=false:=bne_eq_false_iff_eq.mpr c8
   clear c8
   replace H:=Option.bind_eq_some_iff.mp H
   obtain⟨⟨bh,bk,fc⟩,g5,H⟩:=H
   replace H:((newellaw19_awake.f k).bind fun cz=>(if cz=true then (if fc=0 then ((call_Same.f k ac ae bh bk).bind fun bw=>(if bw=true then ((call_Check.f k J D ac ae).bind fun bl=>(if bl=0 then (if (wrap64 ((wrap64 ((wrap64 ((ac.length:Int)+(ae.length:Int))) - (B.length:Int))) - (I.length:Int)))=1 then (newellaw19_CallOnce.j0 k true) else (if (wrap64 ((wrap64 ((wrap64 ((ac.length:Int)+(ae.length:Int))) - (B.length:Int))) - (I.length:Int)))=0 then ((call_Same.f k ac ae B I).bind fun bo=>(newellaw19_CallOnce.j0 k bo)) else (none))) else (none))) else (none))) else (none)) else (none)))=some r:=H
   have A9:=Aside0.mk g5
   clear g5
   have ii:=Aside0.mk H
   clear H
   go_enter Try.func6,Try.ntmps6
   try go_wp2_with (first|((with_reducible refine Qp (N:=3) rfl ?_);refine Q7 ?hg (N:=3) ?hd (cs:=#[.int .i64 J,.int .i64 D]) (t:=23) ?hr ?_;(case hd=>rfl);(case hg=>rfl);(case hr=>first|(go_simp;done)|(go_simp;rfl));intro ν hg dm hbox hb;have O:=Aside0.mk (Qt (by repeat(first|(with_reducible first|exact HB.out|apply Qh|apply Qc|apply Qe)|exact HB.out)) hb);have Z:=Aside0.mk (hbox);have ι :=Aside0.mk ((by rw[hg];exact(Qj (by repeat(first|(with_reducible first|exact HB.out|apply Qh|apply Qc|apply Qe)|exact HB.out))):w.heap.size ≤ ν));have κ :=Aside0.mk ((by rw[hg];exact(Qj (by repeat(first|(with_reducible first|exact HB.out|apply Qh|apply Qc|apply Qe)|exact HB.out))):w.heap.size ≤ ν));clear HB;have HB:=O;have U:=Z;have j6:= ι;have a2:= κ;clear O Z ι κ;clear hb hbox hg)|((with_reducible refine Qp (N:=4) rfl ?_);refine Q7 ?hg (N:=4) ?hd (cs:=#[.slice ζ B.length γ,.slice η I.length ε]) (t:=27) ?hr ?_;(case hd=>rfl);(case hg=>rfl);(case hr=>first|(go_simp;done)|(go_simp;rfl));intro τ hg d2 hbox hb;have O:=Aside0.mk (Qo (g:= ν) (o:=.cells #[.int .i64 J,.int .i64 D] 23 (0,0)) (by(with_reducible repeat first|apply Qf|apply Qb|apply Qg);exact U.out) hb);have Z:=Aside0.mk (Qt (by repeat(first|(with_reducible first|exact HB.out|apply Qh|apply Qc|apply Qe|refine Qd ?_ a2.out)|exact HB.out)) hb);have ι :=Aside0.mk (hbox);have κ :=Aside0.mk ((by rw[hg];exact(Qj (by repeat(first|(with_reducible first|exact HB.out|apply Qh|apply Qc|apply Qe|refine Qd ?_ a2.out)|exact HB.out))):w.heap.size ≤ τ));have ξ :=Aside0.mk ((by rw[hg];exact(Qj (by repeat(first|(with_reducible first|exact HB.out|apply Qh|apply Qc|apply Qe|refine Qd ?_ a2.out)|exact HB.out))):w.heap.size ≤ τ));have ψ :=Aside0.mk ((by rw[hg];exact Nat.ne_of_lt (Q3 (g:= ν) (o:=.cells #[.int .i64 J,.int .i64 D] 23 (0,0)) (by(with_reducible repeat first|apply Qf|apply Qb|apply Qg);exact U.out)): ν ≠ τ));have a1:=Aside0.mk ((by rw[hg];exact Nat.ne_of_gt (Q3 (g:= ν) (o:=.cells #[.int .i64 J,.int .i64 D] 23 (0,0)) (by(with_reducible repeat first|apply Qf|apply Qb|apply Qg);exact U.out)): τ ≠ ν));clear U;clear HB;have U:=O;have HB:=Z;have X:= ι;have j7:= κ;have a6:= ξ;have cp:= ψ;have cq:=a1;clear O Z ι κ ξ ψ a1;clear hb hbox hg)|((with_reducible refine Qp (N:=5) rfl ?_);refine Q7 ?hg (N:=5) ?hd (cs:=#[.int .i64 δ,.int .i64 L,.int .i64 θ]) (t:=29) ?hr ?_;(case hd=>rfl);(case hg=>rfl);(case hr=>first|(go_simp;done)|(go_simp;rfl));intro ω hg eb hbox hb;have O:=Aside0.mk (Qo (g:= ν) (o:=.cells #[.int .i64 J,.int .i64 D] 23 (0,0)) (by(with_reducible repeat first|apply Qf|apply Qb|apply Qg);exact U.out) hb);have Z:=Aside0.mk (Qo (g:= τ) (o:=.cells #[.slice ζ B.length γ,.slice η I.length ε] 27 (0,0)) (by(with_reducible repeat first|apply Qf|apply Qb|apply Qg);exact X.out) hb);have ι :=Aside0.mk (Qt (by repeat(first|(with_reducible first|exact HB.out|apply Qh|apply Qc|apply Qe|refine Qd ?_ a2.out|refine Qd ?_ a6.out)|exact HB.out)) hb);have κ :=Aside0.mk (hbox);have ξ :=Aside0.mk ((by rw[hg];exact(Qj (by repeat(first|(with_reducible first|exact HB.out|apply Qh|apply Qc|apply Qe|refine Qd ?_ a2.out|refine Qd ?_ a6.out)|exact HB.out))):w.heap.size ≤ ω));have ψ :=Aside0.mk ((by rw[hg];exact(Qj (by repeat(first|(with_reducible first|exact HB.out|apply Qh|apply Qc|apply Qe|refine Qd ?_ a2.out|refine Qd ?_ a6.out)|exact HB.out))):w.heap.size ≤ ω));have a1:=Aside0.mk ((by rw[hg];exact Nat.ne_of_lt (Q3 (g:= ν) (o:=.cells #[.int .i64 J,.int .i64 D] 23 (0,0)) (by(with_reducible repeat first|apply Qf|apply Qb|apply Qg);exact U.out)): ν ≠ ω));have af:=Aside0.mk ((by rw[hg];exact Nat.ne_of_gt (Q3 (g:= ν) (o:=.cells #[.int .i64 J,.int .i64 D] 23 (0,0)) (by(with_reducible repeat first|apply Qf|apply Qb|apply Qg);exact U.out)): ω ≠ ν));have al:=Aside0.mk ((by rw[hg];exact Nat.ne_of_lt (Q3 (g:= τ) (o:=.cells #[.slice ζ B.length γ,.slice η I.length ε] 27 (0,0)) (by(with_reducible repeat first|apply Qf|apply Qb|apply Qg);exact X.out)): τ ≠ ω));have ax:=Aside0.mk ((by rw[hg];exact Nat.ne_of_gt (Q3 (g:= τ) (o:=.cells #[.slice ζ B.length γ,.slice η I.length ε] 27 (0,0)) (by(with_reducible repeat first|apply Qf|apply Qb|apply Qg);exact X.out)): ω ≠ τ));clear U;clear X;clear HB;have U:=O;have X:=Z;have HB:= ι;have Y:= κ;have j8:= ξ;have a8:= ψ;have dp:=a1;have dq:=af;have d4:=al;have d5:=ax;clear O Z ι κ ξ ψ a1 af al ax;clear hb hbox hg;have i1:=cq.out;have i2:=cp.out;have io:=d4.out;have ip:=d5.out;obtain⟨je,jf,jg,jh⟩:=qD2 X.out)|((with_reducible refine Q1 (f:=9) rfl ?_);refine Zp (some 13) rfl rfl Try.func9 kr rfl #[.agg #[.slice ζ B.length γ,.slice η I.length ε]] rfl (by(try simp only[List.map_toArray,List.map_cons,List.map_nil]);first|done|rfl|(simp only[List.length_drop,List.length_take];rfl)) ?_;(with_reducible refine(newelref19_Few.calls _ _ B _ _ I true _ ?side1 ?side2 ?side3 ?side4 A4.out).mono ?_);(case side1=>repeat(first|exact(Kd.Qz ag.out HB.out)|(with_reducible refine Kd.Za ?_ _)|(with_reducible refine Kd.Q9 ?_ _)|(with_reducible refine Kd.Zm ?_)));(case side2=>exact ar.out);(case side3=>repeat(first|exact(Kd.Qz ai.out HB.out)|(with_reducible refine Kd.Za ?_ _)|(with_reducible refine Kd.Q9 ?_ _)|(with_reducible refine Kd.Zm ?_)));(case side4=>exact au.out);rintro e g6 ⟨rfl,hb⟩;refine⟨_,rfl, ?_⟩;have O:=Aside0.mk (Qo (g:= ν) (o:=.cells #[.int .i64 J,.int .i64 D] 23 (0,0)) (by(with_reducible repeat first|apply Qf|apply Qb|apply Qg);exact U.out) hb);have Z:=Aside0.mk (Qo (g:= τ) (o:=.cells #[.slice ζ B.length γ,.slice η I.length ε] 27 (0,0)) (by(with_reducible repeat first|apply Qf|apply Qb|apply Qg);exact X.out) hb);have ι :=Aside0.mk (Qo (g:= ω) (o:=.cells #[.int .i64 δ,.int .i64 L,.int .i64 θ] 29 (0,0)) (by(with_reducible repeat first|apply Qf|apply Qb|apply Qg);exact Y.out) hb);have κ :=Aside0.mk (Qt (by repeat(first|(with_reducible first|exact HB.out|apply Qh|apply Qc|apply Qe|refine Qd ?_ a2.out|refine Qd ?_ a6.out|refine Qd ?_ a8.out)|exact HB.out)) hb);clear U;clear X;clear Y;clear HB;have U:=O;have X:=Z;have Y:= ι;have HB:= κ;clear O Z ι κ;(try clear hb);(try clear a0);(try clear hk);(try clear hi)))
   have O:=Aside0.mk (Qb U.out)
   have Z:=Aside0.mk (Qb X.out)
   have ι :=Aside0.mk (Qb Y.out)
   have κ :=Aside0.mk (Qe HB.out)
   clear U
   clear X
   clear Y
   clear HB
   have U:=O
   have X:=Z
   have Y:= ι
   have HB:= κ
   clear O Z ι κ
   refine Ze (n:=11) (S:=fun w'=>w'.cell? ⟨ν,0,none⟩=some (.int .i64 J)∧w'.cell? ⟨ν,1,none⟩=some (.int .i64 D)∧w'.cell? ⟨τ,0,none⟩=some (.slice ζ B.length γ)∧w'.cell? ⟨τ,1,none⟩=some (.slice η I.length ε)∧w'.cell? ⟨ω,0,none⟩=some (.int .i64 δ)∧w'.cell? ⟨ω,1,none⟩=some (.int .i64 L)∧w'.cell? ⟨ω,2,none⟩=some (.int .i64 θ)) (ds:=[]) #[false,false,false,false,false,false,false,false,false,false,false] kr rfl rfl ⟨(Qi U.out 0).trans rfl,(Qi U.out 1).trans rfl,(Qi X.out 0).trans rfl,(Qi X.out 1).trans rfl,(Qi Y.out 0).trans rfl,(Qi Y.out 1).trans rfl,(Qi Y.out 2).trans rfl⟩ (fun hHeld=>?_);refine Q4 newellaw19_CallOnce.Lg newellaw19_CallOnce.Vv (fun HT_ HW_=>?_)
   generalize g6.drew=i5 at U X Y HB hHeld ⊢
   refine qT 0 (some 17) (qB 11 1) HT_ HW_ hHeld ?_
   refine qT 1 (some 18) (qB 11 3) HT_ HW_ hHeld ?_
   refine qT 3 (some 20) (qB 11 11) HT_ HW_ hHeld ?_
   refine Gl (σ:=Value×Value×Value×Value×Nat) 2 #[true,true,true,true,true,true,true,true,true,false,false] (fun s_=>[(19,.agg #[s_.1,s_.2.1]),(21,.tuple #[.agg #[s_.2.2.1,s_.2.2.2.1],.int .i64 cd]),(7,.pointer (some ⟨s_.2.2.2.2,0,none⟩)),(16,.tuple #[.agg #[s_.2.2.1,s_.2.2.2.1],.int .i64 cd]),(22,.agg #[s_.2.2.1,s_.2.2.2.1]),(23,.int .i64 cd)]) (fun s_ w'=>(w'.cell? ⟨ν,0,none⟩=some (.int .i64 J)∧w'.cell? ⟨ν,1,none⟩=some (.int .i64 D)∧w'.cell? ⟨τ,0,none⟩=some (.slice ζ B.length γ)∧w'.cell? ⟨τ,1,none⟩=some (.slice η I.length ε)∧w'.cell? ⟨ω,0,none⟩=some (.int .i64 δ)∧w'.cell? ⟨ω,1,none⟩=some (.int .i64 L)∧w'.cell? ⟨ω,2,none⟩=some (.int .i64 θ))∧(Kd.R k56 56 w' w.heap.size (fun k_=>some k_≠(s_.2.2.1:Value).ownBlock) s_.1 bp)∧(Kd.R k62 62 w' w.heap.size (fun k_=>some k_≠(s_.2.2.2.1:Value).ownBlock) s_.2.1 bq)∧(Kd.R k56 56 w' w.heap.size (fun k_=>some k_≠(s_.1:Value).ownBlock) s_.2.2.1 ac)∧(Kd.R k62 62 w' w.heap.size (fun k_=>some k_≠(s_.2.1:Value).ownBlock) s_.2.2.2.1 ae)∧(w'.heap[ν]?=some (.cells #[.int .i64 J,.int .i64 D] 23 (0,0)))∧(w'.heap[τ]?=some (.cells #[.slice ζ B.length γ,.slice η I.length ε] 27 (0,0)))∧(w'.heap[ω]?=some (.cells #[.int .i64 δ,.int .i64 L,.int .i64 θ] 29 (0,0)))∧(w'.heap[s_.2.2.2.2]?=some (.cells #[.slice none 0 0,.slice none 0 0] 27 (0,0)))∧(w.heap.size≤s_.2.2.2.2)∧(w.heap.size≤s_.2.2.2.2)∧(ν ≠ s_.2.2.2.2)∧(s_.2.2.2.2 ≠ ν)∧(τ ≠ s_.2.2.2.2)∧(s_.2.2.2.2 ≠ τ)∧(ω ≠ s_.2.2.2.2)∧(s_.2.2.2.2 ≠ ω)∧(Below w.heap.size w w')) ?_ ?_
   rotate_left
   ·intro hCont
    refine Ks (i:=2) (j:=8) (Ni:=some 19) (Nj:=some 7) #[true,true,true,true,false,false,false,false,false,false,false] #[true,true,false,true,false,false,false,false,true,false,false] rfl rfl rfl rfl (Yn HT_.out kr) (by decide) (by decide) (fun K hK=>?_) (fun K hK=>?_)
    ·skip
     refine Zc Try.func12 kr rfl #[.agg #[.slice ζ B.length γ,.slice η I.length ε]] (by rfl) rfl rfl (by(try simp only[List.map_toArray,List.map_cons,List.map_nil]);first|done|rfl|(simp only[List.length_drop,List.length_take];rfl)) ?_
     with_reducible refine(newellaw19_Own.calls _ _ B _ _ I bp bq _ ?side1 ?side2 ?side3 ?side4 A6.out).mono ?_
     (case side1=>repeat(first|exact(Kd.Qz ag.out HB.out)|(with_reducible refine Kd.Za ?_ _)|(with_reducible refine Kd.Q9 ?_ _)|(with_reducible refine Kd.Zm ?_)))
     (case side2=>exact ar.out)
     (case side3=>repeat(first|exact(Kd.Qz ai.out HB.out)|(with_reducible refine Kd.Za ?_ _)|(with_reducible refine Kd.Q9 ?_ _)|(with_reducible refine Kd.Zm ?_)))
     (case side4=>exact au.out)
     rintro e dw ⟨e9,ea,rfl,ρ,a7,hb⟩
     refine⟨_,rfl, ?_⟩
     have O:=Aside0.mk (Kd.Q2 ρ (Qj (by repeat(first|(with_reducible first|exact HB.out|apply Qh|apply Qc|apply Qe|refine Qd ?_ a2.out|refine Qd ?_ a6.out|refine Qd ?_ a8.out)|exact HB.out))))
     have Z:=Aside0.mk (Kd.Q2 a7 (Qj (by repeat(first|(with_reducible first|exact HB.out|apply Qh|apply Qc|apply Qe|refine Qd ?_ a2.out|refine Qd ?_ a6.out|refine Qd ?_ a8.out)|exact HB.out))))
     have ι :=Aside0.mk (Qo (g:= ν) (o:=.cells #[.int .i64 J,.int .i64 D] 23 (0,0)) (by(with_reducible repeat first|apply Qf|apply Qb|apply Qg);exact U.out) hb)
     have κ :=Aside0.mk (Qo (g:= τ) (o:=.cells #[.slice ζ B.length γ,.slice η I.length ε] 27 (0,0)) (by(with_reducible repeat first|apply Qf|apply Qb|apply Qg);exact X.out) hb)
     have ξ :=Aside0.mk (Qo (g:= ω) (o:=.cells #[.int .i64 δ,.int .i64 L,.int .i64 θ] 29 (0,0)) (by(with_reducible repeat first|apply Qf|apply Qb|apply Qg);exact Y.out) hb)
     have ψ :=Aside0.mk (Qt (by repeat(first|(with_reducible first|exact HB.out|apply Qh|apply Qc|apply Qe|refine Qd ?_ a2.out|refine Qd ?_ a6.out|refine Qd ?_ a8.out)|exact HB.out)) hb)
     clear U
     clear X
     clear Y
     clear HB
     have a3:=O
     have a4:=Z
     have U:= ι
     have X:= κ
     have Y:= ξ
     have HB:= ψ
     clear O Z ι κ ξ ψ
     (try clear hb)
     (try clear a0)
     (try clear hk)
     (try clear hi)
     (try clear ρ)
     (try clear a7)
     obtain⟨k6,k7,k8⟩:=Kd.Q5 a3.out
     (first|subst k8|(injection k8 with φ a9 χ;have aa:= φ.symm;have ab:= χ.symm;clear φ a9 χ;subst aa;subst ab))
     obtain⟨eo,ep,er⟩:=Kd.Q5 a4.out
     (first|subst er|(injection er with φ a9 χ;have aa:= φ.symm;have ab:= χ.symm;clear φ a9 χ;subst aa;subst ab))
     refine hK.out _ _ ⟨qc U,qc U,qc X,qc X,qc Y,qc Y,qc Y⟩ (fun hHeld=>?_)
     clear hK K
     refine qN (some 19) ?_
     refine Ks (i:=4) (j:=8) (Ni:=some 21) (Nj:=some 7) #[true,true,true,true,true,false,false,false,false,false,false] #[true,true,true,true,false,false,false,false,true,false,false] rfl rfl rfl rfl (Yn HT_.out kr) (by decide) (by decide) (fun K hK=>?_) (fun K hK=>?_)
     ·skip
      refine Zc Try.func11 kr rfl #[.agg #[.int .i64 J,.int .i64 D],.agg #[.slice k6 bp.length k7,.slice eo bq.length ep],.agg #[.int .i64 δ,.int .i64 L,.int .i64 θ]] (by rfl) rfl rfl (by(try simp only[List.map_toArray,List.map_cons,List.map_nil]);first|done|rfl|(simp only[List.length_drop,List.length_take];rfl)) ?_
      with_reducible refine(call_Press.calls k J D _ _ bp _ _ bq δ L θ ac ae cd _ ?side1 ?side2 ?side3 ?side4 A7.out).mono ?_
      (case side1=>repeat(first|exact(Kd.Qq a3.out).2.2|(with_reducible refine Kd.Za ?_ _)|(with_reducible refine Kd.Q9 ?_ _)|(with_reducible refine Kd.Zm ?_)))
      (case side2=>exact(Kd.Qq a3.out).2.1)
      (case side3=>repeat(first|exact(Kd.Qq a4.out).2.2|(with_reducible refine Kd.Za ?_ _)|(with_reducible refine Kd.Q9 ?_ _)|(with_reducible refine Kd.Zm ?_)))
      (case side4=>exact(Kd.Qq a4.out).2.1)
      rintro e dr ⟨cr,ct,rfl,ρ,a7,hb⟩
      refine⟨_,rfl, ?_⟩
      have O:=Aside0.mk (Kd.Zb (by(with_reducible repeat first|apply Kd.Qm|apply Kd.Ql|apply Kd.Qn);exact a3.out) (Kd.Zf ρ) hb)
      have Z:=Aside0.mk (Kd.Zb (by(with_reducible repeat first|apply Kd.Qm|apply Kd.Ql|apply Kd.Qn);exact a4.out) (Kd.Zf a7) hb)
      have ι :=Aside0.mk (Kd.Q2 (Kd.Zr ρ (Kd.Z8 (by(with_reducible repeat first|apply Kd.Qm|apply Kd.Ql|apply Kd.Qn);exact a3.out))) (Qj (by repeat(first|(with_reducible first|exact HB.out|apply Qh|apply Qc|apply Qe|refine Qd ?_ a2.out|refine Qd ?_ a6.out|refine Qd ?_ a8.out)|exact HB.out))))
      have κ :=Aside0.mk (Kd.Q2 (Kd.Zr a7 (Kd.Z8 (by(with_reducible repeat first|apply Kd.Qm|apply Kd.Ql|apply Kd.Qn);exact a4.out))) (Qj (by repeat(first|(with_reducible first|exact HB.out|apply Qh|apply Qc|apply Qe|refine Qd ?_ a2.out|refine Qd ?_ a6.out|refine Qd ?_ a8.out)|exact HB.out))))
      have ξ :=Aside0.mk (Qo (g:= ν) (o:=.cells #[.int .i64 J,.int .i64 D] 23 (0,0)) (by(with_reducible repeat first|apply Qf|apply Qb|apply Qg);exact U.out) hb)
      have ψ :=Aside0.mk (Qo (g:= τ) (o:=.cells #[.slice ζ B.length γ,.slice η I.length ε] 27 (0,0)) (by(with_reducible repeat first|apply Qf|apply Qb|apply Qg);exact X.out) hb)
      have a1:=Aside0.mk (Qo (g:= ω) (o:=.cells #[.int .i64 δ,.int .i64 L,.int .i64 θ] 29 (0,0)) (by(with_reducible repeat first|apply Qf|apply Qb|apply Qg);exact Y.out) hb)
      have af:=Aside0.mk (Qt (by repeat(first|(with_reducible first|exact HB.out|apply Qh|apply Qc|apply Qe|refine Qd ?_ a2.out|refine Qd ?_ a6.out|refine Qd ?_ a8.out)|exact HB.out)) hb)
      clear a3
      clear a4
      clear U
      clear X
      clear Y
      clear HB
      have a3:=O
      have a4:=Z
      have aj:= ι
      have ak:= κ
      have U:= ξ
      have X:= ψ
      have Y:=a1
      have HB:=af
      clear O Z ι κ ξ ψ a1 af
      (try clear hb)
      (try clear a0)
      (try clear hk)
      (try clear hi)
      (try clear ρ)
      (try clear a7)
      refine hK.out _ _ ⟨qc U,qc U,qc X,qc X,qc Y,qc Y,qc Y⟩ (fun hHeld=>?_)
      clear hK K
      refine qN (some 21) ?_
      refine qP 5 (some 16) (qB 11 63) HT_ ?_
      refine qP 6 (some 22) (qB 11 127) HT_ ?_
      refine qP 7 (some 23) (qB 11 255) HT_ ?_
      refine Zi (i:=8) (N:=some 7) #[true,true,true,true,true,true,true,true,true,false,false] rfl rfl (Q0 HT_.out kr) (by decide) (fun K hK=>?_)
      refine Xo ?hg (N:=7) ?hd (cs:=#[.slice none 0 0,.slice none 0 0]) (t:=27) ?hr ?_;(case hd=>rfl);(case hg=>rfl);(case hr=>first|(go_simp;done)|(go_simp;rfl))
      intro μ hg dv hbox hb
      have O:=Aside0.mk (Kd.Qu (by(with_reducible repeat first|apply Kd.Qm|apply Kd.Ql|apply Kd.Qn);exact a3.out) hb)
      have Z:=Aside0.mk (Kd.Qu (by(with_reducible repeat first|apply Kd.Qm|apply Kd.Ql|apply Kd.Qn);exact a4.out) hb)
      have ι :=Aside0.mk (Kd.Qu (by(with_reducible repeat first|apply Kd.Qm|apply Kd.Ql|apply Kd.Qn);exact aj.out) hb)
      have κ :=Aside0.mk (Kd.Qu (by(with_reducible repeat first|apply Kd.Qm|apply Kd.Ql|apply Kd.Qn);exact ak.out) hb)
      have ξ :=Aside0.mk (Qo (g:= ν) (o:=.cells #[.int .i64 J,.int .i64 D] 23 (0,0)) (by(with_reducible repeat first|apply Qf|apply Qb|apply Qg);exact U.out) hb)
      have ψ :=Aside0.mk (Qo (g:= τ) (o:=.cells #[.slice ζ B.length γ,.slice η I.length ε] 27 (0,0)) (by(with_reducible repeat first|apply Qf|apply Qb|apply Qg);exact X.out) hb)
      have a1:=Aside0.mk (Qo (g:= ω) (o:=.cells #[.int .i64 δ,.int .i64 L,.int .i64 θ] 29 (0,0)) (by(with_reducible repeat first|apply Qf|apply Qb|apply Qg);exact Y.out) hb)
      have af:=Aside0.mk (Qt (by repeat(first|(with_reducible first|exact HB.out|apply Qh|apply Qc|apply Qe|refine Qd ?_ a2.out|refine Qd ?_ a6.out|refine Qd ?_ a8.out)|exact HB.out)) hb)
      have al:=Aside0.mk (hbox)
      have ax:=Aside0.mk ((by rw[hg];exact(Qj (by repeat(first|(with_reducible first|exact HB.out|apply Qh|apply Qc|apply Qe|refine Qd ?_ a2.out|refine Qd ?_ a6.out|refine Qd ?_ a8.out)|exact HB.out))):w.heap.size ≤ μ))
      have ap:=Aside0.mk ((by rw[hg];exact(Qj (by repeat(first|(with_reducible first|exact HB.out|apply Qh|apply Qc|apply Qe|refine Qd ?_ a2.out|refine Qd ?_ a6.out|refine Qd ?_ a8.out)|exact HB.out))):w.heap.size ≤ μ))
      have aw:=Aside0.mk ((by rw[hg];exact Nat.ne_of_lt (Q3 (g:= ν) (o:=.cells #[.int .i64 J,.int .i64 D] 23 (0,0)) (by(with_reducible repeat first|apply Qf|apply Qb|apply Qg);exact U.out)): ν ≠ μ))
      have b1:=Aside0.mk ((by rw[hg];exact Nat.ne_of_gt (Q3 (g:= ν) (o:=.cells #[.int .i64 J,.int .i64 D] 23 (0,0)) (by(with_reducible repeat first|apply Qf|apply Qb|apply Qg);exact U.out)): μ ≠ ν))
      have b8:=Aside0.mk ((by rw[hg];exact Nat.ne_of_lt (Q3 (g:= τ) (o:=.cells #[.slice ζ B.length γ,.slice η I.length ε] 27 (0,0)) (by(with_reducible repeat first|apply Qf|apply Qb|apply Qg);exact X.out)): τ ≠ μ))
      have b9:=Aside0.mk ((by rw[hg];exact Nat.ne_of_gt (Q3 (g:= τ) (o:=.cells #[.slice ζ B.length γ,.slice η I.length ε] 27 (0,0)) (by(with_reducible repeat first|apply Qf|apply Qb|apply Qg);exact X.out)): μ ≠ τ))
      have be:=Aside0.mk ((by rw[hg];exact Nat.ne_of_lt (Q3 (g:= ω) (o:=.cells #[.int .i64 δ,.int .i64 L,.int .i64 θ] 29 (0,0)) (by(with_reducible repeat first|apply Qf|apply Qb|apply Qg);exact Y.out)): ω ≠ μ))
      have bf:=Aside0.mk ((by rw[hg];exact Nat.ne_of_gt (Q3 (g:= ω) (o:=.cells #[.int .i64 δ,.int .i64 L,.int .i64 θ] 29 (0,0)) (by(with_reducible repeat first|apply Qf|apply Qb|apply Qg);exact Y.out)): μ ≠ ω))
      clear a3
      clear a4
      clear aj
      clear ak
      clear U
      clear X
      clear Y
      clear HB
      have a3:=O
      have a4:=Z
      have aj:= ι
      have ak:= κ
      have U:= ξ
      have X:= ψ
      have Y:=a1
      have HB:=af
      have a5:=al
      have cy:=ax
      have av:=ap
      have an:=aw
      have b0:=b1
      have ao:=b8
      have b2:=b9
      have am:=be
      have b3:=bf
      clear O Z ι κ ξ ψ a1 af al ax ap aw b1 b8 b9 be bf
      clear hb hbox hg
      refine hK.out _ _ ⟨qc U,qc U,qc X,qc X,qc Y,qc Y,qc Y⟩ (fun hHeld=>?_)
      clear hK K
      refine qN (some 7) ?_
      exact Xn (by simp only[Z9,Act.put,qS]) (hCont (.slice k6 bp.length k7,.slice eo bq.length ep,cr,ct,μ) _ ⟨hHeld,(by(with_reducible repeat first|apply Kd.Qm|apply Kd.Ql|apply Kd.Qn);exact Kd.Qr a3.out (fun _ hk=>hk.2)),(by(with_reducible repeat first|apply Kd.Qm|apply Kd.Ql|apply Kd.Qn);exact Kd.Qr a4.out (fun _ hk=>hk.2)),(by(with_reducible repeat first|apply Kd.Qm|apply Kd.Ql|apply Kd.Qn);exact Kd.Qr aj.out (fun _ hk=>hk.2)),(by(with_reducible repeat first|apply Kd.Qm|apply Kd.Ql|apply Kd.Qn);exact Kd.Qr ak.out (fun _ hk=>hk.2)),(by(with_reducible repeat first|apply Qf|apply Qb|apply Qg);exact U.out),(by(with_reducible repeat first|apply Qf|apply Qb|apply Qg);exact X.out),(by(with_reducible repeat first|apply Qf|apply Qb|apply Qg);exact Y.out),(by(with_reducible repeat first|apply Qf|apply Qb|apply Qg);exact a5.out),cy.out,av.out,an.out,b0.out,ao.out,b2.out,am.out,b3.out,(by repeat(first|(with_reducible first|exact HB.out|apply Qh|apply Qc|apply Qe|refine Qd ?_ a2.out|refine Qd ?_ a6.out|refine Qd ?_ a8.out|refine Qd ?_ av.out)|exact HB.out))⟩)
     ·skip
      refine Xo ?hg (N:=7) ?hd (cs:=#[.slice none 0 0,.slice none 0 0]) (t:=27) ?hr ?_;(case hd=>rfl);(case hg=>rfl);(case hr=>first|(go_simp;done)|(go_simp;rfl))
      intro μ hg d0 hbox hb
      have O:=Aside0.mk (Kd.Qu (by(with_reducible repeat first|apply Kd.Qm|apply Kd.Ql|apply Kd.Qn);exact a3.out) hb)
      have Z:=Aside0.mk (Kd.Qu (by(with_reducible repeat first|apply Kd.Qm|apply Kd.Ql|apply Kd.Qn);exact a4.out) hb)
      have ι :=Aside0.mk (Qo (g:= ν) (o:=.cells #[.int .i64 J,.int .i64 D] 23 (0,0)) (by(with_reducible repeat first|apply Qf|apply Qb|apply Qg);exact U.out) hb)
      have κ :=Aside0.mk (Qo (g:= τ) (o:=.cells #[.slice ζ B.length γ,.slice η I.length ε] 27 (0,0)) (by(with_reducible repeat first|apply Qf|apply Qb|apply Qg);exact X.out) hb)
      have ξ :=Aside0.mk (Qo (g:= ω) (o:=.cells #[.int .i64 δ,.int .i64 L,.int .i64 θ] 29 (0,0)) (by(with_reducible repeat first|apply Qf|apply Qb|apply Qg);exact Y.out) hb)
      have ψ :=Aside0.mk (Qt (by repeat(first|(with_reducible first|exact HB.out|apply Qh|apply Qc|apply Qe|refine Qd ?_ a2.out|refine Qd ?_ a6.out|refine Qd ?_ a8.out)|exact HB.out)) hb)
      have a1:=Aside0.mk (hbox)
      have af:=Aside0.mk ((by rw[hg];exact(Qj (by repeat(first|(with_reducible first|exact HB.out|apply Qh|apply Qc|apply Qe|refine Qd ?_ a2.out|refine Qd ?_ a6.out|refine Qd ?_ a8.out)|exact HB.out))):w.heap.size ≤ μ))
      have al:=Aside0.mk ((by rw[hg];exact(Qj (by repeat(first|(with_reducible first|exact HB.out|apply Qh|apply Qc|apply Qe|refine Qd ?_ a2.out|refine Qd ?_ a6.out|refine Qd ?_ a8.out)|exact HB.out))):w.heap.size ≤ μ))
      have ax:=Aside0.mk ((by rw[hg];exact Nat.ne_of_lt (Q3 (g:= ν) (o:=.cells #[.int .i64 J,.int .i64 D] 23 (0,0)) (by(with_reducible repeat first|apply Qf|apply Qb|apply Qg);exact U.out)): ν ≠ μ))
      have ap:=Aside0.mk ((by rw[hg];exact Nat.ne_of_gt (Q3 (g:= ν) (o:=.cells #[.int .i64 J,.int .i64 D] 23 (0,0)) (by(with_reducible repeat first|apply Qf|apply Qb|apply Qg);exact U.out)): μ ≠ ν))
      have aw:=Aside0.mk ((by rw[hg];exact Nat.ne_of_lt (Q3 (g:= τ) (o:=.cells #[.slice ζ B.length γ,.slice η I.length ε] 27 (0,0)) (by(with_reducible repeat first|apply Qf|apply Qb|apply Qg);exact X.out)): τ ≠ μ))
      have b1:=Aside0.mk ((by rw[hg];exact Nat.ne_of_gt (Q3 (g:= τ) (o:=.cells #[.slice ζ B.length γ,.slice η I.length ε] 27 (0,0)) (by(with_reducible repeat first|apply Qf|apply Qb|apply Qg);exact X.out)): μ ≠ τ))
      have b8:=Aside0.mk ((by rw[hg];exact Nat.ne_of_lt (Q3 (g:= ω) (o:=.cells #[.int .i64 δ,.int .i64 L,.int .i64 θ] 29 (0,0)) (by(with_reducible repeat first|apply Qf|apply Qb|apply Qg);exact Y.out)): ω ≠ μ))
      have b9:=Aside0.mk ((by rw[hg];exact Nat.ne_of_gt (Q3 (g:= ω) (o:=.cells #[.int .i64 δ,.int .i64 L,.int .i64 θ] 29 (0,0)) (by(with_reducible repeat first|apply Qf|apply Qb|apply Qg);exact Y.out)): μ ≠ ω))
      clear a3
      clear a4
      clear U
      clear X
      clear Y
      clear HB
      have a3:=O
      have a4:=Z
      have U:= ι
      have X:= κ
      have Y:= ξ
      have HB:= ψ
      have a5:=a1
      have cy:=af
      have av:=al
      have an:=ax
      have b0:=ap
      have ao:=aw
      have b2:=b1
      have am:=b8
      have b3:=b9
      clear O Z ι κ ξ ψ a1 af al ax ap aw b1 b8 b9
      clear hb hbox hg
      obtain⟨eo,ep,er⟩:=Kd.Q5 a3.out
      (first|subst er|(injection er with φ a9 χ;have aa:= φ.symm;have ab:= χ.symm;clear φ a9 χ;subst aa;subst ab))
      obtain⟨gh,gi,gj⟩:=Kd.Q5 a4.out
      (first|subst gj|(injection gj with φ a9 χ;have aa:= φ.symm;have ab:= χ.symm;clear φ a9 χ;subst aa;subst ab))
      refine hK.out _ _ ⟨qc U,qc U,qc X,qc X,qc Y,qc Y,qc Y⟩ (fun hHeld=>?_)
      clear hK K
      refine qN (some 7) ?_
      refine Zi (i:=4) (N:=some 21) #[true,true,true,true,true,false,false,false,true,false,false] rfl rfl (Q0 HT_.out kr) (by decide) (fun K hK=>?_)
      refine Zc Try.func11 kr rfl #[.agg #[.int .i64 J,.int .i64 D],.agg #[.slice eo bp.length ep,.slice gh bq.length gi],.agg #[.int .i64 δ,.int .i64 L,.int .i64 θ]] (by rfl) rfl rfl (by(try simp only[List.map_toArray,List.map_cons,List.map_nil]);first|done|rfl|(simp only[List.length_drop,List.length_take];rfl)) ?_
      with_reducible refine(call_Press.calls k J D _ _ bp _ _ bq δ L θ ac ae cd _ ?side1 ?side2 ?side3 ?side4 A7.out).mono ?_
      (case side1=>repeat(first|exact(Kd.Qq a3.out).2.2|(with_reducible refine Kd.Za ?_ _)|(with_reducible refine Kd.Q9 ?_ _)|(with_reducible refine Kd.Zm ?_)))
      (case side2=>exact(Kd.Qq a3.out).2.1)
      (case side3=>repeat(first|exact(Kd.Qq a4.out).2.2|(with_reducible refine Kd.Za ?_ _)|(with_reducible refine Kd.Q9 ?_ _)|(with_reducible refine Kd.Zm ?_)))
      (case side4=>exact(Kd.Qq a4.out).2.1)
      rintro e dv ⟨cr,ct,rfl,ρ,a7,hb⟩
      refine⟨_,rfl, ?_⟩
      have O:=Aside0.mk (Kd.Zb (by(with_reducible repeat first|apply Kd.Qm|apply Kd.Ql|apply Kd.Qn);exact a3.out) (Kd.Zf ρ) hb)
      have Z:=Aside0.mk (Kd.Zb (by(with_reducible repeat first|apply Kd.Qm|apply Kd.Ql|apply Kd.Qn);exact a4.out) (Kd.Zf a7) hb)
      have ι :=Aside0.mk (Kd.Q2 (Kd.Zr ρ (Kd.Z8 (by(with_reducible repeat first|apply Kd.Qm|apply Kd.Ql|apply Kd.Qn);exact a3.out))) (Qj (by repeat(first|(with_reducible first|exact HB.out|apply Qh|apply Qc|apply Qe|refine Qd ?_ a2.out|refine Qd ?_ a6.out|refine Qd ?_ a8.out|refine Qd ?_ av.out)|exact HB.out))))
      have κ :=Aside0.mk (Kd.Q2 (Kd.Zr a7 (Kd.Z8 (by(with_reducible repeat first|apply Kd.Qm|apply Kd.Ql|apply Kd.Qn);exact a4.out))) (Qj (by repeat(first|(with_reducible first|exact HB.out|apply Qh|apply Qc|apply Qe|refine Qd ?_ a2.out|refine Qd ?_ a6.out|refine Qd ?_ a8.out|refine Qd ?_ av.out)|exact HB.out))))
      have ξ :=Aside0.mk (Qo (g:= ν) (o:=.cells #[.int .i64 J,.int .i64 D] 23 (0,0)) (by(with_reducible repeat first|apply Qf|apply Qb|apply Qg);exact U.out) hb)
      have ψ :=Aside0.mk (Qo (g:= τ) (o:=.cells #[.slice ζ B.length γ,.slice η I.length ε] 27 (0,0)) (by(with_reducible repeat first|apply Qf|apply Qb|apply Qg);exact X.out) hb)
      have a1:=Aside0.mk (Qo (g:= ω) (o:=.cells #[.int .i64 δ,.int .i64 L,.int .i64 θ] 29 (0,0)) (by(with_reducible repeat first|apply Qf|apply Qb|apply Qg);exact Y.out) hb)
      have af:=Aside0.mk (Qo (g:= μ) (o:=.cells #[.slice none 0 0,.slice none 0 0] 27 (0,0)) (by(with_reducible repeat first|apply Qf|apply Qb|apply Qg);exact a5.out) hb)
      have al:=Aside0.mk (Qt (by repeat(first|(with_reducible first|exact HB.out|apply Qh|apply Qc|apply Qe|refine Qd ?_ a2.out|refine Qd ?_ a6.out|refine Qd ?_ a8.out|refine Qd ?_ av.out)|exact HB.out)) hb)
      clear a3
      clear a4
      clear U
      clear X
      clear Y
      clear a5
      clear HB
      have a3:=O
      have a4:=Z
      have aj:= ι
      have ak:= κ
      have U:= ξ
      have X:= ψ
      have Y:=a1
      have a5:=af
      have HB:=al
      clear O Z ι κ ξ ψ a1 af al
      (try clear hb)
      (try clear a0)
      (try clear hk)
      (try clear hi)
      (try clear ρ)
      (try clear a7)
      refine hK.out _ _ ⟨qc U,qc U,qc X,qc X,qc Y,qc Y,qc Y⟩ (fun hHeld=>?_)
      clear hK K
      refine qN (some 21) ?_
      refine qP 5 (some 16) (qB 11 319) HT_ ?_
      refine qP 6 (some 22) (qB 11 383) HT_ ?_
      refine qP 7 (some 23) (qB 11 511) HT_ ?_
      exact Xn (by simp only[Z9,Act.put,qS]) (hCont (.slice eo bp.length ep,.slice gh bq.length gi,cr,ct,μ) _ ⟨hHeld,(by(with_reducible repeat first|apply Kd.Qm|apply Kd.Ql|apply Kd.Qn);exact Kd.Qr a3.out (fun _ hk=>hk.2)),(by(with_reducible repeat first|apply Kd.Qm|apply Kd.Ql|apply Kd.Qn);exact Kd.Qr a4.out (fun _ hk=>hk.2)),(by(with_reducible repeat first|apply Kd.Qm|apply Kd.Ql|apply Kd.Qn);exact Kd.Qr aj.out (fun _ hk=>hk.2)),(by(with_reducible repeat first|apply Kd.Qm|apply Kd.Ql|apply Kd.Qn);exact Kd.Qr ak.out (fun _ hk=>hk.2)),(by(with_reducible repeat first|apply Qf|apply Qb|apply Qg);exact U.out),(by(with_reducible repeat first|apply Qf|apply Qb|apply Qg);exact X.out),(by(with_reducible repeat first|apply Qf|apply Qb|apply Qg);exact Y.out),(by(with_reducible repeat first|apply Qf|apply Qb|apply Qg);exact a5.out),cy.out,av.out,an.out,b0.out,ao.out,b2.out,am.out,b3.out,(by repeat(first|(with_reducible first|exact HB.out|apply Qh|apply Qc|apply Qe|refine Qd ?_ a2.out|refine Qd ?_ a6.out|refine Qd ?_ a8.out|refine Qd ?_ av.out)|exact HB.out))⟩)
    ·skip
     refine Xo ?hg (N:=7) ?hd (cs:=#[.slice none 0 0,.slice none 0 0]) (t:=27) ?hr ?_;(case hd=>rfl);(case hg=>rfl);(case hr=>first|(go_simp;done)|(go_simp;rfl))
     intro μ hg dw hbox hb
     have O:=Aside0.mk (Qo (g:= ν) (o:=.cells #[.int .i64 J,.int .i64 D] 23 (0,0)) (by(with_reducible repeat first|apply Qf|apply Qb|apply Qg);exact U.out) hb)
     have Z:=Aside0.mk (Qo (g:= τ) (o:=.cells #[.slice ζ B.length γ,.slice η I.length ε] 27 (0,0)) (by(with_reducible repeat first|apply Qf|apply Qb|apply Qg);exact X.out) hb)
     have ι :=Aside0.mk (Qo (g:= ω) (o:=.cells #[.int .i64 δ,.int .i64 L,.int .i64 θ] 29 (0,0)) (by(with_reducible repeat first|apply Qf|apply Qb|apply Qg);exact Y.out) hb)
     have κ :=Aside0.mk (Qt (by repeat(first|(with_reducible first|exact HB.out|apply Qh|apply Qc|apply Qe|refine Qd ?_ a2.out|refine Qd ?_ a6.out|refine Qd ?_ a8.out)|exact HB.out)) hb)
     have ξ :=Aside0.mk (hbox)
     have ψ :=Aside0.mk ((by rw[hg];exact(Qj (by repeat(first|(with_reducible first|exact HB.out|apply Qh|apply Qc|apply Qe|refine Qd ?_ a2.out|refine Qd ?_ a6.out|refine Qd ?_ a8.out)|exact HB.out))):w.heap.size ≤ μ))
     have a1:=Aside0.mk ((by rw[hg];exact(Qj (by repeat(first|(with_reducible first|exact HB.out|apply Qh|apply Qc|apply Qe|refine Qd ?_ a2.out|refine Qd ?_ a6.out|refine Qd ?_ a8.out)|exact HB.out))):w.heap.size ≤ μ))
     have af:=Aside0.mk ((by rw[hg];exact Nat.ne_of_lt (Q3 (g:= ν) (o:=.cells #[.int .i64 J,.int .i64 D] 23 (0,0)) (by(with_reducible repeat first|apply Qf|apply Qb|apply Qg);exact U.out)): ν ≠ μ))
     have al:=Aside0.mk ((by rw[hg];exact Nat.ne_of_gt (Q3 (g:= ν) (o:=.cells #[.int .i64 J,.int .i64 D] 23 (0,0)) (by(with_reducible repeat first|apply Qf|apply Qb|apply Qg);exact U.out)): μ ≠ ν))
     have ax:=Aside0.mk ((by rw[hg];exact Nat.ne_of_lt (Q3 (g:= τ) (o:=.cells #[.slice ζ B.length γ,.slice η I.length ε] 27 (0,0)) (by(with_reducible repeat first|apply Qf|apply Qb|apply Qg);exact X.out)): τ ≠ μ))
     have ap:=Aside0.mk ((by rw[hg];exact Nat.ne_of_gt (Q3 (g:= τ) (o:=.cells #[.slice ζ B.length γ,.slice η I.length ε] 27 (0,0)) (by(with_reducible repeat first|apply Qf|apply Qb|apply Qg);exact X.out)): μ ≠ τ))
     have aw:=Aside0.mk ((by rw[hg];exact Nat.ne_of_lt (Q3 (g:= ω) (o:=.cells #[.int .i64 δ,.int .i64 L,.int .i64 θ] 29 (0,0)) (by(with_reducible repeat first|apply Qf|apply Qb|apply Qg);exact Y.out)): ω ≠ μ))
     have b1:=Aside0.mk ((by rw[hg];exact Nat.ne_of_gt (Q3 (g:= ω) (o:=.cells #[.int .i64 δ,.int .i64 L,.int .i64 θ] 29 (0,0)) (by(with_reducible repeat first|apply Qf|apply Qb|apply Qg);exact Y.out)): μ ≠ ω))
     clear U
     clear X
     clear Y
     clear HB
     have U:=O
     have X:=Z
     have Y:= ι
     have HB:= κ
     have a5:= ξ
     have cy:= ψ
     have av:=a1
     have an:=af
     have b0:=al
     have ao:=ax
     have b2:=ap
     have am:=aw
     have b3:=b1
     clear O Z ι κ ξ ψ a1 af al ax ap aw b1
     clear hb hbox hg
     refine hK.out _ _ ⟨qc U,qc U,qc X,qc X,qc Y,qc Y,qc Y⟩ (fun hHeld=>?_)
     clear hK K
     refine qN (some 7) ?_
     refine Zi (i:=2) (N:=some 19) #[true,true,true,true,false,false,false,false,true,false,false] rfl rfl (Q0 HT_.out kr) (by decide) (fun K hK=>?_)
     refine Zc Try.func12 kr rfl #[.agg #[.slice ζ B.length γ,.slice η I.length ε]] (by rfl) rfl rfl (by(try simp only[List.map_toArray,List.map_cons,List.map_nil]);first|done|rfl|(simp only[List.length_drop,List.length_take];rfl)) ?_
     with_reducible refine(newellaw19_Own.calls _ _ B _ _ I bp bq _ ?side1 ?side2 ?side3 ?side4 A6.out).mono ?_
     (case side1=>repeat(first|exact(Kd.Qz ag.out HB.out)|(with_reducible refine Kd.Za ?_ _)|(with_reducible refine Kd.Q9 ?_ _)|(with_reducible refine Kd.Zm ?_)))
     (case side2=>exact ar.out)
     (case side3=>repeat(first|exact(Kd.Qz ai.out HB.out)|(with_reducible refine Kd.Za ?_ _)|(with_reducible refine Kd.Q9 ?_ _)|(with_reducible refine Kd.Zm ?_)))
     (case side4=>exact au.out)
     rintro e d0 ⟨e9,ea,rfl,ρ,a7,hb⟩
     refine⟨_,rfl, ?_⟩
     have O:=Aside0.mk (Kd.Q2 ρ (Qj (by repeat(first|(with_reducible first|exact HB.out|apply Qh|apply Qc|apply Qe|refine Qd ?_ a2.out|refine Qd ?_ a6.out|refine Qd ?_ a8.out|refine Qd ?_ av.out)|exact HB.out))))
     have Z:=Aside0.mk (Kd.Q2 a7 (Qj (by repeat(first|(with_reducible first|exact HB.out|apply Qh|apply Qc|apply Qe|refine Qd ?_ a2.out|refine Qd ?_ a6.out|refine Qd ?_ a8.out|refine Qd ?_ av.out)|exact HB.out))))
     have ι :=Aside0.mk (Qo (g:= ν) (o:=.cells #[.int .i64 J,.int .i64 D] 23 (0,0)) (by(with_reducible repeat first|apply Qf|apply Qb|apply Qg);exact U.out) hb)
     have κ :=Aside0.mk (Qo (g:= τ) (o:=.cells #[.slice ζ B.length γ,.slice η I.length ε] 27 (0,0)) (by(with_reducible repeat first|apply Qf|apply Qb|apply Qg);exact X.out) hb)
     have ξ :=Aside0.mk (Qo (g:= ω) (o:=.cells #[.int .i64 δ,.int .i64 L,.int .i64 θ] 29 (0,0)) (by(with_reducible repeat first|apply Qf|apply Qb|apply Qg);exact Y.out) hb)
     have ψ :=Aside0.mk (Qo (g:= μ) (o:=.cells #[.slice none 0 0,.slice none 0 0] 27 (0,0)) (by(with_reducible repeat first|apply Qf|apply Qb|apply Qg);exact a5.out) hb)
     have a1:=Aside0.mk (Qt (by repeat(first|(with_reducible first|exact HB.out|apply Qh|apply Qc|apply Qe|refine Qd ?_ a2.out|refine Qd ?_ a6.out|refine Qd ?_ a8.out|refine Qd ?_ av.out)|exact HB.out)) hb)
     clear U
     clear X
     clear Y
     clear a5
     clear HB
     have a3:=O
     have a4:=Z
     have U:= ι
     have X:= κ
     have Y:= ξ
     have a5:= ψ
     have HB:=a1
     clear O Z ι κ ξ ψ a1
     (try clear hb)
     (try clear a0)
     (try clear hk)
     (try clear hi)
     (try clear ρ)
     (try clear a7)
     obtain⟨eo,ep,er⟩:=Kd.Q5 a3.out
     (first|subst er|(injection er with φ a9 χ;have aa:= φ.symm;have ab:= χ.symm;clear φ a9 χ;subst aa;subst ab))
     obtain⟨gh,gi,gj⟩:=Kd.Q5 a4.out
     (first|subst gj|(injection gj with φ a9 χ;have aa:= φ.symm;have ab:= χ.symm;clear φ a9 χ;subst aa;subst ab))
     refine hK.out _ _ ⟨qc U,qc U,qc X,qc X,qc Y,qc Y,qc Y⟩ (fun hHeld=>?_)
     clear hK K
     refine qN (some 19) ?_
     refine Zi (i:=4) (N:=some 21) #[true,true,true,true,true,false,false,false,true,false,false] rfl rfl (Q0 HT_.out kr) (by decide) (fun K hK=>?_)
     refine Zc Try.func11 kr rfl #[.agg #[.int .i64 J,.int .i64 D],.agg #[.slice eo bp.length ep,.slice gh bq.length gi],.agg #[.int .i64 δ,.int .i64 L,.int .i64 θ]] (by rfl) rfl rfl (by(try simp only[List.map_toArray,List.map_cons,List.map_nil]);first|done|rfl|(simp only[List.length_drop,List.length_take];rfl)) ?_
     with_reducible refine(call_Press.calls k J D _ _ bp _ _ bq δ L θ ac ae cd _ ?side1 ?side2 ?side3 ?side4 A7.out).mono ?_
     (case side1=>repeat(first|exact(Kd.Qq a3.out).2.2|(with_reducible refine Kd.Za ?_ _)|(with_reducible refine Kd.Q9 ?_ _)|(with_reducible refine Kd.Zm ?_)))
     (case side2=>exact(Kd.Qq a3.out).2.1)
     (case side3=>repeat(first|exact(Kd.Qq a4.out).2.2|(with_reducible refine Kd.Za ?_ _)|(with_reducible refine Kd.Q9 ?_ _)|(with_reducible refine Kd.Zm ?_)))
     (case side4=>exact(Kd.Qq a4.out).2.1)
     rintro e dv ⟨cr,ct,rfl,ρ,a7,hb⟩
     refine⟨_,rfl, ?_⟩
     have O:=Aside0.mk (Kd.Zb (by(with_reducible repeat first|apply Kd.Qm|apply Kd.Ql|apply Kd.Qn);exact a3.out) (Kd.Zf ρ) hb)
     have Z:=Aside0.mk (Kd.Zb (by(with_reducible repeat first|apply Kd.Qm|apply Kd.Ql|apply Kd.Qn);exact a4.out) (Kd.Zf a7) hb)
     have ι :=Aside0.mk (Kd.Q2 (Kd.Zr ρ (Kd.Z8 (by(with_reducible repeat first|apply Kd.Qm|apply Kd.Ql|apply Kd.Qn);exact a3.out))) (Qj (by repeat(first|(with_reducible first|exact HB.out|apply Qh|apply Qc|apply Qe|refine Qd ?_ a2.out|refine Qd ?_ a6.out|refine Qd ?_ a8.out|refine Qd ?_ av.out)|exact HB.out))))
     have κ :=Aside0.mk (Kd.Q2 (Kd.Zr a7 (Kd.Z8 (by(with_reducible repeat first|apply Kd.Qm|apply Kd.Ql|apply Kd.Qn);exact a4.out))) (Qj (by repeat(first|(with_reducible first|exact HB.out|apply Qh|apply Qc|apply Qe|refine Qd ?_ a2.out|refine Qd ?_ a6.out|refine Qd ?_ a8.out|refine Qd ?_ av.out)|exact HB.out))))
     have ξ :=Aside0.mk (Qo (g:= ν) (o:=.cells #[.int .i64 J,.int .i64 D] 23 (0,0)) (by(with_reducible repeat first|apply Qf|apply Qb|apply Qg);exact U.out) hb)
     have ψ :=Aside0.mk (Qo (g:= τ) (o:=.cells #[.slice ζ B.length γ,.slice η I.length ε] 27 (0,0)) (by(with_reducible repeat first|apply Qf|apply Qb|apply Qg);exact X.out) hb)
     have a1:=Aside0.mk (Qo (g:= ω) (o:=.cells #[.int .i64 δ,.int .i64 L,.int .i64 θ] 29 (0,0)) (by(with_reducible repeat first|apply Qf|apply Qb|apply Qg);exact Y.out) hb)
     have af:=Aside0.mk (Qo (g:= μ) (o:=.cells #[.slice none 0 0,.slice none 0 0] 27 (0,0)) (by(with_reducible repeat first|apply Qf|apply Qb|apply Qg);exact a5.out) hb)
     have al:=Aside0.mk (Qt (by repeat(first|(with_reducible first|exact HB.out|apply Qh|apply Qc|apply Qe|refine Qd ?_ a2.out|refine Qd ?_ a6.out|refine Qd ?_ a8.out|refine Qd ?_ av.out)|exact HB.out)) hb)
     clear a3
     clear a4
     clear U
     clear X
     clear Y
     clear a5
     clear HB
     have a3:=O
     have a4:=Z
     have aj:= ι
     have ak:= κ
     have U:= ξ
     have X:= ψ
     have Y:=a1
     have a5:=af
     have HB:=al
     clear O Z ι κ ξ ψ a1 af al
     (try clear hb)
     (try clear a0)
     (try clear hk)
     (try clear hi)
     (try clear ρ)
     (try clear a7)
     refine hK.out _ _ ⟨qc U,qc U,qc X,qc X,qc Y,qc Y,qc Y⟩ (fun hHeld=>?_)
     clear hK K
     refine qN (some 21) ?_
     refine qP 5 (some 16) (qB 11 319) HT_ ?_
     refine qP 6 (some 22) (qB 11 383) HT_ ?_
     refine qP 7 (some 23) (qB 11 511) HT_ ?_
     exact Xn (by simp only[Z9,Act.put,qS]) (hCont (.slice eo bp.length ep,.slice gh bq.length gi,cr,ct,μ) _ ⟨hHeld,(by(with_reducible repeat first|apply Kd.Qm|apply Kd.Ql|apply Kd.Qn);exact Kd.Qr a3.out (fun _ hk=>hk.2)),(by(with_reducible repeat first|apply Kd.Qm|apply Kd.Ql|apply Kd.Qn);exact Kd.Qr a4.out (fun _ hk=>hk.2)),(by(with_reducible repeat first|apply Kd.Qm|apply Kd.Ql|apply Kd.Qn);exact Kd.Qr aj.out (fun _ hk=>hk.2)),(by(with_reducible repeat first|apply Kd.Qm|apply Kd.Ql|apply Kd.Qn);exact Kd.Qr ak.out (fun _ hk=>hk.2)),(by(with_reducible repeat first|apply Qf|apply Qb|apply Qg);exact U.out),(by(with_reducible repeat first|apply Qf|apply Qb|apply Qg);exact X.out),(by(with_reducible repeat first|apply Qf|apply Qb|apply Qg);exact Y.out),(by(with_reducible repeat first|apply Qf|apply Qb|apply Qg);exact a5.out),cy.out,av.out,an.out,b0.out,ao.out,b2.out,am.out,b3.out,(by repeat(first|(with_reducible first|exact HB.out|apply Qh|apply Qc|apply Qe|refine Qd ?_ a2.out|refine Qd ?_ a6.out|refine Qd ?_ a8.out|refine Qd ?_ av.out)|exact HB.out))⟩)
   rintro⟨e9,ea,cr,ct,μ⟩ bu ⟨hS_,cj,ck,cm,cn,co,dy,dz,e0,e3,e4,db,dc,dd,de,df,dh,di⟩
   have O:Aside0 (Kd.R k56 56 bu w.heap.size (fun k_=>some k_≠(cr:Value).ownBlock) e9 bp):=⟨cj⟩
   have Z:Aside0 (Kd.R k62 62 bu w.heap.size (fun k_=>some k_≠(ct:Value).ownBlock) ea bq):=⟨ck⟩
   have ι :Aside0 (Kd.R k56 56 bu w.heap.size (fun k_=>some k_≠(e9:Value).ownBlock) cr ac):=⟨cm⟩
   have κ :Aside0 (Kd.R k62 62 bu w.heap.size (fun k_=>some k_≠(ea:Value).ownBlock) ct ae):=⟨cn⟩
   have ξ :Aside0 (bu.heap[ν]?=some (.cells #[.int .i64 J,.int .i64 D] 23 (0,0))):=⟨co⟩
   have ψ :Aside0 (bu.heap[τ]?=some (.cells #[.slice ζ B.length γ,.slice η I.length ε] 27 (0,0))):=⟨dy⟩
   have a1:Aside0 (bu.heap[ω]?=some (.cells #[.int .i64 δ,.int .i64 L,.int .i64 θ] 29 (0,0))):=⟨dz⟩
   have af:Aside0 (bu.heap[μ]?=some (.cells #[.slice none 0 0,.slice none 0 0] 27 (0,0))):=⟨e0⟩
   have al:Aside0 (w.heap.size ≤ μ):=⟨e3⟩
   have ax:Aside0 (w.heap.size ≤ μ):=⟨e4⟩
   have ap:Aside0 (ν ≠ μ):=⟨db⟩
   have aw:Aside0 (μ ≠ ν):=⟨dc⟩
   have b1:Aside0 (τ ≠ μ):=⟨dd⟩
   have b8:Aside0 (μ ≠ τ):=⟨de⟩
   have b9:Aside0 (ω ≠ μ):=⟨df⟩
   have be:Aside0 (μ ≠ ω):=⟨dh⟩
   have bf:Aside0 (Below w.heap.size w bu):=⟨di⟩
   clear U
   clear X
   clear Y
   clear HB
   clear cj ck cm cn co dy dz e0 e3 e4 db dc dd de df dh di
   have a3:=O
   have a4:=Z
   have aj:= ι
   have ak:= κ
   have U:= ξ
   have X:= ψ
   have Y:=a1
   have a5:=af
   have cy:=al
   have av:=ax
   have an:=ap
   have b0:=aw
   have ao:=b1
   have b2:=b8
   have am:=b9
   have b3:=be
   have HB:=bf
   clear O Z ι κ ξ ψ a1 af al ax ap aw b1 b8 b9 be bf
   have hHeld:bu.cell? ⟨ν,0,none⟩=some (.int .i64 J)∧bu.cell? ⟨ν,1,none⟩=some (.int .i64 D)∧bu.cell? ⟨τ,0,none⟩=some (.slice ζ B.length γ)∧bu.cell? ⟨τ,1,none⟩=some (.slice η I.length ε)∧bu.cell? ⟨ω,0,none⟩=some (.int .i64 δ)∧bu.cell? ⟨ω,1,none⟩=some (.int .i64 L)∧bu.cell? ⟨ω,2,none⟩=some (.int .i64 θ):=hS_
   obtain⟨bs,br,k9⟩:=Kd.Q5 aj.out
   (first|subst k9|(injection k9 with φ a9 χ;have aa:= φ.symm;have ab:= χ.symm;clear φ a9 χ;subst aa;subst ab))
   obtain⟨bd,bc,i3⟩:=Kd.Q5 ak.out
   (first|subst i3|(injection i3 with φ a9 χ;have aa:= φ.symm;have ab:= χ.symm;clear φ a9 χ;subst aa;subst ab))
   refine Xn (a':=?_) ?_ ?_
   rotate_left
   ·simp only[Z9,Act.put,qS]
    rfl
   refine Zi (i:=9) (N:=none) #[true,true,true,true,true,true,true,true,true,true,false] rfl rfl (Q0 HT_.out kr) (by decide) (fun K hK=>?_)
   have mz:bu.cell? ⟨μ,0,none⟩=some (.slice none 0 0):=(Qi a5.out 0).trans rfl
   have mn:=Q6 a5.out 0
   have m6:=an.out
   have m7:=ao.out
   have m8:=am.out
   have m9:=b0.out
   have ma:=b2.out
   have mb:=b3.out
   have lm:bu.cell? ⟨μ,1,none⟩=some (.slice none 0 0):=(Qi a5.out 1).trans rfl
   have ki:=Q6 a5.out 1
   have ji:=an.out
   have jj:=ao.out
   have mc:=am.out
   have jk:=b0.out
   have jl:=b2.out
   have me:=b3.out
   refine Y4 (w1:=?_) (by rfl) rfl ?_ ?_
   rotate_left
   ·go_simp
    rfl
   refine hK.out _ _ ⟨((cell_far (p:=⟨μ,_,none⟩) an.out _).trans (((cell_far (p:=⟨μ,_,none⟩) an.out _).trans (hHeld.1)))),((cell_far (p:=⟨μ,_,none⟩) an.out _).trans (((cell_far (p:=⟨μ,_,none⟩) an.out _).trans (hHeld.2.1)))),((cell_far (p:=⟨μ,_,none⟩) ao.out _).trans (((cell_far (p:=⟨μ,_,none⟩) ao.out _).trans (hHeld.2.2.1)))),((cell_far (p:=⟨μ,_,none⟩) ao.out _).trans (((cell_far (p:=⟨μ,_,none⟩) ao.out _).trans (hHeld.2.2.2.1)))),((cell_far (p:=⟨μ,_,none⟩) am.out _).trans (((cell_far (p:=⟨μ,_,none⟩) am.out _).trans (hHeld.2.2.2.2.1)))),((cell_far (p:=⟨μ,_,none⟩) am.out _).trans (((cell_far (p:=⟨μ,_,none⟩) am.out _).trans (hHeld.2.2.2.2.2.1)))),((cell_far (p:=⟨μ,_,none⟩) am.out _).trans (((cell_far (p:=⟨μ,_,none⟩) am.out _).trans (hHeld.2.2.2.2.2.2))))⟩ (fun hHeld=>?_)
   clear hK K
   refine qP 10 (some 8) (qB 11 2047) HT_ ?_
   refine Zq (Zd HT_.out kr) ?_
   have iw:=dp.out
   have ix:=dq.out
   have il:=an.out
   have im:=b0.out
   obtain⟨fj,fk,fl,fm⟩:=qD2 U.out
   have g8:=b2.out
   have g9:=ao.out
   have fe:=b3.out
   have ff:=am.out
   obtain⟨ec,ed,ee,ef⟩:=qD2 a5.out
   obtain⟨eg,eh,gk,ei,ej,gs⟩:=qD3 Y.out
   go_upto_region 8 with(first|((with_reducible refine Q1 (f:=11) rfl ?_);refine Zp (some 31) rfl rfl Try.func11 kr rfl #[.agg #[.int .i64 J,.int .i64 D],.agg #[.slice bs ac.length br,.slice bd ae.length bc],.agg #[.int .i64 δ,.int .i64 L,.int .i64 θ]] rfl (by(try simp only[List.map_toArray,List.map_cons,List.map_nil]);first|done|rfl|(simp only[List.length_drop,List.length_take];rfl)) ?_;(with_reducible refine(call_Press.calls k J D _ _ ac _ _ ae δ L θ bh bk fc _ ?side1 ?side2 ?side3 ?side4 A9.out).mono ?_);(case side1=>refine(Kd.Qq (e:=56) (base:=w.heap.size) (ok:=fun k_=>some k_≠(e9:Value).ownBlock) (n:=ac.length) (c:=br) ?_).2.2;exact(by(with_reducible repeat first|apply Kd.Qm|apply Kd.Ql|apply Kd.Qn);exact(Kd.Qr (Kd.Qs (p:=⟨μ,1,none⟩) (Kd.Qs (p:=⟨μ,0,none⟩) (Kd.Qv aj.out a5.out (by decide)) (fun _ hk=>hk.2) (.slice bs ac.length br)) (fun _ hk=>hk.2) (.slice bd ae.length bc)) (fun _ h_=>h_.1))));(case side2=>exact(Kd.Qq aj.out).2.1);(case side3=>refine(Kd.Qq (e:=62) (base:=w.heap.size) (ok:=fun k_=>some k_≠(ea:Value).ownBlock) (n:=ae.length) (c:=bc) ?_).2.2;exact(by(with_reducible repeat first|apply Kd.Qm|apply Kd.Ql|apply Kd.Qn);exact(Kd.Qr (Kd.Qs (p:=⟨μ,1,none⟩) (Kd.Qs (p:=⟨μ,0,none⟩) (Kd.Qv ak.out a5.out (by decide)) (fun _ hk=>hk.2) (.slice bs ac.length br)) (fun _ hk=>hk.2) (.slice bd ae.length bc)) (fun _ h_=>h_.1))));(case side4=>exact(Kd.Qq ak.out).2.1);rintro e k2 ⟨n0,n1,rfl,ρ,a7,hb⟩;refine⟨_,rfl, ?_⟩;have O:=Aside0.mk (Kd.Zb (by(with_reducible repeat first|apply Kd.Qm|apply Kd.Ql|apply Kd.Qn);exact(Kd.Qr (Kd.Qs (p:=⟨μ,1,none⟩) (Kd.Qs (p:=⟨μ,0,none⟩) (Kd.Qv a3.out a5.out (by decide)) (fun _ hk=>hk.2) (.slice bs ac.length br)) (fun _ hk=>hk.2) (.slice bd ae.length bc)) (fun _ h_=>h_.1))) (Kd.Zf ρ) hb);have Z:=Aside0.mk (Kd.Zb (by(with_reducible repeat first|apply Kd.Qm|apply Kd.Ql|apply Kd.Qn);exact(Kd.Qr (Kd.Qs (p:=⟨μ,1,none⟩) (Kd.Qs (p:=⟨μ,0,none⟩) (Kd.Qv a4.out a5.out (by decide)) (fun _ hk=>hk.2) (.slice bs ac.length br)) (fun _ hk=>hk.2) (.slice bd ae.length bc)) (fun _ h_=>h_.1))) (Kd.Zf a7) hb);have ι :=Aside0.mk (Kd.Zb (by(with_reducible repeat first|apply Kd.Qm|apply Kd.Ql|apply Kd.Qn);exact(Kd.Qr (Kd.Qs (p:=⟨μ,1,none⟩) (Kd.Qs (p:=⟨μ,0,none⟩) (Kd.Qv aj.out a5.out (by decide)) (fun _ hk=>hk.2) (.slice bs ac.length br)) (fun _ hk=>hk.2) (.slice bd ae.length bc)) (fun _ h_=>h_.1))) (Kd.Zf ρ) hb);have κ :=Aside0.mk (Kd.Zb (by(with_reducible repeat first|apply Kd.Qm|apply Kd.Ql|apply Kd.Qn);exact(Kd.Qr (Kd.Qs (p:=⟨μ,1,none⟩) (Kd.Qs (p:=⟨μ,0,none⟩) (Kd.Qv ak.out a5.out (by decide)) (fun _ hk=>hk.2) (.slice bs ac.length br)) (fun _ hk=>hk.2) (.slice bd ae.length bc)) (fun _ h_=>h_.1))) (Kd.Zf a7) hb);have ξ :=Aside0.mk (Kd.Q2 (Kd.Zr (Kd.Zr ρ (Kd.Z8 (by(with_reducible repeat first|apply Kd.Qm|apply Kd.Ql|apply Kd.Qn);exact(Kd.Qr (Kd.Qs (p:=⟨μ,1,none⟩) (Kd.Qs (p:=⟨μ,0,none⟩) (Kd.Qv a3.out a5.out (by decide)) (fun _ hk=>hk.2) (.slice bs ac.length br)) (fun _ hk=>hk.2) (.slice bd ae.length bc)) (fun _ h_=>h_.1))))) (Kd.Z8 (by(with_reducible repeat first|apply Kd.Qm|apply Kd.Ql|apply Kd.Qn);exact(Kd.Qr (Kd.Qs (p:=⟨μ,1,none⟩) (Kd.Qs (p:=⟨μ,0,none⟩) (Kd.Qv aj.out a5.out (by decide)) (fun _ hk=>hk.2) (.slice bs ac.length br)) (fun _ hk=>hk.2) (.slice bd ae.length bc)) (fun _ h_=>h_.1))))) (Qj (by repeat(first|(with_reducible first|exact HB.out|apply Qh|apply Qc|apply Qe|refine Qd ?_ a2.out|refine Qd ?_ a6.out|refine Qd ?_ a8.out|refine Qd ?_ av.out)|exact HB.out))));have ψ :=Aside0.mk (Kd.Q2 (Kd.Zr (Kd.Zr a7 (Kd.Z8 (by(with_reducible repeat first|apply Kd.Qm|apply Kd.Ql|apply Kd.Qn);exact(Kd.Qr (Kd.Qs (p:=⟨μ,1,none⟩) (Kd.Qs (p:=⟨μ,0,none⟩) (Kd.Qv a4.out a5.out (by decide)) (fun _ hk=>hk.2) (.slice bs ac.length br)) (fun _ hk=>hk.2) (.slice bd ae.length bc)) (fun _ h_=>h_.1))))) (Kd.Z8 (by(with_reducible repeat first|apply Kd.Qm|apply Kd.Ql|apply Kd.Qn);exact(Kd.Qr (Kd.Qs (p:=⟨μ,1,none⟩) (Kd.Qs (p:=⟨μ,0,none⟩) (Kd.Qv ak.out a5.out (by decide)) (fun _ hk=>hk.2) (.slice bs ac.length br)) (fun _ hk=>hk.2) (.slice bd ae.length bc)) (fun _ h_=>h_.1))))) (Qj (by repeat(first|(with_reducible first|exact HB.out|apply Qh|apply Qc|apply Qe|refine Qd ?_ a2.out|refine Qd ?_ a6.out|refine Qd ?_ a8.out|refine Qd ?_ av.out)|exact HB.out))));have a1:=Aside0.mk (Qo (g:= ν) (o:=.cells #[.int .i64 J,.int .i64 D] 23 (0,0)) (by(with_reducible repeat first|apply Qf|apply Qb|apply Qg);refine Zt ?_ an.out _;(with_reducible repeat first|apply Qf|apply Qb|apply Qg);refine Zt ?_ an.out _;(with_reducible repeat first|apply Qf|apply Qb|apply Qg);exact U.out) hb);have af:=Aside0.mk (Qo (g:= τ) (o:=.cells #[.slice ζ B.length γ,.slice η I.length ε] 27 (0,0)) (by(with_reducible repeat first|apply Qf|apply Qb|apply Qg);refine Zt ?_ ao.out _;(with_reducible repeat first|apply Qf|apply Qb|apply Qg);refine Zt ?_ ao.out _;(with_reducible repeat first|apply Qf|apply Qb|apply Qg);exact X.out) hb);have al:=Aside0.mk (Qo (g:= ω) (o:=.cells #[.int .i64 δ,.int .i64 L,.int .i64 θ] 29 (0,0)) (by(with_reducible repeat first|apply Qf|apply Qb|apply Qg);refine Zt ?_ am.out _;(with_reducible repeat first|apply Qf|apply Qb|apply Qg);refine Zt ?_ am.out _;(with_reducible repeat first|apply Qf|apply Qb|apply Qg);exact Y.out) hb);have ax:=Aside0.mk (Qo (g:= μ) (o:=.cells #[.slice bs ac.length br,.slice bd ae.length bc] 27 (0,0)) (by(with_reducible repeat first|apply Qf|apply Qb|apply Qg);refine Qw (cs:=#[.slice bs ac.length br,.slice none 0 0]) ?_ 1 _ rfl;(with_reducible repeat first|apply Qf|apply Qb|apply Qg);refine Qw (cs:=#[.slice none 0 0,.slice none 0 0]) ?_ 0 _ rfl;(with_reducible repeat first|apply Qf|apply Qb|apply Qg);exact a5.out) hb);have ap:=Aside0.mk (Qt (by repeat(first|(with_reducible first|exact HB.out|apply Qh|apply Qc|apply Qe|refine Qd ?_ a2.out|refine Qd ?_ a6.out|refine Qd ?_ a8.out|refine Qd ?_ av.out)|exact HB.out)) hb);clear a3;clear a4;clear aj;clear ak;clear U;clear X;clear Y;clear a5;clear HB;have a3:=O;have a4:=Z;have aj:= ι;have ak:= κ;have ba:= ξ;have bb:= ψ;have U:=a1;have X:=af;have Y:=al;have a5:=ax;have HB:=ap;clear O Z ι κ ξ ψ a1 af al ax ap;(try clear hb);(try clear a0);(try clear hk);(try clear hi);(try clear ρ);(try clear a7))|((with_reducible refine Qp (N:=9) rfl ?_);refine Q7 ?hg (N:=9) ?hd (cs:=#[.slice none 0 0,.slice none 0 0]) (t:=27) ?hr ?_;(case hd=>rfl);(case hg=>rfl);(case hr=>first|(go_simp;done)|(go_simp;rfl));intro ay hg gq hbox hb;have O:=Aside0.mk (Kd.Qu (by(with_reducible repeat first|apply Kd.Qm|apply Kd.Ql|apply Kd.Qn);exact a3.out) hb);have Z:=Aside0.mk (Kd.Qu (by(with_reducible repeat first|apply Kd.Qm|apply Kd.Ql|apply Kd.Qn);exact a4.out) hb);have ι :=Aside0.mk (Kd.Qu (by(with_reducible repeat first|apply Kd.Qm|apply Kd.Ql|apply Kd.Qn);exact aj.out) hb);have κ :=Aside0.mk (Kd.Qu (by(with_reducible repeat first|apply Kd.Qm|apply Kd.Ql|apply Kd.Qn);exact ak.out) hb);have ξ :=Aside0.mk (Kd.Qu (by(with_reducible repeat first|apply Kd.Qm|apply Kd.Ql|apply Kd.Qn);exact ba.out) hb);have ψ :=Aside0.mk (Kd.Qu (by(with_reducible repeat first|apply Kd.Qm|apply Kd.Ql|apply Kd.Qn);exact bb.out) hb);have a1:=Aside0.mk (Qo (g:= ν) (o:=.cells #[.int .i64 J,.int .i64 D] 23 (0,0)) (by(with_reducible repeat first|apply Qf|apply Qb|apply Qg);exact U.out) hb);have af:=Aside0.mk (Qo (g:= τ) (o:=.cells #[.slice ζ B.length γ,.slice η I.length ε] 27 (0,0)) (by(with_reducible repeat first|apply Qf|apply Qb|apply Qg);exact X.out) hb);have al:=Aside0.mk (Qo (g:= ω) (o:=.cells #[.int .i64 δ,.int .i64 L,.int .i64 θ] 29 (0,0)) (by(with_reducible repeat first|apply Qf|apply Qb|apply Qg);exact Y.out) hb);have ax:=Aside0.mk (Qo (g:= μ) (o:=.cells #[.slice bs ac.length br,.slice bd ae.length bc] 27 (0,0)) (by(with_reducible repeat first|apply Qf|apply Qb|apply Qg);exact a5.out) hb);have ap:=Aside0.mk (Qt (by repeat(first|(with_reducible first|exact HB.out|apply Qh|apply Qc|apply Qe|refine Qd ?_ a2.out|refine Qd ?_ a6.out|refine Qd ?_ a8.out|refine Qd ?_ av.out)|exact HB.out)) hb);have aw:=Aside0.mk (hbox);have b1:=Aside0.mk ((by rw[hg];exact(Qj (by repeat(first|(with_reducible first|exact HB.out|apply Qh|apply Qc|apply Qe|refine Qd ?_ a2.out|refine Qd ?_ a6.out|refine Qd ?_ a8.out|refine Qd ?_ av.out)|exact HB.out))):w.heap.size≤ay));have b8:=Aside0.mk ((by rw[hg];exact(Qj (by repeat(first|(with_reducible first|exact HB.out|apply Qh|apply Qc|apply Qe|refine Qd ?_ a2.out|refine Qd ?_ a6.out|refine Qd ?_ a8.out|refine Qd ?_ av.out)|exact HB.out))):w.heap.size≤ay));have b9:=Aside0.mk ((by rw[hg];exact Nat.ne_of_lt (Q3 (g:= ν) (o:=.cells #[.int .i64 J,.int .i64 D] 23 (0,0)) (by(with_reducible repeat first|apply Qf|apply Qb|apply Qg);exact U.out)): ν ≠ ay));have be:=Aside0.mk ((by rw[hg];exact Nat.ne_of_gt (Q3 (g:= ν) (o:=.cells #[.int .i64 J,.int .i64 D] 23 (0,0)) (by(with_reducible repeat first|apply Qf|apply Qb|apply Qg);exact U.out)):ay ≠ ν));have bf:=Aside0.mk ((by rw[hg];exact Nat.ne_of_lt (Q3 (g:= τ) (o:=.cells #[.slice ζ B.length γ,.slice η I.length ε] 27 (0,0)) (by(with_reducible repeat first|apply Qf|apply Qb|apply Qg);exact X.out)): τ ≠ ay));have d7:=Aside0.mk ((by rw[hg];exact Nat.ne_of_gt (Q3 (g:= τ) (o:=.cells #[.slice ζ B.length γ,.slice η I.length ε] 27 (0,0)) (by(with_reducible repeat first|apply Qf|apply Qb|apply Qg);exact X.out)):ay ≠ τ));have d8:=Aside0.mk ((by rw[hg];exact Nat.ne_of_lt (Q3 (g:= ω) (o:=.cells #[.int .i64 δ,.int .i64 L,.int .i64 θ] 29 (0,0)) (by(with_reducible repeat first|apply Qf|apply Qb|apply Qg);exact Y.out)): ω ≠ ay));have ka:=Aside0.mk ((by rw[hg];exact Nat.ne_of_gt (Q3 (g:= ω) (o:=.cells #[.int .i64 δ,.int .i64 L,.int .i64 θ] 29 (0,0)) (by(with_reducible repeat first|apply Qf|apply Qb|apply Qg);exact Y.out)):ay ≠ ω));have kb:=Aside0.mk ((by rw[hg];exact Nat.ne_of_lt (Q3 (g:= μ) (o:=.cells #[.slice bs ac.length br,.slice bd ae.length bc] 27 (0,0)) (by(with_reducible repeat first|apply Qf|apply Qb|apply Qg);exact a5.out)): μ ≠ ay));have kc:=Aside0.mk ((by rw[hg];exact Nat.ne_of_gt (Q3 (g:= μ) (o:=.cells #[.slice bs ac.length br,.slice bd ae.length bc] 27 (0,0)) (by(with_reducible repeat first|apply Qf|apply Qb|apply Qg);exact a5.out)):ay ≠ μ));clear a3;clear a4;clear aj;clear ak;clear ba;clear bb;clear U;clear X;clear Y;clear a5;clear HB;have a3:=O;have a4:=Z;have aj:= ι;have ak:= κ;have ba:= ξ;have bb:= ψ;have U:=a1;have X:=af;have Y:=al;have a5:=ax;have HB:=ap;have az:=aw;have mo:=b1;have dl:=b8;have cu:=b9;have et:=be;have cv:=bf;have eu:=d7;have cw:=d8;have ev:=ka;have cx:=kb;have ew:=kc;clear O Z ι κ ξ ψ a1 af al ax ap aw b1 b8 b9 be bf d7 d8 ka kb kc;clear hb hbox hg;obtain⟨bm,bn,hj⟩:=Kd.Q5 ba.out;subst hj;have l7:=et.out;have l8:=cu.out;have ey:=eu.out;have ez:=cv.out;have hl:=ev.out;have ho:=cw.out;have hu:=ew.out;have hx:=cx.out;obtain⟨f4,f5,f7,f8⟩:=qD2 az.out;obtain⟨bi,bg,ih⟩:=Kd.Q5 bb.out;subst ih;obtain⟨g0,g1,g2,g3⟩:=qD2 a5.out;obtain⟨jq,jr,js,jt⟩:=qD2 X.out))
   (try simp only[Act.put,qS])
   go_cut [6] (fun v6 wc=>∃ (kq:Nat) (ij:Bool),v6 = .bool ij∧Aside0 (newellaw19_CallOnce.j0 kq ij=some r)∧Aside0 (kq≤k)∧Aside0 (Kd.R k56 56 wc w.heap.size (fun k_=>some k_≠((.slice bm bh.length bn):Value).ownBlock) (.slice bs ac.length br) ac)∧Aside0 (Kd.R k62 62 wc w.heap.size (fun k_=>some k_≠((.slice bi bk.length bg):Value).ownBlock) (.slice bd ae.length bc) ae)∧Aside0 (Kd.R k56 56 wc w.heap.size (fun k_=>some k_≠((.slice bs ac.length br):Value).ownBlock) (.slice bm bh.length bn) bh)∧Aside0 (Kd.R k62 62 wc w.heap.size (fun k_=>some k_≠((.slice bd ae.length bc):Value).ownBlock) (.slice bi bk.length bg) bk)∧Aside0 (wc.heap[ν]?=some (.cells #[.int .i64 J,.int .i64 D] 23 (0,0)))∧Aside0 (wc.heap[τ]?=some (.cells #[(.slice ζ B.length γ),(.slice η I.length ε)] 27 (0,0)))∧Aside0 (wc.heap[ω]?=some (.cells #[.int .i64 δ,.int .i64 L,.int .i64 θ] 29 (0,0)))∧Aside0 (wc.heap[μ]?=some (.cells #[(.slice bs ac.length br),(.slice bd ae.length bc)] 27 (0,0)))∧Aside0 (wc.heap[ay]?=some (.cells #[(.slice bm bh.length bn),(.slice bi bk.length bg)] 27 (0,0)))∧Aside0 (Below w.heap.size w wc))
   case first=>
    have H:=ii.out
    clear ii
    replace H:=Option.bind_eq_some_iff.mp H
    obtain⟨cz,kd,H⟩:=H
    replace H:(if cz=true then (if fc=0 then ((call_Same.f k ac ae bh bk).bind fun bw=>(if bw=true then ((call_Check.f k J D ac ae).bind fun bl=>(if bl=0 then (if (wrap64 ((wrap64 ((wrap64 ((ac.length:Int)+(ae.length:Int))) - (B.length:Int))) - (I.length:Int)))=1 then (newellaw19_CallOnce.j0 k true) else (if (wrap64 ((wrap64 ((wrap64 ((ac.length:Int)+(ae.length:Int))) - (B.length:Int))) - (I.length:Int)))=0 then ((call_Same.f k ac ae B I).bind fun bo=>(newellaw19_CallOnce.j0 k bo)) else (none))) else (none))) else (none))) else (none)) else (none))=some r:=H
    have lh:=Aside0.mk kd
    clear kd
    by_cases fb:cz=true
    ·subst fb
     have H1:(if fc=0 then ((call_Same.f k ac ae bh bk).bind fun bw=>(if bw=true then ((call_Check.f k J D ac ae).bind fun bl=>(if bl=0 then (if (wrap64 ((wrap64 ((wrap64 ((ac.length:Int)+(ae.length:Int))) - (B.length:Int))) - (I.length:Int)))=1 then (newellaw19_CallOnce.j0 k true) else (if (wrap64 ((wrap64 ((wrap64 ((ac.length:Int)+(ae.length:Int))) - (B.length:Int))) - (I.length:Int)))=0 then ((call_Same.f k ac ae B I).bind fun bo=>(newellaw19_CallOnce.j0 k bo)) else (none))) else (none))) else (none))) else (none))=some r:=by rw[if_pos rfl] at H;exact H
     clear H
     have H:=H1
     clear H1
     by_cases dn:fc=0
     ·rw[if_pos dn] at H
      have c49b0:(fc==0)=true:=beq_iff_eq.mpr dn
      have c49b1:(fc != 0)=false:=bne_eq_false_iff_eq.mpr dn
      clear dn
      (first|rw[c49b0]|(simp only[Zg,Zj];rw[c49b0])|skip)
      replace H:=Option.bind_eq_some_iff.mp H
      obtain⟨bw,ge,H⟩:=H
      replace H:(if bw=true then ((call_Check.f k J D ac ae).bind fun bl=>(if bl=0 then (if (wrap64 ((wrap64 ((wrap64 ((ac.length:Int)+(ae.length:Int))) - (B.length:Int))) - (I.length:Int)))=1 then (newellaw19_CallOnce.j0 k true) else (if (wrap64 ((wrap64 ((wrap64 ((ac.length:Int)+(ae.length:Int))) - (B.length:Int))) - (I.length:Int)))=0 then ((call_Same.f k ac ae B I).bind fun bo=>(newellaw19_CallOnce.j0 k bo)) else (none))) else (none))) else (none))=some r:=H
      have bz:=Aside0.mk ge
      clear ge
      by_cases dt:bw=true
      ·subst dt
       have H1:((call_Check.f k J D ac ae).bind fun bl=>(if bl=0 then (if (wrap64 ((wrap64 ((wrap64 ((ac.length:Int)+(ae.length:Int))) - (B.length:Int))) - (I.length:Int)))=1 then (newellaw19_CallOnce.j0 k true) else (if (wrap64 ((wrap64 ((wrap64 ((ac.length:Int)+(ae.length:Int))) - (B.length:Int))) - (I.length:Int)))=0 then ((call_Same.f k ac ae B I).bind fun bo=>(newellaw19_CallOnce.j0 k bo)) else (none))) else (none)))=some r:=by rw[if_pos rfl] at H;exact H
       clear H
       have H:=H1
       clear H1
       replace H:=Option.bind_eq_some_iff.mp H
       obtain⟨bl,ke,H⟩:=H
       replace H:(if bl=0 then (if (wrap64 ((wrap64 ((wrap64 ((ac.length:Int)+(ae.length:Int))) - (B.length:Int))) - (I.length:Int)))=1 then (newellaw19_CallOnce.j0 k true) else (if (wrap64 ((wrap64 ((wrap64 ((ac.length:Int)+(ae.length:Int))) - (B.length:Int))) - (I.length:Int)))=0 then ((call_Same.f k ac ae B I).bind fun bo=>(newellaw19_CallOnce.j0 k bo)) else (none))) else (none))=some r:=H
       have ll:=Aside0.mk ke
       clear ke
       by_cases el:bl=0
       ·rw[if_pos el] at H
        have c53b0:(bl==0)=true:=beq_iff_eq.mpr el
        have c53b1:(bl != 0)=false:=bne_eq_false_iff_eq.mpr el
        clear el
        by_cases em:(wrap64 ((wrap64 ((wrap64 ((ac.length:Int)+(ae.length:Int))) - (B.length:Int))) - (I.length:Int)))=1
        ·rw[if_pos em] at H
         have c54b0:((wrap64 ((wrap64 ((wrap64 ((ac.length:Int)+(ae.length:Int))) - (B.length:Int))) - (I.length:Int)))==1)=true:=beq_iff_eq.mpr em
         have c54b1:((wrap64 ((wrap64 ((wrap64 ((ac.length:Int)+(ae.length:Int))) - (B.length:Int))) - (I.length:Int))) != 1)=false:=bne_eq_false_iff_eq.mpr em
         clear em
         have H':=Aside0.mk H
         clear H
         go_wp2_with (first|((with_reducible refine Q1 (f:=10) rfl ?_);refine Zp (some 49) rfl rfl Try.func10 kr rfl #[] rfl (by(try simp only[List.map_toArray,List.map_cons,List.map_nil]);first|done|rfl|(simp only[List.length_drop,List.length_take];rfl)) ?_;(with_reducible refine(newellaw19_awake.calls k  true _ lh.out).mono ?_);rintro e iq ⟨rfl,hb⟩;refine⟨_,rfl, ?_⟩;have O:=Aside0.mk (Kd.Qu (by(with_reducible repeat first|apply Kd.Qm|apply Kd.Ql|apply Kd.Qn);exact(Kd.Qr (Kd.Qs (p:=⟨ay,1,none⟩) (Kd.Qs (p:=⟨ay,0,none⟩) (Kd.Qv a3.out az.out (by decide)) (fun _ hk=>hk.2) (.slice bm bh.length bn)) (fun _ hk=>hk.2) (.slice bi bk.length bg)) (fun _ h_=>h_.1))) hb);have Z:=Aside0.mk (Kd.Qu (by(with_reducible repeat first|apply Kd.Qm|apply Kd.Ql|apply Kd.Qn);exact(Kd.Qr (Kd.Qs (p:=⟨ay,1,none⟩) (Kd.Qs (p:=⟨ay,0,none⟩) (Kd.Qv a4.out az.out (by decide)) (fun _ hk=>hk.2) (.slice bm bh.length bn)) (fun _ hk=>hk.2) (.slice bi bk.length bg)) (fun _ h_=>h_.1))) hb);have ι :=Aside0.mk (Kd.Qu (by(with_reducible repeat first|apply Kd.Qm|apply Kd.Ql|apply Kd.Qn);exact(Kd.Qr (Kd.Qs (p:=⟨ay,1,none⟩) (Kd.Qs (p:=⟨ay,0,none⟩) (Kd.Qv aj.out az.out (by decide)) (fun _ hk=>hk.2) (.slice bm bh.length bn)) (fun _ hk=>hk.2) (.slice bi bk.length bg)) (fun _ h_=>h_.1))) hb);have κ :=Aside0.mk (Kd.Qu (by(with_reducible repeat first|apply Kd.Qm|apply Kd.Ql|apply Kd.Qn);exact(Kd.Qr (Kd.Qs (p:=⟨ay,1,none⟩) (Kd.Qs (p:=⟨ay,0,none⟩) (Kd.Qv ak.out az.out (by decide)) (fun _ hk=>hk.2) (.slice bm bh.length bn)) (fun _ hk=>hk.2) (.slice bi bk.length bg)) (fun _ h_=>h_.1))) hb);have ξ :=Aside0.mk (Kd.Qu (by(with_reducible repeat first|apply Kd.Qm|apply Kd.Ql|apply Kd.Qn);exact(Kd.Qr (Kd.Qs (p:=⟨ay,1,none⟩) (Kd.Qs (p:=⟨ay,0,none⟩) (Kd.Qv ba.out az.out (by decide)) (fun _ hk=>hk.2) (.slice bm bh.length bn)) (fun _ hk=>hk.2) (.slice bi bk.length bg)) (fun _ h_=>h_.1))) hb);have ψ :=Aside0.mk (Kd.Qu (by(with_reducible repeat first|apply Kd.Qm|apply Kd.Ql|apply Kd.Qn);exact(Kd.Qr (Kd.Qs (p:=⟨ay,1,none⟩) (Kd.Qs (p:=⟨ay,0,none⟩) (Kd.Qv bb.out az.out (by decide)) (fun _ hk=>hk.2) (.slice bm bh.length bn)) (fun _ hk=>hk.2) (.slice bi bk.length bg)) (fun _ h_=>h_.1))) hb);have a1:=Aside0.mk (Qo (g:= ν) (o:=.cells #[.int .i64 J,.int .i64 D] 23 (0,0)) (by(with_reducible repeat first|apply Qf|apply Qb|apply Qg);refine Zt ?_ cu.out _;(with_reducible repeat first|apply Qf|apply Qb|apply Qg);refine Zt ?_ cu.out _;(with_reducible repeat first|apply Qf|apply Qb|apply Qg);exact U.out) hb);have af:=Aside0.mk (Qo (g:= τ) (o:=.cells #[.slice ζ B.length γ,.slice η I.length ε] 27 (0,0)) (by(with_reducible repeat first|apply Qf|apply Qb|apply Qg);refine Zt ?_ cv.out _;(with_reducible repeat first|apply Qf|apply Qb|apply Qg);refine Zt ?_ cv.out _;(with_reducible repeat first|apply Qf|apply Qb|apply Qg);exact X.out) hb);have al:=Aside0.mk (Qo (g:= ω) (o:=.cells #[.int .i64 δ,.int .i64 L,.int .i64 θ] 29 (0,0)) (by(with_reducible repeat first|apply Qf|apply Qb|apply Qg);refine Zt ?_ cw.out _;(with_reducible repeat first|apply Qf|apply Qb|apply Qg);refine Zt ?_ cw.out _;(with_reducible repeat first|apply Qf|apply Qb|apply Qg);exact Y.out) hb);have ax:=Aside0.mk (Qo (g:= μ) (o:=.cells #[.slice bs ac.length br,.slice bd ae.length bc] 27 (0,0)) (by(with_reducible repeat first|apply Qf|apply Qb|apply Qg);refine Zt ?_ cx.out _;(with_reducible repeat first|apply Qf|apply Qb|apply Qg);refine Zt ?_ cx.out _;(with_reducible repeat first|apply Qf|apply Qb|apply Qg);exact a5.out) hb);have ap:=Aside0.mk (Qo (g:=ay) (o:=.cells #[.slice bm bh.length bn,.slice bi bk.length bg] 27 (0,0)) (by(with_reducible repeat first|apply Qf|apply Qb|apply Qg);refine Qw (cs:=#[.slice bm bh.length bn,.slice none 0 0]) ?_ 1 _ rfl;(with_reducible repeat first|apply Qf|apply Qb|apply Qg);refine Qw (cs:=#[.slice none 0 0,.slice none 0 0]) ?_ 0 _ rfl;(with_reducible repeat first|apply Qf|apply Qb|apply Qg);exact az.out) hb);have aw:=Aside0.mk (Qt (by repeat(first|(with_reducible first|exact HB.out|apply Qh|apply Qc|apply Qe|refine Qd ?_ a2.out|refine Qd ?_ a6.out|refine Qd ?_ a8.out|refine Qd ?_ av.out|refine Qd ?_ dl.out)|exact HB.out)) hb);clear a3;clear a4;clear aj;clear ak;clear ba;clear bb;clear U;clear X;clear Y;clear a5;clear az;clear HB;have a3:=O;have a4:=Z;have aj:= ι;have ak:= κ;have ba:= ξ;have bb:= ψ;have U:=a1;have X:=af;have Y:=al;have a5:=ax;have az:=ap;have HB:=aw;clear O Z ι κ ξ ψ a1 af al ax ap aw;(try clear hb);(try clear a0);(try clear hk);(try clear hi);have mq:=b0.out;have mr:=an.out;have ms:=b2.out;have mt:=ao.out;have ir:=b3.out;have it:=am.out;have kj:=cx.out;have kk:=ew.out;obtain⟨ju,jv,jw,jx⟩:=qD2 a5.out;have hy:=et.out;have i0:=cu.out;have iy:=eu.out;have iz:=cv.out;have ga:=ev.out;have gb:=cw.out;obtain⟨gt,gu,gv,gw⟩:=qD2 az.out)|(go_at_call 27;(with_reducible refine(call_Same.calls k _ _ ac _ _ ae _ _ bh _ _ bk true _ ?side1 ?side2 ?side3 ?side4 ?side5 ?side6 ?side7 ?side8 bz.out).mono ?_);(case side1=>repeat(first|exact(Kd.Qq aj.out).2.2|(with_reducible refine Kd.Za ?_ _)|(with_reducible refine Kd.Q9 ?_ _)|(with_reducible refine Kd.Zm ?_)));(case side2=>exact(Kd.Qq aj.out).2.1);(case side3=>repeat(first|exact(Kd.Qq ak.out).2.2|(with_reducible refine Kd.Za ?_ _)|(with_reducible refine Kd.Q9 ?_ _)|(with_reducible refine Kd.Zm ?_)));(case side4=>exact(Kd.Qq ak.out).2.1);(case side5=>repeat(first|exact(Kd.Qq ba.out).2.2|(with_reducible refine Kd.Za ?_ _)|(with_reducible refine Kd.Q9 ?_ _)|(with_reducible refine Kd.Zm ?_)));(case side6=>exact(Kd.Qq ba.out).2.1);(case side7=>repeat(first|exact(Kd.Qq bb.out).2.2|(with_reducible refine Kd.Za ?_ _)|(with_reducible refine Kd.Q9 ?_ _)|(with_reducible refine Kd.Zm ?_)));(case side8=>exact(Kd.Qq bb.out).2.1);rintro e nb ⟨rfl,hb⟩;have O:=Aside0.mk (Kd.Qu (by(with_reducible repeat first|apply Kd.Qm|apply Kd.Ql|apply Kd.Qn);exact a3.out) hb);have Z:=Aside0.mk (Kd.Qu (by(with_reducible repeat first|apply Kd.Qm|apply Kd.Ql|apply Kd.Qn);exact a4.out) hb);have ι :=Aside0.mk (Kd.Qu (by(with_reducible repeat first|apply Kd.Qm|apply Kd.Ql|apply Kd.Qn);exact aj.out) hb);have κ :=Aside0.mk (Kd.Qu (by(with_reducible repeat first|apply Kd.Qm|apply Kd.Ql|apply Kd.Qn);exact ak.out) hb);have ξ :=Aside0.mk (Kd.Qu (by(with_reducible repeat first|apply Kd.Qm|apply Kd.Ql|apply Kd.Qn);exact ba.out) hb);have ψ :=Aside0.mk (Kd.Qu (by(with_reducible repeat first|apply Kd.Qm|apply Kd.Ql|apply Kd.Qn);exact bb.out) hb);have a1:=Aside0.mk (Qo (g:= ν) (o:=.cells #[.int .i64 J,.int .i64 D] 23 (0,0)) (by(with_reducible repeat first|apply Qf|apply Qb|apply Qg);exact U.out) hb);have af:=Aside0.mk (Qo (g:= τ) (o:=.cells #[.slice ζ B.length γ,.slice η I.length ε] 27 (0,0)) (by(with_reducible repeat first|apply Qf|apply Qb|apply Qg);exact X.out) hb);have al:=Aside0.mk (Qo (g:= ω) (o:=.cells #[.int .i64 δ,.int .i64 L,.int .i64 θ] 29 (0,0)) (by(with_reducible repeat first|apply Qf|apply Qb|apply Qg);exact Y.out) hb);have ax:=Aside0.mk (Qo (g:= μ) (o:=.cells #[.slice bs ac.length br,.slice bd ae.length bc] 27 (0,0)) (by(with_reducible repeat first|apply Qf|apply Qb|apply Qg);exact a5.out) hb);have ap:=Aside0.mk (Qo (g:=ay) (o:=.cells #[.slice bm bh.length bn,.slice bi bk.length bg] 27 (0,0)) (by(with_reducible repeat first|apply Qf|apply Qb|apply Qg);exact az.out) hb);have aw:=Aside0.mk (Qt (by repeat(first|(with_reducible first|exact HB.out|apply Qh|apply Qc|apply Qe|refine Qd ?_ a2.out|refine Qd ?_ a6.out|refine Qd ?_ a8.out|refine Qd ?_ av.out|refine Qd ?_ dl.out)|exact HB.out)) hb);clear a3;clear a4;clear aj;clear ak;clear ba;clear bb;clear U;clear X;clear Y;clear a5;clear az;clear HB;have a3:=O;have a4:=Z;have aj:= ι;have ak:= κ;have ba:= ξ;have bb:= ψ;have U:=a1;have X:=af;have Y:=al;have a5:=ax;have az:=ap;have HB:=aw;clear O Z ι κ ξ ψ a1 af al ax ap aw;(try clear hb);(try clear a0);(try clear hk);(try clear hi);have kl:=cp.out;have km:=cq.out;have kn:=dp.out;have ko:=dq.out;obtain⟨fn,fo,fp,fq⟩:=qD2 U.out;obtain⟨gl,gm,gn,gp⟩:=qD2 a5.out)|(go_at_call 14;(with_reducible refine(call_Check.calls k J D _ _ ac _ _ ae bl _ ?side1 ?side2 ?side3 ?side4 ll.out).mono ?_);(case side1=>repeat(first|exact(Kd.Qq aj.out).2.2|(with_reducible refine Kd.Za ?_ _)|(with_reducible refine Kd.Q9 ?_ _)|(with_reducible refine Kd.Zm ?_)));(case side2=>exact(Kd.Qq aj.out).2.1);(case side3=>repeat(first|exact(Kd.Qq ak.out).2.2|(with_reducible refine Kd.Za ?_ _)|(with_reducible refine Kd.Q9 ?_ _)|(with_reducible refine Kd.Zm ?_)));(case side4=>exact(Kd.Qq ak.out).2.1);rintro e mf ⟨rfl,hb⟩;have O:=Aside0.mk (Kd.Qu (by(with_reducible repeat first|apply Kd.Qm|apply Kd.Ql|apply Kd.Qn);exact a3.out) hb);have Z:=Aside0.mk (Kd.Qu (by(with_reducible repeat first|apply Kd.Qm|apply Kd.Ql|apply Kd.Qn);exact a4.out) hb);have ι :=Aside0.mk (Kd.Qu (by(with_reducible repeat first|apply Kd.Qm|apply Kd.Ql|apply Kd.Qn);exact aj.out) hb);have κ :=Aside0.mk (Kd.Qu (by(with_reducible repeat first|apply Kd.Qm|apply Kd.Ql|apply Kd.Qn);exact ak.out) hb);have ξ :=Aside0.mk (Kd.Qu (by(with_reducible repeat first|apply Kd.Qm|apply Kd.Ql|apply Kd.Qn);exact ba.out) hb);have ψ :=Aside0.mk (Kd.Qu (by(with_reducible repeat first|apply Kd.Qm|apply Kd.Ql|apply Kd.Qn);exact bb.out) hb);have a1:=Aside0.mk (Qo (g:= ν) (o:=.cells #[.int .i64 J,.int .i64 D] 23 (0,0)) (by(with_reducible repeat first|apply Qf|apply Qb|apply Qg);exact U.out) hb);have af:=Aside0.mk (Qo (g:= τ) (o:=.cells #[.slice ζ B.length γ,.slice η I.length ε] 27 (0,0)) (by(with_reducible repeat first|apply Qf|apply Qb|apply Qg);exact X.out) hb);have al:=Aside0.mk (Qo (g:= ω) (o:=.cells #[.int .i64 δ,.int .i64 L,.int .i64 θ] 29 (0,0)) (by(with_reducible repeat first|apply Qf|apply Qb|apply Qg);exact Y.out) hb);have ax:=Aside0.mk (Qo (g:= μ) (o:=.cells #[.slice bs ac.length br,.slice bd ae.length bc] 27 (0,0)) (by(with_reducible repeat first|apply Qf|apply Qb|apply Qg);exact a5.out) hb);have ap:=Aside0.mk (Qo (g:=ay) (o:=.cells #[.slice bm bh.length bn,.slice bi bk.length bg] 27 (0,0)) (by(with_reducible repeat first|apply Qf|apply Qb|apply Qg);exact az.out) hb);have aw:=Aside0.mk (Qt (by repeat(first|(with_reducible first|exact HB.out|apply Qh|apply Qc|apply Qe|refine Qd ?_ a2.out|refine Qd ?_ a6.out|refine Qd ?_ a8.out|refine Qd ?_ av.out|refine Qd ?_ dl.out)|exact HB.out)) hb);clear a3;clear a4;clear aj;clear ak;clear ba;clear bb;clear U;clear X;clear Y;clear a5;clear az;clear HB;have a3:=O;have a4:=Z;have aj:= ι;have ak:= κ;have ba:= ξ;have bb:= ψ;have U:=a1;have X:=af;have Y:=al;have a5:=ax;have az:=ap;have HB:=aw;clear O Z ι κ ξ ψ a1 af al ax ap aw;(try clear hb);(try clear a0);(try clear hk);(try clear hi)))
         go_meet
         case rel=>exact⟨_,(true),qR,H',⟨by first|omega|exact Nat.le_refl _⟩,⟨by(with_reducible repeat first|apply Kd.Qm|apply Kd.Ql|apply Kd.Qn);exact Kd.Qr aj.out (fun _ hk=>hk.2)⟩,⟨by(with_reducible repeat first|apply Kd.Qm|apply Kd.Ql|apply Kd.Qn);exact Kd.Qr ak.out (fun _ hk=>hk.2)⟩,⟨by(with_reducible repeat first|apply Kd.Qm|apply Kd.Ql|apply Kd.Qn);exact Kd.Qr ba.out (fun _ hk=>hk.2)⟩,⟨by(with_reducible repeat first|apply Kd.Qm|apply Kd.Ql|apply Kd.Qn);exact Kd.Qr bb.out (fun _ hk=>hk.2)⟩,⟨by(with_reducible repeat first|apply Qf|apply Qb|apply Qg);exact U.out⟩,⟨by(with_reducible repeat first|apply Qf|apply Qb|apply Qg);exact X.out⟩,⟨by(with_reducible repeat first|apply Qf|apply Qb|apply Qg);exact Y.out⟩,⟨by(with_reducible repeat first|apply Qf|apply Qb|apply Qg);exact a5.out⟩,⟨by(with_reducible repeat first|apply Qf|apply Qb|apply Qg);exact az.out⟩,⟨by repeat(first|(with_reducible first|exact HB.out|apply Qh|apply Qc|apply Qe|refine Qd ?_ a2.out|refine Qd ?_ a6.out|refine Qd ?_ a8.out|refine Qd ?_ av.out|refine Qd ?_ dl.out)|exact HB.out)⟩⟩
        ·rw[if_neg em] at H
         have c54b0:((wrap64 ((wrap64 ((wrap64 ((ac.length:Int)+(ae.length:Int))) - (B.length:Int))) - (I.length:Int)))==1)=false:=beq_eq_false_iff_ne.mpr em
         have c54b1:((wrap64 ((wrap64 ((wrap64 ((ac.length:Int)+(ae.length:Int))) - (B.length:Int))) - (I.length:Int))) != 1)=true:=bne_iff_ne.mpr em
         by_cases h4:(wrap64 ((wrap64 ((wrap64 ((ac.length:Int)+(ae.length:Int))) - (B.length:Int))) - (I.length:Int)))=0
         ·rw[if_pos h4] at H
          have c71b0:((wrap64 ((wrap64 ((wrap64 ((ac.length:Int)+(ae.length:Int))) - (B.length:Int))) - (I.length:Int)))==0)=true:=beq_iff_eq.mpr h4
          have c71b1:((wrap64 ((wrap64 ((wrap64 ((ac.length:Int)+(ae.length:Int))) - (B.length:Int))) - (I.length:Int))) != 0)=false:=bne_eq_false_iff_eq.mpr h4
          clear h4
          replace H:=Option.bind_eq_some_iff.mp H
          obtain⟨bo,kf,H⟩:=H
          replace H:(newellaw19_CallOnce.j0 k bo)=some r:=H
          have mh:=Aside0.mk kf
          clear kf
          have H':=Aside0.mk H
          clear H
          go_wp2_with (first|((with_reducible refine Q1 (f:=10) rfl ?_);refine Zp (some 49) rfl rfl Try.func10 kr rfl #[] rfl (by(try simp only[List.map_toArray,List.map_cons,List.map_nil]);first|done|rfl|(simp only[List.length_drop,List.length_take];rfl)) ?_;(with_reducible refine(newellaw19_awake.calls k  true _ lh.out).mono ?_);rintro e d3 ⟨rfl,hb⟩;refine⟨_,rfl, ?_⟩;have O:=Aside0.mk (Kd.Qu (by(with_reducible repeat first|apply Kd.Qm|apply Kd.Ql|apply Kd.Qn);exact(Kd.Qr (Kd.Qs (p:=⟨ay,1,none⟩) (Kd.Qs (p:=⟨ay,0,none⟩) (Kd.Qv a3.out az.out (by decide)) (fun _ hk=>hk.2) (.slice bm bh.length bn)) (fun _ hk=>hk.2) (.slice bi bk.length bg)) (fun _ h_=>h_.1))) hb);have Z:=Aside0.mk (Kd.Qu (by(with_reducible repeat first|apply Kd.Qm|apply Kd.Ql|apply Kd.Qn);exact(Kd.Qr (Kd.Qs (p:=⟨ay,1,none⟩) (Kd.Qs (p:=⟨ay,0,none⟩) (Kd.Qv a4.out az.out (by decide)) (fun _ hk=>hk.2) (.slice bm bh.length bn)) (fun _ hk=>hk.2) (.slice bi bk.length bg)) (fun _ h_=>h_.1))) hb);have ι :=Aside0.mk (Kd.Qu (by(with_reducible repeat first|apply Kd.Qm|apply Kd.Ql|apply Kd.Qn);exact(Kd.Qr (Kd.Qs (p:=⟨ay,1,none⟩) (Kd.Qs (p:=⟨ay,0,none⟩) (Kd.Qv aj.out az.out (by decide)) (fun _ hk=>hk.2) (.slice bm bh.length bn)) (fun _ hk=>hk.2) (.slice bi bk.length bg)) (fun _ h_=>h_.1))) hb);have κ :=Aside0.mk (Kd.Qu (by(with_reducible repeat first|apply Kd.Qm|apply Kd.Ql|apply Kd.Qn);exact(Kd.Qr (Kd.Qs (p:=⟨ay,1,none⟩) (Kd.Qs (p:=⟨ay,0,none⟩) (Kd.Qv ak.out az.out (by decide)) (fun _ hk=>hk.2) (.slice bm bh.length bn)) (fun _ hk=>hk.2) (.slice bi bk.length bg)) (fun _ h_=>h_.1))) hb);have ξ :=Aside0.mk (Kd.Qu (by(with_reducible repeat first|apply Kd.Qm|apply Kd.Ql|apply Kd.Qn);exact(Kd.Qr (Kd.Qs (p:=⟨ay,1,none⟩) (Kd.Qs (p:=⟨ay,0,none⟩) (Kd.Qv ba.out az.out (by decide)) (fun _ hk=>hk.2) (.slice bm bh.length bn)) (fun _ hk=>hk.2) (.slice bi bk.length bg)) (fun _ h_=>h_.1))) hb);have ψ :=Aside0.mk (Kd.Qu (by(with_reducible repeat first|apply Kd.Qm|apply Kd.Ql|apply Kd.Qn);exact(Kd.Qr (Kd.Qs (p:=⟨ay,1,none⟩) (Kd.Qs (p:=⟨ay,0,none⟩) (Kd.Qv bb.out az.out (by decide)) (fun _ hk=>hk.2) (.slice bm bh.length bn)) (fun _ hk=>hk.2) (.slice bi bk.length bg)) (fun _ h_=>h_.1))) hb);have a1:=Aside0.mk (Qo (g:= ν) (o:=.cells #[.int .i64 J,.int .i64 D] 23 (0,0)) (by(with_reducible repeat first|apply Qf|apply Qb|apply Qg);refine Zt ?_ cu.out _;(with_reducible repeat first|apply Qf|apply Qb|apply Qg);refine Zt ?_ cu.out _;(with_reducible repeat first|apply Qf|apply Qb|apply Qg);exact U.out) hb);have af:=Aside0.mk (Qo (g:= τ) (o:=.cells #[.slice ζ B.length γ,.slice η I.length ε] 27 (0,0)) (by(with_reducible repeat first|apply Qf|apply Qb|apply Qg);refine Zt ?_ cv.out _;(with_reducible repeat first|apply Qf|apply Qb|apply Qg);refine Zt ?_ cv.out _;(with_reducible repeat first|apply Qf|apply Qb|apply Qg);exact X.out) hb);have al:=Aside0.mk (Qo (g:= ω) (o:=.cells #[.int .i64 δ,.int .i64 L,.int .i64 θ] 29 (0,0)) (by(with_reducible repeat first|apply Qf|apply Qb|apply Qg);refine Zt ?_ cw.out _;(with_reducible repeat first|apply Qf|apply Qb|apply Qg);refine Zt ?_ cw.out _;(with_reducible repeat first|apply Qf|apply Qb|apply Qg);exact Y.out) hb);have ax:=Aside0.mk (Qo (g:= μ) (o:=.cells #[.slice bs ac.length br,.slice bd ae.length bc] 27 (0,0)) (by(with_reducible repeat first|apply Qf|apply Qb|apply Qg);refine Zt ?_ cx.out _;(with_reducible repeat first|apply Qf|apply Qb|apply Qg);refine Zt ?_ cx.out _;(with_reducible repeat first|apply Qf|apply Qb|apply Qg);exact a5.out) hb);have ap:=Aside0.mk (Qo (g:=ay) (o:=.cells #[.slice bm bh.length bn,.slice bi bk.length bg] 27 (0,0)) (by(with_reducible repeat first|apply Qf|apply Qb|apply Qg);refine Qw (cs:=#[.slice bm bh.length bn,.slice none 0 0]) ?_ 1 _ rfl;(with_reducible repeat first|apply Qf|apply Qb|apply Qg);refine Qw (cs:=#[.slice none 0 0,.slice none 0 0]) ?_ 0 _ rfl;(with_reducible repeat first|apply Qf|apply Qb|apply Qg);exact az.out) hb);have aw:=Aside0.mk (Qt (by repeat(first|(with_reducible first|exact HB.out|apply Qh|apply Qc|apply Qe|refine Qd ?_ a2.out|refine Qd ?_ a6.out|refine Qd ?_ a8.out|refine Qd ?_ av.out|refine Qd ?_ dl.out)|exact HB.out)) hb);clear a3;clear a4;clear aj;clear ak;clear ba;clear bb;clear U;clear X;clear Y;clear a5;clear az;clear HB;have a3:=O;have a4:=Z;have aj:= ι;have ak:= κ;have ba:= ξ;have bb:= ψ;have U:=a1;have X:=af;have Y:=al;have a5:=ax;have az:=ap;have HB:=aw;clear O Z ι κ ξ ψ a1 af al ax ap aw;(try clear hb);(try clear a0);(try clear hk);(try clear hi);have kp:=b0.out;have ks:=an.out;have kt:=b2.out;have ku:=ao.out;have iu:=b3.out;have iv:=am.out;have kv:=cx.out;have kw:=ew.out;obtain⟨fr,ft,fu,fv⟩:=qD2 a5.out;have j2:=et.out;have j3:=cu.out;have kx:=eu.out;have ky:=cv.out;have j4:=ev.out;have j5:=cw.out;obtain⟨fw,fx,fy,fz⟩:=qD2 az.out)|(go_at_call 27;(with_reducible refine(call_Same.calls k _ _ ac _ _ ae _ _ bh _ _ bk true _ ?side1 ?side2 ?side3 ?side4 ?side5 ?side6 ?side7 ?side8 bz.out).mono ?_);(case side1=>repeat(first|exact(Kd.Qq aj.out).2.2|(with_reducible refine Kd.Za ?_ _)|(with_reducible refine Kd.Q9 ?_ _)|(with_reducible refine Kd.Zm ?_)));(case side2=>exact(Kd.Qq aj.out).2.1);(case side3=>repeat(first|exact(Kd.Qq ak.out).2.2|(with_reducible refine Kd.Za ?_ _)|(with_reducible refine Kd.Q9 ?_ _)|(with_reducible refine Kd.Zm ?_)));(case side4=>exact(Kd.Qq ak.out).2.1);(case side5=>repeat(first|exact(Kd.Qq ba.out).2.2|(with_reducible refine Kd.Za ?_ _)|(with_reducible refine Kd.Q9 ?_ _)|(with_reducible refine Kd.Zm ?_)));(case side6=>exact(Kd.Qq ba.out).2.1);(case side7=>repeat(first|exact(Kd.Qq bb.out).2.2|(with_reducible refine Kd.Za ?_ _)|(with_reducible refine Kd.Q9 ?_ _)|(with_reducible refine Kd.Zm ?_)));(case side8=>exact(Kd.Qq bb.out).2.1);rintro e lg ⟨rfl,hb⟩;have O:=Aside0.mk (Kd.Qu (by(with_reducible repeat first|apply Kd.Qm|apply Kd.Ql|apply Kd.Qn);exact a3.out) hb);have Z:=Aside0.mk (Kd.Qu (by(with_reducible repeat first|apply Kd.Qm|apply Kd.Ql|apply Kd.Qn);exact a4.out) hb);have ι :=Aside0.mk (Kd.Qu (by(with_reducible repeat first|apply Kd.Qm|apply Kd.Ql|apply Kd.Qn);exact aj.out) hb);have κ :=Aside0.mk (Kd.Qu (by(with_reducible repeat first|apply Kd.Qm|apply Kd.Ql|apply Kd.Qn);exact ak.out) hb);have ξ :=Aside0.mk (Kd.Qu (by(with_reducible repeat first|apply Kd.Qm|apply Kd.Ql|apply Kd.Qn);exact ba.out) hb);have ψ :=Aside0.mk (Kd.Qu (by(with_reducible repeat first|apply Kd.Qm|apply Kd.Ql|apply Kd.Qn);exact bb.out) hb);have a1:=Aside0.mk (Qo (g:= ν) (o:=.cells #[.int .i64 J,.int .i64 D] 23 (0,0)) (by(with_reducible repeat first|apply Qf|apply Qb|apply Qg);exact U.out) hb);have af:=Aside0.mk (Qo (g:= τ) (o:=.cells #[.slice ζ B.length γ,.slice η I.length ε] 27 (0,0)) (by(with_reducible repeat first|apply Qf|apply Qb|apply Qg);exact X.out) hb);have al:=Aside0.mk (Qo (g:= ω) (o:=.cells #[.int .i64 δ,.int .i64 L,.int .i64 θ] 29 (0,0)) (by(with_reducible repeat first|apply Qf|apply Qb|apply Qg);exact Y.out) hb);have ax:=Aside0.mk (Qo (g:= μ) (o:=.cells #[.slice bs ac.length br,.slice bd ae.length bc] 27 (0,0)) (by(with_reducible repeat first|apply Qf|apply Qb|apply Qg);exact a5.out) hb);have ap:=Aside0.mk (Qo (g:=ay) (o:=.cells #[.slice bm bh.length bn,.slice bi bk.length bg] 27 (0,0)) (by(with_reducible repeat first|apply Qf|apply Qb|apply Qg);exact az.out) hb);have aw:=Aside0.mk (Qt (by repeat(first|(with_reducible first|exact HB.out|apply Qh|apply Qc|apply Qe|refine Qd ?_ a2.out|refine Qd ?_ a6.out|refine Qd ?_ a8.out|refine Qd ?_ av.out|refine Qd ?_ dl.out)|exact HB.out)) hb);clear a3;clear a4;clear aj;clear ak;clear ba;clear bb;clear U;clear X;clear Y;clear a5;clear az;clear HB;have a3:=O;have a4:=Z;have aj:= ι;have ak:= κ;have ba:= ξ;have bb:= ψ;have U:=a1;have X:=af;have Y:=al;have a5:=ax;have az:=ap;have HB:=aw;clear O Z ι κ ξ ψ a1 af al ax ap aw;(try clear hb);(try clear a0);(try clear hk);(try clear hi);have mu:=cp.out;have mw:=cq.out;have l9:=dp.out;have lb:=dq.out;obtain⟨h5,h6,h7,h8⟩:=qD2 U.out;obtain⟨jy,jz,k0,k1⟩:=qD2 a5.out)|(go_at_call 14;(with_reducible refine(call_Check.calls k J D _ _ ac _ _ ae bl _ ?side1 ?side2 ?side3 ?side4 ll.out).mono ?_);(case side1=>repeat(first|exact(Kd.Qq aj.out).2.2|(with_reducible refine Kd.Za ?_ _)|(with_reducible refine Kd.Q9 ?_ _)|(with_reducible refine Kd.Zm ?_)));(case side2=>exact(Kd.Qq aj.out).2.1);(case side3=>repeat(first|exact(Kd.Qq ak.out).2.2|(with_reducible refine Kd.Za ?_ _)|(with_reducible refine Kd.Q9 ?_ _)|(with_reducible refine Kd.Zm ?_)));(case side4=>exact(Kd.Qq ak.out).2.1);rintro e mi ⟨rfl,hb⟩;have O:=Aside0.mk (Kd.Qu (by(with_reducible repeat first|apply Kd.Qm|apply Kd.Ql|apply Kd.Qn);exact a3.out) hb);have Z:=Aside0.mk (Kd.Qu (by(with_reducible repeat first|apply Kd.Qm|apply Kd.Ql|apply Kd.Qn);exact a4.out) hb);have ι :=Aside0.mk (Kd.Qu (by(with_reducible repeat first|apply Kd.Qm|apply Kd.Ql|apply Kd.Qn);exact aj.out) hb);have κ :=Aside0.mk (Kd.Qu (by(with_reducible repeat first|apply Kd.Qm|apply Kd.Ql|apply Kd.Qn);exact ak.out) hb);have ξ :=Aside0.mk (Kd.Qu (by(with_reducible repeat first|apply Kd.Qm|apply Kd.Ql|apply Kd.Qn);exact ba.out) hb);have ψ :=Aside0.mk (Kd.Qu (by(with_reducible repeat first|apply Kd.Qm|apply Kd.Ql|apply Kd.Qn);exact bb.out) hb);have a1:=Aside0.mk (Qo (g:= ν) (o:=.cells #[.int .i64 J,.int .i64 D] 23 (0,0)) (by(with_reducible repeat first|apply Qf|apply Qb|apply Qg);exact U.out) hb);have af:=Aside0.mk (Qo (g:= τ) (o:=.cells #[.slice ζ B.length γ,.slice η I.length ε] 27 (0,0)) (by(with_reducible repeat first|apply Qf|apply Qb|apply Qg);exact X.out) hb);have al:=Aside0.mk (Qo (g:= ω) (o:=.cells #[.int .i64 δ,.int .i64 L,.int .i64 θ] 29 (0,0)) (by(with_reducible repeat first|apply Qf|apply Qb|apply Qg);exact Y.out) hb);have ax:=Aside0.mk (Qo (g:= μ) (o:=.cells #[.slice bs ac.length br,.slice bd ae.length bc] 27 (0,0)) (by(with_reducible repeat first|apply Qf|apply Qb|apply Qg);exact a5.out) hb);have ap:=Aside0.mk (Qo (g:=ay) (o:=.cells #[.slice bm bh.length bn,.slice bi bk.length bg] 27 (0,0)) (by(with_reducible repeat first|apply Qf|apply Qb|apply Qg);exact az.out) hb);have aw:=Aside0.mk (Qt (by repeat(first|(with_reducible first|exact HB.out|apply Qh|apply Qc|apply Qe|refine Qd ?_ a2.out|refine Qd ?_ a6.out|refine Qd ?_ a8.out|refine Qd ?_ av.out|refine Qd ?_ dl.out)|exact HB.out)) hb);clear a3;clear a4;clear aj;clear ak;clear ba;clear bb;clear U;clear X;clear Y;clear a5;clear az;clear HB;have a3:=O;have a4:=Z;have aj:= ι;have ak:= κ;have ba:= ξ;have bb:= ψ;have U:=a1;have X:=af;have Y:=al;have a5:=ax;have az:=ap;have HB:=aw;clear O Z ι κ ξ ψ a1 af al ax ap aw;(try clear hb);(try clear a0);(try clear hk);(try clear hi);obtain⟨h9,ha,he,hh⟩:=qD2 a5.out;have kz:=d4.out;have l2:=d5.out;obtain⟨gx,gy,gz,h0⟩:=qD2 X.out)|(go_at_call 27;(with_reducible refine(call_Same.calls k _ _ ac _ _ ae _ _ B _ _ I bo _ ?side1 ?side2 ?side3 ?side4 ?side5 ?side6 ?side7 ?side8 mh.out).mono ?_);(case side1=>repeat(first|exact(Kd.Qq aj.out).2.2|(with_reducible refine Kd.Za ?_ _)|(with_reducible refine Kd.Q9 ?_ _)|(with_reducible refine Kd.Zm ?_)));(case side2=>exact(Kd.Qq aj.out).2.1);(case side3=>repeat(first|exact(Kd.Qq ak.out).2.2|(with_reducible refine Kd.Za ?_ _)|(with_reducible refine Kd.Q9 ?_ _)|(with_reducible refine Kd.Zm ?_)));(case side4=>exact(Kd.Qq ak.out).2.1);(case side5=>repeat(first|exact(Kd.Qz ag.out HB.out)|(with_reducible refine Kd.Za ?_ _)|(with_reducible refine Kd.Q9 ?_ _)|(with_reducible refine Kd.Zm ?_)));(case side6=>exact ar.out);(case side7=>repeat(first|exact(Kd.Qz ai.out HB.out)|(with_reducible refine Kd.Za ?_ _)|(with_reducible refine Kd.Q9 ?_ _)|(with_reducible refine Kd.Zm ?_)));(case side8=>exact au.out);rintro e nc ⟨rfl,hb⟩;have O:=Aside0.mk (Kd.Qu (by(with_reducible repeat first|apply Kd.Qm|apply Kd.Ql|apply Kd.Qn);exact a3.out) hb);have Z:=Aside0.mk (Kd.Qu (by(with_reducible repeat first|apply Kd.Qm|apply Kd.Ql|apply Kd.Qn);exact a4.out) hb);have ι :=Aside0.mk (Kd.Qu (by(with_reducible repeat first|apply Kd.Qm|apply Kd.Ql|apply Kd.Qn);exact aj.out) hb);have κ :=Aside0.mk (Kd.Qu (by(with_reducible repeat first|apply Kd.Qm|apply Kd.Ql|apply Kd.Qn);exact ak.out) hb);have ξ :=Aside0.mk (Kd.Qu (by(with_reducible repeat first|apply Kd.Qm|apply Kd.Ql|apply Kd.Qn);exact ba.out) hb);have ψ :=Aside0.mk (Kd.Qu (by(with_reducible repeat first|apply Kd.Qm|apply Kd.Ql|apply Kd.Qn);exact bb.out) hb);have a1:=Aside0.mk (Qo (g:= ν) (o:=.cells #[.int .i64 J,.int .i64 D] 23 (0,0)) (by(with_reducible repeat first|apply Qf|apply Qb|apply Qg);exact U.out) hb);have af:=Aside0.mk (Qo (g:= τ) (o:=.cells #[.slice ζ B.length γ,.slice η I.length ε] 27 (0,0)) (by(with_reducible repeat first|apply Qf|apply Qb|apply Qg);exact X.out) hb);have al:=Aside0.mk (Qo (g:= ω) (o:=.cells #[.int .i64 δ,.int .i64 L,.int .i64 θ] 29 (0,0)) (by(with_reducible repeat first|apply Qf|apply Qb|apply Qg);exact Y.out) hb);have ax:=Aside0.mk (Qo (g:= μ) (o:=.cells #[.slice bs ac.length br,.slice bd ae.length bc] 27 (0,0)) (by(with_reducible repeat first|apply Qf|apply Qb|apply Qg);exact a5.out) hb);have ap:=Aside0.mk (Qo (g:=ay) (o:=.cells #[.slice bm bh.length bn,.slice bi bk.length bg] 27 (0,0)) (by(with_reducible repeat first|apply Qf|apply Qb|apply Qg);exact az.out) hb);have aw:=Aside0.mk (Qt (by repeat(first|(with_reducible first|exact HB.out|apply Qh|apply Qc|apply Qe|refine Qd ?_ a2.out|refine Qd ?_ a6.out|refine Qd ?_ a8.out|refine Qd ?_ av.out|refine Qd ?_ dl.out)|exact HB.out)) hb);clear a3;clear a4;clear aj;clear ak;clear ba;clear bb;clear U;clear X;clear Y;clear a5;clear az;clear HB;have a3:=O;have a4:=Z;have aj:= ι;have ak:= κ;have ba:= ξ;have bb:= ψ;have U:=a1;have X:=af;have Y:=al;have a5:=ax;have az:=ap;have HB:=aw;clear O Z ι κ ξ ψ a1 af al ax ap aw;(try clear hb);(try clear a0);(try clear hk);(try clear hi)))
          go_meet
          case rel=>exact⟨_,(bo),qR,H',⟨by first|omega|exact Nat.le_refl _⟩,⟨by(with_reducible repeat first|apply Kd.Qm|apply Kd.Ql|apply Kd.Qn);exact Kd.Qr aj.out (fun _ hk=>hk.2)⟩,⟨by(with_reducible repeat first|apply Kd.Qm|apply Kd.Ql|apply Kd.Qn);exact Kd.Qr ak.out (fun _ hk=>hk.2)⟩,⟨by(with_reducible repeat first|apply Kd.Qm|apply Kd.Ql|apply Kd.Qn);exact Kd.Qr ba.out (fun _ hk=>hk.2)⟩,⟨by(with_reducible repeat first|apply Kd.Qm|apply Kd.Ql|apply Kd.Qn);exact Kd.Qr bb.out (fun _ hk=>hk.2)⟩,⟨by(with_reducible repeat first|apply Qf|apply Qb|apply Qg);exact U.out⟩,⟨by(with_reducible repeat first|apply Qf|apply Qb|apply Qg);exact X.out⟩,⟨by(with_reducible repeat first|apply Qf|apply Qb|apply Qg);exact Y.out⟩,⟨by(with_reducible repeat first|apply Qf|apply Qb|apply Qg);exact a5.out⟩,⟨by(with_reducible repeat first|apply Qf|apply Qb|apply Qg);exact az.out⟩,⟨by repeat(first|(with_reducible first|exact HB.out|apply Qh|apply Qc|apply Qe|refine Qd ?_ a2.out|refine Qd ?_ a6.out|refine Qd ?_ a8.out|refine Qd ?_ av.out|refine Qd ?_ dl.out)|exact HB.out)⟩⟩
         ·rw[if_neg h4] at H
          exact absurd H (by simp)
       ·rw[if_neg el] at H
        exact absurd H (by simp)
      ·replace dt:=Bool.eq_false_iff.mpr dt
       subst dt
       have H1:(none)=some r:=by rw[if_neg (show ¬ (false=true) by decide)] at H;exact H
       clear H
       have H:=H1
       clear H1
       exact absurd H (by simp)
     ·rw[if_neg dn] at H
      exact absurd H (by simp)
    ·replace fb:=Bool.eq_false_iff.mpr fb
     subst fb
     have H1:(none)=some r:=by rw[if_neg (show ¬ (false=true) by decide)] at H;exact H
     clear H
     have H:=H1
     clear H1
     exact absurd H (by simp)
   case rest=>
    clear ii
    try clear c1
    try clear c2
    try clear p2
    try clear c3
    try clear c4
    try clear c5
    try clear c6
    try clear p6
    try clear c7
    try clear c8
    try clear c9
    try clear c10
    try clear cb
    try clear ci
    try clear ce
    try clear ek
    try clear g7
    try clear lf
    try clear mg
    try clear lc
    try clear gr
    try clear d1
    try clear fb
    try clear dn
    try clear c49b0
    try clear c49b1
    try clear dt
    try clear el
    try clear c53b0
    try clear c53b1
    try clear em
    try clear c54b0
    try clear c54b1
    try clear dx
    try clear gg
    try clear du
    try clear nd
    try clear nf
    try clear ng
    try clear i6
    try clear p64
    try clear nh
    try clear ni
    try clear h4
    try clear c71b0
    try clear c71b1
    try clear nj
    try clear nk
    try clear nl
    try clear nm
    try clear nn
    try clear no
    try clear np
    try clear nq
    try clear nr
    try clear ns
    try clear fj
    try clear fk
    try clear ec
    try clear ed
    try clear eg
    try clear eh
    try clear gk
    try clear f4
    try clear f5
    try clear g0
    try clear g1
    try clear jq
    try clear jr
    try clear ju
    try clear jv
    try clear gt
    try clear gu
    try clear fn
    try clear fo
    try clear gl
    try clear gm
    try clear fr
    try clear ft
    try clear fw
    try clear fx
    try clear h5
    try clear h6
    try clear jy
    try clear jz
    try clear h9
    try clear ha
    try clear gx
    try clear gy
    try clear fl
    try clear fm
    try clear ee
    try clear ef
    try clear ei
    try clear ej
    try clear gs
    try clear f7
    try clear f8
    try clear g2
    try clear g3
    try clear js
    try clear jt
    try clear jw
    try clear jx
    try clear gv
    try clear gw
    try clear fp
    try clear fq
    try clear gn
    try clear gp
    try clear fu
    try clear fv
    try clear fy
    try clear fz
    try clear h7
    try clear h8
    try clear k0
    try clear k1
    try clear he
    try clear hh
    try clear gz
    try clear h0
    obtain⟨kq,ij,rfl,HA,nt,HO_538000,HO_538001,HO_547000,HO_547001,U,X,Y,a5,az,HB⟩:=hcut
    cases kq with
    |zero=>exact absurd HA.out (by simp[newellaw19_CallOnce.j0])
    |succ nu=>
     have H:=HA.out
     clear HA
     simp only[newellaw19_CallOnce.j0] at H
     obtain rfl:=Option.some.inj H
     go_wp2
     go_ret
     exact⟨by first|rfl|(simp[Qy,Qx] <;> rfl)|(simp[*,Qy,Qx] <;> rfl),by repeat(first|(with_reducible first|exact HB.out|apply Qh|apply Qc|apply Qe|refine Qd ?_ a2.out|refine Qd ?_ a6.out|refine Qd ?_ a8.out|refine Qd ?_ av.out|refine Qd ?_ dl.out)|exact HB.out)⟩
  ·rw[if_neg c8] at H
   have c8b0:(cd==0)=false:=beq_eq_false_iff_ne.mpr c8
   have c8b1:(cd != 0)=true:=bne_iff_ne.mpr c8
   replace H:=Option.bind_eq_some_iff.mp H
   obtain⟨da,kg,H⟩:=H
   replace H:(some da)=some r:=H
   have mj:=Aside0.mk kg
   clear kg
   obtain rfl:=Option.some.inj H
   go_enter Try.func6,Try.ntmps6
   try go_wp2_with (first|((with_reducible refine Qp (N:=3) rfl ?_);refine Q7 ?hg (N:=3) ?hd (cs:=#[.int .i64 J,.int .i64 D]) (t:=23) ?hr ?_;(case hd=>rfl);(case hg=>rfl);(case hr=>first|(go_simp;done)|(go_simp;rfl));intro ν hg nv hbox hb;have O:=Aside0.mk (Qt (by repeat(first|(with_reducible first|exact HB.out|apply Qh|apply Qc|apply Qe)|exact HB.out)) hb);have Z:=Aside0.mk (hbox);have ι :=Aside0.mk ((by rw[hg];exact(Qj (by repeat(first|(with_reducible first|exact HB.out|apply Qh|apply Qc|apply Qe)|exact HB.out))):w.heap.size ≤ ν));have κ :=Aside0.mk ((by rw[hg];exact(Qj (by repeat(first|(with_reducible first|exact HB.out|apply Qh|apply Qc|apply Qe)|exact HB.out))):w.heap.size ≤ ν));clear HB;have HB:=O;have U:=Z;have j6:= ι;have a2:= κ;clear O Z ι κ;clear hb hbox hg)|((with_reducible refine Qp (N:=4) rfl ?_);refine Q7 ?hg (N:=4) ?hd (cs:=#[.slice ζ B.length γ,.slice η I.length ε]) (t:=27) ?hr ?_;(case hd=>rfl);(case hg=>rfl);(case hr=>first|(go_simp;done)|(go_simp;rfl));intro τ hg nw hbox hb;have O:=Aside0.mk (Qo (g:= ν) (o:=.cells #[.int .i64 J,.int .i64 D] 23 (0,0)) (by(with_reducible repeat first|apply Qf|apply Qb|apply Qg);exact U.out) hb);have Z:=Aside0.mk (Qt (by repeat(first|(with_reducible first|exact HB.out|apply Qh|apply Qc|apply Qe|refine Qd ?_ a2.out)|exact HB.out)) hb);have ι :=Aside0.mk (hbox);have κ :=Aside0.mk ((by rw[hg];exact(Qj (by repeat(first|(with_reducible first|exact HB.out|apply Qh|apply Qc|apply Qe|refine Qd ?_ a2.out)|exact HB.out))):w.heap.size ≤ τ));have ξ :=Aside0.mk ((by rw[hg];exact(Qj (by repeat(first|(with_reducible first|exact HB.out|apply Qh|apply Qc|apply Qe|refine Qd ?_ a2.out)|exact HB.out))):w.heap.size ≤ τ));have ψ :=Aside0.mk ((by rw[hg];exact Nat.ne_of_lt (Q3 (g:= ν) (o:=.cells #[.int .i64 J,.int .i64 D] 23 (0,0)) (by(with_reducible repeat first|apply Qf|apply Qb|apply Qg);exact U.out)): ν ≠ τ));have a1:=Aside0.mk ((by rw[hg];exact Nat.ne_of_gt (Q3 (g:= ν) (o:=.cells #[.int .i64 J,.int .i64 D] 23 (0,0)) (by(with_reducible repeat first|apply Qf|apply Qb|apply Qg);exact U.out)): τ ≠ ν));clear U;clear HB;have U:=O;have HB:=Z;have X:= ι;have j7:= κ;have a6:= ξ;have cp:= ψ;have cq:=a1;clear O Z ι κ ξ ψ a1;clear hb hbox hg)|((with_reducible refine Qp (N:=5) rfl ?_);refine Q7 ?hg (N:=5) ?hd (cs:=#[.int .i64 δ,.int .i64 L,.int .i64 θ]) (t:=29) ?hr ?_;(case hd=>rfl);(case hg=>rfl);(case hr=>first|(go_simp;done)|(go_simp;rfl));intro ω hg nx hbox hb;have O:=Aside0.mk (Qo (g:= ν) (o:=.cells #[.int .i64 J,.int .i64 D] 23 (0,0)) (by(with_reducible repeat first|apply Qf|apply Qb|apply Qg);exact U.out) hb);have Z:=Aside0.mk (Qo (g:= τ) (o:=.cells #[.slice ζ B.length γ,.slice η I.length ε] 27 (0,0)) (by(with_reducible repeat first|apply Qf|apply Qb|apply Qg);exact X.out) hb);have ι :=Aside0.mk (Qt (by repeat(first|(with_reducible first|exact HB.out|apply Qh|apply Qc|apply Qe|refine Qd ?_ a2.out|refine Qd ?_ a6.out)|exact HB.out)) hb);have κ :=Aside0.mk (hbox);have ξ :=Aside0.mk ((by rw[hg];exact(Qj (by repeat(first|(with_reducible first|exact HB.out|apply Qh|apply Qc|apply Qe|refine Qd ?_ a2.out|refine Qd ?_ a6.out)|exact HB.out))):w.heap.size ≤ ω));have ψ :=Aside0.mk ((by rw[hg];exact(Qj (by repeat(first|(with_reducible first|exact HB.out|apply Qh|apply Qc|apply Qe|refine Qd ?_ a2.out|refine Qd ?_ a6.out)|exact HB.out))):w.heap.size ≤ ω));have a1:=Aside0.mk ((by rw[hg];exact Nat.ne_of_lt (Q3 (g:= ν) (o:=.cells #[.int .i64 J,.int .i64 D] 23 (0,0)) (by(with_reducible repeat first|apply Qf|apply Qb|apply Qg);exact U.out)): ν ≠ ω));have af:=Aside0.mk ((by rw[hg];exact Nat.ne_of_gt (Q3 (g:= ν) (o:=.cells #[.int .i64 J,.int .i64 D] 23 (0,0)) (by(with_reducible repeat first|apply Qf|apply Qb|apply Qg);exact U.out)): ω ≠ ν));have al:=Aside0.mk ((by rw[hg];exact Nat.ne_of_lt (Q3 (g:= τ) (o:=.cells #[.slice ζ B.length γ,.slice η I.length ε] 27 (0,0)) (by(with_reducible repeat first|apply Qf|apply Qb|apply Qg);exact X.out)): τ ≠ ω));have ax:=Aside0.mk ((by rw[hg];exact Nat.ne_of_gt (Q3 (g:= τ) (o:=.cells #[.slice ζ B.length γ,.slice η I.length ε] 27 (0,0)) (by(with_reducible repeat first|apply Qf|apply Qb|apply Qg);exact X.out)): ω ≠ τ));clear U;clear X;clear HB;have U:=O;have X:=Z;have HB:= ι;have Y:= κ;have j8:= ξ;have a8:= ψ;have dp:=a1;have dq:=af;have d4:=al;have d5:=ax;clear O Z ι κ ξ ψ a1 af al ax;clear hb hbox hg;have l3:=cq.out;have l4:=cp.out;have l5:=d4.out;have l6:=d5.out;obtain⟨jm,jn,jo,jp⟩:=qD2 X.out)|((with_reducible refine Q1 (f:=9) rfl ?_);refine Zp (some 13) rfl rfl Try.func9 kr rfl #[.agg #[.slice ζ B.length γ,.slice η I.length ε]] rfl (by(try simp only[List.map_toArray,List.map_cons,List.map_nil]);first|done|rfl|(simp only[List.length_drop,List.length_take];rfl)) ?_;(with_reducible refine(newelref19_Few.calls _ _ B _ _ I true _ ?side1 ?side2 ?side3 ?side4 A4.out).mono ?_);(case side1=>repeat(first|exact(Kd.Qz ag.out HB.out)|(with_reducible refine Kd.Za ?_ _)|(with_reducible refine Kd.Q9 ?_ _)|(with_reducible refine Kd.Zm ?_)));(case side2=>exact ar.out);(case side3=>repeat(first|exact(Kd.Qz ai.out HB.out)|(with_reducible refine Kd.Za ?_ _)|(with_reducible refine Kd.Q9 ?_ _)|(with_reducible refine Kd.Zm ?_)));(case side4=>exact au.out);rintro e kh ⟨rfl,hb⟩;refine⟨_,rfl, ?_⟩;have O:=Aside0.mk (Qo (g:= ν) (o:=.cells #[.int .i64 J,.int .i64 D] 23 (0,0)) (by(with_reducible repeat first|apply Qf|apply Qb|apply Qg);exact U.out) hb);have Z:=Aside0.mk (Qo (g:= τ) (o:=.cells #[.slice ζ B.length γ,.slice η I.length ε] 27 (0,0)) (by(with_reducible repeat first|apply Qf|apply Qb|apply Qg);exact X.out) hb);have ι :=Aside0.mk (Qo (g:= ω) (o:=.cells #[.int .i64 δ,.int .i64 L,.int .i64 θ] 29 (0,0)) (by(with_reducible repeat first|apply Qf|apply Qb|apply Qg);exact Y.out) hb);have κ :=Aside0.mk (Qt (by repeat(first|(with_reducible first|exact HB.out|apply Qh|apply Qc|apply Qe|refine Qd ?_ a2.out|refine Qd ?_ a6.out|refine Qd ?_ a8.out)|exact HB.out)) hb);clear U;clear X;clear Y;clear HB;have U:=O;have X:=Z;have Y:= ι;have HB:= κ;clear O Z ι κ;(try clear hb);(try clear a0);(try clear hk);(try clear hi)))
   have O:=Aside0.mk (Qb U.out)
   have Z:=Aside0.mk (Qb X.out)
   have ι :=Aside0.mk (Qb Y.out)
   have κ :=Aside0.mk (Qe HB.out)
   clear U
   clear X
   clear Y
   clear HB
   have U:=O
   have X:=Z
   have Y:= ι
   have HB:= κ
   clear O Z ι κ
   refine Ze (n:=11) (S:=fun w'=>w'.cell? ⟨ν,0,none⟩=some (.int .i64 J)∧w'.cell? ⟨ν,1,none⟩=some (.int .i64 D)∧w'.cell? ⟨τ,0,none⟩=some (.slice ζ B.length γ)∧w'.cell? ⟨τ,1,none⟩=some (.slice η I.length ε)∧w'.cell? ⟨ω,0,none⟩=some (.int .i64 δ)∧w'.cell? ⟨ω,1,none⟩=some (.int .i64 L)∧w'.cell? ⟨ω,2,none⟩=some (.int .i64 θ)) (ds:=[]) #[false,false,false,false,false,false,false,false,false,false,false] kr rfl rfl ⟨(Qi U.out 0).trans rfl,(Qi U.out 1).trans rfl,(Qi X.out 0).trans rfl,(Qi X.out 1).trans rfl,(Qi Y.out 0).trans rfl,(Qi Y.out 1).trans rfl,(Qi Y.out 2).trans rfl⟩ (fun hHeld=>?_);refine Q4 newellaw19_CallOnce.Lg newellaw19_CallOnce.Vv (fun HT_ HW_=>?_)
   generalize kh.drew=ln at U X Y HB hHeld ⊢
   refine qT 0 (some 17) (qB 11 1) HT_ HW_ hHeld ?_
   refine qT 1 (some 18) (qB 11 3) HT_ HW_ hHeld ?_
   refine qT 3 (some 20) (qB 11 11) HT_ HW_ hHeld ?_
   refine Gl (σ:=Value×Value×Value×Value×Nat) 2 #[true,true,true,true,true,true,true,true,true,false,false] (fun s_=>[(19,.agg #[s_.1,s_.2.1]),(21,.tuple #[.agg #[s_.2.2.1,s_.2.2.2.1],.int .i64 cd]),(7,.pointer (some ⟨s_.2.2.2.2,0,none⟩)),(16,.tuple #[.agg #[s_.2.2.1,s_.2.2.2.1],.int .i64 cd]),(22,.agg #[s_.2.2.1,s_.2.2.2.1]),(23,.int .i64 cd)]) (fun s_ w'=>(w'.cell? ⟨ν,0,none⟩=some (.int .i64 J)∧w'.cell? ⟨ν,1,none⟩=some (.int .i64 D)∧w'.cell? ⟨τ,0,none⟩=some (.slice ζ B.length γ)∧w'.cell? ⟨τ,1,none⟩=some (.slice η I.length ε)∧w'.cell? ⟨ω,0,none⟩=some (.int .i64 δ)∧w'.cell? ⟨ω,1,none⟩=some (.int .i64 L)∧w'.cell? ⟨ω,2,none⟩=some (.int .i64 θ))∧(Kd.R k56 56 w' w.heap.size (fun k_=>some k_≠(s_.2.2.1:Value).ownBlock) s_.1 bp)∧(Kd.R k62 62 w' w.heap.size (fun k_=>some k_≠(s_.2.2.2.1:Value).ownBlock) s_.2.1 bq)∧(Kd.R k56 56 w' w.heap.size (fun k_=>some k_≠(s_.1:Value).ownBlock) s_.2.2.1 ac)∧(Kd.R k62 62 w' w.heap.size (fun k_=>some k_≠(s_.2.1:Value).ownBlock) s_.2.2.2.1 ae)∧(w'.heap[ν]?=some (.cells #[.int .i64 J,.int .i64 D] 23 (0,0)))∧(w'.heap[τ]?=some (.cells #[.slice ζ B.length γ,.slice η I.length ε] 27 (0,0)))∧(w'.heap[ω]?=some (.cells #[.int .i64 δ,.int .i64 L,.int .i64 θ] 29 (0,0)))∧(w'.heap[s_.2.2.2.2]?=some (.cells #[.slice none 0 0,.slice none 0 0] 27 (0,0)))∧(w.heap.size≤s_.2.2.2.2)∧(w.heap.size≤s_.2.2.2.2)∧(ν ≠ s_.2.2.2.2)∧(s_.2.2.2.2 ≠ ν)∧(τ ≠ s_.2.2.2.2)∧(s_.2.2.2.2 ≠ τ)∧(ω ≠ s_.2.2.2.2)∧(s_.2.2.2.2 ≠ ω)∧(Below w.heap.size w w')) ?_ ?_
   rotate_left
   ·intro hCont
    refine Ks (i:=2) (j:=8) (Ni:=some 19) (Nj:=some 7) #[true,true,true,true,false,false,false,false,false,false,false] #[true,true,false,true,false,false,false,false,true,false,false] rfl rfl rfl rfl (Yn HT_.out kr) (by decide) (by decide) (fun K hK=>?_) (fun K hK=>?_)
    ·skip
     refine Zc Try.func12 kr rfl #[.agg #[.slice ζ B.length γ,.slice η I.length ε]] (by rfl) rfl rfl (by(try simp only[List.map_toArray,List.map_cons,List.map_nil]);first|done|rfl|(simp only[List.length_drop,List.length_take];rfl)) ?_
     with_reducible refine(newellaw19_Own.calls _ _ B _ _ I bp bq _ ?side1 ?side2 ?side3 ?side4 A6.out).mono ?_
     (case side1=>repeat(first|exact(Kd.Qz ag.out HB.out)|(with_reducible refine Kd.Za ?_ _)|(with_reducible refine Kd.Q9 ?_ _)|(with_reducible refine Kd.Zm ?_)))
     (case side2=>exact ar.out)
     (case side3=>repeat(first|exact(Kd.Qz ai.out HB.out)|(with_reducible refine Kd.Za ?_ _)|(with_reducible refine Kd.Q9 ?_ _)|(with_reducible refine Kd.Zm ?_)))
     (case side4=>exact au.out)
     rintro e ia ⟨e9,ea,rfl,ρ,a7,hb⟩
     refine⟨_,rfl, ?_⟩
     have O:=Aside0.mk (Kd.Q2 ρ (Qj (by repeat(first|(with_reducible first|exact HB.out|apply Qh|apply Qc|apply Qe|refine Qd ?_ a2.out|refine Qd ?_ a6.out|refine Qd ?_ a8.out)|exact HB.out))))
     have Z:=Aside0.mk (Kd.Q2 a7 (Qj (by repeat(first|(with_reducible first|exact HB.out|apply Qh|apply Qc|apply Qe|refine Qd ?_ a2.out|refine Qd ?_ a6.out|refine Qd ?_ a8.out)|exact HB.out))))
     have ι :=Aside0.mk (Qo (g:= ν) (o:=.cells #[.int .i64 J,.int .i64 D] 23 (0,0)) (by(with_reducible repeat first|apply Qf|apply Qb|apply Qg);exact U.out) hb)
     have κ :=Aside0.mk (Qo (g:= τ) (o:=.cells #[.slice ζ B.length γ,.slice η I.length ε] 27 (0,0)) (by(with_reducible repeat first|apply Qf|apply Qb|apply Qg);exact X.out) hb)
     have ξ :=Aside0.mk (Qo (g:= ω) (o:=.cells #[.int .i64 δ,.int .i64 L,.int .i64 θ] 29 (0,0)) (by(with_reducible repeat first|apply Qf|apply Qb|apply Qg);exact Y.out) hb)
     have ψ :=Aside0.mk (Qt (by repeat(first|(with_reducible first|exact HB.out|apply Qh|apply Qc|apply Qe|refine Qd ?_ a2.out|refine Qd ?_ a6.out|refine Qd ?_ a8.out)|exact HB.out)) hb)
     clear U
     clear X
     clear Y
     clear HB
     have a3:=O
     have a4:=Z
     have U:= ι
     have X:= κ
     have Y:= ξ
     have HB:= ψ
     clear O Z ι κ ξ ψ
     (try clear hb)
     (try clear a0)
     (try clear hk)
     (try clear hi)
     (try clear ρ)
     (try clear a7)
     obtain⟨j9,ja,jb⟩:=Kd.Q5 a3.out
     (first|subst jb|(injection jb with φ a9 χ;have aa:= φ.symm;have ab:= χ.symm;clear φ a9 χ;subst aa;subst ab))
     obtain⟨e5,e6,e7⟩:=Kd.Q5 a4.out
     (first|subst e7|(injection e7 with φ a9 χ;have aa:= φ.symm;have ab:= χ.symm;clear φ a9 χ;subst aa;subst ab))
     refine hK.out _ _ ⟨qc U,qc U,qc X,qc X,qc Y,qc Y,qc Y⟩ (fun hHeld=>?_)
     clear hK K
     refine qN (some 19) ?_
     refine Ks (i:=4) (j:=8) (Ni:=some 21) (Nj:=some 7) #[true,true,true,true,true,false,false,false,false,false,false] #[true,true,true,true,false,false,false,false,true,false,false] rfl rfl rfl rfl (Yn HT_.out kr) (by decide) (by decide) (fun K hK=>?_) (fun K hK=>?_)
     ·skip
      refine Zc Try.func11 kr rfl #[.agg #[.int .i64 J,.int .i64 D],.agg #[.slice j9 bp.length ja,.slice e5 bq.length e6],.agg #[.int .i64 δ,.int .i64 L,.int .i64 θ]] (by rfl) rfl rfl (by(try simp only[List.map_toArray,List.map_cons,List.map_nil]);first|done|rfl|(simp only[List.length_drop,List.length_take];rfl)) ?_
      with_reducible refine(call_Press.calls k J D _ _ bp _ _ bq δ L θ ac ae cd _ ?side1 ?side2 ?side3 ?side4 A7.out).mono ?_
      (case side1=>repeat(first|exact(Kd.Qq a3.out).2.2|(with_reducible refine Kd.Za ?_ _)|(with_reducible refine Kd.Q9 ?_ _)|(with_reducible refine Kd.Zm ?_)))
      (case side2=>exact(Kd.Qq a3.out).2.1)
      (case side3=>repeat(first|exact(Kd.Qq a4.out).2.2|(with_reducible refine Kd.Za ?_ _)|(with_reducible refine Kd.Q9 ?_ _)|(with_reducible refine Kd.Zm ?_)))
      (case side4=>exact(Kd.Qq a4.out).2.1)
      rintro e n2 ⟨cr,ct,rfl,ρ,a7,hb⟩
      refine⟨_,rfl, ?_⟩
      have O:=Aside0.mk (Kd.Zb (by(with_reducible repeat first|apply Kd.Qm|apply Kd.Ql|apply Kd.Qn);exact a3.out) (Kd.Zf ρ) hb)
      have Z:=Aside0.mk (Kd.Zb (by(with_reducible repeat first|apply Kd.Qm|apply Kd.Ql|apply Kd.Qn);exact a4.out) (Kd.Zf a7) hb)
      have ι :=Aside0.mk (Kd.Q2 (Kd.Zr ρ (Kd.Z8 (by(with_reducible repeat first|apply Kd.Qm|apply Kd.Ql|apply Kd.Qn);exact a3.out))) (Qj (by repeat(first|(with_reducible first|exact HB.out|apply Qh|apply Qc|apply Qe|refine Qd ?_ a2.out|refine Qd ?_ a6.out|refine Qd ?_ a8.out)|exact HB.out))))
      have κ :=Aside0.mk (Kd.Q2 (Kd.Zr a7 (Kd.Z8 (by(with_reducible repeat first|apply Kd.Qm|apply Kd.Ql|apply Kd.Qn);exact a4.out))) (Qj (by repeat(first|(with_reducible first|exact HB.out|apply Qh|apply Qc|apply Qe|refine Qd ?_ a2.out|refine Qd ?_ a6.out|refine Qd ?_ a8.out)|exact HB.out))))
      have ξ :=Aside0.mk (Qo (g:= ν) (o:=.cells #[.int .i64 J,.int .i64 D] 23 (0,0)) (by(with_reducible repeat first|apply Qf|apply Qb|apply Qg);exact U.out) hb)
      have ψ :=Aside0.mk (Qo (g:= τ) (o:=.cells #[.slice ζ B.length γ,.slice η I.length ε] 27 (0,0)) (by(with_reducible repeat first|apply Qf|apply Qb|apply Qg);exact X.out) hb)
      have a1:=Aside0.mk (Qo (g:= ω) (o:=.cells #[.int .i64 δ,.int .i64 L,.int .i64 θ] 29 (0,0)) (by(with_reducible repeat first|apply Qf|apply Qb|apply Qg);exact Y.out) hb)
      have af:=Aside0.mk (Qt (by repeat(first|(with_reducible first|exact HB.out|apply Qh|apply Qc|apply Qe|refine Qd ?_ a2.out|refine Qd ?_ a6.out|refine Qd ?_ a8.out)|exact HB.out)) hb)
      clear a3
      clear a4
      clear U
      clear X
      clear Y
      clear HB
      have a3:=O
      have a4:=Z
      have aj:= ι
      have ak:= κ
      have U:= ξ
      have X:= ψ
      have Y:=a1
      have HB:=af
      clear O Z ι κ ξ ψ a1 af
      (try clear hb)
      (try clear a0)
      (try clear hk)
      (try clear hi)
      (try clear ρ)
      (try clear a7)
      refine hK.out _ _ ⟨qc U,qc U,qc X,qc X,qc Y,qc Y,qc Y⟩ (fun hHeld=>?_)
      clear hK K
      refine qN (some 21) ?_
      refine qP 5 (some 16) (qB 11 63) HT_ ?_
      refine qP 6 (some 22) (qB 11 127) HT_ ?_
      refine qP 7 (some 23) (qB 11 255) HT_ ?_
      refine Zi (i:=8) (N:=some 7) #[true,true,true,true,true,true,true,true,true,false,false] rfl rfl (Q0 HT_.out kr) (by decide) (fun K hK=>?_)
      refine Xo ?hg (N:=7) ?hd (cs:=#[.slice none 0 0,.slice none 0 0]) (t:=27) ?hr ?_;(case hd=>rfl);(case hg=>rfl);(case hr=>first|(go_simp;done)|(go_simp;rfl))
      intro μ hg i4 hbox hb
      have O:=Aside0.mk (Kd.Qu (by(with_reducible repeat first|apply Kd.Qm|apply Kd.Ql|apply Kd.Qn);exact a3.out) hb)
      have Z:=Aside0.mk (Kd.Qu (by(with_reducible repeat first|apply Kd.Qm|apply Kd.Ql|apply Kd.Qn);exact a4.out) hb)
      have ι :=Aside0.mk (Kd.Qu (by(with_reducible repeat first|apply Kd.Qm|apply Kd.Ql|apply Kd.Qn);exact aj.out) hb)
      have κ :=Aside0.mk (Kd.Qu (by(with_reducible repeat first|apply Kd.Qm|apply Kd.Ql|apply Kd.Qn);exact ak.out) hb)
      have ξ :=Aside0.mk (Qo (g:= ν) (o:=.cells #[.int .i64 J,.int .i64 D] 23 (0,0)) (by(with_reducible repeat first|apply Qf|apply Qb|apply Qg);exact U.out) hb)
      have ψ :=Aside0.mk (Qo (g:= τ) (o:=.cells #[.slice ζ B.length γ,.slice η I.length ε] 27 (0,0)) (by(with_reducible repeat first|apply Qf|apply Qb|apply Qg);exact X.out) hb)
      have a1:=Aside0.mk (Qo (g:= ω) (o:=.cells #[.int .i64 δ,.int .i64 L,.int .i64 θ] 29 (0,0)) (by(with_reducible repeat first|apply Qf|apply Qb|apply Qg);exact Y.out) hb)
      have af:=Aside0.mk (Qt (by repeat(first|(with_reducible first|exact HB.out|apply Qh|apply Qc|apply Qe|refine Qd ?_ a2.out|refine Qd ?_ a6.out|refine Qd ?_ a8.out)|exact HB.out)) hb)
      have al:=Aside0.mk (hbox)
      have ax:=Aside0.mk ((by rw[hg];exact(Qj (by repeat(first|(with_reducible first|exact HB.out|apply Qh|apply Qc|apply Qe|refine Qd ?_ a2.out|refine Qd ?_ a6.out|refine Qd ?_ a8.out)|exact HB.out))):w.heap.size ≤ μ))
      have ap:=Aside0.mk ((by rw[hg];exact(Qj (by repeat(first|(with_reducible first|exact HB.out|apply Qh|apply Qc|apply Qe|refine Qd ?_ a2.out|refine Qd ?_ a6.out|refine Qd ?_ a8.out)|exact HB.out))):w.heap.size ≤ μ))
      have aw:=Aside0.mk ((by rw[hg];exact Nat.ne_of_lt (Q3 (g:= ν) (o:=.cells #[.int .i64 J,.int .i64 D] 23 (0,0)) (by(with_reducible repeat first|apply Qf|apply Qb|apply Qg);exact U.out)): ν ≠ μ))
      have b1:=Aside0.mk ((by rw[hg];exact Nat.ne_of_gt (Q3 (g:= ν) (o:=.cells #[.int .i64 J,.int .i64 D] 23 (0,0)) (by(with_reducible repeat first|apply Qf|apply Qb|apply Qg);exact U.out)): μ ≠ ν))
      have b8:=Aside0.mk ((by rw[hg];exact Nat.ne_of_lt (Q3 (g:= τ) (o:=.cells #[.slice ζ B.length γ,.slice η I.length ε] 27 (0,0)) (by(with_reducible repeat first|apply Qf|apply Qb|apply Qg);exact X.out)): τ ≠ μ))
      have b9:=Aside0.mk ((by rw[hg];exact Nat.ne_of_gt (Q3 (g:= τ) (o:=.cells #[.slice ζ B.length γ,.slice η I.length ε] 27 (0,0)) (by(with_reducible repeat first|apply Qf|apply Qb|apply Qg);exact X.out)): μ ≠ τ))
      have be:=Aside0.mk ((by rw[hg];exact Nat.ne_of_lt (Q3 (g:= ω) (o:=.cells #[.int .i64 δ,.int .i64 L,.int .i64 θ] 29 (0,0)) (by(with_reducible repeat first|apply Qf|apply Qb|apply Qg);exact Y.out)): ω ≠ μ))
      have bf:=Aside0.mk ((by rw[hg];exact Nat.ne_of_gt (Q3 (g:= ω) (o:=.cells #[.int .i64 δ,.int .i64 L,.int .i64 θ] 29 (0,0)) (by(with_reducible repeat first|apply Qf|apply Qb|apply Qg);exact Y.out)): μ ≠ ω))
      clear a3
      clear a4
      clear aj
      clear ak
      clear U
      clear X
      clear Y
      clear HB
      have a3:=O
      have a4:=Z
      have aj:= ι
      have ak:= κ
      have U:= ξ
      have X:= ψ
      have Y:=a1
      have HB:=af
      have a5:=al
      have cy:=ax
      have av:=ap
      have an:=aw
      have b0:=b1
      have ao:=b8
      have b2:=b9
      have am:=be
      have b3:=bf
      clear O Z ι κ ξ ψ a1 af al ax ap aw b1 b8 b9 be bf
      clear hb hbox hg
      refine hK.out _ _ ⟨qc U,qc U,qc X,qc X,qc Y,qc Y,qc Y⟩ (fun hHeld=>?_)
      clear hK K
      refine qN (some 7) ?_
      exact Xn (by simp only[Z9,Act.put,qS]) (hCont (.slice j9 bp.length ja,.slice e5 bq.length e6,cr,ct,μ) _ ⟨hHeld,(by(with_reducible repeat first|apply Kd.Qm|apply Kd.Ql|apply Kd.Qn);exact Kd.Qr a3.out (fun _ hk=>hk.2)),(by(with_reducible repeat first|apply Kd.Qm|apply Kd.Ql|apply Kd.Qn);exact Kd.Qr a4.out (fun _ hk=>hk.2)),(by(with_reducible repeat first|apply Kd.Qm|apply Kd.Ql|apply Kd.Qn);exact Kd.Qr aj.out (fun _ hk=>hk.2)),(by(with_reducible repeat first|apply Kd.Qm|apply Kd.Ql|apply Kd.Qn);exact Kd.Qr ak.out (fun _ hk=>hk.2)),(by(with_reducible repeat first|apply Qf|apply Qb|apply Qg);exact U.out),(by(with_reducible repeat first|apply Qf|apply Qb|apply Qg);exact X.out),(by(with_reducible repeat first|apply Qf|apply Qb|apply Qg);exact Y.out),(by(with_reducible repeat first|apply Qf|apply Qb|apply Qg);exact a5.out),cy.out,av.out,an.out,b0.out,ao.out,b2.out,am.out,b3.out,(by repeat(first|(with_reducible first|exact HB.out|apply Qh|apply Qc|apply Qe|refine Qd ?_ a2.out|refine Qd ?_ a6.out|refine Qd ?_ a8.out|refine Qd ?_ av.out)|exact HB.out))⟩)
     ·skip
      refine Xo ?hg (N:=7) ?hd (cs:=#[.slice none 0 0,.slice none 0 0]) (t:=27) ?hr ?_;(case hd=>rfl);(case hg=>rfl);(case hr=>first|(go_simp;done)|(go_simp;rfl))
      intro μ hg k3 hbox hb
      have O:=Aside0.mk (Kd.Qu (by(with_reducible repeat first|apply Kd.Qm|apply Kd.Ql|apply Kd.Qn);exact a3.out) hb)
      have Z:=Aside0.mk (Kd.Qu (by(with_reducible repeat first|apply Kd.Qm|apply Kd.Ql|apply Kd.Qn);exact a4.out) hb)
      have ι :=Aside0.mk (Qo (g:= ν) (o:=.cells #[.int .i64 J,.int .i64 D] 23 (0,0)) (by(with_reducible repeat first|apply Qf|apply Qb|apply Qg);exact U.out) hb)
      have κ :=Aside0.mk (Qo (g:= τ) (o:=.cells #[.slice ζ B.length γ,.slice η I.length ε] 27 (0,0)) (by(with_reducible repeat first|apply Qf|apply Qb|apply Qg);exact X.out) hb)
      have ξ :=Aside0.mk (Qo (g:= ω) (o:=.cells #[.int .i64 δ,.int .i64 L,.int .i64 θ] 29 (0,0)) (by(with_reducible repeat first|apply Qf|apply Qb|apply Qg);exact Y.out) hb)
      have ψ :=Aside0.mk (Qt (by repeat(first|(with_reducible first|exact HB.out|apply Qh|apply Qc|apply Qe|refine Qd ?_ a2.out|refine Qd ?_ a6.out|refine Qd ?_ a8.out)|exact HB.out)) hb)
      have a1:=Aside0.mk (hbox)
      have af:=Aside0.mk ((by rw[hg];exact(Qj (by repeat(first|(with_reducible first|exact HB.out|apply Qh|apply Qc|apply Qe|refine Qd ?_ a2.out|refine Qd ?_ a6.out|refine Qd ?_ a8.out)|exact HB.out))):w.heap.size ≤ μ))
      have al:=Aside0.mk ((by rw[hg];exact(Qj (by repeat(first|(with_reducible first|exact HB.out|apply Qh|apply Qc|apply Qe|refine Qd ?_ a2.out|refine Qd ?_ a6.out|refine Qd ?_ a8.out)|exact HB.out))):w.heap.size ≤ μ))
      have ax:=Aside0.mk ((by rw[hg];exact Nat.ne_of_lt (Q3 (g:= ν) (o:=.cells #[.int .i64 J,.int .i64 D] 23 (0,0)) (by(with_reducible repeat first|apply Qf|apply Qb|apply Qg);exact U.out)): ν ≠ μ))
      have ap:=Aside0.mk ((by rw[hg];exact Nat.ne_of_gt (Q3 (g:= ν) (o:=.cells #[.int .i64 J,.int .i64 D] 23 (0,0)) (by(with_reducible repeat first|apply Qf|apply Qb|apply Qg);exact U.out)): μ ≠ ν))
      have aw:=Aside0.mk ((by rw[hg];exact Nat.ne_of_lt (Q3 (g:= τ) (o:=.cells #[.slice ζ B.length γ,.slice η I.length ε] 27 (0,0)) (by(with_reducible repeat first|apply Qf|apply Qb|apply Qg);exact X.out)): τ ≠ μ))
      have b1:=Aside0.mk ((by rw[hg];exact Nat.ne_of_gt (Q3 (g:= τ) (o:=.cells #[.slice ζ B.length γ,.slice η I.length ε] 27 (0,0)) (by(with_reducible repeat first|apply Qf|apply Qb|apply Qg);exact X.out)): μ ≠ τ))
      have b8:=Aside0.mk ((by rw[hg];exact Nat.ne_of_lt (Q3 (g:= ω) (o:=.cells #[.int .i64 δ,.int .i64 L,.int .i64 θ] 29 (0,0)) (by(with_reducible repeat first|apply Qf|apply Qb|apply Qg);exact Y.out)): ω ≠ μ))
      have b9:=Aside0.mk ((by rw[hg];exact Nat.ne_of_gt (Q3 (g:= ω) (o:=.cells #[.int .i64 δ,.int .i64 L,.int .i64 θ] 29 (0,0)) (by(with_reducible repeat first|apply Qf|apply Qb|apply Qg);exact Y.out)): μ ≠ ω))
      clear a3
      clear a4
      clear U
      clear X
      clear Y
      clear HB
      have a3:=O
      have a4:=Z
      have U:= ι
      have X:= κ
      have Y:= ξ
      have HB:= ψ
      have a5:=a1
      have cy:=af
      have av:=al
      have an:=ax
      have b0:=ap
      have ao:=aw
      have b2:=b1
      have am:=b8
      have b3:=b9
      clear O Z ι κ ξ ψ a1 af al ax ap aw b1 b8 b9
      clear hb hbox hg
      obtain⟨e5,e6,e7⟩:=Kd.Q5 a3.out
      (first|subst e7|(injection e7 with φ a9 χ;have aa:= φ.symm;have ab:= χ.symm;clear φ a9 χ;subst aa;subst ab))
      obtain⟨fg,fh,fi⟩:=Kd.Q5 a4.out
      (first|subst fi|(injection fi with φ a9 χ;have aa:= φ.symm;have ab:= χ.symm;clear φ a9 χ;subst aa;subst ab))
      refine hK.out _ _ ⟨qc U,qc U,qc X,qc X,qc Y,qc Y,qc Y⟩ (fun hHeld=>?_)
      clear hK K
      refine qN (some 7) ?_
      refine Zi (i:=4) (N:=some 21) #[true,true,true,true,true,false,false,false,true,false,false] rfl rfl (Q0 HT_.out kr) (by decide) (fun K hK=>?_)
      refine Zc Try.func11 kr rfl #[.agg #[.int .i64 J,.int .i64 D],.agg #[.slice e5 bp.length e6,.slice fg bq.length fh],.agg #[.int .i64 δ,.int .i64 L,.int .i64 θ]] (by rfl) rfl rfl (by(try simp only[List.map_toArray,List.map_cons,List.map_nil]);first|done|rfl|(simp only[List.length_drop,List.length_take];rfl)) ?_
      with_reducible refine(call_Press.calls k J D _ _ bp _ _ bq δ L θ ac ae cd _ ?side1 ?side2 ?side3 ?side4 A7.out).mono ?_
      (case side1=>repeat(first|exact(Kd.Qq a3.out).2.2|(with_reducible refine Kd.Za ?_ _)|(with_reducible refine Kd.Q9 ?_ _)|(with_reducible refine Kd.Zm ?_)))
      (case side2=>exact(Kd.Qq a3.out).2.1)
      (case side3=>repeat(first|exact(Kd.Qq a4.out).2.2|(with_reducible refine Kd.Za ?_ _)|(with_reducible refine Kd.Q9 ?_ _)|(with_reducible refine Kd.Zm ?_)))
      (case side4=>exact(Kd.Qq a4.out).2.1)
      rintro e i4 ⟨cr,ct,rfl,ρ,a7,hb⟩
      refine⟨_,rfl, ?_⟩
      have O:=Aside0.mk (Kd.Zb (by(with_reducible repeat first|apply Kd.Qm|apply Kd.Ql|apply Kd.Qn);exact a3.out) (Kd.Zf ρ) hb)
      have Z:=Aside0.mk (Kd.Zb (by(with_reducible repeat first|apply Kd.Qm|apply Kd.Ql|apply Kd.Qn);exact a4.out) (Kd.Zf a7) hb)
      have ι :=Aside0.mk (Kd.Q2 (Kd.Zr ρ (Kd.Z8 (by(with_reducible repeat first|apply Kd.Qm|apply Kd.Ql|apply Kd.Qn);exact a3.out))) (Qj (by repeat(first|(with_reducible first|exact HB.out|apply Qh|apply Qc|apply Qe|refine Qd ?_ a2.out|refine Qd ?_ a6.out|refine Qd ?_ a8.out|refine Qd ?_ av.out)|exact HB.out))))
      have κ :=Aside0.mk (Kd.Q2 (Kd.Zr a7 (Kd.Z8 (by(with_reducible repeat first|apply Kd.Qm|apply Kd.Ql|apply Kd.Qn);exact a4.out))) (Qj (by repeat(first|(with_reducible first|exact HB.out|apply Qh|apply Qc|apply Qe|refine Qd ?_ a2.out|refine Qd ?_ a6.out|refine Qd ?_ a8.out|refine Qd ?_ av.out)|exact HB.out))))
      have ξ :=Aside0.mk (Qo (g:= ν) (o:=.cells #[.int .i64 J,.int .i64 D] 23 (0,0)) (by(with_reducible repeat first|apply Qf|apply Qb|apply Qg);exact U.out) hb)
      have ψ :=Aside0.mk (Qo (g:= τ) (o:=.cells #[.slice ζ B.length γ,.slice η I.length ε] 27 (0,0)) (by(with_reducible repeat first|apply Qf|apply Qb|apply Qg);exact X.out) hb)
      have a1:=Aside0.mk (Qo (g:= ω) (o:=.cells #[.int .i64 δ,.int .i64 L,.int .i64 θ] 29 (0,0)) (by(with_reducible repeat first|apply Qf|apply Qb|apply Qg);exact Y.out) hb)
      have af:=Aside0.mk (Qo (g:= μ) (o:=.cells #[.slice none 0 0,.slice none 0 0] 27 (0,0)) (by(with_reducible repeat first|apply Qf|apply Qb|apply Qg);exact a5.out) hb)
      have al:=Aside0.mk (Qt (by repeat(first|(with_reducible first|exact HB.out|apply Qh|apply Qc|apply Qe|refine Qd ?_ a2.out|refine Qd ?_ a6.out|refine Qd ?_ a8.out|refine Qd ?_ av.out)|exact HB.out)) hb)
      clear a3
      clear a4
      clear U
      clear X
      clear Y
      clear a5
      clear HB
      have a3:=O
      have a4:=Z
      have aj:= ι
      have ak:= κ
      have U:= ξ
      have X:= ψ
      have Y:=a1
      have a5:=af
      have HB:=al
      clear O Z ι κ ξ ψ a1 af al
      (try clear hb)
      (try clear a0)
      (try clear hk)
      (try clear hi)
      (try clear ρ)
      (try clear a7)
      refine hK.out _ _ ⟨qc U,qc U,qc X,qc X,qc Y,qc Y,qc Y⟩ (fun hHeld=>?_)
      clear hK K
      refine qN (some 21) ?_
      refine qP 5 (some 16) (qB 11 319) HT_ ?_
      refine qP 6 (some 22) (qB 11 383) HT_ ?_
      refine qP 7 (some 23) (qB 11 511) HT_ ?_
      exact Xn (by simp only[Z9,Act.put,qS]) (hCont (.slice e5 bp.length e6,.slice fg bq.length fh,cr,ct,μ) _ ⟨hHeld,(by(with_reducible repeat first|apply Kd.Qm|apply Kd.Ql|apply Kd.Qn);exact Kd.Qr a3.out (fun _ hk=>hk.2)),(by(with_reducible repeat first|apply Kd.Qm|apply Kd.Ql|apply Kd.Qn);exact Kd.Qr a4.out (fun _ hk=>hk.2)),(by(with_reducible repeat first|apply Kd.Qm|apply Kd.Ql|apply Kd.Qn);exact Kd.Qr aj.out (fun _ hk=>hk.2)),(by(with_reducible repeat first|apply Kd.Qm|apply Kd.Ql|apply Kd.Qn);exact Kd.Qr ak.out (fun _ hk=>hk.2)),(by(with_reducible repeat first|apply Qf|apply Qb|apply Qg);exact U.out),(by(with_reducible repeat first|apply Qf|apply Qb|apply Qg);exact X.out),(by(with_reducible repeat first|apply Qf|apply Qb|apply Qg);exact Y.out),(by(with_reducible repeat first|apply Qf|apply Qb|apply Qg);exact a5.out),cy.out,av.out,an.out,b0.out,ao.out,b2.out,am.out,b3.out,(by repeat(first|(with_reducible first|exact HB.out|apply Qh|apply Qc|apply Qe|refine Qd ?_ a2.out|refine Qd ?_ a6.out|refine Qd ?_ a8.out|refine Qd ?_ av.out)|exact HB.out))⟩)
    ·skip
     refine Xo ?hg (N:=7) ?hd (cs:=#[.slice none 0 0,.slice none 0 0]) (t:=27) ?hr ?_;(case hd=>rfl);(case hg=>rfl);(case hr=>first|(go_simp;done)|(go_simp;rfl))
     intro μ hg ia hbox hb
     have O:=Aside0.mk (Qo (g:= ν) (o:=.cells #[.int .i64 J,.int .i64 D] 23 (0,0)) (by(with_reducible repeat first|apply Qf|apply Qb|apply Qg);exact U.out) hb)
     have Z:=Aside0.mk (Qo (g:= τ) (o:=.cells #[.slice ζ B.length γ,.slice η I.length ε] 27 (0,0)) (by(with_reducible repeat first|apply Qf|apply Qb|apply Qg);exact X.out) hb)
     have ι :=Aside0.mk (Qo (g:= ω) (o:=.cells #[.int .i64 δ,.int .i64 L,.int .i64 θ] 29 (0,0)) (by(with_reducible repeat first|apply Qf|apply Qb|apply Qg);exact Y.out) hb)
     have κ :=Aside0.mk (Qt (by repeat(first|(with_reducible first|exact HB.out|apply Qh|apply Qc|apply Qe|refine Qd ?_ a2.out|refine Qd ?_ a6.out|refine Qd ?_ a8.out)|exact HB.out)) hb)
     have ξ :=Aside0.mk (hbox)
     have ψ :=Aside0.mk ((by rw[hg];exact(Qj (by repeat(first|(with_reducible first|exact HB.out|apply Qh|apply Qc|apply Qe|refine Qd ?_ a2.out|refine Qd ?_ a6.out|refine Qd ?_ a8.out)|exact HB.out))):w.heap.size ≤ μ))
     have a1:=Aside0.mk ((by rw[hg];exact(Qj (by repeat(first|(with_reducible first|exact HB.out|apply Qh|apply Qc|apply Qe|refine Qd ?_ a2.out|refine Qd ?_ a6.out|refine Qd ?_ a8.out)|exact HB.out))):w.heap.size ≤ μ))
     have af:=Aside0.mk ((by rw[hg];exact Nat.ne_of_lt (Q3 (g:= ν) (o:=.cells #[.int .i64 J,.int .i64 D] 23 (0,0)) (by(with_reducible repeat first|apply Qf|apply Qb|apply Qg);exact U.out)): ν ≠ μ))
     have al:=Aside0.mk ((by rw[hg];exact Nat.ne_of_gt (Q3 (g:= ν) (o:=.cells #[.int .i64 J,.int .i64 D] 23 (0,0)) (by(with_reducible repeat first|apply Qf|apply Qb|apply Qg);exact U.out)): μ ≠ ν))
     have ax:=Aside0.mk ((by rw[hg];exact Nat.ne_of_lt (Q3 (g:= τ) (o:=.cells #[.slice ζ B.length γ,.slice η I.length ε] 27 (0,0)) (by(with_reducible repeat first|apply Qf|apply Qb|apply Qg);exact X.out)): τ ≠ μ))
     have ap:=Aside0.mk ((by rw[hg];exact Nat.ne_of_gt (Q3 (g:= τ) (o:=.cells #[.slice ζ B.length γ,.slice η I.length ε] 27 (0,0)) (by(with_reducible repeat first|apply Qf|apply Qb|apply Qg);exact X.out)): μ ≠ τ))
     have aw:=Aside0.mk ((by rw[hg];exact Nat.ne_of_lt (Q3 (g:= ω) (o:=.cells #[.int .i64 δ,.int .i64 L,.int .i64 θ] 29 (0,0)) (by(with_reducible repeat first|apply Qf|apply Qb|apply Qg);exact Y.out)): ω ≠ μ))
     have b1:=Aside0.mk ((by rw[hg];exact Nat.ne_of_gt (Q3 (g:= ω) (o:=.cells #[.int .i64 δ,.int .i64 L,.int .i64 θ] 29 (0,0)) (by(with_reducible repeat first|apply Qf|apply Qb|apply Qg);exact Y.out)): μ ≠ ω))
     clear U
     clear X
     clear Y
     clear HB
     have U:=O
     have X:=Z
     have Y:= ι
     have HB:= κ
     have a5:= ξ
     have cy:= ψ
     have av:=a1
     have an:=af
     have b0:=al
     have ao:=ax
     have b2:=ap
     have am:=aw
     have b3:=b1
     clear O Z ι κ ξ ψ a1 af al ax ap aw b1
     clear hb hbox hg
     refine hK.out _ _ ⟨qc U,qc U,qc X,qc X,qc Y,qc Y,qc Y⟩ (fun hHeld=>?_)
     clear hK K
     refine qN (some 7) ?_
     refine Zi (i:=2) (N:=some 19) #[true,true,true,true,false,false,false,false,true,false,false] rfl rfl (Q0 HT_.out kr) (by decide) (fun K hK=>?_)
     refine Zc Try.func12 kr rfl #[.agg #[.slice ζ B.length γ,.slice η I.length ε]] (by rfl) rfl rfl (by(try simp only[List.map_toArray,List.map_cons,List.map_nil]);first|done|rfl|(simp only[List.length_drop,List.length_take];rfl)) ?_
     with_reducible refine(newellaw19_Own.calls _ _ B _ _ I bp bq _ ?side1 ?side2 ?side3 ?side4 A6.out).mono ?_
     (case side1=>repeat(first|exact(Kd.Qz ag.out HB.out)|(with_reducible refine Kd.Za ?_ _)|(with_reducible refine Kd.Q9 ?_ _)|(with_reducible refine Kd.Zm ?_)))
     (case side2=>exact ar.out)
     (case side3=>repeat(first|exact(Kd.Qz ai.out HB.out)|(with_reducible refine Kd.Za ?_ _)|(with_reducible refine Kd.Q9 ?_ _)|(with_reducible refine Kd.Zm ?_)))
     (case side4=>exact au.out)
     rintro e k3 ⟨e9,ea,rfl,ρ,a7,hb⟩
     refine⟨_,rfl, ?_⟩
     have O:=Aside0.mk (Kd.Q2 ρ (Qj (by repeat(first|(with_reducible first|exact HB.out|apply Qh|apply Qc|apply Qe|refine Qd ?_ a2.out|refine Qd ?_ a6.out|refine Qd ?_ a8.out|refine Qd ?_ av.out)|exact HB.out))))
     have Z:=Aside0.mk (Kd.Q2 a7 (Qj (by repeat(first|(with_reducible first|exact HB.out|apply Qh|apply Qc|apply Qe|refine Qd ?_ a2.out|refine Qd ?_ a6.out|refine Qd ?_ a8.out|refine Qd ?_ av.out)|exact HB.out))))
     have ι :=Aside0.mk (Qo (g:= ν) (o:=.cells #[.int .i64 J,.int .i64 D] 23 (0,0)) (by(with_reducible repeat first|apply Qf|apply Qb|apply Qg);exact U.out) hb)
     have κ :=Aside0.mk (Qo (g:= τ) (o:=.cells #[.slice ζ B.length γ,.slice η I.length ε] 27 (0,0)) (by(with_reducible repeat first|apply Qf|apply Qb|apply Qg);exact X.out) hb)
     have ξ :=Aside0.mk (Qo (g:= ω) (o:=.cells #[.int .i64 δ,.int .i64 L,.int .i64 θ] 29 (0,0)) (by(with_reducible repeat first|apply Qf|apply Qb|apply Qg);exact Y.out) hb)
     have ψ :=Aside0.mk (Qo (g:= μ) (o:=.cells #[.slice none 0 0,.slice none 0 0] 27 (0,0)) (by(with_reducible repeat first|apply Qf|apply Qb|apply Qg);exact a5.out) hb)
     have a1:=Aside0.mk (Qt (by repeat(first|(with_reducible first|exact HB.out|apply Qh|apply Qc|apply Qe|refine Qd ?_ a2.out|refine Qd ?_ a6.out|refine Qd ?_ a8.out|refine Qd ?_ av.out)|exact HB.out)) hb)
     clear U
     clear X
     clear Y
     clear a5
     clear HB
     have a3:=O
     have a4:=Z
     have U:= ι
     have X:= κ
     have Y:= ξ
     have a5:= ψ
     have HB:=a1
     clear O Z ι κ ξ ψ a1
     (try clear hb)
     (try clear a0)
     (try clear hk)
     (try clear hi)
     (try clear ρ)
     (try clear a7)
     obtain⟨e5,e6,e7⟩:=Kd.Q5 a3.out
     (first|subst e7|(injection e7 with φ a9 χ;have aa:= φ.symm;have ab:= χ.symm;clear φ a9 χ;subst aa;subst ab))
     obtain⟨fg,fh,fi⟩:=Kd.Q5 a4.out
     (first|subst fi|(injection fi with φ a9 χ;have aa:= φ.symm;have ab:= χ.symm;clear φ a9 χ;subst aa;subst ab))
     refine hK.out _ _ ⟨qc U,qc U,qc X,qc X,qc Y,qc Y,qc Y⟩ (fun hHeld=>?_)
     clear hK K
     refine qN (some 19) ?_
     refine Zi (i:=4) (N:=some 21) #[true,true,true,true,true,false,false,false,true,false,false] rfl rfl (Q0 HT_.out kr) (by decide) (fun K hK=>?_)
     refine Zc Try.func11 kr rfl #[.agg #[.int .i64 J,.int .i64 D],.agg #[.slice e5 bp.length e6,.slice fg bq.length fh],.agg #[.int .i64 δ,.int .i64 L,.int .i64 θ]] (by rfl) rfl rfl (by(try simp only[List.map_toArray,List.map_cons,List.map_nil]);first|done|rfl|(simp only[List.length_drop,List.length_take];rfl)) ?_
     with_reducible refine(call_Press.calls k J D _ _ bp _ _ bq δ L θ ac ae cd _ ?side1 ?side2 ?side3 ?side4 A7.out).mono ?_
     (case side1=>repeat(first|exact(Kd.Qq a3.out).2.2|(with_reducible refine Kd.Za ?_ _)|(with_reducible refine Kd.Q9 ?_ _)|(with_reducible refine Kd.Zm ?_)))
     (case side2=>exact(Kd.Qq a3.out).2.1)
     (case side3=>repeat(first|exact(Kd.Qq a4.out).2.2|(with_reducible refine Kd.Za ?_ _)|(with_reducible refine Kd.Q9 ?_ _)|(with_reducible refine Kd.Zm ?_)))
     (case side4=>exact(Kd.Qq a4.out).2.1)
     rintro e i4 ⟨cr,ct,rfl,ρ,a7,hb⟩
     refine⟨_,rfl, ?_⟩
     have O:=Aside0.mk (Kd.Zb (by(with_reducible repeat first|apply Kd.Qm|apply Kd.Ql|apply Kd.Qn);exact a3.out) (Kd.Zf ρ) hb)
     have Z:=Aside0.mk (Kd.Zb (by(with_reducible repeat first|apply Kd.Qm|apply Kd.Ql|apply Kd.Qn);exact a4.out) (Kd.Zf a7) hb)
     have ι :=Aside0.mk (Kd.Q2 (Kd.Zr ρ (Kd.Z8 (by(with_reducible repeat first|apply Kd.Qm|apply Kd.Ql|apply Kd.Qn);exact a3.out))) (Qj (by repeat(first|(with_reducible first|exact HB.out|apply Qh|apply Qc|apply Qe|refine Qd ?_ a2.out|refine Qd ?_ a6.out|refine Qd ?_ a8.out|refine Qd ?_ av.out)|exact HB.out))))
     have κ :=Aside0.mk (Kd.Q2 (Kd.Zr a7 (Kd.Z8 (by(with_reducible repeat first|apply Kd.Qm|apply Kd.Ql|apply Kd.Qn);exact a4.out))) (Qj (by repeat(first|(with_reducible first|exact HB.out|apply Qh|apply Qc|apply Qe|refine Qd ?_ a2.out|refine Qd ?_ a6.out|refine Qd ?_ a8.out|refine Qd ?_ av.out)|exact HB.out))))
     have ξ :=Aside0.mk (Qo (g:= ν) (o:=.cells #[.int .i64 J,.int .i64 D] 23 (0,0)) (by(with_reducible repeat first|apply Qf|apply Qb|apply Qg);exact U.out) hb)
     have ψ :=Aside0.mk (Qo (g:= τ) (o:=.cells #[.slice ζ B.length γ,.slice η I.length ε] 27 (0,0)) (by(with_reducible repeat first|apply Qf|apply Qb|apply Qg);exact X.out) hb)
     have a1:=Aside0.mk (Qo (g:= ω) (o:=.cells #[.int .i64 δ,.int .i64 L,.int .i64 θ] 29 (0,0)) (by(with_reducible repeat first|apply Qf|apply Qb|apply Qg);exact Y.out) hb)
     have af:=Aside0.mk (Qo (g:= μ) (o:=.cells #[.slice none 0 0,.slice none 0 0] 27 (0,0)) (by(with_reducible repeat first|apply Qf|apply Qb|apply Qg);exact a5.out) hb)
     have al:=Aside0.mk (Qt (by repeat(first|(with_reducible first|exact HB.out|apply Qh|apply Qc|apply Qe|refine Qd ?_ a2.out|refine Qd ?_ a6.out|refine Qd ?_ a8.out|refine Qd ?_ av.out)|exact HB.out)) hb)
     clear a3
     clear a4
     clear U
     clear X
     clear Y
     clear a5
     clear HB
     have a3:=O
     have a4:=Z
     have aj:= ι
     have ak:= κ
     have U:= ξ
     have X:= ψ
     have Y:=a1
     have a5:=af
     have HB:=al
     clear O Z ι κ ξ ψ a1 af al
     (try clear hb)
     (try clear a0)
     (try clear hk)
     (try clear hi)
     (try clear ρ)
     (try clear a7)
     refine hK.out _ _ ⟨qc U,qc U,qc X,qc X,qc Y,qc Y,qc Y⟩ (fun hHeld=>?_)
     clear hK K
     refine qN (some 21) ?_
     refine qP 5 (some 16) (qB 11 319) HT_ ?_
     refine qP 6 (some 22) (qB 11 383) HT_ ?_
     refine qP 7 (some 23) (qB 11 511) HT_ ?_
     exact Xn (by simp only[Z9,Act.put,qS]) (hCont (.slice e5 bp.length e6,.slice fg bq.length fh,cr,ct,μ) _ ⟨hHeld,(by(with_reducible repeat first|apply Kd.Qm|apply Kd.Ql|apply Kd.Qn);exact Kd.Qr a3.out (fun _ hk=>hk.2)),(by(with_reducible repeat first|apply Kd.Qm|apply Kd.Ql|apply Kd.Qn);exact Kd.Qr a4.out (fun _ hk=>hk.2)),(by(with_reducible repeat first|apply Kd.Qm|apply Kd.Ql|apply Kd.Qn);exact Kd.Qr aj.out (fun _ hk=>hk.2)),(by(with_reducible repeat first|apply Kd.Qm|apply Kd.Ql|apply Kd.Qn);exact Kd.Qr ak.out (fun _ hk=>hk.2)),(by(with_reducible repeat first|apply Qf|apply Qb|apply Qg);exact U.out),(by(with_reducible repeat first|apply Qf|apply Qb|apply Qg);exact X.out),(by(with_reducible repeat first|apply Qf|apply Qb|apply Qg);exact Y.out),(by(with_reducible repeat first|apply Qf|apply Qb|apply Qg);exact a5.out),cy.out,av.out,an.out,b0.out,ao.out,b2.out,am.out,b3.out,(by repeat(first|(with_reducible first|exact HB.out|apply Qh|apply Qc|apply Qe|refine Qd ?_ a2.out|refine Qd ?_ a6.out|refine Qd ?_ a8.out|refine Qd ?_ av.out)|exact HB.out))⟩)
   rintro⟨e9,ea,cr,ct,μ⟩ ca ⟨hS_,cj,ck,cm,cn,co,dy,dz,e0,e3,e4,db,dc,dd,de,df,dh,di⟩
   have O:Aside0 (Kd.R k56 56 ca w.heap.size (fun k_=>some k_≠(cr:Value).ownBlock) e9 bp):=⟨cj⟩
   have Z:Aside0 (Kd.R k62 62 ca w.heap.size (fun k_=>some k_≠(ct:Value).ownBlock) ea bq):=⟨ck⟩
   have ι :Aside0 (Kd.R k56 56 ca w.heap.size (fun k_=>some k_≠(e9:Value).ownBlock) cr ac):=⟨cm⟩
   have κ :Aside0 (Kd.R k62 62 ca w.heap.size (fun k_=>some k_≠(ea:Value).ownBlock) ct ae):=⟨cn⟩
   have ξ :Aside0 (ca.heap[ν]?=some (.cells #[.int .i64 J,.int .i64 D] 23 (0,0))):=⟨co⟩
   have ψ :Aside0 (ca.heap[τ]?=some (.cells #[.slice ζ B.length γ,.slice η I.length ε] 27 (0,0))):=⟨dy⟩
   have a1:Aside0 (ca.heap[ω]?=some (.cells #[.int .i64 δ,.int .i64 L,.int .i64 θ] 29 (0,0))):=⟨dz⟩
   have af:Aside0 (ca.heap[μ]?=some (.cells #[.slice none 0 0,.slice none 0 0] 27 (0,0))):=⟨e0⟩
   have al:Aside0 (w.heap.size ≤ μ):=⟨e3⟩
   have ax:Aside0 (w.heap.size ≤ μ):=⟨e4⟩
   have ap:Aside0 (ν ≠ μ):=⟨db⟩
   have aw:Aside0 (μ ≠ ν):=⟨dc⟩
   have b1:Aside0 (τ ≠ μ):=⟨dd⟩
   have b8:Aside0 (μ ≠ τ):=⟨de⟩
   have b9:Aside0 (ω ≠ μ):=⟨df⟩
   have be:Aside0 (μ ≠ ω):=⟨dh⟩
   have bf:Aside0 (Below w.heap.size w ca):=⟨di⟩
   clear U
   clear X
   clear Y
   clear HB
   clear cj ck cm cn co dy dz e0 e3 e4 db dc dd de df dh di
   have a3:=O
   have a4:=Z
   have aj:= ι
   have ak:= κ
   have U:= ξ
   have X:= ψ
   have Y:=a1
   have a5:=af
   have cy:=al
   have av:=ax
   have an:=ap
   have b0:=aw
   have ao:=b1
   have b2:=b8
   have am:=b9
   have b3:=be
   have HB:=bf
   clear O Z ι κ ξ ψ a1 af al ax ap aw b1 b8 b9 be bf
   have hHeld:ca.cell? ⟨ν,0,none⟩=some (.int .i64 J)∧ca.cell? ⟨ν,1,none⟩=some (.int .i64 D)∧ca.cell? ⟨τ,0,none⟩=some (.slice ζ B.length γ)∧ca.cell? ⟨τ,1,none⟩=some (.slice η I.length ε)∧ca.cell? ⟨ω,0,none⟩=some (.int .i64 δ)∧ca.cell? ⟨ω,1,none⟩=some (.int .i64 L)∧ca.cell? ⟨ω,2,none⟩=some (.int .i64 θ):=hS_
   obtain⟨f9,fa,jc⟩:=Kd.Q5 aj.out
   (first|subst jc|(injection jc with φ a9 χ;have aa:= φ.symm;have ab:= χ.symm;clear φ a9 χ;subst aa;subst ab))
   obtain⟨cf,cg,dj⟩:=Kd.Q5 ak.out
   (first|subst dj|(injection dj with φ a9 χ;have aa:= φ.symm;have ab:= χ.symm;clear φ a9 χ;subst aa;subst ab))
   refine Xn (a':=?_) ?_ ?_
   rotate_left
   ·simp only[Z9,Act.put,qS]
    rfl
   refine Zi (i:=9) (N:=none) #[true,true,true,true,true,true,true,true,true,true,false] rfl rfl (Q0 HT_.out kr) (by decide) (fun K hK=>?_)
   have mx:ca.cell? ⟨μ,0,none⟩=some (.slice none 0 0):=(Qi a5.out 0).trans rfl
   have ml:=Q6 a5.out 0
   have ls:=an.out
   have lu:=ao.out
   have lv:=am.out
   have lw:=b0.out
   have lx:=b2.out
   have ly:=b3.out
   have my:ca.cell? ⟨μ,1,none⟩=some (.slice none 0 0):=(Qi a5.out 1).trans rfl
   have mm:=Q6 a5.out 1
   have lz:=an.out
   have m0:=ao.out
   have m1:=am.out
   have m2:=b0.out
   have m3:=b2.out
   have m4:=b3.out
   refine Y4 (w1:=?_) (by rfl) rfl ?_ ?_
   rotate_left
   ·go_simp
    rfl
   refine hK.out _ _ ⟨((cell_far (p:=⟨μ,_,none⟩) an.out _).trans (((cell_far (p:=⟨μ,_,none⟩) an.out _).trans (hHeld.1)))),((cell_far (p:=⟨μ,_,none⟩) an.out _).trans (((cell_far (p:=⟨μ,_,none⟩) an.out _).trans (hHeld.2.1)))),((cell_far (p:=⟨μ,_,none⟩) ao.out _).trans (((cell_far (p:=⟨μ,_,none⟩) ao.out _).trans (hHeld.2.2.1)))),((cell_far (p:=⟨μ,_,none⟩) ao.out _).trans (((cell_far (p:=⟨μ,_,none⟩) ao.out _).trans (hHeld.2.2.2.1)))),((cell_far (p:=⟨μ,_,none⟩) am.out _).trans (((cell_far (p:=⟨μ,_,none⟩) am.out _).trans (hHeld.2.2.2.2.1)))),((cell_far (p:=⟨μ,_,none⟩) am.out _).trans (((cell_far (p:=⟨μ,_,none⟩) am.out _).trans (hHeld.2.2.2.2.2.1)))),((cell_far (p:=⟨μ,_,none⟩) am.out _).trans (((cell_far (p:=⟨μ,_,none⟩) am.out _).trans (hHeld.2.2.2.2.2.2))))⟩ (fun hHeld=>?_)
   clear hK K
   refine qP 10 (some 8) (qB 11 2047) HT_ ?_
   refine Zq (Zd HT_.out kr) ?_
   try go_wp2_with (first|((with_reducible refine Q1 (f:=10) rfl ?_);refine Zp (some 26) rfl rfl Try.func10 kr rfl #[] rfl (by(try simp only[List.map_toArray,List.map_cons,List.map_nil]);first|done|rfl|(simp only[List.length_drop,List.length_take];rfl)) ?_;(with_reducible refine(newellaw19_awake.calls k  da _ mj.out).mono ?_);rintro e ik ⟨rfl,hb⟩;refine⟨_,rfl, ?_⟩;have O:=Aside0.mk (Kd.Qu (by(with_reducible repeat first|apply Kd.Qm|apply Kd.Ql|apply Kd.Qn);exact(Kd.Qr (Kd.Qs (p:=⟨μ,1,none⟩) (Kd.Qs (p:=⟨μ,0,none⟩) (Kd.Qv a3.out a5.out (by decide)) (fun _ hk=>hk.2) (.slice f9 ac.length fa)) (fun _ hk=>hk.2) (.slice cf ae.length cg)) (fun _ h_=>h_.1))) hb);have Z:=Aside0.mk (Kd.Qu (by(with_reducible repeat first|apply Kd.Qm|apply Kd.Ql|apply Kd.Qn);exact(Kd.Qr (Kd.Qs (p:=⟨μ,1,none⟩) (Kd.Qs (p:=⟨μ,0,none⟩) (Kd.Qv a4.out a5.out (by decide)) (fun _ hk=>hk.2) (.slice f9 ac.length fa)) (fun _ hk=>hk.2) (.slice cf ae.length cg)) (fun _ h_=>h_.1))) hb);have ι :=Aside0.mk (Kd.Qu (by(with_reducible repeat first|apply Kd.Qm|apply Kd.Ql|apply Kd.Qn);exact(Kd.Qr (Kd.Qs (p:=⟨μ,1,none⟩) (Kd.Qs (p:=⟨μ,0,none⟩) (Kd.Qv aj.out a5.out (by decide)) (fun _ hk=>hk.2) (.slice f9 ac.length fa)) (fun _ hk=>hk.2) (.slice cf ae.length cg)) (fun _ h_=>h_.1))) hb);have κ :=Aside0.mk (Kd.Qu (by(with_reducible repeat first|apply Kd.Qm|apply Kd.Ql|apply Kd.Qn);exact(Kd.Qr (Kd.Qs (p:=⟨μ,1,none⟩) (Kd.Qs (p:=⟨μ,0,none⟩) (Kd.Qv ak.out a5.out (by decide)) (fun _ hk=>hk.2) (.slice f9 ac.length fa)) (fun _ hk=>hk.2) (.slice cf ae.length cg)) (fun _ h_=>h_.1))) hb);have ξ :=Aside0.mk (Qo (g:= ν) (o:=.cells #[.int .i64 J,.int .i64 D] 23 (0,0)) (by(with_reducible repeat first|apply Qf|apply Qb|apply Qg);refine Zt ?_ an.out _;(with_reducible repeat first|apply Qf|apply Qb|apply Qg);refine Zt ?_ an.out _;(with_reducible repeat first|apply Qf|apply Qb|apply Qg);exact U.out) hb);have ψ :=Aside0.mk (Qo (g:= τ) (o:=.cells #[.slice ζ B.length γ,.slice η I.length ε] 27 (0,0)) (by(with_reducible repeat first|apply Qf|apply Qb|apply Qg);refine Zt ?_ ao.out _;(with_reducible repeat first|apply Qf|apply Qb|apply Qg);refine Zt ?_ ao.out _;(with_reducible repeat first|apply Qf|apply Qb|apply Qg);exact X.out) hb);have a1:=Aside0.mk (Qo (g:= ω) (o:=.cells #[.int .i64 δ,.int .i64 L,.int .i64 θ] 29 (0,0)) (by(with_reducible repeat first|apply Qf|apply Qb|apply Qg);refine Zt ?_ am.out _;(with_reducible repeat first|apply Qf|apply Qb|apply Qg);refine Zt ?_ am.out _;(with_reducible repeat first|apply Qf|apply Qb|apply Qg);exact Y.out) hb);have af:=Aside0.mk (Qo (g:= μ) (o:=.cells #[.slice f9 ac.length fa,.slice cf ae.length cg] 27 (0,0)) (by(with_reducible repeat first|apply Qf|apply Qb|apply Qg);refine Qw (cs:=#[.slice f9 ac.length fa,.slice none 0 0]) ?_ 1 _ rfl;(with_reducible repeat first|apply Qf|apply Qb|apply Qg);refine Qw (cs:=#[.slice none 0 0,.slice none 0 0]) ?_ 0 _ rfl;(with_reducible repeat first|apply Qf|apply Qb|apply Qg);exact a5.out) hb);have al:=Aside0.mk (Qt (by repeat(first|(with_reducible first|exact HB.out|apply Qh|apply Qc|apply Qe|refine Qd ?_ a2.out|refine Qd ?_ a6.out|refine Qd ?_ a8.out|refine Qd ?_ av.out)|exact HB.out)) hb);clear a3;clear a4;clear aj;clear ak;clear U;clear X;clear Y;clear a5;clear HB;have a3:=O;have a4:=Z;have aj:= ι;have ak:= κ;have U:= ξ;have X:= ψ;have Y:=a1;have a5:=af;have HB:=al;clear O Z ι κ ξ ψ a1 af al;(try clear hb);(try clear a0);(try clear hk);(try clear hi)))
   go_ret
   exact⟨by first|rfl|(simp[Qy,Qx] <;> rfl)|(simp[*,Qy,Qx] <;> rfl),by repeat(first|(with_reducible first|exact HB.out|apply Qh|apply Qc|apply Qe|refine Qd ?_ a2.out|refine Qd ?_ a6.out|refine Qd ?_ a8.out|refine Qd ?_ av.out)|exact HB.out)⟩
 ·replace c5:=Bool.eq_false_iff.mpr c5
  subst c5
  have H1:((newellaw19_awake.f k).bind fun e8=>(some e8))=some r:=by rw[if_neg (show ¬ (false=true) by decide)] at H;exact H
  clear H
  have H:=H1
  clear H1
  replace H:=Option.bind_eq_some_iff.mp H
  obtain⟨e8,jd,H⟩:=H
  replace H:(some e8)=some r:=H
  have m5:=Aside0.mk jd
  clear jd
  obtain rfl:=Option.some.inj H
  go_enter Try.func6,Try.ntmps6
  go_wp2_with (first|((with_reducible refine Qp (N:=3) rfl ?_);refine Q7 ?hg (N:=3) ?hd (cs:=#[.int .i64 J,.int .i64 D]) (t:=23) ?hr ?_;(case hd=>rfl);(case hg=>rfl);(case hr=>first|(go_simp;done)|(go_simp;rfl));intro ν hg lp hbox hb;have O:=Aside0.mk (Qt (by repeat(first|(with_reducible first|exact HB.out|apply Qh|apply Qc|apply Qe)|exact HB.out)) hb);have Z:=Aside0.mk (hbox);have ι :=Aside0.mk ((by rw[hg];exact(Qj (by repeat(first|(with_reducible first|exact HB.out|apply Qh|apply Qc|apply Qe)|exact HB.out))):w.heap.size ≤ ν));have κ :=Aside0.mk ((by rw[hg];exact(Qj (by repeat(first|(with_reducible first|exact HB.out|apply Qh|apply Qc|apply Qe)|exact HB.out))):w.heap.size ≤ ν));clear HB;have HB:=O;have U:=Z;have j6:= ι;have a2:= κ;clear O Z ι κ;clear hb hbox hg)|((with_reducible refine Qp (N:=4) rfl ?_);refine Q7 ?hg (N:=4) ?hd (cs:=#[.slice ζ B.length γ,.slice η I.length ε]) (t:=27) ?hr ?_;(case hd=>rfl);(case hg=>rfl);(case hr=>first|(go_simp;done)|(go_simp;rfl));intro τ hg lq hbox hb;have O:=Aside0.mk (Qo (g:= ν) (o:=.cells #[.int .i64 J,.int .i64 D] 23 (0,0)) (by(with_reducible repeat first|apply Qf|apply Qb|apply Qg);exact U.out) hb);have Z:=Aside0.mk (Qt (by repeat(first|(with_reducible first|exact HB.out|apply Qh|apply Qc|apply Qe|refine Qd ?_ a2.out)|exact HB.out)) hb);have ι :=Aside0.mk (hbox);have κ :=Aside0.mk ((by rw[hg];exact(Qj (by repeat(first|(with_reducible first|exact HB.out|apply Qh|apply Qc|apply Qe|refine Qd ?_ a2.out)|exact HB.out))):w.heap.size ≤ τ));have ξ :=Aside0.mk ((by rw[hg];exact(Qj (by repeat(first|(with_reducible first|exact HB.out|apply Qh|apply Qc|apply Qe|refine Qd ?_ a2.out)|exact HB.out))):w.heap.size ≤ τ));have ψ :=Aside0.mk ((by rw[hg];exact Nat.ne_of_lt (Q3 (g:= ν) (o:=.cells #[.int .i64 J,.int .i64 D] 23 (0,0)) (by(with_reducible repeat first|apply Qf|apply Qb|apply Qg);exact U.out)): ν ≠ τ));have a1:=Aside0.mk ((by rw[hg];exact Nat.ne_of_gt (Q3 (g:= ν) (o:=.cells #[.int .i64 J,.int .i64 D] 23 (0,0)) (by(with_reducible repeat first|apply Qf|apply Qb|apply Qg);exact U.out)): τ ≠ ν));clear U;clear HB;have U:=O;have HB:=Z;have X:= ι;have j7:= κ;have a6:= ξ;have cp:= ψ;have cq:=a1;clear O Z ι κ ξ ψ a1;clear hb hbox hg)|((with_reducible refine Qp (N:=5) rfl ?_);refine Q7 ?hg (N:=5) ?hd (cs:=#[.int .i64 δ,.int .i64 L,.int .i64 θ]) (t:=29) ?hr ?_;(case hd=>rfl);(case hg=>rfl);(case hr=>first|(go_simp;done)|(go_simp;rfl));intro ω hg lr hbox hb;have O:=Aside0.mk (Qo (g:= ν) (o:=.cells #[.int .i64 J,.int .i64 D] 23 (0,0)) (by(with_reducible repeat first|apply Qf|apply Qb|apply Qg);exact U.out) hb);have Z:=Aside0.mk (Qo (g:= τ) (o:=.cells #[.slice ζ B.length γ,.slice η I.length ε] 27 (0,0)) (by(with_reducible repeat first|apply Qf|apply Qb|apply Qg);exact X.out) hb);have ι :=Aside0.mk (Qt (by repeat(first|(with_reducible first|exact HB.out|apply Qh|apply Qc|apply Qe|refine Qd ?_ a2.out|refine Qd ?_ a6.out)|exact HB.out)) hb);have κ :=Aside0.mk (hbox);have ξ :=Aside0.mk ((by rw[hg];exact(Qj (by repeat(first|(with_reducible first|exact HB.out|apply Qh|apply Qc|apply Qe|refine Qd ?_ a2.out|refine Qd ?_ a6.out)|exact HB.out))):w.heap.size ≤ ω));have ψ :=Aside0.mk ((by rw[hg];exact(Qj (by repeat(first|(with_reducible first|exact HB.out|apply Qh|apply Qc|apply Qe|refine Qd ?_ a2.out|refine Qd ?_ a6.out)|exact HB.out))):w.heap.size ≤ ω));have a1:=Aside0.mk ((by rw[hg];exact Nat.ne_of_lt (Q3 (g:= ν) (o:=.cells #[.int .i64 J,.int .i64 D] 23 (0,0)) (by(with_reducible repeat first|apply Qf|apply Qb|apply Qg);exact U.out)): ν ≠ ω));have af:=Aside0.mk ((by rw[hg];exact Nat.ne_of_gt (Q3 (g:= ν) (o:=.cells #[.int .i64 J,.int .i64 D] 23 (0,0)) (by(with_reducible repeat first|apply Qf|apply Qb|apply Qg);exact U.out)): ω ≠ ν));have al:=Aside0.mk ((by rw[hg];exact Nat.ne_of_lt (Q3 (g:= τ) (o:=.cells #[.slice ζ B.length γ,.slice η I.length ε] 27 (0,0)) (by(with_reducible repeat first|apply Qf|apply Qb|apply Qg);exact X.out)): τ ≠ ω));have ax:=Aside0.mk ((by rw[hg];exact Nat.ne_of_gt (Q3 (g:= τ) (o:=.cells #[.slice ζ B.length γ,.slice η I.length ε] 27 (0,0)) (by(with_reducible repeat first|apply Qf|apply Qb|apply Qg);exact X.out)): ω ≠ τ));clear U;clear X;clear HB;have U:=O;have X:=Z;have HB:= ι;have Y:= κ;have j8:= ξ;have a8:= ψ;have dp:=a1;have dq:=af;have d4:=al;have d5:=ax;clear O Z ι κ ξ ψ a1 af al ax;clear hb hbox hg;have k4:=cq.out;have k5:=cp.out;have i7:=d4.out;have i9:=d5.out;obtain⟨ib,ic,ie,ig⟩:=qD2 X.out)|((with_reducible refine Q1 (f:=9) rfl ?_);refine Zp (some 13) rfl rfl Try.func9 kr rfl #[.agg #[.slice ζ B.length γ,.slice η I.length ε]] rfl (by(try simp only[List.map_toArray,List.map_cons,List.map_nil]);first|done|rfl|(simp only[List.length_drop,List.length_take];rfl)) ?_;(with_reducible refine(newelref19_Few.calls _ _ B _ _ I false _ ?side1 ?side2 ?side3 ?side4 A4.out).mono ?_);(case side1=>repeat(first|exact(Kd.Qz ag.out HB.out)|(with_reducible refine Kd.Za ?_ _)|(with_reducible refine Kd.Q9 ?_ _)|(with_reducible refine Kd.Zm ?_)));(case side2=>exact ar.out);(case side3=>repeat(first|exact(Kd.Qz ai.out HB.out)|(with_reducible refine Kd.Za ?_ _)|(with_reducible refine Kd.Q9 ?_ _)|(with_reducible refine Kd.Zm ?_)));(case side4=>exact au.out);rintro e n3 ⟨rfl,hb⟩;refine⟨_,rfl, ?_⟩;have O:=Aside0.mk (Qo (g:= ν) (o:=.cells #[.int .i64 J,.int .i64 D] 23 (0,0)) (by(with_reducible repeat first|apply Qf|apply Qb|apply Qg);exact U.out) hb);have Z:=Aside0.mk (Qo (g:= τ) (o:=.cells #[.slice ζ B.length γ,.slice η I.length ε] 27 (0,0)) (by(with_reducible repeat first|apply Qf|apply Qb|apply Qg);exact X.out) hb);have ι :=Aside0.mk (Qo (g:= ω) (o:=.cells #[.int .i64 δ,.int .i64 L,.int .i64 θ] 29 (0,0)) (by(with_reducible repeat first|apply Qf|apply Qb|apply Qg);exact Y.out) hb);have κ :=Aside0.mk (Qt (by repeat(first|(with_reducible first|exact HB.out|apply Qh|apply Qc|apply Qe|refine Qd ?_ a2.out|refine Qd ?_ a6.out|refine Qd ?_ a8.out)|exact HB.out)) hb);clear U;clear X;clear Y;clear HB;have U:=O;have X:=Z;have Y:= ι;have HB:= κ;clear O Z ι κ;(try clear hb);(try clear a0);(try clear hk);(try clear hi))|((with_reducible refine Q1 (f:=10) rfl ?_);refine Zp (some 15) rfl rfl Try.func10 kr rfl #[] rfl (by(try simp only[List.map_toArray,List.map_cons,List.map_nil]);first|done|rfl|(simp only[List.length_drop,List.length_take];rfl)) ?_;(with_reducible refine(newellaw19_awake.calls k  e8 _ m5.out).mono ?_);rintro e na ⟨rfl,hb⟩;refine⟨_,rfl, ?_⟩;have O:=Aside0.mk (Qo (g:= ν) (o:=.cells #[.int .i64 J,.int .i64 D] 23 (0,0)) (by(with_reducible repeat first|apply Qf|apply Qb|apply Qg);exact U.out) hb);have Z:=Aside0.mk (Qo (g:= τ) (o:=.cells #[.slice ζ B.length γ,.slice η I.length ε] 27 (0,0)) (by(with_reducible repeat first|apply Qf|apply Qb|apply Qg);exact X.out) hb);have ι :=Aside0.mk (Qo (g:= ω) (o:=.cells #[.int .i64 δ,.int .i64 L,.int .i64 θ] 29 (0,0)) (by(with_reducible repeat first|apply Qf|apply Qb|apply Qg);exact Y.out) hb);have κ :=Aside0.mk (Qt (by repeat(first|(with_reducible first|exact HB.out|apply Qh|apply Qc|apply Qe|refine Qd ?_ a2.out|refine Qd ?_ a6.out|refine Qd ?_ a8.out)|exact HB.out)) hb);clear U;clear X;clear Y;clear HB;have U:=O;have X:=Z;have Y:= ι;have HB:= κ;clear O Z ι κ;(try clear hb);(try clear a0);(try clear hk);(try clear hi)))
  go_ret
  exact⟨by first|rfl|(simp[Qy,Qx] <;> rfl)|(simp[*,Qy,Qx] <;> rfl),by repeat(first|(with_reducible first|exact HB.out|apply Qh|apply Qc|apply Qe|refine Qd ?_ a2.out|refine Qd ?_ a6.out|refine Qd ?_ a8.out)|exact HB.out)⟩
end Go.Proofs.Ytjehhhlhalkieaa.C
namespace Go.Proofs.Ytjehhhlhalkieaa.Call
open Go.RowKit Go.Proofs.YtjehhhlhalkieaaW.PrintWords Go.Proofs.YtjehhhlhalkieaaW.PrintLast Go.Proofs.YtjehhhlhalkieaaW.PrintMore Go.Proofs.Ytjehhhlhalkieaa.C
set_option linter.unusedVariables false
set_option linter.unusedSimpArgs false
theorem G4 {α:Type} (q:α→Bool) (l:List α):(l.filter q).length+(l.filter (fun y=> !q y)).length=l.length:=by
  induction l with
  |nil=>rfl
  |cons x l ih=>cases h:q x <;> simp[h] <;> omega
theorem Lf (x:Hall) (l:List Hall):Ys x l=l∨(Ys x l).length=l.length+1:=by
  unfold Ys
  split
  · exact .inl rfl
  · right
    rw[List.length_append,List.length_append]
    show _+1+_=_
    rw[Nat.add_right_comm]
    exact congrArg (· + 1) (G4 _ l)
theorem Le (x:Ins) (l:List Ins):Yz x l=l∨(Yz x l).length=l.length+1:=by
  unfold Yz
  split
  · exact .inl rfl
  · right
    rw[List.length_append,List.length_append]
    show _+1+_=_
    rw[Nat.add_right_comm]
    exact congrArg (· + 1) (G4 _ l)
theorem Uu (F C:Int):newelref19_House.f F C=some (decide ((2≤F∧F≤64)∧(1≤C∧C≤8))):=by
  unfold newelref19_House.f
  by_cases h1:F≥2
  · rw[if_pos h1]
    by_cases O:F≤64
    · rw[if_pos O]
      by_cases L:C≥1
      · rw[if_pos L]
        congr 1
        rw[decide_eq_decide]
        omega
      · rw[if_neg L,decide_eq_false (by omega)]
    · rw[if_neg O,decide_eq_false (by omega)]
  · rw[if_neg h1,decide_eq_false (by omega)]
theorem We (k:Nat) {F C:Int} (D J X:Int) (hF:2≤F∧F≤64) (hC:1≤C∧C≤8):newelref19_Hall.f (k+1) F C D J X=some (Xq F C D J X):=by
  have hb:=K4 (F:=F) (C:=C) (D:=D) (J:=J) (X:=X) hF hC
  have w1:wrap64 (F-2)=F-2:=by unfold wrap64;omega
  have Y:wrap64 (F-1)=F-1:=by unfold wrap64;omega
  have tt:∀ p:Prop,[Decidable p]→(p↔((J=1∨J = -1)∧(0≤D∧D≤F-1)∧(0≤D+J∧D+J≤F-1)∧(-1≤X∧X≤C-1)))→(some (decide p):Option Bool)=some (Xq F C D J X):=by
    intro p _ hp
    congr 1
    cases h:Xq F C D J X
    · rw[h] at hb
      exact decide_eq_false (fun q=>Bool.noConfusion (hb.2 (hp.1 q)))
    · exact decide_eq_true (hp.2 (hb.1 h))
  have ff:¬ ((J=1∨J = -1)∧(0≤D∧D≤F-1)∧(0≤D+J∧D+J≤F-1)∧(-1≤X∧X≤C-1))→(some false:Option Bool)=some (Xq F C D J X):=fun h=>tt False ⟨False.elim,h⟩
  have j:∀ b:Bool,b=decide (X < -1∨X≥C)→newelref19_Hall.j0 (k+1) b F C D J X=some (Xq F C D J X):=by
    intro b hbb
    simp only[newelref19_Hall.j0]
    rw[w1,Y]
    by_cases U:X < -1∨X≥C
    · rw[hbb,decide_eq_true U,if_pos rfl]
      exact ff (by omega)
    · rw[hbb,decide_eq_false U,if_neg (by decide)]
      by_cases h1:J=1
      · rw[if_pos h1]
        by_cases O:D≥0
        · rw[if_pos O]
          exact tt _ (by omega)
        · rw[if_neg O]
          exact ff (by omega)
      · rw[if_neg h1]
        by_cases O:J = -1
        · rw[if_pos O]
          by_cases L:D≥1
          · rw[if_pos L]
            exact tt _ (by omega)
          · rw[if_neg L]
            exact ff (by omega)
        · rw[if_neg O]
          exact ff (by omega)
  unfold newelref19_Hall.f
  by_cases h:X < -1
  · rw[if_pos h]
    exact j _ (decide_eq_true (.inl h)).symm
  · rw[if_neg h]
    exact j _ (by rw[decide_eq_decide];omega)
theorem Uv (k:Nat) {F C:Int} (D J X:Int) (hF:2≤F∧F≤64) (hC:1≤C∧C≤8) (hk:0<k):newelref19_Hall.f k F C D J X=some (Xq F C D J X):=by
  obtain⟨k,rfl⟩:∃ m,k=m+1:=⟨k-1,by omega⟩
  exact We k D J X hF hC
theorem Ku {F C:Int} (D J:Int) (hF:2≤F∧F≤64) (hC:1≤C∧C≤8):newelref19_Inside.f F C D J=some (Yw F C D J):=by
  have hb:=W4 (F:=F) (C:=C) (D:=D) (J:=J) hF hC
  have tt:∀ p:Prop,[Decidable p]→(p↔((0≤D∧D≤C-1)∧(0≤J∧J≤F-1)))→(some (decide p):Option Bool)=some (Yw F C D J):=by
    intro p _ hp
    congr 1
    cases h:Yw F C D J
    · rw[h] at hb
      exact decide_eq_false (fun q=>Bool.noConfusion (hb.2 (hp.1 q)))
    · exact decide_eq_true (hp.2 (hb.1 h))
  have ff:¬ ((0≤D∧D≤C-1)∧(0≤J∧J≤F-1))→(some false:Option Bool)=some (Yw F C D J):=fun h=>tt False ⟨False.elim,h⟩
  unfold newelref19_Inside.f
  by_cases h1:D≥0
  · rw[if_pos h1]
    by_cases O:D<C
    · rw[if_pos O]
      by_cases L:J≥0
      · rw[if_pos L]
        exact tt _ (by omega)
      · rw[if_neg L]
        exact ff (by omega)
    · rw[if_neg O]
      exact ff (by omega)
  · rw[if_neg h1]
    exact ff (by omega)
theorem Gi (x y:Hall):newelref19_ahead.f x.f0 x.f1 x.f2 y.f0 y.f1 y.f2=some (ltH x y):=by
  unfold newelref19_ahead.f
  by_cases h1:x.f0<y.f0
  · rw[if_pos h1,(Ya x y).2 (.inl h1)]
  · rw[if_neg h1]
    by_cases O:x.f0=y.f0
    · rw[if_pos O]
      congr 1
      cases h:ltH x y
      · exact decide_eq_false (fun q=>by rw[(Ya x y).2 (.inr ⟨O,q⟩)] at h;cases h)
      · have:=(Ya x y).1 h
        exact decide_eq_true (by omega)
    · rw[if_neg O]
      cases h:ltH x y
      · rfl
      · have:=(Ya x y).1 h
        omega
theorem Kv (x y:Ins):newelref19_before.f x.f0 x.f1 y.f0 y.f1=some (ltI x y):=by
  unfold newelref19_before.f
  by_cases h1:x.f0<y.f0
  · rw[if_pos h1,(Y0 x y).2 (.inl h1)]
  · rw[if_neg h1]
    by_cases O:x.f0=y.f0
    · rw[if_pos O]
      congr 1
      cases h:ltI x y
      · exact decide_eq_false (fun q=>by rw[(Y0 x y).2 (.inr ⟨O,q⟩)] at h;cases h)
      · have:=(Y0 x y).1 h
        exact decide_eq_true (by omega)
    · rw[if_neg O]
      cases h:ltI x y
      · rfl
      · have:=(Y0 x y).1 h
        omega
theorem Ej {F C:Int} (hF:2≤F∧F≤64) (hC:1≤C∧C≤8) (H:List Hall) (I:List Ins) (hm:I.length≤1000000000) (j:Nat):∀ (f i:Nat),i+j=I.length→j+1<f→newelref19_May.l1 f (i:Int) F C H I=some (Zs (fun x=>Yw F C x.f0 x.f1) ltI (if i=0 then none else I[i-1]?) (I.drop i)):=by
  induction j with
  |zero=>
    intro f i hi hf
    obtain⟨f,rfl⟩:∃ m,f=m+1:=⟨f-1,by omega⟩
    simp only[newelref19_May.l1]
    rw[if_neg (by omega),List.drop_of_length_le (by omega)]
    cases(if i=0 then none else I[i-1]?) <;> rfl
  |succ j ih=>
    intro f i hi hf
    obtain⟨f,rfl⟩:∃ m,f=m+1:=⟨f-1,by omega⟩
    have ha:i<I.length:=by omega
    have ei:wrap64 ((i:Int)+1)=((i+1:Nat):Int):=by unfold wrap64;omega
    have Y:=ih f (i+1) (by omega) (by omega)
    rw[if_neg (by omega),Nat.add_sub_cancel,List.getElem?_eq_getElem ha] at Y
    simp only[newelref19_May.l1]
    rw[if_pos (by omega),if_pos (by omega),Y6 I i ha,Ku _ _ hF hC,List.drop_eq_getElem_cons ha]
    simp only[Option.bind_some]
    cases h1:Yw F C I[i].f0 I[i].f1
    · rw[if_neg (by decide)]
      cases(if i=0 then none else I[i-1]?) <;> simp only[Zs,h1,Bool.false_and]
    · rw[if_pos rfl]
      by_cases U:i=0
      · subst U
        rw[if_neg (by omega),ei,Y,if_pos rfl]
        simp only[Zs,h1,Bool.true_and]
      · have ep:wrap64 ((i:Int)-1)=((i-1:Nat):Int):=by unfold wrap64;omega
        rw[if_pos (by omega),ep,if_pos (by omega),if_pos (by omega),Y6 I (i-1) (by omega),Kv,if_neg U,List.getElem?_eq_getElem (by omega)]
        simp only[Option.bind_some,Zs,h1,Bool.true_and]
        cases O:ltI (I[i-1]'(by omega)) I[i]
        · rw[if_neg (by decide),Bool.false_and]
        · rw[if_pos rfl,ei,Y,Bool.true_and]
theorem Ek {F C:Int} (hF:2≤F∧F≤64) (hC:1≤C∧C≤8) (H:List Hall) (I:List Ins) (hH:H.length≤1000000000) (hm:I.length≤1000000000) (j:Nat):∀ (f i:Nat),i+j=H.length→j+I.length+3<f→newelref19_May.l0 f (i:Int) F C H I=some (Zs (fun x=>Xq F C x.f0 x.f1 x.f2) ltH (if i=0 then none else H[i-1]?) (H.drop i)&&Zs (fun x=>Yw F C x.f0 x.f1) ltI none I):=by
  induction j with
  |zero=>
    intro f i hi hf
    obtain⟨f,rfl⟩:∃ m,f=m+1:=⟨f-1,by omega⟩
    have h1:=Ej hF hC H I hm I.length f 0 (by omega) (by omega)
    rw[if_pos rfl,List.drop_zero] at h1
    simp only[newelref19_May.l0]
    rw[if_neg (by omega),List.drop_of_length_le (by omega)]
    refine h1.trans ?_
    cases(if i=0 then none else H[i-1]?) <;> rfl
  |succ j ih=>
    intro f i hi hf
    obtain⟨f,rfl⟩:∃ m,f=m+1:=⟨f-1,by omega⟩
    have ha:i<H.length:=by omega
    have ei:wrap64 ((i:Int)+1)=((i+1:Nat):Int):=by unfold wrap64;omega
    have Y:=ih f (i+1) (by omega) (by omega)
    rw[if_neg (by omega),Nat.add_sub_cancel,List.getElem?_eq_getElem ha] at Y
    simp only[newelref19_May.l0]
    rw[if_pos (by omega),if_pos (by omega),Y7 H i ha,Uv _ _ _ _ hF hC (by omega),List.drop_eq_getElem_cons ha]
    simp only[Option.bind_some]
    cases h1:Xq F C H[i].f0 H[i].f1 H[i].f2
    · rw[if_neg (by decide)]
      cases(if i=0 then none else H[i-1]?) <;> simp only[Zs,h1,Bool.false_and]
    · rw[if_pos rfl]
      by_cases U:i=0
      · subst U
        rw[if_neg (by omega),ei,Y,if_pos rfl]
        simp only[Zs,h1,Bool.true_and]
      · have ep:wrap64 ((i:Int)-1)=((i-1:Nat):Int):=by unfold wrap64;omega
        rw[if_pos (by omega),ep,if_pos (by omega),if_pos (by omega),Y7 H (i-1) (by omega),Gi,if_neg U,List.getElem?_eq_getElem (by omega)]
        simp only[Option.bind_some,Zs,h1,Bool.true_and]
        cases O:ltH (H[i-1]'(by omega)) H[i]
        · rw[if_neg (by decide),Bool.false_and,Bool.false_and]
        · rw[if_pos rfl,ei,Y,Bool.true_and]
theorem Lm (k:Nat) (F C:Int) (H:List Hall) (I:List Ins) (hH:H.length≤1000000000) (hI:I.length≤1000000000) (hk:H.length+I.length+3<k):newelref19_May.f k F C H I=some (okB F C H I):=by
  unfold newelref19_May.f
  rw[Uu]
  simp only[Option.bind_some]
  by_cases h:(2≤F∧F≤64)∧(1≤C∧C≤8)
  · have:=Ek h.1 h.2 H I hH hI H.length k 0 (by omega) hk
    rw[if_pos rfl,List.drop_zero] at this
    rw[decide_eq_true h,if_pos rfl]
    refine this.trans ?_
    unfold okB
    rw[decide_eq_true h.1,decide_eq_true h.2,Bool.true_and,Bool.true_and]
  · rw[decide_eq_false h,if_neg (by decide)]
    congr 1
    cases hb:okB F C H I
    · rfl
    · exact absurd ⟨(Yq.1 hb).1,(Yq.1 hb).2.1⟩ h
theorem Ml {F C:Int} {H:List Hall} {I:List Ins} (h:okB F C H I=true):(2≤F∧F≤64)∧(1≤C∧C≤8):=⟨(Yq.1 h).1,(Yq.1 h).2.1⟩
theorem Gm (x y:Hall):(!(x.f0==y.f0)||(!(x.f1==y.f1) || !(x.f2==y.f2)))=true ↔ ¬ x=y:=by
  obtain⟨a,b,c⟩:=x
  obtain⟨d,e,f⟩:=y
  simp only[Bool.or_eq_true,Bool.not_eq_true',beq_eq_false_iff_ne,S56.mk.injEq]
  omega
theorem G3 (x y:Ins):(!(x.f0==y.f0)||(!(x.f1==y.f1)))=true ↔ ¬ x=y:=by
  obtain⟨a,b⟩:=x
  obtain⟨d,e⟩:=y
  simp only[Bool.or_eq_true,Bool.not_eq_true',beq_eq_false_iff_ne,S62.mk.injEq]
  omega
theorem Wb (H:List Hall) (I:List Ins) (H':List Hall) (I':List Ins) (hm:I.length≤1000000000) (hl:I.length=I'.length) (j:Nat):∀ (f i:Nat),i+j=I.length→j<f → ∃ b,newelref19_Same.l1 f (i:Int) H I H' I'=some b∧(b=true↔I.drop i=I'.drop i):=by
  induction j with
  |zero=>
    intro f i hi hf
    obtain⟨f,rfl⟩:∃ m,f=m+1:=⟨f-1,by omega⟩
    simp only[newelref19_Same.l1]
    rw[if_neg (by omega),List.drop_of_length_le (by omega),List.drop_of_length_le (by omega)]
    exact⟨true,rfl,by simp⟩
  |succ j ih=>
    intro f i hi hf
    obtain⟨f,rfl⟩:∃ m,f=m+1:=⟨f-1,by omega⟩
    have ha:i<I.length:=by omega
    have hb:i<I'.length:=by omega
    have ei:wrap64 ((i:Int)+1)=((i+1:Nat):Int):=by unfold wrap64;omega
    simp only[newelref19_Same.l1]
    rw[if_pos (by omega),if_pos (by omega),if_pos (by omega),Y6 I i ha,Y6 I' i hb,List.drop_eq_getElem_cons ha,List.drop_eq_getElem_cons hb,ei]
    by_cases h:I[i]=I'[i]
    · obtain⟨b,e,a0⟩:=ih f (i+1) (by omega) (by omega)
      rw[if_neg (by rw[G3];exact fun q=>q h)]
      exact⟨b,e,a0.trans ⟨fun q=>by rw[h,q],fun q=>(List.cons.inj q).2⟩⟩
    · rw[if_pos ((G3 _ _).2 h)]
      exact⟨false,rfl,⟨fun q=>(by cases q),fun q=>absurd (List.cons.inj q).1 h⟩⟩
theorem Wc (H:List Hall) (I:List Ins) (H':List Hall) (I':List Ins) (hm:H.length≤1000000000) (hI:I.length≤1000000000) (hH:H.length=H'.length) (hl:I.length=I'.length) (j:Nat):∀ (f i:Nat),i+j=H.length→j+I.length+1<f → ∃ b,newelref19_Same.l0 f (i:Int) H I H' I'=some b∧(b=true↔(H.drop i=H'.drop i∧I=I')):=by
  induction j with
  |zero=>
    intro f i hi hf
    obtain⟨f,rfl⟩:∃ m,f=m+1:=⟨f-1,by omega⟩
    obtain⟨b,e,hb⟩:=Wb H I H' I' hI hl I.length f 0 (by omega) (by omega)
    rw[List.drop_zero,List.drop_zero] at hb
    simp only[newelref19_Same.l0]
    rw[if_neg (by omega),List.drop_of_length_le (by omega),List.drop_of_length_le (by omega)]
    exact⟨b,e,hb.trans ⟨fun q=>⟨rfl,q⟩,fun q=>q.2⟩⟩
  |succ j ih=>
    intro f i hi hf
    obtain⟨f,rfl⟩:∃ m,f=m+1:=⟨f-1,by omega⟩
    have ha:i<H.length:=by omega
    have hb:i<H'.length:=by omega
    have ei:wrap64 ((i:Int)+1)=((i+1:Nat):Int):=by unfold wrap64;omega
    simp only[newelref19_Same.l0]
    rw[if_pos (by omega),if_pos (by omega),if_pos (by omega),Y7 H i ha,Y7 H' i hb,List.drop_eq_getElem_cons ha,List.drop_eq_getElem_cons hb,ei]
    by_cases h:H[i]=H'[i]
    · obtain⟨b,e,a0⟩:=ih f (i+1) (by omega) (by omega)
      rw[if_neg (by rw[Gm];exact fun q=>q h)]
      exact⟨b,e,a0.trans ⟨fun q=>⟨by rw[h,q.1],q.2⟩,fun q=>⟨(List.cons.inj q.1).2,q.2⟩⟩⟩
    · rw[if_pos ((Gm _ _).2 h)]
      exact⟨false,rfl,⟨fun q=>(by cases q),fun q=>absurd (List.cons.inj q.1).1 h⟩⟩
theorem Wd (k:Nat) (H:List Hall) (I:List Ins) (H':List Hall) (I':List Ins) (hH:H.length≤1000000000) (hI:I.length≤1000000000) (hk:H.length+I.length+3<k):∃ b,newelref19_Same.f k H I H' I'=some b∧(b=true↔(H=H'∧I=I')):=by
  obtain⟨k,rfl⟩:∃ m,k=m+1:=⟨k-1,by omega⟩
  unfold newelref19_Same.f
  by_cases h1:H.length=H'.length
  · rw[if_pos (by omega)]
    simp only[newelref19_Same.j0]
    by_cases O:I.length=I'.length
    · obtain⟨b,e,hb⟩:=Wc H I H' I' hH hI h1 O H.length k 0 (by omega) (by omega)
      rw[List.drop_zero,List.drop_zero] at hb
      rw[if_neg (by rw[O];simp)]
      exact⟨b,e,hb⟩
    · rw[if_pos (by simp;omega)]
      exact⟨false,rfl,⟨fun q=>(by cases q),fun q=>absurd (by rw[q.2]) O⟩⟩
  · rw[if_neg (by omega)]
    simp only[newelref19_Same.j0]
    rw[if_pos trivial]
    exact⟨false,rfl,⟨fun q=>(by cases q),fun q=>absurd (by rw[q.1]) h1⟩⟩
theorem Jv (k:Nat) (H:List Hall) (I:List Ins) (hk:H.length+I.length+3<k) (hH:H.length≤1000000000:=by omega) (hI:I.length≤1000000000:=by omega):newelref19_Same.f k H I H I=some true:=by
  obtain⟨b,hb,h⟩:=Wd k H I H I hH hI hk
  rw[hb,h.2 ⟨rfl,rfl⟩]
theorem Gh (k:Nat) (hk:3<k):newelref19_Same.f k ([]:List Hall) ([]:List Ins) [] []=some true:=Jv k [] [] (by simpa using hk) (by simp) (by simp)
def Lx (x:Hall):List Hall→List Hall
  | []=>[x]
  |y :: l=>if ltH x y=true then x :: y :: l else if y.f0=x.f0∧y.f1=x.f1 then y :: l else y :: Lx x l
def Mv (x:Ins):List Ins→List Ins
  | []=>[x]
  |y :: l=>if ltI x y=true then x :: y :: l else if y.f0=x.f0∧y.f1=x.f1 then y :: l else y :: Mv x l
theorem U6 (x y:Hall) (l:List Hall) (h1:ltH y x=true) (O:¬ (y.f0=x.f0∧y.f1=x.f1)):Ys x (y :: l)=y :: Ys x l:=by
  unfold Ys
  have Z:(Zz y.f0 y.f1 x.f0 x.f1==0)=false:=by
    rw[beq_eq_false_iff_ne]
    exact fun q=>O ((Xt _ _ _ _).1 q)
  have e2:decide (Zz y.f0 y.f1 x.f0 x.f1<0)=true:=h1
  rw[List.any_cons,Z,Bool.false_or]
  split
  · rfl
  · rw[List.filter_cons_of_pos (by exact e2),List.filter_cons_of_neg (by rw[e2];decide)]
    rfl
theorem U5 (x y:Ins) (l:List Ins) (h1:ltI y x=true) (O:¬ (y.f0=x.f0∧y.f1=x.f1)):Yz x (y :: l)=y :: Yz x l:=by
  unfold Yz
  have Z:(Zz y.f0 y.f1 x.f0 x.f1==0)=false:=by
    rw[beq_eq_false_iff_ne]
    exact fun q=>O ((Xt _ _ _ _).1 q)
  have e2:decide (Zz y.f0 y.f1 x.f0 x.f1<0)=true:=h1
  rw[List.any_cons,Z,Bool.false_or]
  split
  · rfl
  · rw[List.filter_cons_of_pos (by exact e2),List.filter_cons_of_neg (by rw[e2];decide)]
    rfl
theorem Uj (x:Hall) (l:List Hall) (h:∀ y ∈ l,ltH x y=true):Ys x l=x :: l:=by
  have hn:∀ y ∈ l,¬ Zz y.f0 y.f1 x.f0 x.f1<0 ∧ ¬ Zz y.f0 y.f1 x.f0 x.f1=0:=by
    intro y hy
    have:=(Ya x y).1 (h y hy)
    rw[X0,Xt]
    omega
  unfold Ys
  have e:l.any (fun y=>Zz y.f0 y.f1 x.f0 x.f1==0)=false:=by
    rw[List.any_eq_false]
    intro y hy q
    exact(hn y hy).2 (by simpa using q)
  rw[e,if_neg (by decide),List.filter_eq_nil_iff.2 (fun y hy q=>(hn y hy).1 (of_decide_eq_true q)),List.filter_eq_self.2 (fun y hy=>by rw[decide_eq_false (hn y hy).1];rfl)]
  rfl
theorem Ui (x:Ins) (l:List Ins) (h:∀ y ∈ l,ltI x y=true):Yz x l=x :: l:=by
  have hn:∀ y ∈ l,¬ Zz y.f0 y.f1 x.f0 x.f1<0 ∧ ¬ Zz y.f0 y.f1 x.f0 x.f1=0:=by
    intro y hy
    have:=(Y0 x y).1 (h y hy)
    rw[X0,Xt]
    omega
  unfold Yz
  have e:l.any (fun y=>Zz y.f0 y.f1 x.f0 x.f1==0)=false:=by
    rw[List.any_eq_false]
    intro y hy q
    exact(hn y hy).2 (by simpa using q)
  rw[e,if_neg (by decide),List.filter_eq_nil_iff.2 (fun y hy q=>(hn y hy).1 (of_decide_eq_true q)),List.filter_eq_self.2 (fun y hy=>by rw[decide_eq_false (hn y hy).1];rfl)]
  rfl
theorem Lv (x:Hall) (l:List Hall) (hs:l.Pairwise (fun x y=>ltH x y=true)):Lx x l=Ys x l:=by
  induction l with
  |nil=>rfl
  |cons y l ih=>
    obtain⟨h1,O⟩:=List.pairwise_cons.1 hs
    unfold Lx
    by_cases hx:ltH x y=true
    · rw[if_pos hx,Uj x (y :: l) (fun z hz=>by
        rcases List.mem_cons.1 hz with rfl|hz
        · exact hx
        · exact Vs hx (h1 z hz))]
    · rw[if_neg hx]
      by_cases he:y.f0=x.f0∧y.f1=x.f1
      · rw[if_pos he]
        unfold Ys
        rw[if_pos]
        rw[List.any_cons,(by rw[beq_iff_eq];exact(Xt _ _ _ _).2 he:(Zz y.f0 y.f1 x.f0 x.f1==0)=true),Bool.true_or]
      · have hy:ltH y x=true:=by
          rw[Ya] at hx ⊢
          omega
        rw[if_neg he,ih O,U6 x y l hy he]
theorem Lt (x:Ins) (l:List Ins) (hs:l.Pairwise (fun x y=>ltI x y=true)):Mv x l=Yz x l:=by
  induction l with
  |nil=>rfl
  |cons y l ih=>
    obtain⟨h1,O⟩:=List.pairwise_cons.1 hs
    unfold Mv
    by_cases hx:ltI x y=true
    · rw[if_pos hx,Ui x (y :: l) (fun z hz=>by
        rcases List.mem_cons.1 hz with rfl|hz
        · exact hx
        · exact Vr hx (h1 z hz))]
    · rw[if_neg hx]
      by_cases he:y.f0=x.f0∧y.f1=x.f1
      · rw[if_pos he]
        unfold Yz
        rw[if_pos]
        rw[List.any_cons,(by rw[beq_iff_eq];exact(Xt _ _ _ _).2 he:(Zz y.f0 y.f1 x.f0 x.f1==0)=true),Bool.true_or]
      · have hy:ltI y x=true:=by
          rw[Y0] at hx ⊢
          omega
        rw[if_neg he,ih O,U5 x y l hy he]
theorem eta_H (x:Hall):(⟨x.f0,x.f1,x.f2⟩:Hall)=x:=rfl
theorem eta_I (x:Ins):(⟨x.f0,x.f1⟩:Ins)=x:=rfl
theorem Lo (x:Hall) (l:List Hall) (hm:l.length≤100000000) (j:Nat):∀ (f i:Nat) (acc:List Hall) (b:Bool),i+j=l.length→j<f→acc.length≤i+b.toNat→newelref19_withHall.l0 f l acc b (i:Int) x.f0 x.f1 x.f2=some (acc++(if b=true then l.drop i else Lx x (l.drop i))):=by
  induction j with
  |zero=>
    intro f i acc b hi hf ha
    obtain⟨f,rfl⟩:∃ m,f=m+1:=⟨f-1,by omega⟩
    simp only[newelref19_withHall.l0]
    have hbn:b.toNat≤1:=Bool.toNat_le b
    rw[if_neg (by omega),List.drop_of_length_le (by omega)]
    cases b
    · have B:acc.length≤i:=ha
      simp only[Bool.false_eq_true,eq_self,if_true,if_false]
      rw[if_pos (by omega)]
      rfl
    · simp only[Bool.false_eq_true,eq_self,if_true,if_false]
      rw[List.append_nil]
  |succ j ih=>
    intro f i acc b hi hf ha
    obtain⟨f,rfl⟩:∃ m,f=m+1:=⟨f-1,by omega⟩
    have hlt:i<l.length:=by omega
    have ei:wrap64 ((i:Int)+1)=((i+1:Nat):Int):=by unfold wrap64;omega
    have hbn:b.toNat≤1:=Bool.toNat_le b
    have D:=fun(c:Bool) (hc:acc.length≤i+c.toNat)=>ih f (i+1) (acc ++ [l[i]]) c (by omega) (by omega) (by simp;omega)
    have I:=fun(hc:acc.length≤i)=>ih f (i+1) (acc ++ [x] ++ [l[i]]) true (by omega) (by omega) (by simp;omega)
    simp only[newelref19_withHall.l0]
    rw[if_pos (by omega),if_pos (by omega),Y7 l i hlt,Gi,ei,List.drop_eq_getElem_cons hlt]
    simp only[eta_H,Option.bind_some]
    generalize l[i]=y at *
    unfold Lx
    have key:∀ (t:Bool),t=ltH x y→((if b=true then (if acc.length<5864062014805 then newelref19_withHall.l0 f l (acc ++ [y]) true ((i+1:Nat):Int) x.f0 x.f1 x.f2 else none) else (if t=true then (if acc.length<5864062014805 then (if (y.f0=x.f0∧y.f1=x.f1) then (none:Option (List Hall)) else (if (acc ++ [x]).length<5864062014805 then newelref19_withHall.l0 f l (acc ++ [x] ++ [y]) t ((i+1:Nat):Int) x.f0 x.f1 x.f2 else none)) else none) else (if (y.f0=x.f0∧y.f1=x.f1) then (if acc.length<5864062014805 then newelref19_withHall.l0 f l (acc ++ [y]) true ((i+1:Nat):Int) x.f0 x.f1 x.f2 else none) else (if acc.length<5864062014805 then newelref19_withHall.l0 f l (acc ++ [y]) t ((i+1:Nat):Int) x.f0 x.f1 x.f2 else none))))=some (acc++(if b=true then y :: l.drop (i+1) else if ltH x y=true then x :: y :: l.drop (i+1) else if y.f0=x.f0∧y.f1=x.f1 then y :: l.drop (i+1) else y :: Lx x (l.drop (i+1))))):=by
      intro t ht
      rw[ht]
      cases b
      · have B:acc.length≤i:=ha
        simp only[Bool.false_eq_true,eq_self,if_true,if_false]
        cases hx:ltH x y
        · simp only[Bool.false_eq_true,eq_self,if_true,if_false]
          by_cases he:y.f0=x.f0∧y.f1=x.f1
          · simp only[if_pos he]
            rw[if_pos (by omega),D true (by simp;omega)]
            simp
          · simp only[if_neg he]
            rw[if_pos (by omega),D false ha]
            simp
        · have he:¬ (y.f0=x.f0∧y.f1=x.f1):=by
            have:=(Ya x y).1 hx
            omega
          simp only[Bool.false_eq_true,eq_self,if_true,if_false]
          simp only[if_neg he]
          rw[if_pos (by omega),if_pos (by simp;omega),I B]
          simp
      · simp only[Bool.false_eq_true,eq_self,if_true,if_false]
        rw[if_pos (by omega),D true (by simp;omega)]
        simp
    have key:=key (ltH x y) rfl
    by_cases U:y.f0=x.f0
    · rw[if_pos U]
      refine Eq.trans ?_ key
      cases b
      · simp only[Bool.false_eq_true,eq_self,if_true,if_false]
        cases hx:ltH x y
        · simp only[Bool.false_eq_true,eq_self,if_true,if_false]
          by_cases h1:y.f1=x.f1
          · rw[if_pos h1,if_pos (show y.f0=x.f0∧y.f1=x.f1 from⟨U,h1⟩)]
          · rw[if_neg h1,if_neg (show ¬ (y.f0=x.f0∧y.f1=x.f1) from fun q=>h1 q.2)]
        · have he:¬ y.f1=x.f1:=by
            have:=(Ya x y).1 hx
            omega
          simp only[Bool.false_eq_true,eq_self,if_true,if_false]
          rw[if_neg he,if_neg (show ¬ (y.f0=x.f0∧y.f1=x.f1) from fun q=>he q.2)]
      · rfl
    · rw[if_neg U]
      refine Eq.trans ?_ key
      have he:¬ (y.f0=x.f0∧y.f1=x.f1):=fun q=>U q.1
      rw[if_neg he,if_neg he]
theorem Ln (x:Ins) (l:List Ins) (hm:l.length≤100000000) (j:Nat):∀ (f i:Nat) (acc:List Ins) (b:Bool),i+j=l.length→j<f→acc.length≤i+b.toNat→newelref19_withIn.l0 f l acc b (i:Int) x.f0 x.f1=some (acc++(if b=true then l.drop i else Mv x (l.drop i))):=by
  induction j with
  |zero=>
    intro f i acc b hi hf ha
    obtain⟨f,rfl⟩:∃ m,f=m+1:=⟨f-1,by omega⟩
    simp only[newelref19_withIn.l0]
    have hbn:b.toNat≤1:=Bool.toNat_le b
    rw[if_neg (by omega),List.drop_of_length_le (by omega)]
    cases b
    · have B:acc.length≤i:=ha
      simp only[Bool.false_eq_true,eq_self,if_true,if_false]
      rw[if_pos (by omega)]
      rfl
    · simp only[Bool.false_eq_true,eq_self,if_true,if_false]
      rw[List.append_nil]
  |succ j ih=>
    intro f i acc b hi hf ha
    obtain⟨f,rfl⟩:∃ m,f=m+1:=⟨f-1,by omega⟩
    have hlt:i<l.length:=by omega
    have ei:wrap64 ((i:Int)+1)=((i+1:Nat):Int):=by unfold wrap64;omega
    have hbn:b.toNat≤1:=Bool.toNat_le b
    have D:=fun(c:Bool) (hc:acc.length≤i+c.toNat)=>ih f (i+1) (acc ++ [l[i]]) c (by omega) (by omega) (by simp;omega)
    have I:=fun(hc:acc.length≤i)=>ih f (i+1) (acc ++ [x] ++ [l[i]]) true (by omega) (by omega) (by simp;omega)
    simp only[newelref19_withIn.l0]
    rw[if_pos (by omega),if_pos (by omega),Y6 l i hlt,Kv,ei,List.drop_eq_getElem_cons hlt]
    simp only[eta_I,Option.bind_some]
    generalize l[i]=y at *
    unfold Mv
    have hq:∀ (p q:Option (List Ins)),(if (y.f0==x.f0&&(y.f1==x.f1))=true then p else q)=if y.f0=x.f0∧y.f1=x.f1 then p else q:=by
      intro p q
      by_cases he:y.f0=x.f0∧y.f1=x.f1
      · rw[if_pos he,if_pos (by simp[he])]
      · rw[if_neg he,if_neg (by simpa using he)]
    simp only[hq]
    cases b
    · have B:acc.length≤i:=ha
      simp only[Bool.false_eq_true,eq_self,if_true,if_false]
      cases hx:ltI x y
      · simp only[Bool.false_eq_true,eq_self,if_true,if_false]
        by_cases he:y.f0=x.f0∧y.f1=x.f1
        · simp only[if_pos he]
          rw[if_pos (by omega),D true (by simp;omega)]
          simp
        · simp only[if_neg he]
          rw[if_pos (by omega),D false ha]
          simp
      · have he:¬ (y.f0=x.f0∧y.f1=x.f1):=by
          have:=(Y0 x y).1 hx
          omega
        simp only[Bool.false_eq_true,eq_self,if_true,if_false]
        simp only[if_neg he]
        rw[if_pos (by omega),if_pos (by simp;omega),I B]
        simp
    · simp only[Bool.false_eq_true,eq_self,if_true,if_false]
      rw[if_pos (by omega),D true (by simp;omega)]
      simp
end Go.Proofs.Ytjehhhlhalkieaa.Call
