/- Texts of this claim, one behind the other: what the law's functions come to, walked (printed by a program, with the words that the print uses), and what that is, in plain Lean. No conditions of their own. -/
import Derived.Test.YtjehhhlhalkieaaQCallGives8
namespace Go.Proofs.Ytjehhhlhalkieaa.C
open Go.RowKit Go.Proofs.YtjehhhlhalkieaaW.PrintWords Go.Proofs.YtjehhhlhalkieaaW.PrintLast Go.Proofs.YtjehhhlhalkieaaW.PrintMore
attribute [local go_sem] Zk Zi Zt Zs Zd Zc Zj Zh
set_option linter.unusedVariables false
set_option linter.unusedSimpArgs false
def newellaw19_CallOnce.j0:Nat→Bool→Option (Bool)
 |0,_=>none
 |k+1,B=>some B
def newellaw19_CallOnce.f (k:Nat) (I:Int) (J:Int) (B:List (S56)) (D:List (S62)) (ζ :Int) (L:Int) (η :Int):Option (Bool):=(newelref19_Few.f B D).bind fun g4=>(if g4=true then ((newellaw19_Own.f B D).bind fun de=>((call_Press.f k I J de.1 de.2 ζ L η).bind fun af=>(if af.2.2=0 then ((call_Press.f k I J af.1 af.2.1 ζ L η).bind fun bn=>((newellaw19_awake.f k).bind fun d6=>(if d6=true then (if bn.2.2=0 then ((call_Same.f k af.1 af.2.1 bn.1 bn.2.1).bind fun ce=>(if ce=true then ((call_Check.f k I J af.1 af.2.1).bind fun bo=>(if bo=0 then (if (wrap64 ((wrap64 ((wrap64 ((af.1.length:Int)+(af.2.1.length:Int))) - (B.length:Int))) - (D.length:Int)))=1 then (newellaw19_CallOnce.j0 k true) else (if (wrap64 ((wrap64 ((wrap64 ((af.1.length:Int)+(af.2.1.length:Int))) - (B.length:Int))) - (D.length:Int)))=0 then ((call_Same.f k af.1 af.2.1 B D).bind fun bp=>(newellaw19_CallOnce.j0 k bp)) else (none))) else (none))) else (none))) else (none)) else (none)))) else ((newellaw19_awake.f k).bind fun df=>(some df))))) else ((newellaw19_awake.f k).bind fun e7=>(some e7)))
theorem newellaw19_CallOnce.Zo:∀ k,(∀ D,LeO (newellaw19_CallOnce.j0 k D) (newellaw19_CallOnce.j0 (k+1) D))
 |0=>fun _ r h=>by simp[newellaw19_CallOnce.j0] at h
 |k+1=>by
  have B:=newellaw19_CallOnce.Zo k
  ·intro D
   unfold newellaw19_CallOnce.j0
   repeat' first
   |(with_reducible exact B _)
   |(with_reducible exact call_Check.mono _ _ _ _ _)
   |(with_reducible exact call_Press.mono _ _ _ _ _ _ _ _)
   |(with_reducible exact call_Same.mono _ _ _ _ _)
   |(with_reducible exact newellaw19_awake.mono _)
   |(with_reducible exact LeO.refl _)
   |(with_reducible exact LeO.none _)
   |(with_reducible refine LeO.ite ?_ ?_)
   |(with_reducible refine LeO.bind ?_ (fun _=>?_))
   |exact B _
   |exact call_Check.mono _ _ _ _ _
   |exact call_Press.mono _ _ _ _ _ _ _ _
   |exact call_Same.mono _ _ _ _ _
   |exact newellaw19_awake.mono _
   |exact LeO.none _
   |refine LeO.ite ?_ ?_
   |refine LeO.bind ?_ (fun _=>?_)
theorem newellaw19_CallOnce.mono:∀ I D a2 a3 J a5 L k,LeO (newellaw19_CallOnce.f k I D a2 a3 J a5 L) (newellaw19_CallOnce.f (k+1) I D a2 a3 J a5 L):=by
 intro I D a2 a3 J a5 L k
 have B:=newellaw19_CallOnce.Zo k
 unfold newellaw19_CallOnce.f
 repeat' first
   |(with_reducible exact B _)
   |(with_reducible exact call_Check.mono _ _ _ _ _)
   |(with_reducible exact call_Press.mono _ _ _ _ _ _ _ _)
   |(with_reducible exact call_Same.mono _ _ _ _ _)
   |(with_reducible exact newellaw19_awake.mono _)
   |(with_reducible exact LeO.refl _)
   |(with_reducible exact LeO.none _)
   |(with_reducible refine LeO.ite ?_ ?_)
   |(with_reducible refine LeO.bind ?_ (fun _=>?_))
   |exact B _
   |exact call_Check.mono _ _ _ _ _
   |exact call_Press.mono _ _ _ _ _ _ _ _
   |exact call_Same.mono _ _ _ _ _
   |exact newellaw19_awake.mono _
   |exact LeO.none _
   |refine LeO.ite ?_ ?_
   |refine LeO.bind ?_ (fun _=>?_)
def newellaw19_CallOnce.T3:Bool×List (List Nat×List Nat):=(true,[([],[]),([],[]),([1],[1]),([],[]),([0,2,3,2],[0,2,3]),([4],[4]),([5],[5]),([5],[5]),([],[]),([8,6,4,0,1,2,3,4,5,6,8],[6,8]),([7,9,0,1,2,3,4,5,6,7,8,9],[7])])
def newellaw19_CallOnce.B3:List Nat:=[0,0,2,0,15,31,63,63,0,383,1023]
theorem newellaw19_CallOnce.Wn:rtab .any (opsOf Try.f6 3)=newellaw19_CallOnce.T3:=by kernel_rfl
theorem newellaw19_CallOnce.Vh:Zx newellaw19_CallOnce.T3.2 newellaw19_CallOnce.B3=true:=by kernel_rfl
set_option maxHeartbeats 8000000 in
set_option maxRecDepth 100000 in
theorem newellaw19_CallOnce.calls (k:Nat) (I:Int) (J:Int) (Z:Option Addr) (U:Nat) (B:List (S56)) (γ:Option Addr) (X:Nat) (D:List (S62)) (ζ :Int) (L:Int) (η :Int) (r:Bool) (w:World) (b5:Kd.C k56 w Z B.length B) (b6:B.length≤U) (b7:Kd.C k62 w γ D.length D) (b8:D.length≤X) (h:newellaw19_CallOnce.f k I J B D ζ L η = some r):
  Calls Try.prog 6 #[.agg #[.int .i64 I,.int .i64 J],.agg #[.slice Z B.length U,.slice γ D.length X],.agg #[.int .i64 ζ,.int .i64 L,.int .i64 η]] w fun e w'=>e = .returned (.bool r)∧Below w.heap.size w w':=by
 have dx:=Try.underlying23
 have db:=Try.underlying27
 have kc:=Try.underlying29
 have ag:=Aside0.mk b5
 have ar:=Aside0.mk b6
 clear b5 b6
 have ah:=Aside0.mk b7
 have aw:=Aside0.mk b8
 clear b7 b8
 have HB:=Aside0.mk (Below.refl w.heap.size w)
 have H:((newelref19_Few.f B D).bind fun g4=>(if g4=true then ((newellaw19_Own.f B D).bind fun de=>((call_Press.f k I J de.1 de.2 ζ L η).bind fun af=>(if af.2.2=0 then ((call_Press.f k I J af.1 af.2.1 ζ L η).bind fun bn=>((newellaw19_awake.f k).bind fun d6=>(if d6=true then (if bn.2.2=0 then ((call_Same.f k af.1 af.2.1 bn.1 bn.2.1).bind fun ce=>(if ce=true then ((call_Check.f k I J af.1 af.2.1).bind fun bo=>(if bo=0 then (if (wrap64 ((wrap64 ((wrap64 ((af.1.length:Int)+(af.2.1.length:Int))) - (B.length:Int))) - (D.length:Int)))=1 then (newellaw19_CallOnce.j0 k true) else (if (wrap64 ((wrap64 ((wrap64 ((af.1.length:Int)+(af.2.1.length:Int))) - (B.length:Int))) - (D.length:Int)))=0 then ((call_Same.f k af.1 af.2.1 B D).bind fun bp=>(newellaw19_CallOnce.j0 k bp)) else (none))) else (none))) else (none))) else (none)) else (none)))) else ((newellaw19_awake.f k).bind fun df=>(some df))))) else ((newellaw19_awake.f k).bind fun e7=>(some e7))))=some r:=h
 clear h
 replace H:=Option.bind_eq_some_iff.mp H
 obtain⟨g4,bz,H⟩:=H
 replace H:(if g4=true then ((newellaw19_Own.f B D).bind fun de=>((call_Press.f k I J de.1 de.2 ζ L η).bind fun af=>(if af.2.2=0 then ((call_Press.f k I J af.1 af.2.1 ζ L η).bind fun bn=>((newellaw19_awake.f k).bind fun d6=>(if d6=true then (if bn.2.2=0 then ((call_Same.f k af.1 af.2.1 bn.1 bn.2.1).bind fun ce=>(if ce=true then ((call_Check.f k I J af.1 af.2.1).bind fun bo=>(if bo=0 then (if (wrap64 ((wrap64 ((wrap64 ((af.1.length:Int)+(af.2.1.length:Int))) - (B.length:Int))) - (D.length:Int)))=1 then (newellaw19_CallOnce.j0 k true) else (if (wrap64 ((wrap64 ((wrap64 ((af.1.length:Int)+(af.2.1.length:Int))) - (B.length:Int))) - (D.length:Int)))=0 then ((call_Same.f k af.1 af.2.1 B D).bind fun bp=>(newellaw19_CallOnce.j0 k bp)) else (none))) else (none))) else (none))) else (none)) else (none)))) else ((newellaw19_awake.f k).bind fun df=>(some df))))) else ((newellaw19_awake.f k).bind fun e7=>(some e7)))=some r:=H
 have A4:=Aside0.mk bz
 clear bz
 by_cases c5:g4=true
 ·subst c5
  have H1:((newellaw19_Own.f B D).bind fun de=>((call_Press.f k I J de.1 de.2 ζ L η).bind fun af=>(if af.2.2=0 then ((call_Press.f k I J af.1 af.2.1 ζ L η).bind fun bn=>((newellaw19_awake.f k).bind fun d6=>(if d6=true then (if bn.2.2=0 then ((call_Same.f k af.1 af.2.1 bn.1 bn.2.1).bind fun ce=>(if ce=true then ((call_Check.f k I J af.1 af.2.1).bind fun bo=>(if bo=0 then (if (wrap64 ((wrap64 ((wrap64 ((af.1.length:Int)+(af.2.1.length:Int))) - (B.length:Int))) - (D.length:Int)))=1 then (newellaw19_CallOnce.j0 k true) else (if (wrap64 ((wrap64 ((wrap64 ((af.1.length:Int)+(af.2.1.length:Int))) - (B.length:Int))) - (D.length:Int)))=0 then ((call_Same.f k af.1 af.2.1 B D).bind fun bp=>(newellaw19_CallOnce.j0 k bp)) else (none))) else (none))) else (none))) else (none)) else (none)))) else ((newellaw19_awake.f k).bind fun df=>(some df)))))=some r:=by rw[if_pos rfl] at H;exact H
  clear H
  have H:=H1
  clear H1
  replace H:=Option.bind_eq_some_iff.mp H
  obtain⟨⟨bq,br⟩,d8,H⟩:=H
  replace H:((call_Press.f k I J bq br ζ L η).bind fun af=>(if af.2.2=0 then ((call_Press.f k I J af.1 af.2.1 ζ L η).bind fun bn=>((newellaw19_awake.f k).bind fun d6=>(if d6=true then (if bn.2.2=0 then ((call_Same.f k af.1 af.2.1 bn.1 bn.2.1).bind fun ce=>(if ce=true then ((call_Check.f k I J af.1 af.2.1).bind fun bo=>(if bo=0 then (if (wrap64 ((wrap64 ((wrap64 ((af.1.length:Int)+(af.2.1.length:Int))) - (B.length:Int))) - (D.length:Int)))=1 then (newellaw19_CallOnce.j0 k true) else (if (wrap64 ((wrap64 ((wrap64 ((af.1.length:Int)+(af.2.1.length:Int))) - (B.length:Int))) - (D.length:Int)))=0 then ((call_Same.f k af.1 af.2.1 B D).bind fun bp=>(newellaw19_CallOnce.j0 k bp)) else (none))) else (none))) else (none))) else (none)) else (none)))) else ((newellaw19_awake.f k).bind fun df=>(some df))))=some r:=H
  have A6:=Aside0.mk d8
  clear d8
  replace H:=Option.bind_eq_some_iff.mp H
  obtain⟨⟨a9,aa,ci⟩,g7,H⟩:=H
  replace H:(if ci=0 then ((call_Press.f k I J a9 aa ζ L η).bind fun bn=>((newellaw19_awake.f k).bind fun d6=>(if d6=true then (if bn.2.2=0 then ((call_Same.f k a9 aa bn.1 bn.2.1).bind fun ce=>(if ce=true then ((call_Check.f k I J a9 aa).bind fun bo=>(if bo=0 then (if (wrap64 ((wrap64 ((wrap64 ((a9.length:Int)+(aa.length:Int))) - (B.length:Int))) - (D.length:Int)))=1 then (newellaw19_CallOnce.j0 k true) else (if (wrap64 ((wrap64 ((wrap64 ((a9.length:Int)+(aa.length:Int))) - (B.length:Int))) - (D.length:Int)))=0 then ((call_Same.f k a9 aa B D).bind fun bp=>(newellaw19_CallOnce.j0 k bp)) else (none))) else (none))) else (none))) else (none)) else (none)))) else ((newellaw19_awake.f k).bind fun df=>(some df)))=some r:=H
  have A7:=Aside0.mk g7
  clear g7
  by_cases c8:ci=0
  ·rw[if_pos c8] at H
   have c8b0:(ci==0)=true:=beq_iff_eq.mpr c8
   have c8b1:(ci != 0)=false:=bne_eq_false_iff_eq.mpr c8
   clear c8
   replace H:=Option.bind_eq_some_iff.mp H
   obtain⟨⟨bi,bl,ff⟩,g5,H⟩:=H
   replace H:((newellaw19_awake.f k).bind fun d6=>(if d6=true then (if ff=0 then ((call_Same.f k a9 aa bi bl).bind fun ce=>(if ce=true then ((call_Check.f k I J a9 aa).bind fun bo=>(if bo=0 then (if (wrap64 ((wrap64 ((wrap64 ((a9.length:Int)+(aa.length:Int))) - (B.length:Int))) - (D.length:Int)))=1 then (newellaw19_CallOnce.j0 k true) else (if (wrap64 ((wrap64 ((wrap64 ((a9.length:Int)+(aa.length:Int))) - (B.length:Int))) - (D.length:Int)))=0 then ((call_Same.f k a9 aa B D).bind fun bp=>(newellaw19_CallOnce.j0 k bp)) else (none))) else (none))) else (none))) else (none)) else (none)))=some r:=H
   have A9:=Aside0.mk g5
   clear g5
   have iw:=Aside0.mk H
   clear H
   go_enter Try.func6,Try.ntmps6
   try go_wp2_with (first|((with_reducible refine Qt (N:=3) rfl ?_);refine Qp ?hg (N:=3) ?hd (cs:=#[.int .i64 I,.int .i64 J]) (t:=23) ?hr ?_;(case hd=>rfl);(case hg=>rfl);(case hr=>first|(go_simp;done)|(go_simp;rfl));intro ν hg bw hbox hb;have ε :=Aside0.mk (Qv (by repeat(first|(with_reducible first|exact HB.out|apply Qj|apply Qd|apply Qh)|exact HB.out)) hb);have θ :=Aside0.mk (hbox);have ι :=Aside0.mk ((by rw[hg];exact(Qk (by repeat(first|(with_reducible first|exact HB.out|apply Qj|apply Qd|apply Qh)|exact HB.out))):w.heap.size ≤ ν));have κ :=Aside0.mk ((by rw[hg];exact(Qk (by repeat(first|(with_reducible first|exact HB.out|apply Qj|apply Qd|apply Qh)|exact HB.out))):w.heap.size ≤ ν));clear HB;have HB:= ε;have O:= θ;have jj:= ι;have a2:= κ;clear ε θ ι κ;clear hb hbox hg)|((with_reducible refine Qt (N:=4) rfl ?_);refine Qp ?hg (N:=4) ?hd (cs:=#[.slice Z B.length U,.slice γ D.length X]) (t:=27) ?hr ?_;(case hd=>rfl);(case hg=>rfl);(case hr=>first|(go_simp;done)|(go_simp;rfl));intro ξ hg cp hbox hb;have ε :=Aside0.mk (Qn (g:= ν) (o:=.cells #[.int .i64 I,.int .i64 J] 23 (0,0)) (by(with_reducible repeat(first|refine Qf ?_ _|refine Qc ?_|refine Qg ?_ _));exact O.out) hb);have θ :=Aside0.mk (Qv (by repeat(first|(with_reducible first|exact HB.out|apply Qj|apply Qd|apply Qh|refine Qe ?_ a2.out)|exact HB.out)) hb);have ι :=Aside0.mk (hbox);have κ :=Aside0.mk ((by rw[hg];exact(Qk (by repeat(first|(with_reducible first|exact HB.out|apply Qj|apply Qd|apply Qh|refine Qe ?_ a2.out)|exact HB.out))):w.heap.size ≤ ξ));have τ :=Aside0.mk ((by rw[hg];exact(Qk (by repeat(first|(with_reducible first|exact HB.out|apply Qj|apply Qd|apply Qh|refine Qe ?_ a2.out)|exact HB.out))):w.heap.size ≤ ξ));have ψ :=Aside0.mk ((by rw[hg];exact Nat.ne_of_lt (Q5 (g:= ν) (o:=.cells #[.int .i64 I,.int .i64 J] 23 (0,0)) (by(with_reducible repeat(first|refine Qf ?_ _|refine Qc ?_|refine Qg ?_ _));exact O.out)): ν ≠ ξ));have a1:=Aside0.mk ((by rw[hg];exact Nat.ne_of_gt (Q5 (g:= ν) (o:=.cells #[.int .i64 I,.int .i64 J] 23 (0,0)) (by(with_reducible repeat(first|refine Qf ?_ _|refine Qc ?_|refine Qg ?_ _));exact O.out)): ξ ≠ ν));clear O;clear HB;have O:= ε;have HB:= θ;have Y:= ι;have jk:= κ;have a6:= τ;have cx:= ψ;have cy:=a1;clear ε θ ι κ τ ψ a1;clear hb hbox hg)|((with_reducible refine Qt (N:=5) rfl ?_);refine Qp ?hg (N:=5) ?hd (cs:=#[.int .i64 ζ,.int .i64 L,.int .i64 η]) (t:=29) ?hr ?_;(case hd=>rfl);(case hg=>rfl);(case hr=>first|(go_simp;done)|(go_simp;rfl));intro φ hg ch hbox hb;have ε :=Aside0.mk (Qn (g:= ν) (o:=.cells #[.int .i64 I,.int .i64 J] 23 (0,0)) (by(with_reducible repeat(first|refine Qf ?_ _|refine Qc ?_|refine Qg ?_ _));exact O.out) hb);have θ :=Aside0.mk (Qn (g:= ξ) (o:=.cells #[.slice Z B.length U,.slice γ D.length X] 27 (0,0)) (by(with_reducible repeat(first|refine Qf ?_ _|refine Qc ?_|refine Qg ?_ _));exact Y.out) hb);have ι :=Aside0.mk (Qv (by repeat(first|(with_reducible first|exact HB.out|apply Qj|apply Qd|apply Qh|refine Qe ?_ a2.out|refine Qe ?_ a6.out)|exact HB.out)) hb);have κ :=Aside0.mk (hbox);have τ :=Aside0.mk ((by rw[hg];exact(Qk (by repeat(first|(with_reducible first|exact HB.out|apply Qj|apply Qd|apply Qh|refine Qe ?_ a2.out|refine Qe ?_ a6.out)|exact HB.out))):w.heap.size ≤ φ));have ψ :=Aside0.mk ((by rw[hg];exact(Qk (by repeat(first|(with_reducible first|exact HB.out|apply Qj|apply Qd|apply Qh|refine Qe ?_ a2.out|refine Qe ?_ a6.out)|exact HB.out))):w.heap.size ≤ φ));have a1:=Aside0.mk ((by rw[hg];exact Nat.ne_of_lt (Q5 (g:= ν) (o:=.cells #[.int .i64 I,.int .i64 J] 23 (0,0)) (by(with_reducible repeat(first|refine Qf ?_ _|refine Qc ?_|refine Qg ?_ _));exact O.out)): ν ≠ φ));have ak:=Aside0.mk ((by rw[hg];exact Nat.ne_of_gt (Q5 (g:= ν) (o:=.cells #[.int .i64 I,.int .i64 J] 23 (0,0)) (by(with_reducible repeat(first|refine Qf ?_ _|refine Qc ?_|refine Qg ?_ _));exact O.out)): φ ≠ ν));have am:=Aside0.mk ((by rw[hg];exact Nat.ne_of_lt (Q5 (g:= ξ) (o:=.cells #[.slice Z B.length U,.slice γ D.length X] 27 (0,0)) (by(with_reducible repeat(first|refine Qf ?_ _|refine Qc ?_|refine Qg ?_ _));exact Y.out)): ξ ≠ φ));have az:=Aside0.mk ((by rw[hg];exact Nat.ne_of_gt (Q5 (g:= ξ) (o:=.cells #[.slice Z B.length U,.slice γ D.length X] 27 (0,0)) (by(with_reducible repeat(first|refine Qf ?_ _|refine Qc ?_|refine Qg ?_ _));exact Y.out)): φ ≠ ξ));clear O;clear Y;clear HB;have O:= ε;have Y:= θ;have HB:= ι;have δ := κ;have jl:= τ;have a8:= ψ;have dv:=a1;have dw:=ak;have d9:=am;have da:=az;clear ε θ ι κ τ ψ a1 ak am az;clear hb hbox hg;have ik:=cy.out;have il:=cx.out;have iz:=d9.out;have j2:=da.out;have jt:ch.cell? ⟨ξ,0,none⟩=some (.slice Z B.length U):=(Qa Y.out 0).trans rfl;have ju:ch.cell? ⟨ξ,1,none⟩=some (.slice γ D.length X):=(Qa Y.out 1).trans rfl;have jv:=Qb Y.out 0;have jw:=Qb Y.out 1)|((with_reducible refine Q2 (f:=9) rfl ?_);refine Zq (some 13) rfl rfl Try.func9 kr rfl #[.agg #[.slice Z B.length U,.slice γ D.length X]] rfl (by(try simp only[List.map_toArray,List.map_cons,List.map_nil]);first|done|rfl|(simp only[List.length_drop,List.length_take];rfl)) ?_;(with_reducible refine(newelref19_Few.calls _ _ B _ _ D true _ ?side1 ?side2 ?side3 ?side4 A4.out).mono ?_);(case side1=>repeat(first|exact(Kd.Qz ag.out HB.out)|(with_reducible refine Kd.Za ?_ _)|(with_reducible refine Kd.Q9 ?_ _)|(with_reducible refine Kd.Zl ?_)));(case side2=>exact ar.out);(case side3=>repeat(first|exact(Kd.Qz ah.out HB.out)|(with_reducible refine Kd.Za ?_ _)|(with_reducible refine Kd.Q9 ?_ _)|(with_reducible refine Kd.Zl ?_)));(case side4=>exact aw.out);rintro e cw ⟨rfl,hb⟩;refine⟨_,rfl, ?_⟩;have ε :=Aside0.mk (Qn (g:= ν) (o:=.cells #[.int .i64 I,.int .i64 J] 23 (0,0)) (by(with_reducible repeat(first|refine Qf ?_ _|refine Qc ?_|refine Qg ?_ _));exact O.out) hb);have θ :=Aside0.mk (Qn (g:= ξ) (o:=.cells #[.slice Z B.length U,.slice γ D.length X] 27 (0,0)) (by(with_reducible repeat(first|refine Qf ?_ _|refine Qc ?_|refine Qg ?_ _));exact Y.out) hb);have ι :=Aside0.mk (Qn (g:= φ) (o:=.cells #[.int .i64 ζ,.int .i64 L,.int .i64 η] 29 (0,0)) (by(with_reducible repeat(first|refine Qf ?_ _|refine Qc ?_|refine Qg ?_ _));exact δ.out) hb);have κ :=Aside0.mk (Qv (by repeat(first|(with_reducible first|exact HB.out|apply Qj|apply Qd|apply Qh|refine Qe ?_ a2.out|refine Qe ?_ a6.out|refine Qe ?_ a8.out)|exact HB.out)) hb);clear O;clear Y;clear δ;clear HB;have O:= ε;have Y:= θ;have δ := ι;have HB:= κ;clear ε θ ι κ;(try clear hb);(try clear a4);(try clear hk);(try clear hi)))
   have ε :=Aside0.mk (Qc O.out)
   have θ :=Aside0.mk (Qc Y.out)
   have ι :=Aside0.mk (Qc δ.out)
   have κ :=Aside0.mk (Qh HB.out)
   clear O
   clear Y
   clear δ
   clear HB
   have O:= ε
   have Y:= θ
   have δ := ι
   have HB:= κ
   clear ε θ ι κ
   refine Zv (n:=11) (S:=fun w'=>w'.cell? ⟨ν,0,none⟩=some (.int .i64 I)∧w'.cell? ⟨ν,1,none⟩=some (.int .i64 J)∧w'.cell? ⟨ξ,0,none⟩=some (.slice Z B.length U)∧w'.cell? ⟨ξ,1,none⟩=some (.slice γ D.length X)∧w'.cell? ⟨φ,0,none⟩=some (.int .i64 ζ)∧w'.cell? ⟨φ,1,none⟩=some (.int .i64 L)∧w'.cell? ⟨φ,2,none⟩=some (.int .i64 η)) (ds:=[]) #[false,false,false,false,false,false,false,false,false,false,false] kr rfl rfl ⟨(Qa O.out 0).trans rfl,(Qa O.out 1).trans rfl,(Qa Y.out 0).trans rfl,(Qa Y.out 1).trans rfl,(Qa δ.out 0).trans rfl,(Qa δ.out 1).trans rfl,(Qa δ.out 2).trans rfl⟩ (fun hHeld=>?_);refine Q8 newellaw19_CallOnce.Wn newellaw19_CallOnce.Vh (fun HT_ HW_=>?_)
   generalize cw.drew=mc at O Y δ HB hHeld ⊢
   refine qT 0 (some 17) (qB 11 1) HT_ HW_ hHeld ?_
   refine qT 1 (some 18) (qB 11 3) HT_ HW_ hHeld ?_
   refine qT 3 (some 20) (qB 11 11) HT_ HW_ hHeld ?_
   refine K9 (σ:=Value×Value×Value×Value×Nat) 2 #[true,true,true,true,true,true,true,true,true,false,false] (fun s_=>[(19,.agg #[s_.1,s_.2.1]),(21,.tuple #[.agg #[s_.2.2.1,s_.2.2.2.1],.int .i64 ci]),(7,.pointer (some ⟨s_.2.2.2.2,0,none⟩)),(16,.tuple #[.agg #[s_.2.2.1,s_.2.2.2.1],.int .i64 ci]),(22,.agg #[s_.2.2.1,s_.2.2.2.1]),(23,.int .i64 ci)]) (fun s_ w'=>(w'.cell? ⟨ν,0,none⟩=some (.int .i64 I)∧w'.cell? ⟨ν,1,none⟩=some (.int .i64 J)∧w'.cell? ⟨ξ,0,none⟩=some (.slice Z B.length U)∧w'.cell? ⟨ξ,1,none⟩=some (.slice γ D.length X)∧w'.cell? ⟨φ,0,none⟩=some (.int .i64 ζ)∧w'.cell? ⟨φ,1,none⟩=some (.int .i64 L)∧w'.cell? ⟨φ,2,none⟩=some (.int .i64 η))∧(Kd.R k56 56 w' w.heap.size (fun k_=>some k_≠(s_.2.2.1:Value).ownBlock) s_.1 bq)∧(Kd.R k62 62 w' w.heap.size (fun k_=>some k_≠(s_.2.2.2.1:Value).ownBlock) s_.2.1 br)∧(Kd.R k56 56 w' w.heap.size (fun k_=>some k_≠(s_.1:Value).ownBlock) s_.2.2.1 a9)∧(Kd.R k62 62 w' w.heap.size (fun k_=>some k_≠(s_.2.1:Value).ownBlock) s_.2.2.2.1 aa)∧(w'.heap[ν]?=some (.cells #[.int .i64 I,.int .i64 J] 23 (0,0)))∧(w'.heap[ξ]?=some (.cells #[.slice Z B.length U,.slice γ D.length X] 27 (0,0)))∧(w'.heap[φ]?=some (.cells #[.int .i64 ζ,.int .i64 L,.int .i64 η] 29 (0,0)))∧(w'.heap[s_.2.2.2.2]?=some (.cells #[.slice none 0 0,.slice none 0 0] 27 (0,0)))∧(w.heap.size≤s_.2.2.2.2)∧(w.heap.size≤s_.2.2.2.2)∧(ν ≠ s_.2.2.2.2)∧(s_.2.2.2.2 ≠ ν)∧(ξ ≠ s_.2.2.2.2)∧(s_.2.2.2.2 ≠ ξ)∧(φ ≠ s_.2.2.2.2)∧(s_.2.2.2.2 ≠ φ)∧(Below w.heap.size w w')) ?_ ?_
   rotate_left
   ·intro hCont
    refine Kj (i:=2) (j:=8) (Ni:=some 19) (Nj:=some 7) #[true,true,true,true,false,false,false,false,false,false,false] #[true,true,false,true,false,false,false,false,true,false,false] rfl rfl rfl rfl (Ye HT_.out kr) (by decide) (by decide) (fun K hK=>?_) (fun K hK=>?_)
    ·skip
     refine Zg Try.func12 kr rfl #[.agg #[.slice Z B.length U,.slice γ D.length X]] (by rfl) rfl rfl (by(try simp only[List.map_toArray,List.map_cons,List.map_nil]);first|done|rfl|(simp only[List.length_drop,List.length_take];rfl)) ?_
     with_reducible refine(newellaw19_Own.calls _ _ B _ _ D bq br _ ?side1 ?side2 ?side3 ?side4 A6.out).mono ?_
     (case side1=>repeat(first|exact(Kd.Qz ag.out HB.out)|(with_reducible refine Kd.Za ?_ _)|(with_reducible refine Kd.Q9 ?_ _)|(with_reducible refine Kd.Zl ?_)))
     (case side2=>exact ar.out)
     (case side3=>repeat(first|exact(Kd.Qz ah.out HB.out)|(with_reducible refine Kd.Za ?_ _)|(with_reducible refine Kd.Q9 ?_ _)|(with_reducible refine Kd.Zl ?_)))
     (case side4=>exact aw.out)
     rintro e d7 ⟨e8,e9,rfl,χ,a7,hb⟩
     refine⟨_,rfl, ?_⟩
     have ε :=Aside0.mk (Kd.Q4 χ (Qk (by repeat(first|(with_reducible first|exact HB.out|apply Qj|apply Qd|apply Qh|refine Qe ?_ a2.out|refine Qe ?_ a6.out|refine Qe ?_ a8.out)|exact HB.out))))
     have θ :=Aside0.mk (Kd.Q4 a7 (Qk (by repeat(first|(with_reducible first|exact HB.out|apply Qj|apply Qd|apply Qh|refine Qe ?_ a2.out|refine Qe ?_ a6.out|refine Qe ?_ a8.out)|exact HB.out))))
     have ι :=Aside0.mk (Qn (g:= ν) (o:=.cells #[.int .i64 I,.int .i64 J] 23 (0,0)) (by(with_reducible repeat(first|refine Qf ?_ _|refine Qc ?_|refine Qg ?_ _));exact O.out) hb)
     have κ :=Aside0.mk (Qn (g:= ξ) (o:=.cells #[.slice Z B.length U,.slice γ D.length X] 27 (0,0)) (by(with_reducible repeat(first|refine Qf ?_ _|refine Qc ?_|refine Qg ?_ _));exact Y.out) hb)
     have τ :=Aside0.mk (Qn (g:= φ) (o:=.cells #[.int .i64 ζ,.int .i64 L,.int .i64 η] 29 (0,0)) (by(with_reducible repeat(first|refine Qf ?_ _|refine Qc ?_|refine Qg ?_ _));exact δ.out) hb)
     have ψ :=Aside0.mk (Qv (by repeat(first|(with_reducible first|exact HB.out|apply Qj|apply Qd|apply Qh|refine Qe ?_ a2.out|refine Qe ?_ a6.out|refine Qe ?_ a8.out)|exact HB.out)) hb)
     clear O
     clear Y
     clear δ
     clear HB
     have a3:= ε
     have a5:= θ
     have O:= ι
     have Y:= κ
     have δ := τ
     have HB:= ψ
     clear ε θ ι κ τ ψ
     (try clear hb)
     (try clear a4)
     (try clear hk)
     (try clear hi)
     (try clear χ)
     (try clear a7)
     obtain⟨kd,ke,kf⟩:=Kd.Q6 a3.out
     (first|subst kf|(injection kf with ω ab a0;have ac:= ω.symm;have ae:=a0.symm;clear ω ab a0;subst ac;subst ae))
     obtain⟨el,em,en⟩:=Kd.Q6 a5.out
     (first|subst en|(injection en with ω ab a0;have ac:= ω.symm;have ae:=a0.symm;clear ω ab a0;subst ac;subst ae))
     refine hK.out _ _ ⟨(Qa O.out 0).trans rfl,(Qa O.out 1).trans rfl,(Qa Y.out 0).trans rfl,(Qa Y.out 1).trans rfl,(Qa δ.out 0).trans rfl,(Qa δ.out 1).trans rfl,(Qa δ.out 2).trans rfl⟩ (fun hHeld=>?_)
     clear hK K
     refine qN (some 19) ?_
     refine Kj (i:=4) (j:=8) (Ni:=some 21) (Nj:=some 7) #[true,true,true,true,true,false,false,false,false,false,false] #[true,true,true,true,false,false,false,false,true,false,false] rfl rfl rfl rfl (Ye HT_.out kr) (by decide) (by decide) (fun K hK=>?_) (fun K hK=>?_)
     ·skip
      refine Zg Try.func11 kr rfl #[.agg #[.int .i64 I,.int .i64 J],.agg #[.slice kd bq.length ke,.slice el br.length em],.agg #[.int .i64 ζ,.int .i64 L,.int .i64 η]] (by rfl) rfl rfl (by(try simp only[List.map_toArray,List.map_cons,List.map_nil]);first|done|rfl|(simp only[List.length_drop,List.length_take];rfl)) ?_
      with_reducible refine(call_Press.calls k I J _ _ bq _ _ br ζ L η a9 aa ci _ ?side1 ?side2 ?side3 ?side4 A7.out).mono ?_
      (case side1=>repeat(first|exact(Kd.Qr a3.out).2.2|(with_reducible refine Kd.Za ?_ _)|(with_reducible refine Kd.Q9 ?_ _)|(with_reducible refine Kd.Zl ?_)))
      (case side2=>exact(Kd.Qr a3.out).2.1)
      (case side3=>repeat(first|exact(Kd.Qr a5.out).2.2|(with_reducible refine Kd.Za ?_ _)|(with_reducible refine Kd.Q9 ?_ _)|(with_reducible refine Kd.Zl ?_)))
      (case side4=>exact(Kd.Qr a5.out).2.1)
      rintro e dt ⟨cz,d0,rfl,χ,a7,hb⟩
      refine⟨_,rfl, ?_⟩
      have ε :=Aside0.mk (Kd.Q7 (by(with_reducible repeat(first|apply Kd.Qm|apply Kd.Ql|apply Kd.Qo));exact a3.out) (Kd.Zn χ) hb)
      have θ :=Aside0.mk (Kd.Q7 (by(with_reducible repeat(first|apply Kd.Qm|apply Kd.Ql|apply Kd.Qo));exact a5.out) (Kd.Zn a7) hb)
      have ι :=Aside0.mk (Kd.Q4 (Kd.Zr χ (Kd.Z4 (by(with_reducible repeat(first|apply Kd.Qm|apply Kd.Ql|apply Kd.Qo));exact a3.out))) (Qk (by repeat(first|(with_reducible first|exact HB.out|apply Qj|apply Qd|apply Qh|refine Qe ?_ a2.out|refine Qe ?_ a6.out|refine Qe ?_ a8.out)|exact HB.out))))
      have κ :=Aside0.mk (Kd.Q4 (Kd.Zr a7 (Kd.Z4 (by(with_reducible repeat(first|apply Kd.Qm|apply Kd.Ql|apply Kd.Qo));exact a5.out))) (Qk (by repeat(first|(with_reducible first|exact HB.out|apply Qj|apply Qd|apply Qh|refine Qe ?_ a2.out|refine Qe ?_ a6.out|refine Qe ?_ a8.out)|exact HB.out))))
      have τ :=Aside0.mk (Qn (g:= ν) (o:=.cells #[.int .i64 I,.int .i64 J] 23 (0,0)) (by(with_reducible repeat(first|refine Qf ?_ _|refine Qc ?_|refine Qg ?_ _));exact O.out) hb)
      have ψ :=Aside0.mk (Qn (g:= ξ) (o:=.cells #[.slice Z B.length U,.slice γ D.length X] 27 (0,0)) (by(with_reducible repeat(first|refine Qf ?_ _|refine Qc ?_|refine Qg ?_ _));exact Y.out) hb)
      have a1:=Aside0.mk (Qn (g:= φ) (o:=.cells #[.int .i64 ζ,.int .i64 L,.int .i64 η] 29 (0,0)) (by(with_reducible repeat(first|refine Qf ?_ _|refine Qc ?_|refine Qg ?_ _));exact δ.out) hb)
      have ak:=Aside0.mk (Qv (by repeat(first|(with_reducible first|exact HB.out|apply Qj|apply Qd|apply Qh|refine Qe ?_ a2.out|refine Qe ?_ a6.out|refine Qe ?_ a8.out)|exact HB.out)) hb)
      clear a3
      clear a5
      clear O
      clear Y
      clear δ
      clear HB
      have a3:= ε
      have a5:= θ
      have ai:= ι
      have aj:= κ
      have O:= τ
      have Y:= ψ
      have δ :=a1
      have HB:=ak
      clear ε θ ι κ τ ψ a1 ak
      (try clear hb)
      (try clear a4)
      (try clear hk)
      (try clear hi)
      (try clear χ)
      (try clear a7)
      refine hK.out _ _ ⟨(Qa O.out 0).trans rfl,(Qa O.out 1).trans rfl,(Qa Y.out 0).trans rfl,(Qa Y.out 1).trans rfl,(Qa δ.out 0).trans rfl,(Qa δ.out 1).trans rfl,(Qa δ.out 2).trans rfl⟩ (fun hHeld=>?_)
      clear hK K
      refine qN (some 21) ?_
      refine qP 5 (some 16) (qB 11 63) HT_ ?_
      refine qP 6 (some 22) (qB 11 127) HT_ ?_
      refine qP 7 (some 23) (qB 11 255) HT_ ?_
      refine Zm (i:=8) (N:=some 7) #[true,true,true,true,true,true,true,true,true,false,false] rfl rfl (Q3 HT_.out kr) (by decide) (fun K hK=>?_)
      refine Xk ?hg (N:=7) ?hd (cs:=#[.slice none 0 0,.slice none 0 0]) (t:=27) ?hr ?_;(case hd=>rfl);(case hg=>rfl);(case hr=>first|(go_simp;done)|(go_simp;rfl))
      intro μ hg cd hbox hb
      have ε :=Aside0.mk (Kd.Qw (by(with_reducible repeat(first|apply Kd.Qm|apply Kd.Ql|apply Kd.Qo));exact a3.out) hb)
      have θ :=Aside0.mk (Kd.Qw (by(with_reducible repeat(first|apply Kd.Qm|apply Kd.Ql|apply Kd.Qo));exact a5.out) hb)
      have ι :=Aside0.mk (Kd.Qw (by(with_reducible repeat(first|apply Kd.Qm|apply Kd.Ql|apply Kd.Qo));exact ai.out) hb)
      have κ :=Aside0.mk (Kd.Qw (by(with_reducible repeat(first|apply Kd.Qm|apply Kd.Ql|apply Kd.Qo));exact aj.out) hb)
      have τ :=Aside0.mk (Qn (g:= ν) (o:=.cells #[.int .i64 I,.int .i64 J] 23 (0,0)) (by(with_reducible repeat(first|refine Qf ?_ _|refine Qc ?_|refine Qg ?_ _));exact O.out) hb)
      have ψ :=Aside0.mk (Qn (g:= ξ) (o:=.cells #[.slice Z B.length U,.slice γ D.length X] 27 (0,0)) (by(with_reducible repeat(first|refine Qf ?_ _|refine Qc ?_|refine Qg ?_ _));exact Y.out) hb)
      have a1:=Aside0.mk (Qn (g:= φ) (o:=.cells #[.int .i64 ζ,.int .i64 L,.int .i64 η] 29 (0,0)) (by(with_reducible repeat(first|refine Qf ?_ _|refine Qc ?_|refine Qg ?_ _));exact δ.out) hb)
      have ak:=Aside0.mk (Qv (by repeat(first|(with_reducible first|exact HB.out|apply Qj|apply Qd|apply Qh|refine Qe ?_ a2.out|refine Qe ?_ a6.out|refine Qe ?_ a8.out)|exact HB.out)) hb)
      have am:=Aside0.mk (hbox)
      have az:=Aside0.mk ((by rw[hg];exact(Qk (by repeat(first|(with_reducible first|exact HB.out|apply Qj|apply Qd|apply Qh|refine Qe ?_ a2.out|refine Qe ?_ a6.out|refine Qe ?_ a8.out)|exact HB.out))):w.heap.size ≤ μ))
      have ap:=Aside0.mk ((by rw[hg];exact(Qk (by repeat(first|(with_reducible first|exact HB.out|apply Qj|apply Qd|apply Qh|refine Qe ?_ a2.out|refine Qe ?_ a6.out|refine Qe ?_ a8.out)|exact HB.out))):w.heap.size ≤ μ))
      have av:=Aside0.mk ((by rw[hg];exact Nat.ne_of_lt (Q5 (g:= ν) (o:=.cells #[.int .i64 I,.int .i64 J] 23 (0,0)) (by(with_reducible repeat(first|refine Qf ?_ _|refine Qc ?_|refine Qg ?_ _));exact O.out)): ν ≠ μ))
      have b0:=Aside0.mk ((by rw[hg];exact Nat.ne_of_gt (Q5 (g:= ν) (o:=.cells #[.int .i64 I,.int .i64 J] 23 (0,0)) (by(with_reducible repeat(first|refine Qf ?_ _|refine Qc ?_|refine Qg ?_ _));exact O.out)): μ ≠ ν))
      have ba:=Aside0.mk ((by rw[hg];exact Nat.ne_of_lt (Q5 (g:= ξ) (o:=.cells #[.slice Z B.length U,.slice γ D.length X] 27 (0,0)) (by(with_reducible repeat(first|refine Qf ?_ _|refine Qc ?_|refine Qg ?_ _));exact Y.out)): ξ ≠ μ))
      have bb:=Aside0.mk ((by rw[hg];exact Nat.ne_of_gt (Q5 (g:= ξ) (o:=.cells #[.slice Z B.length U,.slice γ D.length X] 27 (0,0)) (by(with_reducible repeat(first|refine Qf ?_ _|refine Qc ?_|refine Qg ?_ _));exact Y.out)): μ ≠ ξ))
      have bf:=Aside0.mk ((by rw[hg];exact Nat.ne_of_lt (Q5 (g:= φ) (o:=.cells #[.int .i64 ζ,.int .i64 L,.int .i64 η] 29 (0,0)) (by(with_reducible repeat(first|refine Qf ?_ _|refine Qc ?_|refine Qg ?_ _));exact δ.out)): φ ≠ μ))
      have bg:=Aside0.mk ((by rw[hg];exact Nat.ne_of_gt (Q5 (g:= φ) (o:=.cells #[.int .i64 ζ,.int .i64 L,.int .i64 η] 29 (0,0)) (by(with_reducible repeat(first|refine Qf ?_ _|refine Qc ?_|refine Qg ?_ _));exact δ.out)): μ ≠ φ))
      clear a3
      clear a5
      clear ai
      clear aj
      clear O
      clear Y
      clear δ
      clear HB
      have a3:= ε
      have a5:= θ
      have ai:= ι
      have aj:= κ
      have O:= τ
      have Y:= ψ
      have δ :=a1
      have HB:=ak
      have ρ:=am
      have d5:=az
      have au:=ap
      have an:=av
      have b1:=b0
      have ao:=ba
      have b2:=bb
      have al:=bf
      have b3:=bg
      clear ε θ ι κ τ ψ a1 ak am az ap av b0 ba bb bf bg
      clear hb hbox hg
      refine hK.out _ _ ⟨(Qa O.out 0).trans rfl,(Qa O.out 1).trans rfl,(Qa Y.out 0).trans rfl,(Qa Y.out 1).trans rfl,(Qa δ.out 0).trans rfl,(Qa δ.out 1).trans rfl,(Qa δ.out 2).trans rfl⟩ (fun hHeld=>?_)
      clear hK K
      refine qN (some 7) ?_
      exact Xj (by simp only[Z3,Act.put,qS]) (hCont (.slice kd bq.length ke,.slice el br.length em,cz,d0,μ) _ ⟨hHeld,(by(with_reducible repeat(first|apply Kd.Qm|apply Kd.Ql|apply Kd.Qo));exact Kd.Qs a3.out (fun _ hk=>hk.2)),(by(with_reducible repeat(first|apply Kd.Qm|apply Kd.Ql|apply Kd.Qo));exact Kd.Qs a5.out (fun _ hk=>hk.2)),(by(with_reducible repeat(first|apply Kd.Qm|apply Kd.Ql|apply Kd.Qo));exact Kd.Qs ai.out (fun _ hk=>hk.2)),(by(with_reducible repeat(first|apply Kd.Qm|apply Kd.Ql|apply Kd.Qo));exact Kd.Qs aj.out (fun _ hk=>hk.2)),(by(with_reducible repeat(first|refine Qf ?_ _|refine Qc ?_|refine Qg ?_ _));exact O.out),(by(with_reducible repeat(first|refine Qf ?_ _|refine Qc ?_|refine Qg ?_ _));exact Y.out),(by(with_reducible repeat(first|refine Qf ?_ _|refine Qc ?_|refine Qg ?_ _));exact δ.out),(by(with_reducible repeat(first|refine Qf ?_ _|refine Qc ?_|refine Qg ?_ _));exact ρ.out),d5.out,au.out,an.out,b1.out,ao.out,b2.out,al.out,b3.out,(by repeat(first|(with_reducible first|exact HB.out|apply Qj|apply Qd|apply Qh|refine Qe ?_ a2.out|refine Qe ?_ a6.out|refine Qe ?_ a8.out|refine Qe ?_ au.out)|exact HB.out))⟩)
     ·skip
      refine Xk ?hg (N:=7) ?hd (cs:=#[.slice none 0 0,.slice none 0 0]) (t:=27) ?hr ?_;(case hd=>rfl);(case hg=>rfl);(case hr=>first|(go_simp;done)|(go_simp;rfl))
      intro μ hg ca hbox hb
      have ε :=Aside0.mk (Kd.Qw (by(with_reducible repeat(first|apply Kd.Qm|apply Kd.Ql|apply Kd.Qo));exact a3.out) hb)
      have θ :=Aside0.mk (Kd.Qw (by(with_reducible repeat(first|apply Kd.Qm|apply Kd.Ql|apply Kd.Qo));exact a5.out) hb)
      have ι :=Aside0.mk (Qn (g:= ν) (o:=.cells #[.int .i64 I,.int .i64 J] 23 (0,0)) (by(with_reducible repeat(first|refine Qf ?_ _|refine Qc ?_|refine Qg ?_ _));exact O.out) hb)
      have κ :=Aside0.mk (Qn (g:= ξ) (o:=.cells #[.slice Z B.length U,.slice γ D.length X] 27 (0,0)) (by(with_reducible repeat(first|refine Qf ?_ _|refine Qc ?_|refine Qg ?_ _));exact Y.out) hb)
      have τ :=Aside0.mk (Qn (g:= φ) (o:=.cells #[.int .i64 ζ,.int .i64 L,.int .i64 η] 29 (0,0)) (by(with_reducible repeat(first|refine Qf ?_ _|refine Qc ?_|refine Qg ?_ _));exact δ.out) hb)
      have ψ :=Aside0.mk (Qv (by repeat(first|(with_reducible first|exact HB.out|apply Qj|apply Qd|apply Qh|refine Qe ?_ a2.out|refine Qe ?_ a6.out|refine Qe ?_ a8.out)|exact HB.out)) hb)
      have a1:=Aside0.mk (hbox)
      have ak:=Aside0.mk ((by rw[hg];exact(Qk (by repeat(first|(with_reducible first|exact HB.out|apply Qj|apply Qd|apply Qh|refine Qe ?_ a2.out|refine Qe ?_ a6.out|refine Qe ?_ a8.out)|exact HB.out))):w.heap.size ≤ μ))
      have am:=Aside0.mk ((by rw[hg];exact(Qk (by repeat(first|(with_reducible first|exact HB.out|apply Qj|apply Qd|apply Qh|refine Qe ?_ a2.out|refine Qe ?_ a6.out|refine Qe ?_ a8.out)|exact HB.out))):w.heap.size ≤ μ))
      have az:=Aside0.mk ((by rw[hg];exact Nat.ne_of_lt (Q5 (g:= ν) (o:=.cells #[.int .i64 I,.int .i64 J] 23 (0,0)) (by(with_reducible repeat(first|refine Qf ?_ _|refine Qc ?_|refine Qg ?_ _));exact O.out)): ν ≠ μ))
      have ap:=Aside0.mk ((by rw[hg];exact Nat.ne_of_gt (Q5 (g:= ν) (o:=.cells #[.int .i64 I,.int .i64 J] 23 (0,0)) (by(with_reducible repeat(first|refine Qf ?_ _|refine Qc ?_|refine Qg ?_ _));exact O.out)): μ ≠ ν))
      have av:=Aside0.mk ((by rw[hg];exact Nat.ne_of_lt (Q5 (g:= ξ) (o:=.cells #[.slice Z B.length U,.slice γ D.length X] 27 (0,0)) (by(with_reducible repeat(first|refine Qf ?_ _|refine Qc ?_|refine Qg ?_ _));exact Y.out)): ξ ≠ μ))
      have b0:=Aside0.mk ((by rw[hg];exact Nat.ne_of_gt (Q5 (g:= ξ) (o:=.cells #[.slice Z B.length U,.slice γ D.length X] 27 (0,0)) (by(with_reducible repeat(first|refine Qf ?_ _|refine Qc ?_|refine Qg ?_ _));exact Y.out)): μ ≠ ξ))
      have ba:=Aside0.mk ((by rw[hg];exact Nat.ne_of_lt (Q5 (g:= φ) (o:=.cells #[.int .i64 ζ,.int .i64 L,.int .i64 η] 29 (0,0)) (by(with_reducible repeat(first|refine Qf ?_ _|refine Qc ?_|refine Qg ?_ _));exact δ.out)): φ ≠ μ))
      have bb:=Aside0.mk ((by rw[hg];exact Nat.ne_of_gt (Q5 (g:= φ) (o:=.cells #[.int .i64 ζ,.int .i64 L,.int .i64 η] 29 (0,0)) (by(with_reducible repeat(first|refine Qf ?_ _|refine Qc ?_|refine Qg ?_ _));exact δ.out)): μ ≠ φ))
      clear a3
      clear a5
      clear O
      clear Y
      clear δ
      clear HB
      have a3:= ε
      have a5:= θ
      have O:= ι
      have Y:= κ
      have δ := τ
      have HB:= ψ
      have ρ:=a1
      have d5:=ak
      have au:=am
      have an:=az
      have b1:=ap
      have ao:=av
      have b2:=b0
      have al:=ba
      have b3:=bb
      clear ε θ ι κ τ ψ a1 ak am az ap av b0 ba bb
      clear hb hbox hg
      obtain⟨el,em,en⟩:=Kd.Q6 a3.out
      (first|subst en|(injection en with ω ab a0;have ac:= ω.symm;have ae:=a0.symm;clear ω ab a0;subst ac;subst ae))
      obtain⟨gf,gg,gh⟩:=Kd.Q6 a5.out
      (first|subst gh|(injection gh with ω ab a0;have ac:= ω.symm;have ae:=a0.symm;clear ω ab a0;subst ac;subst ae))
      refine hK.out _ _ ⟨(Qa O.out 0).trans rfl,(Qa O.out 1).trans rfl,(Qa Y.out 0).trans rfl,(Qa Y.out 1).trans rfl,(Qa δ.out 0).trans rfl,(Qa δ.out 1).trans rfl,(Qa δ.out 2).trans rfl⟩ (fun hHeld=>?_)
      clear hK K
      refine qN (some 7) ?_
      refine Zm (i:=4) (N:=some 21) #[true,true,true,true,true,false,false,false,true,false,false] rfl rfl (Q3 HT_.out kr) (by decide) (fun K hK=>?_)
      refine Zg Try.func11 kr rfl #[.agg #[.int .i64 I,.int .i64 J],.agg #[.slice el bq.length em,.slice gf br.length gg],.agg #[.int .i64 ζ,.int .i64 L,.int .i64 η]] (by rfl) rfl rfl (by(try simp only[List.map_toArray,List.map_cons,List.map_nil]);first|done|rfl|(simp only[List.length_drop,List.length_take];rfl)) ?_
      with_reducible refine(call_Press.calls k I J _ _ bq _ _ br ζ L η a9 aa ci _ ?side1 ?side2 ?side3 ?side4 A7.out).mono ?_
      (case side1=>repeat(first|exact(Kd.Qr a3.out).2.2|(with_reducible refine Kd.Za ?_ _)|(with_reducible refine Kd.Q9 ?_ _)|(with_reducible refine Kd.Zl ?_)))
      (case side2=>exact(Kd.Qr a3.out).2.1)
      (case side3=>repeat(first|exact(Kd.Qr a5.out).2.2|(with_reducible refine Kd.Za ?_ _)|(with_reducible refine Kd.Q9 ?_ _)|(with_reducible refine Kd.Zl ?_)))
      (case side4=>exact(Kd.Qr a5.out).2.1)
      rintro e cd ⟨cz,d0,rfl,χ,a7,hb⟩
      refine⟨_,rfl, ?_⟩
      have ε :=Aside0.mk (Kd.Q7 (by(with_reducible repeat(first|apply Kd.Qm|apply Kd.Ql|apply Kd.Qo));exact a3.out) (Kd.Zn χ) hb)
      have θ :=Aside0.mk (Kd.Q7 (by(with_reducible repeat(first|apply Kd.Qm|apply Kd.Ql|apply Kd.Qo));exact a5.out) (Kd.Zn a7) hb)
      have ι :=Aside0.mk (Kd.Q4 (Kd.Zr χ (Kd.Z4 (by(with_reducible repeat(first|apply Kd.Qm|apply Kd.Ql|apply Kd.Qo));exact a3.out))) (Qk (by repeat(first|(with_reducible first|exact HB.out|apply Qj|apply Qd|apply Qh|refine Qe ?_ a2.out|refine Qe ?_ a6.out|refine Qe ?_ a8.out|refine Qe ?_ au.out)|exact HB.out))))
      have κ :=Aside0.mk (Kd.Q4 (Kd.Zr a7 (Kd.Z4 (by(with_reducible repeat(first|apply Kd.Qm|apply Kd.Ql|apply Kd.Qo));exact a5.out))) (Qk (by repeat(first|(with_reducible first|exact HB.out|apply Qj|apply Qd|apply Qh|refine Qe ?_ a2.out|refine Qe ?_ a6.out|refine Qe ?_ a8.out|refine Qe ?_ au.out)|exact HB.out))))
      have τ :=Aside0.mk (Qn (g:= ν) (o:=.cells #[.int .i64 I,.int .i64 J] 23 (0,0)) (by(with_reducible repeat(first|refine Qf ?_ _|refine Qc ?_|refine Qg ?_ _));exact O.out) hb)
      have ψ :=Aside0.mk (Qn (g:= ξ) (o:=.cells #[.slice Z B.length U,.slice γ D.length X] 27 (0,0)) (by(with_reducible repeat(first|refine Qf ?_ _|refine Qc ?_|refine Qg ?_ _));exact Y.out) hb)
      have a1:=Aside0.mk (Qn (g:= φ) (o:=.cells #[.int .i64 ζ,.int .i64 L,.int .i64 η] 29 (0,0)) (by(with_reducible repeat(first|refine Qf ?_ _|refine Qc ?_|refine Qg ?_ _));exact δ.out) hb)
      have ak:=Aside0.mk (Qn (g:= μ) (o:=.cells #[.slice none 0 0,.slice none 0 0] 27 (0,0)) (by(with_reducible repeat(first|refine Qf ?_ _|refine Qc ?_|refine Qg ?_ _));exact ρ.out) hb)
      have am:=Aside0.mk (Qv (by repeat(first|(with_reducible first|exact HB.out|apply Qj|apply Qd|apply Qh|refine Qe ?_ a2.out|refine Qe ?_ a6.out|refine Qe ?_ a8.out|refine Qe ?_ au.out)|exact HB.out)) hb)
      clear a3
      clear a5
      clear O
      clear Y
      clear δ
      clear ρ
      clear HB
      have a3:= ε
      have a5:= θ
      have ai:= ι
      have aj:= κ
      have O:= τ
      have Y:= ψ
      have δ :=a1
      have ρ:=ak
      have HB:=am
      clear ε θ ι κ τ ψ a1 ak am
      (try clear hb)
      (try clear a4)
      (try clear hk)
      (try clear hi)
      (try clear χ)
      (try clear a7)
      refine hK.out _ _ ⟨(Qa O.out 0).trans rfl,(Qa O.out 1).trans rfl,(Qa Y.out 0).trans rfl,(Qa Y.out 1).trans rfl,(Qa δ.out 0).trans rfl,(Qa δ.out 1).trans rfl,(Qa δ.out 2).trans rfl⟩ (fun hHeld=>?_)
      clear hK K
      refine qN (some 21) ?_
      refine qP 5 (some 16) (qB 11 319) HT_ ?_
      refine qP 6 (some 22) (qB 11 383) HT_ ?_
      refine qP 7 (some 23) (qB 11 511) HT_ ?_
      exact Xj (by simp only[Z3,Act.put,qS]) (hCont (.slice el bq.length em,.slice gf br.length gg,cz,d0,μ) _ ⟨hHeld,(by(with_reducible repeat(first|apply Kd.Qm|apply Kd.Ql|apply Kd.Qo));exact Kd.Qs a3.out (fun _ hk=>hk.2)),(by(with_reducible repeat(first|apply Kd.Qm|apply Kd.Ql|apply Kd.Qo));exact Kd.Qs a5.out (fun _ hk=>hk.2)),(by(with_reducible repeat(first|apply Kd.Qm|apply Kd.Ql|apply Kd.Qo));exact Kd.Qs ai.out (fun _ hk=>hk.2)),(by(with_reducible repeat(first|apply Kd.Qm|apply Kd.Ql|apply Kd.Qo));exact Kd.Qs aj.out (fun _ hk=>hk.2)),(by(with_reducible repeat(first|refine Qf ?_ _|refine Qc ?_|refine Qg ?_ _));exact O.out),(by(with_reducible repeat(first|refine Qf ?_ _|refine Qc ?_|refine Qg ?_ _));exact Y.out),(by(with_reducible repeat(first|refine Qf ?_ _|refine Qc ?_|refine Qg ?_ _));exact δ.out),(by(with_reducible repeat(first|refine Qf ?_ _|refine Qc ?_|refine Qg ?_ _));exact ρ.out),d5.out,au.out,an.out,b1.out,ao.out,b2.out,al.out,b3.out,(by repeat(first|(with_reducible first|exact HB.out|apply Qj|apply Qd|apply Qh|refine Qe ?_ a2.out|refine Qe ?_ a6.out|refine Qe ?_ a8.out|refine Qe ?_ au.out)|exact HB.out))⟩)
    ·skip
     refine Xk ?hg (N:=7) ?hd (cs:=#[.slice none 0 0,.slice none 0 0]) (t:=27) ?hr ?_;(case hd=>rfl);(case hg=>rfl);(case hr=>first|(go_simp;done)|(go_simp;rfl))
     intro μ hg d7 hbox hb
     have ε :=Aside0.mk (Qn (g:= ν) (o:=.cells #[.int .i64 I,.int .i64 J] 23 (0,0)) (by(with_reducible repeat(first|refine Qf ?_ _|refine Qc ?_|refine Qg ?_ _));exact O.out) hb)
     have θ :=Aside0.mk (Qn (g:= ξ) (o:=.cells #[.slice Z B.length U,.slice γ D.length X] 27 (0,0)) (by(with_reducible repeat(first|refine Qf ?_ _|refine Qc ?_|refine Qg ?_ _));exact Y.out) hb)
     have ι :=Aside0.mk (Qn (g:= φ) (o:=.cells #[.int .i64 ζ,.int .i64 L,.int .i64 η] 29 (0,0)) (by(with_reducible repeat(first|refine Qf ?_ _|refine Qc ?_|refine Qg ?_ _));exact δ.out) hb)
     have κ :=Aside0.mk (Qv (by repeat(first|(with_reducible first|exact HB.out|apply Qj|apply Qd|apply Qh|refine Qe ?_ a2.out|refine Qe ?_ a6.out|refine Qe ?_ a8.out)|exact HB.out)) hb)
     have τ :=Aside0.mk (hbox)
     have ψ :=Aside0.mk ((by rw[hg];exact(Qk (by repeat(first|(with_reducible first|exact HB.out|apply Qj|apply Qd|apply Qh|refine Qe ?_ a2.out|refine Qe ?_ a6.out|refine Qe ?_ a8.out)|exact HB.out))):w.heap.size ≤ μ))
     have a1:=Aside0.mk ((by rw[hg];exact(Qk (by repeat(first|(with_reducible first|exact HB.out|apply Qj|apply Qd|apply Qh|refine Qe ?_ a2.out|refine Qe ?_ a6.out|refine Qe ?_ a8.out)|exact HB.out))):w.heap.size ≤ μ))
     have ak:=Aside0.mk ((by rw[hg];exact Nat.ne_of_lt (Q5 (g:= ν) (o:=.cells #[.int .i64 I,.int .i64 J] 23 (0,0)) (by(with_reducible repeat(first|refine Qf ?_ _|refine Qc ?_|refine Qg ?_ _));exact O.out)): ν ≠ μ))
     have am:=Aside0.mk ((by rw[hg];exact Nat.ne_of_gt (Q5 (g:= ν) (o:=.cells #[.int .i64 I,.int .i64 J] 23 (0,0)) (by(with_reducible repeat(first|refine Qf ?_ _|refine Qc ?_|refine Qg ?_ _));exact O.out)): μ ≠ ν))
     have az:=Aside0.mk ((by rw[hg];exact Nat.ne_of_lt (Q5 (g:= ξ) (o:=.cells #[.slice Z B.length U,.slice γ D.length X] 27 (0,0)) (by(with_reducible repeat(first|refine Qf ?_ _|refine Qc ?_|refine Qg ?_ _));exact Y.out)): ξ ≠ μ))
     have ap:=Aside0.mk ((by rw[hg];exact Nat.ne_of_gt (Q5 (g:= ξ) (o:=.cells #[.slice Z B.length U,.slice γ D.length X] 27 (0,0)) (by(with_reducible repeat(first|refine Qf ?_ _|refine Qc ?_|refine Qg ?_ _));exact Y.out)): μ ≠ ξ))
     have av:=Aside0.mk ((by rw[hg];exact Nat.ne_of_lt (Q5 (g:= φ) (o:=.cells #[.int .i64 ζ,.int .i64 L,.int .i64 η] 29 (0,0)) (by(with_reducible repeat(first|refine Qf ?_ _|refine Qc ?_|refine Qg ?_ _));exact δ.out)): φ ≠ μ))
     have b0:=Aside0.mk ((by rw[hg];exact Nat.ne_of_gt (Q5 (g:= φ) (o:=.cells #[.int .i64 ζ,.int .i64 L,.int .i64 η] 29 (0,0)) (by(with_reducible repeat(first|refine Qf ?_ _|refine Qc ?_|refine Qg ?_ _));exact δ.out)): μ ≠ φ))
     clear O
     clear Y
     clear δ
     clear HB
     have O:= ε
     have Y:= θ
     have δ := ι
     have HB:= κ
     have ρ:= τ
     have d5:= ψ
     have au:=a1
     have an:=ak
     have b1:=am
     have ao:=az
     have b2:=ap
     have al:=av
     have b3:=b0
     clear ε θ ι κ τ ψ a1 ak am az ap av b0
     clear hb hbox hg
     refine hK.out _ _ ⟨(Qa O.out 0).trans rfl,(Qa O.out 1).trans rfl,(Qa Y.out 0).trans rfl,(Qa Y.out 1).trans rfl,(Qa δ.out 0).trans rfl,(Qa δ.out 1).trans rfl,(Qa δ.out 2).trans rfl⟩ (fun hHeld=>?_)
     clear hK K
     refine qN (some 7) ?_
     refine Zm (i:=2) (N:=some 19) #[true,true,true,true,false,false,false,false,true,false,false] rfl rfl (Q3 HT_.out kr) (by decide) (fun K hK=>?_)
     refine Zg Try.func12 kr rfl #[.agg #[.slice Z B.length U,.slice γ D.length X]] (by rfl) rfl rfl (by(try simp only[List.map_toArray,List.map_cons,List.map_nil]);first|done|rfl|(simp only[List.length_drop,List.length_take];rfl)) ?_
     with_reducible refine(newellaw19_Own.calls _ _ B _ _ D bq br _ ?side1 ?side2 ?side3 ?side4 A6.out).mono ?_
     (case side1=>repeat(first|exact(Kd.Qz ag.out HB.out)|(with_reducible refine Kd.Za ?_ _)|(with_reducible refine Kd.Q9 ?_ _)|(with_reducible refine Kd.Zl ?_)))
     (case side2=>exact ar.out)
     (case side3=>repeat(first|exact(Kd.Qz ah.out HB.out)|(with_reducible refine Kd.Za ?_ _)|(with_reducible refine Kd.Q9 ?_ _)|(with_reducible refine Kd.Zl ?_)))
     (case side4=>exact aw.out)
     rintro e ca ⟨e8,e9,rfl,χ,a7,hb⟩
     refine⟨_,rfl, ?_⟩
     have ε :=Aside0.mk (Kd.Q4 χ (Qk (by repeat(first|(with_reducible first|exact HB.out|apply Qj|apply Qd|apply Qh|refine Qe ?_ a2.out|refine Qe ?_ a6.out|refine Qe ?_ a8.out|refine Qe ?_ au.out)|exact HB.out))))
     have θ :=Aside0.mk (Kd.Q4 a7 (Qk (by repeat(first|(with_reducible first|exact HB.out|apply Qj|apply Qd|apply Qh|refine Qe ?_ a2.out|refine Qe ?_ a6.out|refine Qe ?_ a8.out|refine Qe ?_ au.out)|exact HB.out))))
     have ι :=Aside0.mk (Qn (g:= ν) (o:=.cells #[.int .i64 I,.int .i64 J] 23 (0,0)) (by(with_reducible repeat(first|refine Qf ?_ _|refine Qc ?_|refine Qg ?_ _));exact O.out) hb)
     have κ :=Aside0.mk (Qn (g:= ξ) (o:=.cells #[.slice Z B.length U,.slice γ D.length X] 27 (0,0)) (by(with_reducible repeat(first|refine Qf ?_ _|refine Qc ?_|refine Qg ?_ _));exact Y.out) hb)
     have τ :=Aside0.mk (Qn (g:= φ) (o:=.cells #[.int .i64 ζ,.int .i64 L,.int .i64 η] 29 (0,0)) (by(with_reducible repeat(first|refine Qf ?_ _|refine Qc ?_|refine Qg ?_ _));exact δ.out) hb)
     have ψ :=Aside0.mk (Qn (g:= μ) (o:=.cells #[.slice none 0 0,.slice none 0 0] 27 (0,0)) (by(with_reducible repeat(first|refine Qf ?_ _|refine Qc ?_|refine Qg ?_ _));exact ρ.out) hb)
     have a1:=Aside0.mk (Qv (by repeat(first|(with_reducible first|exact HB.out|apply Qj|apply Qd|apply Qh|refine Qe ?_ a2.out|refine Qe ?_ a6.out|refine Qe ?_ a8.out|refine Qe ?_ au.out)|exact HB.out)) hb)
     clear O
     clear Y
     clear δ
     clear ρ
     clear HB
     have a3:= ε
     have a5:= θ
     have O:= ι
     have Y:= κ
     have δ := τ
     have ρ:= ψ
     have HB:=a1
     clear ε θ ι κ τ ψ a1
     (try clear hb)
     (try clear a4)
     (try clear hk)
     (try clear hi)
     (try clear χ)
     (try clear a7)
     obtain⟨el,em,en⟩:=Kd.Q6 a3.out
     (first|subst en|(injection en with ω ab a0;have ac:= ω.symm;have ae:=a0.symm;clear ω ab a0;subst ac;subst ae))
     obtain⟨gf,gg,gh⟩:=Kd.Q6 a5.out
     (first|subst gh|(injection gh with ω ab a0;have ac:= ω.symm;have ae:=a0.symm;clear ω ab a0;subst ac;subst ae))
     refine hK.out _ _ ⟨(Qa O.out 0).trans rfl,(Qa O.out 1).trans rfl,(Qa Y.out 0).trans rfl,(Qa Y.out 1).trans rfl,(Qa δ.out 0).trans rfl,(Qa δ.out 1).trans rfl,(Qa δ.out 2).trans rfl⟩ (fun hHeld=>?_)
     clear hK K
     refine qN (some 19) ?_
     refine Zm (i:=4) (N:=some 21) #[true,true,true,true,true,false,false,false,true,false,false] rfl rfl (Q3 HT_.out kr) (by decide) (fun K hK=>?_)
     refine Zg Try.func11 kr rfl #[.agg #[.int .i64 I,.int .i64 J],.agg #[.slice el bq.length em,.slice gf br.length gg],.agg #[.int .i64 ζ,.int .i64 L,.int .i64 η]] (by rfl) rfl rfl (by(try simp only[List.map_toArray,List.map_cons,List.map_nil]);first|done|rfl|(simp only[List.length_drop,List.length_take];rfl)) ?_
     with_reducible refine(call_Press.calls k I J _ _ bq _ _ br ζ L η a9 aa ci _ ?side1 ?side2 ?side3 ?side4 A7.out).mono ?_
     (case side1=>repeat(first|exact(Kd.Qr a3.out).2.2|(with_reducible refine Kd.Za ?_ _)|(with_reducible refine Kd.Q9 ?_ _)|(with_reducible refine Kd.Zl ?_)))
     (case side2=>exact(Kd.Qr a3.out).2.1)
     (case side3=>repeat(first|exact(Kd.Qr a5.out).2.2|(with_reducible refine Kd.Za ?_ _)|(with_reducible refine Kd.Q9 ?_ _)|(with_reducible refine Kd.Zl ?_)))
     (case side4=>exact(Kd.Qr a5.out).2.1)
     rintro e cd ⟨cz,d0,rfl,χ,a7,hb⟩
     refine⟨_,rfl, ?_⟩
     have ε :=Aside0.mk (Kd.Q7 (by(with_reducible repeat(first|apply Kd.Qm|apply Kd.Ql|apply Kd.Qo));exact a3.out) (Kd.Zn χ) hb)
     have θ :=Aside0.mk (Kd.Q7 (by(with_reducible repeat(first|apply Kd.Qm|apply Kd.Ql|apply Kd.Qo));exact a5.out) (Kd.Zn a7) hb)
     have ι :=Aside0.mk (Kd.Q4 (Kd.Zr χ (Kd.Z4 (by(with_reducible repeat(first|apply Kd.Qm|apply Kd.Ql|apply Kd.Qo));exact a3.out))) (Qk (by repeat(first|(with_reducible first|exact HB.out|apply Qj|apply Qd|apply Qh|refine Qe ?_ a2.out|refine Qe ?_ a6.out|refine Qe ?_ a8.out|refine Qe ?_ au.out)|exact HB.out))))
     have κ :=Aside0.mk (Kd.Q4 (Kd.Zr a7 (Kd.Z4 (by(with_reducible repeat(first|apply Kd.Qm|apply Kd.Ql|apply Kd.Qo));exact a5.out))) (Qk (by repeat(first|(with_reducible first|exact HB.out|apply Qj|apply Qd|apply Qh|refine Qe ?_ a2.out|refine Qe ?_ a6.out|refine Qe ?_ a8.out|refine Qe ?_ au.out)|exact HB.out))))
     have τ :=Aside0.mk (Qn (g:= ν) (o:=.cells #[.int .i64 I,.int .i64 J] 23 (0,0)) (by(with_reducible repeat(first|refine Qf ?_ _|refine Qc ?_|refine Qg ?_ _));exact O.out) hb)
     have ψ :=Aside0.mk (Qn (g:= ξ) (o:=.cells #[.slice Z B.length U,.slice γ D.length X] 27 (0,0)) (by(with_reducible repeat(first|refine Qf ?_ _|refine Qc ?_|refine Qg ?_ _));exact Y.out) hb)
     have a1:=Aside0.mk (Qn (g:= φ) (o:=.cells #[.int .i64 ζ,.int .i64 L,.int .i64 η] 29 (0,0)) (by(with_reducible repeat(first|refine Qf ?_ _|refine Qc ?_|refine Qg ?_ _));exact δ.out) hb)
     have ak:=Aside0.mk (Qn (g:= μ) (o:=.cells #[.slice none 0 0,.slice none 0 0] 27 (0,0)) (by(with_reducible repeat(first|refine Qf ?_ _|refine Qc ?_|refine Qg ?_ _));exact ρ.out) hb)
     have am:=Aside0.mk (Qv (by repeat(first|(with_reducible first|exact HB.out|apply Qj|apply Qd|apply Qh|refine Qe ?_ a2.out|refine Qe ?_ a6.out|refine Qe ?_ a8.out|refine Qe ?_ au.out)|exact HB.out)) hb)
     clear a3
     clear a5
     clear O
     clear Y
     clear δ
     clear ρ
     clear HB
     have a3:= ε
     have a5:= θ
     have ai:= ι
     have aj:= κ
     have O:= τ
     have Y:= ψ
     have δ :=a1
     have ρ:=ak
     have HB:=am
     clear ε θ ι κ τ ψ a1 ak am
     (try clear hb)
     (try clear a4)
     (try clear hk)
     (try clear hi)
     (try clear χ)
     (try clear a7)
     refine hK.out _ _ ⟨(Qa O.out 0).trans rfl,(Qa O.out 1).trans rfl,(Qa Y.out 0).trans rfl,(Qa Y.out 1).trans rfl,(Qa δ.out 0).trans rfl,(Qa δ.out 1).trans rfl,(Qa δ.out 2).trans rfl⟩ (fun hHeld=>?_)
     clear hK K
     refine qN (some 21) ?_
     refine qP 5 (some 16) (qB 11 319) HT_ ?_
     refine qP 6 (some 22) (qB 11 383) HT_ ?_
     refine qP 7 (some 23) (qB 11 511) HT_ ?_
     exact Xj (by simp only[Z3,Act.put,qS]) (hCont (.slice el bq.length em,.slice gf br.length gg,cz,d0,μ) _ ⟨hHeld,(by(with_reducible repeat(first|apply Kd.Qm|apply Kd.Ql|apply Kd.Qo));exact Kd.Qs a3.out (fun _ hk=>hk.2)),(by(with_reducible repeat(first|apply Kd.Qm|apply Kd.Ql|apply Kd.Qo));exact Kd.Qs a5.out (fun _ hk=>hk.2)),(by(with_reducible repeat(first|apply Kd.Qm|apply Kd.Ql|apply Kd.Qo));exact Kd.Qs ai.out (fun _ hk=>hk.2)),(by(with_reducible repeat(first|apply Kd.Qm|apply Kd.Ql|apply Kd.Qo));exact Kd.Qs aj.out (fun _ hk=>hk.2)),(by(with_reducible repeat(first|refine Qf ?_ _|refine Qc ?_|refine Qg ?_ _));exact O.out),(by(with_reducible repeat(first|refine Qf ?_ _|refine Qc ?_|refine Qg ?_ _));exact Y.out),(by(with_reducible repeat(first|refine Qf ?_ _|refine Qc ?_|refine Qg ?_ _));exact δ.out),(by(with_reducible repeat(first|refine Qf ?_ _|refine Qc ?_|refine Qg ?_ _));exact ρ.out),d5.out,au.out,an.out,b1.out,ao.out,b2.out,al.out,b3.out,(by repeat(first|(with_reducible first|exact HB.out|apply Qj|apply Qd|apply Qh|refine Qe ?_ a2.out|refine Qe ?_ a6.out|refine Qe ?_ a8.out|refine Qe ?_ au.out)|exact HB.out))⟩)
   rintro⟨e8,e9,cz,d0,μ⟩ bm ⟨hS_,cq,cr,ct,cu,cv,e0,e3,e4,e5,e6,dh,di,dj,dk,dl,dm,dn⟩
   have ε :Aside0 (Kd.R k56 56 bm w.heap.size (fun k_=>some k_≠(cz:Value).ownBlock) e8 bq):=⟨cq⟩
   have θ :Aside0 (Kd.R k62 62 bm w.heap.size (fun k_=>some k_≠(d0:Value).ownBlock) e9 br):=⟨cr⟩
   have ι :Aside0 (Kd.R k56 56 bm w.heap.size (fun k_=>some k_≠(e8:Value).ownBlock) cz a9):=⟨ct⟩
   have κ :Aside0 (Kd.R k62 62 bm w.heap.size (fun k_=>some k_≠(e9:Value).ownBlock) d0 aa):=⟨cu⟩
   have τ :Aside0 (bm.heap[ν]?=some (.cells #[.int .i64 I,.int .i64 J] 23 (0,0))):=⟨cv⟩
   have ψ :Aside0 (bm.heap[ξ]?=some (.cells #[.slice Z B.length U,.slice γ D.length X] 27 (0,0))):=⟨e0⟩
   have a1:Aside0 (bm.heap[φ]?=some (.cells #[.int .i64 ζ,.int .i64 L,.int .i64 η] 29 (0,0))):=⟨e3⟩
   have ak:Aside0 (bm.heap[μ]?=some (.cells #[.slice none 0 0,.slice none 0 0] 27 (0,0))):=⟨e4⟩
   have am:Aside0 (w.heap.size ≤ μ):=⟨e5⟩
   have az:Aside0 (w.heap.size ≤ μ):=⟨e6⟩
   have ap:Aside0 (ν ≠ μ):=⟨dh⟩
   have av:Aside0 (μ ≠ ν):=⟨di⟩
   have b0:Aside0 (ξ ≠ μ):=⟨dj⟩
   have ba:Aside0 (μ ≠ ξ):=⟨dk⟩
   have bb:Aside0 (φ ≠ μ):=⟨dl⟩
   have bf:Aside0 (μ ≠ φ):=⟨dm⟩
   have bg:Aside0 (Below w.heap.size w bm):=⟨dn⟩
   clear O
   clear Y
   clear δ
   clear HB
   clear cq cr ct cu cv e0 e3 e4 e5 e6 dh di dj dk dl dm dn
   have a3:= ε
   have a5:= θ
   have ai:= ι
   have aj:= κ
   have O:= τ
   have Y:= ψ
   have δ :=a1
   have ρ:=ak
   have d5:=am
   have au:=az
   have an:=ap
   have b1:=av
   have ao:=b0
   have b2:=ba
   have al:=bb
   have b3:=bf
   have HB:=bg
   clear ε θ ι κ τ ψ a1 ak am az ap av b0 ba bb bf bg
   have hHeld:bm.cell? ⟨ν,0,none⟩=some (.int .i64 I)∧bm.cell? ⟨ν,1,none⟩=some (.int .i64 J)∧bm.cell? ⟨ξ,0,none⟩=some (.slice Z B.length U)∧bm.cell? ⟨ξ,1,none⟩=some (.slice γ D.length X)∧bm.cell? ⟨φ,0,none⟩=some (.int .i64 ζ)∧bm.cell? ⟨φ,1,none⟩=some (.int .i64 L)∧bm.cell? ⟨φ,2,none⟩=some (.int .i64 η):=hS_
   obtain⟨bk,bj,kg⟩:=Kd.Q6 ai.out
   (first|subst kg|(injection kg with ω ab a0;have ac:= ω.symm;have ae:=a0.symm;clear ω ab a0;subst ac;subst ae))
   obtain⟨b9,b4,io⟩:=Kd.Q6 aj.out
   (first|subst io|(injection io with ω ab a0;have ac:= ω.symm;have ae:=a0.symm;clear ω ab a0;subst ac;subst ae))
   refine Xj (a':=?_) ?_ ?_
   rotate_left
   ·simp only[Z3,Act.put,qS]
    rfl
   refine Zm (i:=9) (N:=none) #[true,true,true,true,true,true,true,true,true,true,false] rfl rfl (Q3 HT_.out kr) (by decide) (fun K hK=>?_)
   have my:bm.cell? ⟨μ,0,none⟩=some (.slice none 0 0):=(Qa ρ.out 0).trans rfl
   have mn:=Qb ρ.out 0
   have lx:=an.out
   have ly:=ao.out
   have m1:=al.out
   have m2:=b1.out
   have m3:=b2.out
   have m4:=b3.out
   have mz:bm.cell? ⟨μ,1,none⟩=some (.slice none 0 0):=(Qa ρ.out 1).trans rfl
   have mo:=Qb ρ.out 1
   have m5:=an.out
   have m6:=ao.out
   have m7:=al.out
   have m8:=b1.out
   have m9:=b2.out
   have ma:=b3.out
   refine Js (w1:=?_) (by rfl) rfl ?_ ?_
   rotate_left
   ·go_simp
    rfl
   refine hK.out _ _ ⟨((cell_far (p:=⟨μ,_,none⟩) an.out _).trans (((cell_far (p:=⟨μ,_,none⟩) an.out _).trans (hHeld.1)))),((cell_far (p:=⟨μ,_,none⟩) an.out _).trans (((cell_far (p:=⟨μ,_,none⟩) an.out _).trans (hHeld.2.1)))),((cell_far (p:=⟨μ,_,none⟩) ao.out _).trans (((cell_far (p:=⟨μ,_,none⟩) ao.out _).trans (hHeld.2.2.1)))),((cell_far (p:=⟨μ,_,none⟩) ao.out _).trans (((cell_far (p:=⟨μ,_,none⟩) ao.out _).trans (hHeld.2.2.2.1)))),((cell_far (p:=⟨μ,_,none⟩) al.out _).trans (((cell_far (p:=⟨μ,_,none⟩) al.out _).trans (hHeld.2.2.2.2.1)))),((cell_far (p:=⟨μ,_,none⟩) al.out _).trans (((cell_far (p:=⟨μ,_,none⟩) al.out _).trans (hHeld.2.2.2.2.2.1)))),((cell_far (p:=⟨μ,_,none⟩) al.out _).trans (((cell_far (p:=⟨μ,_,none⟩) al.out _).trans (hHeld.2.2.2.2.2.2))))⟩ (fun hHeld=>?_)
   clear hK K
   refine qP 10 (some 8) (qB 11 2047) HT_ ?_
   refine Z0 (Zp HT_.out kr) ?_
   have j3:=dv.out
   have j4:=dw.out
   have i1:=an.out
   have i2:=b1.out
   have fn:bm.cell? ⟨ν,0,none⟩=some (.int .i64 I):=(Qa O.out 0).trans rfl
   have fo:bm.cell? ⟨ν,1,none⟩=some (.int .i64 J):=(Qa O.out 1).trans rfl
   have fp:=Qb O.out 0
   have fq:=Qb O.out 1
   have fg:=b2.out
   have fh:=ao.out
   have g8:=b3.out
   have g9:=al.out
   have ea:bm.cell? ⟨μ,0,none⟩=some (.slice none 0 0):=(Qa ρ.out 0).trans rfl
   have eb:bm.cell? ⟨μ,1,none⟩=some (.slice none 0 0):=(Qa ρ.out 1).trans rfl
   have ec:=Qb ρ.out 0
   have ed:=Qb ρ.out 1
   have eu:bm.cell? ⟨φ,0,none⟩=some (.int .i64 ζ):=(Qa δ.out 0).trans rfl
   have ev:bm.cell? ⟨φ,1,none⟩=some (.int .i64 L):=(Qa δ.out 1).trans rfl
   have k1:bm.cell? ⟨φ,2,none⟩=some (.int .i64 η):=(Qa δ.out 2).trans rfl
   have ew:=Qb δ.out 0
   have ey:=Qb δ.out 1
   have k2:=Qb δ.out 2
   go_upto_region 8 with(first|((with_reducible refine Q2 (f:=11) rfl ?_);refine Zq (some 31) rfl rfl Try.func11 kr rfl #[.agg #[.int .i64 I,.int .i64 J],.agg #[.slice bk a9.length bj,.slice b9 aa.length b4],.agg #[.int .i64 ζ,.int .i64 L,.int .i64 η]] rfl (by(try simp only[List.map_toArray,List.map_cons,List.map_nil]);first|done|rfl|(simp only[List.length_drop,List.length_take];rfl)) ?_;(with_reducible refine(call_Press.calls k I J _ _ a9 _ _ aa ζ L η bi bl ff _ ?side1 ?side2 ?side3 ?side4 A9.out).mono ?_);(case side1=>refine(Kd.Qr (e:=56) (base:=w.heap.size) (ok:=fun k_=>some k_≠(e8:Value).ownBlock) (n:=a9.length) (c:=bj) ?_).2.2;exact(by(with_reducible repeat(first|apply Kd.Qm|apply Kd.Ql|apply Kd.Qo));exact(Kd.Qs (Kd.Qu (p:=⟨μ,1,none⟩) (Kd.Qu (p:=⟨μ,0,none⟩) (Kd.Qy ai.out ρ.out (by decide)) (fun _ hk=>hk.2) (.slice bk a9.length bj)) (fun _ hk=>hk.2) (.slice b9 aa.length b4)) (fun _ h_=>h_.1))));(case side2=>exact(Kd.Qr ai.out).2.1);(case side3=>refine(Kd.Qr (e:=62) (base:=w.heap.size) (ok:=fun k_=>some k_≠(e9:Value).ownBlock) (n:=aa.length) (c:=b4) ?_).2.2;exact(by(with_reducible repeat(first|apply Kd.Qm|apply Kd.Ql|apply Kd.Qo));exact(Kd.Qs (Kd.Qu (p:=⟨μ,1,none⟩) (Kd.Qu (p:=⟨μ,0,none⟩) (Kd.Qy aj.out ρ.out (by decide)) (fun _ hk=>hk.2) (.slice bk a9.length bj)) (fun _ hk=>hk.2) (.slice b9 aa.length b4)) (fun _ h_=>h_.1))));(case side4=>exact(Kd.Qr aj.out).2.1);rintro e me ⟨n0,n1,rfl,χ,a7,hb⟩;refine⟨_,rfl, ?_⟩;have ε :=Aside0.mk (Kd.Q7 (by(with_reducible repeat(first|apply Kd.Qm|apply Kd.Ql|apply Kd.Qo));exact(Kd.Qs (Kd.Qu (p:=⟨μ,1,none⟩) (Kd.Qu (p:=⟨μ,0,none⟩) (Kd.Qy a3.out ρ.out (by decide)) (fun _ hk=>hk.2) (.slice bk a9.length bj)) (fun _ hk=>hk.2) (.slice b9 aa.length b4)) (fun _ h_=>h_.1))) (Kd.Zn χ) hb);have θ :=Aside0.mk (Kd.Q7 (by(with_reducible repeat(first|apply Kd.Qm|apply Kd.Ql|apply Kd.Qo));exact(Kd.Qs (Kd.Qu (p:=⟨μ,1,none⟩) (Kd.Qu (p:=⟨μ,0,none⟩) (Kd.Qy a5.out ρ.out (by decide)) (fun _ hk=>hk.2) (.slice bk a9.length bj)) (fun _ hk=>hk.2) (.slice b9 aa.length b4)) (fun _ h_=>h_.1))) (Kd.Zn a7) hb);have ι :=Aside0.mk (Kd.Q7 (by(with_reducible repeat(first|apply Kd.Qm|apply Kd.Ql|apply Kd.Qo));exact(Kd.Qs (Kd.Qu (p:=⟨μ,1,none⟩) (Kd.Qu (p:=⟨μ,0,none⟩) (Kd.Qy ai.out ρ.out (by decide)) (fun _ hk=>hk.2) (.slice bk a9.length bj)) (fun _ hk=>hk.2) (.slice b9 aa.length b4)) (fun _ h_=>h_.1))) (Kd.Zn χ) hb);have κ :=Aside0.mk (Kd.Q7 (by(with_reducible repeat(first|apply Kd.Qm|apply Kd.Ql|apply Kd.Qo));exact(Kd.Qs (Kd.Qu (p:=⟨μ,1,none⟩) (Kd.Qu (p:=⟨μ,0,none⟩) (Kd.Qy aj.out ρ.out (by decide)) (fun _ hk=>hk.2) (.slice bk a9.length bj)) (fun _ hk=>hk.2) (.slice b9 aa.length b4)) (fun _ h_=>h_.1))) (Kd.Zn a7) hb);have τ :=Aside0.mk (Kd.Q4 (Kd.Zr (Kd.Zr χ (Kd.Z4 (by(with_reducible repeat(first|apply Kd.Qm|apply Kd.Ql|apply Kd.Qo));exact(Kd.Qs (Kd.Qu (p:=⟨μ,1,none⟩) (Kd.Qu (p:=⟨μ,0,none⟩) (Kd.Qy a3.out ρ.out (by decide)) (fun _ hk=>hk.2) (.slice bk a9.length bj)) (fun _ hk=>hk.2) (.slice b9 aa.length b4)) (fun _ h_=>h_.1))))) (Kd.Z4 (by(with_reducible repeat(first|apply Kd.Qm|apply Kd.Ql|apply Kd.Qo));exact(Kd.Qs (Kd.Qu (p:=⟨μ,1,none⟩) (Kd.Qu (p:=⟨μ,0,none⟩) (Kd.Qy ai.out ρ.out (by decide)) (fun _ hk=>hk.2) (.slice bk a9.length bj)) (fun _ hk=>hk.2) (.slice b9 aa.length b4)) (fun _ h_=>h_.1))))) (Qk (by repeat(first|(with_reducible first|exact HB.out|apply Qj|apply Qd|apply Qh|refine Qe ?_ a2.out|refine Qe ?_ a6.out|refine Qe ?_ a8.out|refine Qe ?_ au.out)|exact HB.out))));have ψ :=Aside0.mk (Kd.Q4 (Kd.Zr (Kd.Zr a7 (Kd.Z4 (by(with_reducible repeat(first|apply Kd.Qm|apply Kd.Ql|apply Kd.Qo));exact(Kd.Qs (Kd.Qu (p:=⟨μ,1,none⟩) (Kd.Qu (p:=⟨μ,0,none⟩) (Kd.Qy a5.out ρ.out (by decide)) (fun _ hk=>hk.2) (.slice bk a9.length bj)) (fun _ hk=>hk.2) (.slice b9 aa.length b4)) (fun _ h_=>h_.1))))) (Kd.Z4 (by(with_reducible repeat(first|apply Kd.Qm|apply Kd.Ql|apply Kd.Qo));exact(Kd.Qs (Kd.Qu (p:=⟨μ,1,none⟩) (Kd.Qu (p:=⟨μ,0,none⟩) (Kd.Qy aj.out ρ.out (by decide)) (fun _ hk=>hk.2) (.slice bk a9.length bj)) (fun _ hk=>hk.2) (.slice b9 aa.length b4)) (fun _ h_=>h_.1))))) (Qk (by repeat(first|(with_reducible first|exact HB.out|apply Qj|apply Qd|apply Qh|refine Qe ?_ a2.out|refine Qe ?_ a6.out|refine Qe ?_ a8.out|refine Qe ?_ au.out)|exact HB.out))));have a1:=Aside0.mk (Qn (g:= ν) (o:=.cells #[.int .i64 I,.int .i64 J] 23 (0,0)) (by(with_reducible repeat(first|refine Qf ?_ _|refine Qc ?_|refine Qg ?_ _));refine Zu ?_ an.out _;(with_reducible repeat(first|refine Qf ?_ _|refine Qc ?_|refine Qg ?_ _));refine Zu ?_ an.out _;(with_reducible repeat(first|refine Qf ?_ _|refine Qc ?_|refine Qg ?_ _));exact O.out) hb);have ak:=Aside0.mk (Qn (g:= ξ) (o:=.cells #[.slice Z B.length U,.slice γ D.length X] 27 (0,0)) (by(with_reducible repeat(first|refine Qf ?_ _|refine Qc ?_|refine Qg ?_ _));refine Zu ?_ ao.out _;(with_reducible repeat(first|refine Qf ?_ _|refine Qc ?_|refine Qg ?_ _));refine Zu ?_ ao.out _;(with_reducible repeat(first|refine Qf ?_ _|refine Qc ?_|refine Qg ?_ _));exact Y.out) hb);have am:=Aside0.mk (Qn (g:= φ) (o:=.cells #[.int .i64 ζ,.int .i64 L,.int .i64 η] 29 (0,0)) (by(with_reducible repeat(first|refine Qf ?_ _|refine Qc ?_|refine Qg ?_ _));refine Zu ?_ al.out _;(with_reducible repeat(first|refine Qf ?_ _|refine Qc ?_|refine Qg ?_ _));refine Zu ?_ al.out _;(with_reducible repeat(first|refine Qf ?_ _|refine Qc ?_|refine Qg ?_ _));exact δ.out) hb);have az:=Aside0.mk (Qn (g:= μ) (o:=.cells #[.slice bk a9.length bj,.slice b9 aa.length b4] 27 (0,0)) (by(with_reducible repeat(first|refine Qf ?_ _|refine Qc ?_|refine Qg ?_ _));refine Qx (cs:=#[.slice bk a9.length bj,.slice none 0 0]) ?_ 1 _ rfl;(with_reducible repeat(first|refine Qf ?_ _|refine Qc ?_|refine Qg ?_ _));refine Qx (cs:=#[.slice none 0 0,.slice none 0 0]) ?_ 0 _ rfl;(with_reducible repeat(first|refine Qf ?_ _|refine Qc ?_|refine Qg ?_ _));exact ρ.out) hb);have ap:=Aside0.mk (Qv (by repeat(first|(with_reducible first|exact HB.out|apply Qj|apply Qd|apply Qh|refine Qe ?_ a2.out|refine Qe ?_ a6.out|refine Qe ?_ a8.out|refine Qe ?_ au.out)|exact HB.out)) hb);clear a3;clear a5;clear ai;clear aj;clear O;clear Y;clear δ;clear ρ;clear HB;have a3:= ε;have a5:= θ;have ai:= ι;have aj:= κ;have bc:= τ;have bd:= ψ;have O:=a1;have Y:=ak;have δ :=am;have ρ:=az;have HB:=ap;clear ε θ ι κ τ ψ a1 ak am az ap;(try clear hb);(try clear a4);(try clear hk);(try clear hi);(try clear χ);(try clear a7))|((with_reducible refine Qt (N:=9) rfl ?_);refine Qp ?hg (N:=9) ?hd (cs:=#[.slice none 0 0,.slice none 0 0]) (t:=27) ?hr ?_;(case hd=>rfl);(case hg=>rfl);(case hr=>first|(go_simp;done)|(go_simp;rfl));intro ax hg g6 hbox hb;have ε :=Aside0.mk (Kd.Qw (by(with_reducible repeat(first|apply Kd.Qm|apply Kd.Ql|apply Kd.Qo));exact a3.out) hb);have θ :=Aside0.mk (Kd.Qw (by(with_reducible repeat(first|apply Kd.Qm|apply Kd.Ql|apply Kd.Qo));exact a5.out) hb);have ι :=Aside0.mk (Kd.Qw (by(with_reducible repeat(first|apply Kd.Qm|apply Kd.Ql|apply Kd.Qo));exact ai.out) hb);have κ :=Aside0.mk (Kd.Qw (by(with_reducible repeat(first|apply Kd.Qm|apply Kd.Ql|apply Kd.Qo));exact aj.out) hb);have τ :=Aside0.mk (Kd.Qw (by(with_reducible repeat(first|apply Kd.Qm|apply Kd.Ql|apply Kd.Qo));exact bc.out) hb);have ψ :=Aside0.mk (Kd.Qw (by(with_reducible repeat(first|apply Kd.Qm|apply Kd.Ql|apply Kd.Qo));exact bd.out) hb);have a1:=Aside0.mk (Qn (g:= ν) (o:=.cells #[.int .i64 I,.int .i64 J] 23 (0,0)) (by(with_reducible repeat(first|refine Qf ?_ _|refine Qc ?_|refine Qg ?_ _));exact O.out) hb);have ak:=Aside0.mk (Qn (g:= ξ) (o:=.cells #[.slice Z B.length U,.slice γ D.length X] 27 (0,0)) (by(with_reducible repeat(first|refine Qf ?_ _|refine Qc ?_|refine Qg ?_ _));exact Y.out) hb);have am:=Aside0.mk (Qn (g:= φ) (o:=.cells #[.int .i64 ζ,.int .i64 L,.int .i64 η] 29 (0,0)) (by(with_reducible repeat(first|refine Qf ?_ _|refine Qc ?_|refine Qg ?_ _));exact δ.out) hb);have az:=Aside0.mk (Qn (g:= μ) (o:=.cells #[.slice bk a9.length bj,.slice b9 aa.length b4] 27 (0,0)) (by(with_reducible repeat(first|refine Qf ?_ _|refine Qc ?_|refine Qg ?_ _));exact ρ.out) hb);have ap:=Aside0.mk (Qv (by repeat(first|(with_reducible first|exact HB.out|apply Qj|apply Qd|apply Qh|refine Qe ?_ a2.out|refine Qe ?_ a6.out|refine Qe ?_ a8.out|refine Qe ?_ au.out)|exact HB.out)) hb);have av:=Aside0.mk (hbox);have b0:=Aside0.mk ((by rw[hg];exact(Qk (by repeat(first|(with_reducible first|exact HB.out|apply Qj|apply Qd|apply Qh|refine Qe ?_ a2.out|refine Qe ?_ a6.out|refine Qe ?_ a8.out|refine Qe ?_ au.out)|exact HB.out))):w.heap.size≤ax));have ba:=Aside0.mk ((by rw[hg];exact(Qk (by repeat(first|(with_reducible first|exact HB.out|apply Qj|apply Qd|apply Qh|refine Qe ?_ a2.out|refine Qe ?_ a6.out|refine Qe ?_ a8.out|refine Qe ?_ au.out)|exact HB.out))):w.heap.size≤ax));have bb:=Aside0.mk ((by rw[hg];exact Nat.ne_of_lt (Q5 (g:= ν) (o:=.cells #[.int .i64 I,.int .i64 J] 23 (0,0)) (by(with_reducible repeat(first|refine Qf ?_ _|refine Qc ?_|refine Qg ?_ _));exact O.out)): ν ≠ ax));have bf:=Aside0.mk ((by rw[hg];exact Nat.ne_of_gt (Q5 (g:= ν) (o:=.cells #[.int .i64 I,.int .i64 J] 23 (0,0)) (by(with_reducible repeat(first|refine Qf ?_ _|refine Qc ?_|refine Qg ?_ _));exact O.out)):ax ≠ ν));have bg:=Aside0.mk ((by rw[hg];exact Nat.ne_of_lt (Q5 (g:= ξ) (o:=.cells #[.slice Z B.length U,.slice γ D.length X] 27 (0,0)) (by(with_reducible repeat(first|refine Qf ?_ _|refine Qc ?_|refine Qg ?_ _));exact Y.out)): ξ ≠ ax));have dc:=Aside0.mk ((by rw[hg];exact Nat.ne_of_gt (Q5 (g:= ξ) (o:=.cells #[.slice Z B.length U,.slice γ D.length X] 27 (0,0)) (by(with_reducible repeat(first|refine Qf ?_ _|refine Qc ?_|refine Qg ?_ _));exact Y.out)):ax ≠ ξ));have dd:=Aside0.mk ((by rw[hg];exact Nat.ne_of_lt (Q5 (g:= φ) (o:=.cells #[.int .i64 ζ,.int .i64 L,.int .i64 η] 29 (0,0)) (by(with_reducible repeat(first|refine Qf ?_ _|refine Qc ?_|refine Qg ?_ _));exact δ.out)): φ ≠ ax));have kh:=Aside0.mk ((by rw[hg];exact Nat.ne_of_gt (Q5 (g:= φ) (o:=.cells #[.int .i64 ζ,.int .i64 L,.int .i64 η] 29 (0,0)) (by(with_reducible repeat(first|refine Qf ?_ _|refine Qc ?_|refine Qg ?_ _));exact δ.out)):ax ≠ φ));have ki:=Aside0.mk ((by rw[hg];exact Nat.ne_of_lt (Q5 (g:= μ) (o:=.cells #[.slice bk a9.length bj,.slice b9 aa.length b4] 27 (0,0)) (by(with_reducible repeat(first|refine Qf ?_ _|refine Qc ?_|refine Qg ?_ _));exact ρ.out)): μ ≠ ax));have kj:=Aside0.mk ((by rw[hg];exact Nat.ne_of_gt (Q5 (g:= μ) (o:=.cells #[.slice bk a9.length bj,.slice b9 aa.length b4] 27 (0,0)) (by(with_reducible repeat(first|refine Qf ?_ _|refine Qc ?_|refine Qg ?_ _));exact ρ.out)):ax ≠ μ));clear a3;clear a5;clear ai;clear aj;clear bc;clear bd;clear O;clear Y;clear δ;clear ρ;clear HB;have a3:= ε;have a5:= θ;have ai:= ι;have aj:= κ;have bc:= τ;have bd:= ψ;have O:=a1;have Y:=ak;have δ :=am;have ρ:=az;have HB:=ap;have ay:=av;have mq:=b0;have du:=ba;have d1:=bb;have eo:=bf;have d2:=bg;have ep:=dc;have d3:=dd;have er:=kh;have d4:=ki;have et:=kj;clear ε θ ι κ τ ψ a1 ak am az ap av b0 ba bb bf bg dc dd kh ki kj;clear hb hbox hg;obtain⟨bs,bu,lb⟩:=Kd.Q6 bc.out;subst lb;have i7:=eo.out;have i9:=d1.out;have ez:=ep.out;have f3:=d2.out;have ga:=er.out;have gb:=d3.out;have ig:=et.out;have ih:=d4.out;have gk:g6.cell? ⟨ax,0,none⟩=some (.slice none 0 0):=(Qa ay.out 0).trans rfl;have gx:g6.cell? ⟨ax,1,none⟩=some (.slice none 0 0):=(Qa ay.out 1).trans rfl;have gy:=Qb ay.out 0;have gz:=Qb ay.out 1;obtain⟨bh,be,iv⟩:=Kd.Q6 bd.out;subst iv;have h0:g6.cell? ⟨μ,0,none⟩=some (.slice bk a9.length bj):=(Qa ρ.out 0).trans rfl;have h4:g6.cell? ⟨μ,1,none⟩=some (.slice b9 aa.length b4):=(Qa ρ.out 1).trans rfl;have h5:=Qb ρ.out 0;have h6:=Qb ρ.out 1;have h7:g6.cell? ⟨ξ,0,none⟩=some (.slice Z B.length U):=(Qa Y.out 0).trans rfl;have h8:g6.cell? ⟨ξ,1,none⟩=some (.slice γ D.length X):=(Qa Y.out 1).trans rfl;have h9:=Qb Y.out 0;have ha:=Qb Y.out 1))
   (try simp only[Act.put,qS])
   go_cut [6] (fun v6 wc=>∃ (kq:Nat) (ix:Bool),v6 = .bool ix∧Aside0 (newellaw19_CallOnce.j0 kq ix=some r)∧Aside0 (kq≤k)∧Aside0 (Kd.R k56 56 wc w.heap.size (fun k_=>some k_≠((.slice bs bi.length bu):Value).ownBlock) (.slice bk a9.length bj) a9)∧Aside0 (Kd.R k62 62 wc w.heap.size (fun k_=>some k_≠((.slice bh bl.length be):Value).ownBlock) (.slice b9 aa.length b4) aa)∧Aside0 (Kd.R k56 56 wc w.heap.size (fun k_=>some k_≠((.slice bk a9.length bj):Value).ownBlock) (.slice bs bi.length bu) bi)∧Aside0 (Kd.R k62 62 wc w.heap.size (fun k_=>some k_≠((.slice b9 aa.length b4):Value).ownBlock) (.slice bh bl.length be) bl)∧Aside0 (wc.heap[ν]?=some (.cells #[.int .i64 I,.int .i64 J] 23 (0,0)))∧Aside0 (wc.heap[ξ]?=some (.cells #[(.slice Z B.length U),(.slice γ D.length X)] 27 (0,0)))∧Aside0 (wc.heap[φ]?=some (.cells #[.int .i64 ζ,.int .i64 L,.int .i64 η] 29 (0,0)))∧Aside0 (wc.heap[μ]?=some (.cells #[(.slice bk a9.length bj),(.slice b9 aa.length b4)] 27 (0,0)))∧Aside0 (wc.heap[ax]?=some (.cells #[(.slice bs bi.length bu),(.slice bh bl.length be)] 27 (0,0)))∧Aside0 (Below w.heap.size w wc))
   case first=>
    have H:=iw.out
    clear iw
    replace H:=Option.bind_eq_some_iff.mp H
    obtain⟨d6,kk,H⟩:=H
    replace H:(if d6=true then (if ff=0 then ((call_Same.f k a9 aa bi bl).bind fun ce=>(if ce=true then ((call_Check.f k I J a9 aa).bind fun bo=>(if bo=0 then (if (wrap64 ((wrap64 ((wrap64 ((a9.length:Int)+(aa.length:Int))) - (B.length:Int))) - (D.length:Int)))=1 then (newellaw19_CallOnce.j0 k true) else (if (wrap64 ((wrap64 ((wrap64 ((a9.length:Int)+(aa.length:Int))) - (B.length:Int))) - (D.length:Int)))=0 then ((call_Same.f k a9 aa B D).bind fun bp=>(newellaw19_CallOnce.j0 k bp)) else (none))) else (none))) else (none))) else (none)) else (none))=some r:=H
    have l8:=Aside0.mk kk
    clear kk
    by_cases fc:d6=true
    ·subst fc
     have H1:(if ff=0 then ((call_Same.f k a9 aa bi bl).bind fun ce=>(if ce=true then ((call_Check.f k I J a9 aa).bind fun bo=>(if bo=0 then (if (wrap64 ((wrap64 ((wrap64 ((a9.length:Int)+(aa.length:Int))) - (B.length:Int))) - (D.length:Int)))=1 then (newellaw19_CallOnce.j0 k true) else (if (wrap64 ((wrap64 ((wrap64 ((a9.length:Int)+(aa.length:Int))) - (B.length:Int))) - (D.length:Int)))=0 then ((call_Same.f k a9 aa B D).bind fun bp=>(newellaw19_CallOnce.j0 k bp)) else (none))) else (none))) else (none))) else (none))=some r:=by rw[if_pos rfl] at H;exact H
     clear H
     have H:=H1
     clear H1
     by_cases eh:ff=0
     ·rw[if_pos eh] at H
      have c49b0:(ff==0)=true:=beq_iff_eq.mpr eh
      have c49b1:(ff != 0)=false:=bne_eq_false_iff_eq.mpr eh
      clear eh
      (first|rw[c49b0]|(simp only[X5,Ys];rw[c49b0])|skip)
      replace H:=Option.bind_eq_some_iff.mp H
      obtain⟨ce,ge,H⟩:=H
      replace H:(if ce=true then ((call_Check.f k I J a9 aa).bind fun bo=>(if bo=0 then (if (wrap64 ((wrap64 ((wrap64 ((a9.length:Int)+(aa.length:Int))) - (B.length:Int))) - (D.length:Int)))=1 then (newellaw19_CallOnce.j0 k true) else (if (wrap64 ((wrap64 ((wrap64 ((a9.length:Int)+(aa.length:Int))) - (B.length:Int))) - (D.length:Int)))=0 then ((call_Same.f k a9 aa B D).bind fun bp=>(newellaw19_CallOnce.j0 k bp)) else (none))) else (none))) else (none))=some r:=H
      have cf:=Aside0.mk ge
      clear ge
      by_cases ej:ce=true
      ·subst ej
       have H1:((call_Check.f k I J a9 aa).bind fun bo=>(if bo=0 then (if (wrap64 ((wrap64 ((wrap64 ((a9.length:Int)+(aa.length:Int))) - (B.length:Int))) - (D.length:Int)))=1 then (newellaw19_CallOnce.j0 k true) else (if (wrap64 ((wrap64 ((wrap64 ((a9.length:Int)+(aa.length:Int))) - (B.length:Int))) - (D.length:Int)))=0 then ((call_Same.f k a9 aa B D).bind fun bp=>(newellaw19_CallOnce.j0 k bp)) else (none))) else (none)))=some r:=by rw[if_pos rfl] at H;exact H
       clear H
       have H:=H1
       clear H1
       replace H:=Option.bind_eq_some_iff.mp H
       obtain⟨bo,kl,H⟩:=H
       replace H:(if bo=0 then (if (wrap64 ((wrap64 ((wrap64 ((a9.length:Int)+(aa.length:Int))) - (B.length:Int))) - (D.length:Int)))=1 then (newellaw19_CallOnce.j0 k true) else (if (wrap64 ((wrap64 ((wrap64 ((a9.length:Int)+(aa.length:Int))) - (B.length:Int))) - (D.length:Int)))=0 then ((call_Same.f k a9 aa B D).bind fun bp=>(newellaw19_CallOnce.j0 k bp)) else (none))) else (none))=some r:=H
       have l9:=Aside0.mk kl
       clear kl
       by_cases ef:bo=0
       ·rw[if_pos ef] at H
        have c53b0:(bo==0)=true:=beq_iff_eq.mpr ef
        have c53b1:(bo != 0)=false:=bne_eq_false_iff_eq.mpr ef
        clear ef
        by_cases eg:(wrap64 ((wrap64 ((wrap64 ((a9.length:Int)+(aa.length:Int))) - (B.length:Int))) - (D.length:Int)))=1
        ·rw[if_pos eg] at H
         have c54b0:((wrap64 ((wrap64 ((wrap64 ((a9.length:Int)+(aa.length:Int))) - (B.length:Int))) - (D.length:Int)))==1)=true:=beq_iff_eq.mpr eg
         have c54b1:((wrap64 ((wrap64 ((wrap64 ((a9.length:Int)+(aa.length:Int))) - (B.length:Int))) - (D.length:Int))) != 1)=false:=bne_eq_false_iff_eq.mpr eg
         clear eg
         have H':=Aside0.mk H
         clear H
         go_wp2_with (first|((with_reducible refine Q2 (f:=10) rfl ?_);refine Zq (some 49) rfl rfl Try.func10 kr rfl #[] rfl (by(try simp only[List.map_toArray,List.map_cons,List.map_nil]);first|done|rfl|(simp only[List.length_drop,List.length_take];rfl)) ?_;(with_reducible refine(newellaw19_awake.calls k  true _ l8.out).mono ?_);rintro e fi ⟨rfl,hb⟩;refine⟨_,rfl, ?_⟩;have ε :=Aside0.mk (Kd.Qw (by(with_reducible repeat(first|apply Kd.Qm|apply Kd.Ql|apply Kd.Qo));exact(Kd.Qs (Kd.Qu (p:=⟨ax,1,none⟩) (Kd.Qu (p:=⟨ax,0,none⟩) (Kd.Qy a3.out ay.out (by decide)) (fun _ hk=>hk.2) (.slice bs bi.length bu)) (fun _ hk=>hk.2) (.slice bh bl.length be)) (fun _ h_=>h_.1))) hb);have θ :=Aside0.mk (Kd.Qw (by(with_reducible repeat(first|apply Kd.Qm|apply Kd.Ql|apply Kd.Qo));exact(Kd.Qs (Kd.Qu (p:=⟨ax,1,none⟩) (Kd.Qu (p:=⟨ax,0,none⟩) (Kd.Qy a5.out ay.out (by decide)) (fun _ hk=>hk.2) (.slice bs bi.length bu)) (fun _ hk=>hk.2) (.slice bh bl.length be)) (fun _ h_=>h_.1))) hb);have ι :=Aside0.mk (Kd.Qw (by(with_reducible repeat(first|apply Kd.Qm|apply Kd.Ql|apply Kd.Qo));exact(Kd.Qs (Kd.Qu (p:=⟨ax,1,none⟩) (Kd.Qu (p:=⟨ax,0,none⟩) (Kd.Qy ai.out ay.out (by decide)) (fun _ hk=>hk.2) (.slice bs bi.length bu)) (fun _ hk=>hk.2) (.slice bh bl.length be)) (fun _ h_=>h_.1))) hb);have κ :=Aside0.mk (Kd.Qw (by(with_reducible repeat(first|apply Kd.Qm|apply Kd.Ql|apply Kd.Qo));exact(Kd.Qs (Kd.Qu (p:=⟨ax,1,none⟩) (Kd.Qu (p:=⟨ax,0,none⟩) (Kd.Qy aj.out ay.out (by decide)) (fun _ hk=>hk.2) (.slice bs bi.length bu)) (fun _ hk=>hk.2) (.slice bh bl.length be)) (fun _ h_=>h_.1))) hb);have τ :=Aside0.mk (Kd.Qw (by(with_reducible repeat(first|apply Kd.Qm|apply Kd.Ql|apply Kd.Qo));exact(Kd.Qs (Kd.Qu (p:=⟨ax,1,none⟩) (Kd.Qu (p:=⟨ax,0,none⟩) (Kd.Qy bc.out ay.out (by decide)) (fun _ hk=>hk.2) (.slice bs bi.length bu)) (fun _ hk=>hk.2) (.slice bh bl.length be)) (fun _ h_=>h_.1))) hb);have ψ :=Aside0.mk (Kd.Qw (by(with_reducible repeat(first|apply Kd.Qm|apply Kd.Ql|apply Kd.Qo));exact(Kd.Qs (Kd.Qu (p:=⟨ax,1,none⟩) (Kd.Qu (p:=⟨ax,0,none⟩) (Kd.Qy bd.out ay.out (by decide)) (fun _ hk=>hk.2) (.slice bs bi.length bu)) (fun _ hk=>hk.2) (.slice bh bl.length be)) (fun _ h_=>h_.1))) hb);have a1:=Aside0.mk (Qn (g:= ν) (o:=.cells #[.int .i64 I,.int .i64 J] 23 (0,0)) (by(with_reducible repeat(first|refine Qf ?_ _|refine Qc ?_|refine Qg ?_ _));refine Zu ?_ d1.out _;(with_reducible repeat(first|refine Qf ?_ _|refine Qc ?_|refine Qg ?_ _));refine Zu ?_ d1.out _;(with_reducible repeat(first|refine Qf ?_ _|refine Qc ?_|refine Qg ?_ _));exact O.out) hb);have ak:=Aside0.mk (Qn (g:= ξ) (o:=.cells #[.slice Z B.length U,.slice γ D.length X] 27 (0,0)) (by(with_reducible repeat(first|refine Qf ?_ _|refine Qc ?_|refine Qg ?_ _));refine Zu ?_ d2.out _;(with_reducible repeat(first|refine Qf ?_ _|refine Qc ?_|refine Qg ?_ _));refine Zu ?_ d2.out _;(with_reducible repeat(first|refine Qf ?_ _|refine Qc ?_|refine Qg ?_ _));exact Y.out) hb);have am:=Aside0.mk (Qn (g:= φ) (o:=.cells #[.int .i64 ζ,.int .i64 L,.int .i64 η] 29 (0,0)) (by(with_reducible repeat(first|refine Qf ?_ _|refine Qc ?_|refine Qg ?_ _));refine Zu ?_ d3.out _;(with_reducible repeat(first|refine Qf ?_ _|refine Qc ?_|refine Qg ?_ _));refine Zu ?_ d3.out _;(with_reducible repeat(first|refine Qf ?_ _|refine Qc ?_|refine Qg ?_ _));exact δ.out) hb);have az:=Aside0.mk (Qn (g:= μ) (o:=.cells #[.slice bk a9.length bj,.slice b9 aa.length b4] 27 (0,0)) (by(with_reducible repeat(first|refine Qf ?_ _|refine Qc ?_|refine Qg ?_ _));refine Zu ?_ d4.out _;(with_reducible repeat(first|refine Qf ?_ _|refine Qc ?_|refine Qg ?_ _));refine Zu ?_ d4.out _;(with_reducible repeat(first|refine Qf ?_ _|refine Qc ?_|refine Qg ?_ _));exact ρ.out) hb);have ap:=Aside0.mk (Qn (g:=ax) (o:=.cells #[.slice bs bi.length bu,.slice bh bl.length be] 27 (0,0)) (by(with_reducible repeat(first|refine Qf ?_ _|refine Qc ?_|refine Qg ?_ _));refine Qx (cs:=#[.slice bs bi.length bu,.slice none 0 0]) ?_ 1 _ rfl;(with_reducible repeat(first|refine Qf ?_ _|refine Qc ?_|refine Qg ?_ _));refine Qx (cs:=#[.slice none 0 0,.slice none 0 0]) ?_ 0 _ rfl;(with_reducible repeat(first|refine Qf ?_ _|refine Qc ?_|refine Qg ?_ _));exact ay.out) hb);have av:=Aside0.mk (Qv (by repeat(first|(with_reducible first|exact HB.out|apply Qj|apply Qd|apply Qh|refine Qe ?_ a2.out|refine Qe ?_ a6.out|refine Qe ?_ a8.out|refine Qe ?_ au.out|refine Qe ?_ du.out)|exact HB.out)) hb);clear a3;clear a5;clear ai;clear aj;clear bc;clear bd;clear O;clear Y;clear δ;clear ρ;clear ay;clear HB;have a3:= ε;have a5:= θ;have ai:= ι;have aj:= κ;have bc:= τ;have bd:= ψ;have O:=a1;have Y:=ak;have δ :=am;have ρ:=az;have ay:=ap;have HB:=av;clear ε θ ι κ τ ψ a1 ak am az ap av;(try clear hb);(try clear a4);(try clear hk);(try clear hi);have mr:=b1.out;have ms:=an.out;have ks:=b2.out;have kt:=ao.out;have i3:=b3.out;have i4:=al.out;have j5:=d4.out;have j6:=et.out;have gj:fi.cell? ⟨μ,0,none⟩=some (.slice bk a9.length bj):=(Qa ρ.out 0).trans rfl;have gl:fi.cell? ⟨μ,1,none⟩=some (.slice b9 aa.length b4):=(Qa ρ.out 1).trans rfl;have gm:=Qb ρ.out 0;have gn:=Qb ρ.out 1;have ii:=eo.out;have ij:=d1.out;have ia:=ep.out;have ib:=d2.out;have fj:=er.out;have fk:=d3.out;have gp:fi.cell? ⟨ax,0,none⟩=some (.slice bs bi.length bu):=(Qa ay.out 0).trans rfl;have gq:fi.cell? ⟨ax,1,none⟩=some (.slice bh bl.length be):=(Qa ay.out 1).trans rfl;have gr:=Qb ay.out 0;have gs:=Qb ay.out 1)|(go_at_call 27;(with_reducible refine(call_Same.calls k _ _ a9 _ _ aa _ _ bi _ _ bl true _ ?side1 ?side2 ?side3 ?side4 ?side5 ?side6 ?side7 ?side8 cf.out).mono ?_);(case side1=>repeat(first|exact(Kd.Qr ai.out).2.2|(with_reducible refine Kd.Za ?_ _)|(with_reducible refine Kd.Q9 ?_ _)|(with_reducible refine Kd.Zl ?_)));(case side2=>exact(Kd.Qr ai.out).2.1);(case side3=>repeat(first|exact(Kd.Qr aj.out).2.2|(with_reducible refine Kd.Za ?_ _)|(with_reducible refine Kd.Q9 ?_ _)|(with_reducible refine Kd.Zl ?_)));(case side4=>exact(Kd.Qr aj.out).2.1);(case side5=>repeat(first|exact(Kd.Qr bc.out).2.2|(with_reducible refine Kd.Za ?_ _)|(with_reducible refine Kd.Q9 ?_ _)|(with_reducible refine Kd.Zl ?_)));(case side6=>exact(Kd.Qr bc.out).2.1);(case side7=>repeat(first|exact(Kd.Qr bd.out).2.2|(with_reducible refine Kd.Za ?_ _)|(with_reducible refine Kd.Q9 ?_ _)|(with_reducible refine Kd.Zl ?_)));(case side8=>exact(Kd.Qr bd.out).2.1);rintro e jm ⟨rfl,hb⟩;have ε :=Aside0.mk (Kd.Qw (by(with_reducible repeat(first|apply Kd.Qm|apply Kd.Ql|apply Kd.Qo));exact a3.out) hb);have θ :=Aside0.mk (Kd.Qw (by(with_reducible repeat(first|apply Kd.Qm|apply Kd.Ql|apply Kd.Qo));exact a5.out) hb);have ι :=Aside0.mk (Kd.Qw (by(with_reducible repeat(first|apply Kd.Qm|apply Kd.Ql|apply Kd.Qo));exact ai.out) hb);have κ :=Aside0.mk (Kd.Qw (by(with_reducible repeat(first|apply Kd.Qm|apply Kd.Ql|apply Kd.Qo));exact aj.out) hb);have τ :=Aside0.mk (Kd.Qw (by(with_reducible repeat(first|apply Kd.Qm|apply Kd.Ql|apply Kd.Qo));exact bc.out) hb);have ψ :=Aside0.mk (Kd.Qw (by(with_reducible repeat(first|apply Kd.Qm|apply Kd.Ql|apply Kd.Qo));exact bd.out) hb);have a1:=Aside0.mk (Qn (g:= ν) (o:=.cells #[.int .i64 I,.int .i64 J] 23 (0,0)) (by(with_reducible repeat(first|refine Qf ?_ _|refine Qc ?_|refine Qg ?_ _));exact O.out) hb);have ak:=Aside0.mk (Qn (g:= ξ) (o:=.cells #[.slice Z B.length U,.slice γ D.length X] 27 (0,0)) (by(with_reducible repeat(first|refine Qf ?_ _|refine Qc ?_|refine Qg ?_ _));exact Y.out) hb);have am:=Aside0.mk (Qn (g:= φ) (o:=.cells #[.int .i64 ζ,.int .i64 L,.int .i64 η] 29 (0,0)) (by(with_reducible repeat(first|refine Qf ?_ _|refine Qc ?_|refine Qg ?_ _));exact δ.out) hb);have az:=Aside0.mk (Qn (g:= μ) (o:=.cells #[.slice bk a9.length bj,.slice b9 aa.length b4] 27 (0,0)) (by(with_reducible repeat(first|refine Qf ?_ _|refine Qc ?_|refine Qg ?_ _));exact ρ.out) hb);have ap:=Aside0.mk (Qn (g:=ax) (o:=.cells #[.slice bs bi.length bu,.slice bh bl.length be] 27 (0,0)) (by(with_reducible repeat(first|refine Qf ?_ _|refine Qc ?_|refine Qg ?_ _));exact ay.out) hb);have av:=Aside0.mk (Qv (by repeat(first|(with_reducible first|exact HB.out|apply Qj|apply Qd|apply Qh|refine Qe ?_ a2.out|refine Qe ?_ a6.out|refine Qe ?_ a8.out|refine Qe ?_ au.out|refine Qe ?_ du.out)|exact HB.out)) hb);clear a3;clear a5;clear ai;clear aj;clear bc;clear bd;clear O;clear Y;clear δ;clear ρ;clear ay;clear HB;have a3:= ε;have a5:= θ;have ai:= ι;have aj:= κ;have bc:= τ;have bd:= ψ;have O:=a1;have Y:=ak;have δ :=am;have ρ:=az;have ay:=ap;have HB:=av;clear ε θ ι κ τ ψ a1 ak am az ap av;(try clear hb);(try clear a4);(try clear hk);(try clear hi);have ku:=cx.out;have kv:=cy.out;have j7:=dv.out;have j8:=dw.out;have fw:jm.cell? ⟨ν,0,none⟩=some (.int .i64 I):=(Qa O.out 0).trans rfl;have fx:jm.cell? ⟨ν,1,none⟩=some (.int .i64 J):=(Qa O.out 1).trans rfl;have fy:=Qb O.out 0;have fz:=Qb O.out 1;have fr:jm.cell? ⟨μ,0,none⟩=some (.slice bk a9.length bj):=(Qa ρ.out 0).trans rfl;have ft:jm.cell? ⟨μ,1,none⟩=some (.slice b9 aa.length b4):=(Qa ρ.out 1).trans rfl;have fu:=Qb ρ.out 0;have fv:=Qb ρ.out 1)|(go_at_call 14;(with_reducible refine(call_Check.calls k I J _ _ a9 _ _ aa bo _ ?side1 ?side2 ?side3 ?side4 l9.out).mono ?_);(case side1=>repeat(first|exact(Kd.Qr ai.out).2.2|(with_reducible refine Kd.Za ?_ _)|(with_reducible refine Kd.Q9 ?_ _)|(with_reducible refine Kd.Zl ?_)));(case side2=>exact(Kd.Qr ai.out).2.1);(case side3=>repeat(first|exact(Kd.Qr aj.out).2.2|(with_reducible refine Kd.Za ?_ _)|(with_reducible refine Kd.Q9 ?_ _)|(with_reducible refine Kd.Zl ?_)));(case side4=>exact(Kd.Qr aj.out).2.1);rintro e mb ⟨rfl,hb⟩;have ε :=Aside0.mk (Kd.Qw (by(with_reducible repeat(first|apply Kd.Qm|apply Kd.Ql|apply Kd.Qo));exact a3.out) hb);have θ :=Aside0.mk (Kd.Qw (by(with_reducible repeat(first|apply Kd.Qm|apply Kd.Ql|apply Kd.Qo));exact a5.out) hb);have ι :=Aside0.mk (Kd.Qw (by(with_reducible repeat(first|apply Kd.Qm|apply Kd.Ql|apply Kd.Qo));exact ai.out) hb);have κ :=Aside0.mk (Kd.Qw (by(with_reducible repeat(first|apply Kd.Qm|apply Kd.Ql|apply Kd.Qo));exact aj.out) hb);have τ :=Aside0.mk (Kd.Qw (by(with_reducible repeat(first|apply Kd.Qm|apply Kd.Ql|apply Kd.Qo));exact bc.out) hb);have ψ :=Aside0.mk (Kd.Qw (by(with_reducible repeat(first|apply Kd.Qm|apply Kd.Ql|apply Kd.Qo));exact bd.out) hb);have a1:=Aside0.mk (Qn (g:= ν) (o:=.cells #[.int .i64 I,.int .i64 J] 23 (0,0)) (by(with_reducible repeat(first|refine Qf ?_ _|refine Qc ?_|refine Qg ?_ _));exact O.out) hb);have ak:=Aside0.mk (Qn (g:= ξ) (o:=.cells #[.slice Z B.length U,.slice γ D.length X] 27 (0,0)) (by(with_reducible repeat(first|refine Qf ?_ _|refine Qc ?_|refine Qg ?_ _));exact Y.out) hb);have am:=Aside0.mk (Qn (g:= φ) (o:=.cells #[.int .i64 ζ,.int .i64 L,.int .i64 η] 29 (0,0)) (by(with_reducible repeat(first|refine Qf ?_ _|refine Qc ?_|refine Qg ?_ _));exact δ.out) hb);have az:=Aside0.mk (Qn (g:= μ) (o:=.cells #[.slice bk a9.length bj,.slice b9 aa.length b4] 27 (0,0)) (by(with_reducible repeat(first|refine Qf ?_ _|refine Qc ?_|refine Qg ?_ _));exact ρ.out) hb);have ap:=Aside0.mk (Qn (g:=ax) (o:=.cells #[.slice bs bi.length bu,.slice bh bl.length be] 27 (0,0)) (by(with_reducible repeat(first|refine Qf ?_ _|refine Qc ?_|refine Qg ?_ _));exact ay.out) hb);have av:=Aside0.mk (Qv (by repeat(first|(with_reducible first|exact HB.out|apply Qj|apply Qd|apply Qh|refine Qe ?_ a2.out|refine Qe ?_ a6.out|refine Qe ?_ a8.out|refine Qe ?_ au.out|refine Qe ?_ du.out)|exact HB.out)) hb);clear a3;clear a5;clear ai;clear aj;clear bc;clear bd;clear O;clear Y;clear δ;clear ρ;clear ay;clear HB;have a3:= ε;have a5:= θ;have ai:= ι;have aj:= κ;have bc:= τ;have bd:= ψ;have O:=a1;have Y:=ak;have δ :=am;have ρ:=az;have ay:=ap;have HB:=av;clear ε θ ι κ τ ψ a1 ak am az ap av;(try clear hb);(try clear a4);(try clear hk);(try clear hi)))
         go_meet
         case rel=>exact⟨_,(true),qR,H',⟨by first|omega|exact Nat.le_refl _⟩,⟨by(with_reducible repeat(first|apply Kd.Qm|apply Kd.Ql|apply Kd.Qo));exact Kd.Qs ai.out (fun _ hk=>hk.2)⟩,⟨by(with_reducible repeat(first|apply Kd.Qm|apply Kd.Ql|apply Kd.Qo));exact Kd.Qs aj.out (fun _ hk=>hk.2)⟩,⟨by(with_reducible repeat(first|apply Kd.Qm|apply Kd.Ql|apply Kd.Qo));exact Kd.Qs bc.out (fun _ hk=>hk.2)⟩,⟨by(with_reducible repeat(first|apply Kd.Qm|apply Kd.Ql|apply Kd.Qo));exact Kd.Qs bd.out (fun _ hk=>hk.2)⟩,⟨by(with_reducible repeat(first|refine Qf ?_ _|refine Qc ?_|refine Qg ?_ _));exact O.out⟩,⟨by(with_reducible repeat(first|refine Qf ?_ _|refine Qc ?_|refine Qg ?_ _));exact Y.out⟩,⟨by(with_reducible repeat(first|refine Qf ?_ _|refine Qc ?_|refine Qg ?_ _));exact δ.out⟩,⟨by(with_reducible repeat(first|refine Qf ?_ _|refine Qc ?_|refine Qg ?_ _));exact ρ.out⟩,⟨by(with_reducible repeat(first|refine Qf ?_ _|refine Qc ?_|refine Qg ?_ _));exact ay.out⟩,⟨by repeat(first|(with_reducible first|exact HB.out|apply Qj|apply Qd|apply Qh|refine Qe ?_ a2.out|refine Qe ?_ a6.out|refine Qe ?_ a8.out|refine Qe ?_ au.out|refine Qe ?_ du.out)|exact HB.out)⟩⟩
        ·rw[if_neg eg] at H
         have c54b0:((wrap64 ((wrap64 ((wrap64 ((a9.length:Int)+(aa.length:Int))) - (B.length:Int))) - (D.length:Int)))==1)=false:=beq_eq_false_iff_ne.mpr eg
         have c54b1:((wrap64 ((wrap64 ((wrap64 ((a9.length:Int)+(aa.length:Int))) - (B.length:Int))) - (D.length:Int))) != 1)=true:=bne_iff_ne.mpr eg
         by_cases he:(wrap64 ((wrap64 ((wrap64 ((a9.length:Int)+(aa.length:Int))) - (B.length:Int))) - (D.length:Int)))=0
         ·rw[if_pos he] at H
          have c71b0:((wrap64 ((wrap64 ((wrap64 ((a9.length:Int)+(aa.length:Int))) - (B.length:Int))) - (D.length:Int)))==0)=true:=beq_iff_eq.mpr he
          have c71b1:((wrap64 ((wrap64 ((wrap64 ((a9.length:Int)+(aa.length:Int))) - (B.length:Int))) - (D.length:Int))) != 0)=false:=bne_eq_false_iff_eq.mpr he
          clear he
          replace H:=Option.bind_eq_some_iff.mp H
          obtain⟨bp,km,H⟩:=H
          replace H:(newellaw19_CallOnce.j0 k bp)=some r:=H
          have mh:=Aside0.mk km
          clear km
          have H':=Aside0.mk H
          clear H
          go_wp2_with (first|((with_reducible refine Q2 (f:=10) rfl ?_);refine Zq (some 49) rfl rfl Try.func10 kr rfl #[] rfl (by(try simp only[List.map_toArray,List.map_cons,List.map_nil]);first|done|rfl|(simp only[List.length_drop,List.length_take];rfl)) ?_;(with_reducible refine(newellaw19_awake.calls k  true _ l8.out).mono ?_);rintro e bv ⟨rfl,hb⟩;refine⟨_,rfl, ?_⟩;have ε :=Aside0.mk (Kd.Qw (by(with_reducible repeat(first|apply Kd.Qm|apply Kd.Ql|apply Kd.Qo));exact(Kd.Qs (Kd.Qu (p:=⟨ax,1,none⟩) (Kd.Qu (p:=⟨ax,0,none⟩) (Kd.Qy a3.out ay.out (by decide)) (fun _ hk=>hk.2) (.slice bs bi.length bu)) (fun _ hk=>hk.2) (.slice bh bl.length be)) (fun _ h_=>h_.1))) hb);have θ :=Aside0.mk (Kd.Qw (by(with_reducible repeat(first|apply Kd.Qm|apply Kd.Ql|apply Kd.Qo));exact(Kd.Qs (Kd.Qu (p:=⟨ax,1,none⟩) (Kd.Qu (p:=⟨ax,0,none⟩) (Kd.Qy a5.out ay.out (by decide)) (fun _ hk=>hk.2) (.slice bs bi.length bu)) (fun _ hk=>hk.2) (.slice bh bl.length be)) (fun _ h_=>h_.1))) hb);have ι :=Aside0.mk (Kd.Qw (by(with_reducible repeat(first|apply Kd.Qm|apply Kd.Ql|apply Kd.Qo));exact(Kd.Qs (Kd.Qu (p:=⟨ax,1,none⟩) (Kd.Qu (p:=⟨ax,0,none⟩) (Kd.Qy ai.out ay.out (by decide)) (fun _ hk=>hk.2) (.slice bs bi.length bu)) (fun _ hk=>hk.2) (.slice bh bl.length be)) (fun _ h_=>h_.1))) hb);have κ :=Aside0.mk (Kd.Qw (by(with_reducible repeat(first|apply Kd.Qm|apply Kd.Ql|apply Kd.Qo));exact(Kd.Qs (Kd.Qu (p:=⟨ax,1,none⟩) (Kd.Qu (p:=⟨ax,0,none⟩) (Kd.Qy aj.out ay.out (by decide)) (fun _ hk=>hk.2) (.slice bs bi.length bu)) (fun _ hk=>hk.2) (.slice bh bl.length be)) (fun _ h_=>h_.1))) hb);have τ :=Aside0.mk (Kd.Qw (by(with_reducible repeat(first|apply Kd.Qm|apply Kd.Ql|apply Kd.Qo));exact(Kd.Qs (Kd.Qu (p:=⟨ax,1,none⟩) (Kd.Qu (p:=⟨ax,0,none⟩) (Kd.Qy bc.out ay.out (by decide)) (fun _ hk=>hk.2) (.slice bs bi.length bu)) (fun _ hk=>hk.2) (.slice bh bl.length be)) (fun _ h_=>h_.1))) hb);have ψ :=Aside0.mk (Kd.Qw (by(with_reducible repeat(first|apply Kd.Qm|apply Kd.Ql|apply Kd.Qo));exact(Kd.Qs (Kd.Qu (p:=⟨ax,1,none⟩) (Kd.Qu (p:=⟨ax,0,none⟩) (Kd.Qy bd.out ay.out (by decide)) (fun _ hk=>hk.2) (.slice bs bi.length bu)) (fun _ hk=>hk.2) (.slice bh bl.length be)) (fun _ h_=>h_.1))) hb);have a1:=Aside0.mk (Qn (g:= ν) (o:=.cells #[.int .i64 I,.int .i64 J] 23 (0,0)) (by(with_reducible repeat(first|refine Qf ?_ _|refine Qc ?_|refine Qg ?_ _));refine Zu ?_ d1.out _;(with_reducible repeat(first|refine Qf ?_ _|refine Qc ?_|refine Qg ?_ _));refine Zu ?_ d1.out _;(with_reducible repeat(first|refine Qf ?_ _|refine Qc ?_|refine Qg ?_ _));exact O.out) hb);have ak:=Aside0.mk (Qn (g:= ξ) (o:=.cells #[.slice Z B.length U,.slice γ D.length X] 27 (0,0)) (by(with_reducible repeat(first|refine Qf ?_ _|refine Qc ?_|refine Qg ?_ _));refine Zu ?_ d2.out _;(with_reducible repeat(first|refine Qf ?_ _|refine Qc ?_|refine Qg ?_ _));refine Zu ?_ d2.out _;(with_reducible repeat(first|refine Qf ?_ _|refine Qc ?_|refine Qg ?_ _));exact Y.out) hb);have am:=Aside0.mk (Qn (g:= φ) (o:=.cells #[.int .i64 ζ,.int .i64 L,.int .i64 η] 29 (0,0)) (by(with_reducible repeat(first|refine Qf ?_ _|refine Qc ?_|refine Qg ?_ _));refine Zu ?_ d3.out _;(with_reducible repeat(first|refine Qf ?_ _|refine Qc ?_|refine Qg ?_ _));refine Zu ?_ d3.out _;(with_reducible repeat(first|refine Qf ?_ _|refine Qc ?_|refine Qg ?_ _));exact δ.out) hb);have az:=Aside0.mk (Qn (g:= μ) (o:=.cells #[.slice bk a9.length bj,.slice b9 aa.length b4] 27 (0,0)) (by(with_reducible repeat(first|refine Qf ?_ _|refine Qc ?_|refine Qg ?_ _));refine Zu ?_ d4.out _;(with_reducible repeat(first|refine Qf ?_ _|refine Qc ?_|refine Qg ?_ _));refine Zu ?_ d4.out _;(with_reducible repeat(first|refine Qf ?_ _|refine Qc ?_|refine Qg ?_ _));exact ρ.out) hb);have ap:=Aside0.mk (Qn (g:=ax) (o:=.cells #[.slice bs bi.length bu,.slice bh bl.length be] 27 (0,0)) (by(with_reducible repeat(first|refine Qf ?_ _|refine Qc ?_|refine Qg ?_ _));refine Qx (cs:=#[.slice bs bi.length bu,.slice none 0 0]) ?_ 1 _ rfl;(with_reducible repeat(first|refine Qf ?_ _|refine Qc ?_|refine Qg ?_ _));refine Qx (cs:=#[.slice none 0 0,.slice none 0 0]) ?_ 0 _ rfl;(with_reducible repeat(first|refine Qf ?_ _|refine Qc ?_|refine Qg ?_ _));exact ay.out) hb);have av:=Aside0.mk (Qv (by repeat(first|(with_reducible first|exact HB.out|apply Qj|apply Qd|apply Qh|refine Qe ?_ a2.out|refine Qe ?_ a6.out|refine Qe ?_ a8.out|refine Qe ?_ au.out|refine Qe ?_ du.out)|exact HB.out)) hb);clear a3;clear a5;clear ai;clear aj;clear bc;clear bd;clear O;clear Y;clear δ;clear ρ;clear ay;clear HB;have a3:= ε;have a5:= θ;have ai:= ι;have aj:= κ;have bc:= τ;have bd:= ψ;have O:=a1;have Y:=ak;have δ :=am;have ρ:=az;have ay:=ap;have HB:=av;clear ε θ ι κ τ ψ a1 ak am az ap av;(try clear hb);(try clear a4);(try clear hk);(try clear hi);have kw:=b1.out;have kx:=an.out;have j9:=b2.out;have ja:=ao.out;have i5:=b3.out;have i6:=al.out;have jb:=d4.out;have jc:=et.out;have f4:bv.cell? ⟨μ,0,none⟩=some (.slice bk a9.length bj):=(Qa ρ.out 0).trans rfl;have f7:bv.cell? ⟨μ,1,none⟩=some (.slice b9 aa.length b4):=(Qa ρ.out 1).trans rfl;have f8:=Qb ρ.out 0;have f9:=Qb ρ.out 1;have ic:=eo.out;have ie:=d1.out;have jd:=ep.out;have je:=d2.out;have jf:=er.out;have jg:=d3.out;have g0:bv.cell? ⟨ax,0,none⟩=some (.slice bs bi.length bu):=(Qa ay.out 0).trans rfl;have g1:bv.cell? ⟨ax,1,none⟩=some (.slice bh bl.length be):=(Qa ay.out 1).trans rfl;have g2:=Qb ay.out 0;have g3:=Qb ay.out 1)|(go_at_call 27;(with_reducible refine(call_Same.calls k _ _ a9 _ _ aa _ _ bi _ _ bl true _ ?side1 ?side2 ?side3 ?side4 ?side5 ?side6 ?side7 ?side8 cf.out).mono ?_);(case side1=>repeat(first|exact(Kd.Qr ai.out).2.2|(with_reducible refine Kd.Za ?_ _)|(with_reducible refine Kd.Q9 ?_ _)|(with_reducible refine Kd.Zl ?_)));(case side2=>exact(Kd.Qr ai.out).2.1);(case side3=>repeat(first|exact(Kd.Qr aj.out).2.2|(with_reducible refine Kd.Za ?_ _)|(with_reducible refine Kd.Q9 ?_ _)|(with_reducible refine Kd.Zl ?_)));(case side4=>exact(Kd.Qr aj.out).2.1);(case side5=>repeat(first|exact(Kd.Qr bc.out).2.2|(with_reducible refine Kd.Za ?_ _)|(with_reducible refine Kd.Q9 ?_ _)|(with_reducible refine Kd.Zl ?_)));(case side6=>exact(Kd.Qr bc.out).2.1);(case side7=>repeat(first|exact(Kd.Qr bd.out).2.2|(with_reducible refine Kd.Za ?_ _)|(with_reducible refine Kd.Q9 ?_ _)|(with_reducible refine Kd.Zl ?_)));(case side8=>exact(Kd.Qr bd.out).2.1);rintro e dz ⟨rfl,hb⟩;have ε :=Aside0.mk (Kd.Qw (by(with_reducible repeat(first|apply Kd.Qm|apply Kd.Ql|apply Kd.Qo));exact a3.out) hb);have θ :=Aside0.mk (Kd.Qw (by(with_reducible repeat(first|apply Kd.Qm|apply Kd.Ql|apply Kd.Qo));exact a5.out) hb);have ι :=Aside0.mk (Kd.Qw (by(with_reducible repeat(first|apply Kd.Qm|apply Kd.Ql|apply Kd.Qo));exact ai.out) hb);have κ :=Aside0.mk (Kd.Qw (by(with_reducible repeat(first|apply Kd.Qm|apply Kd.Ql|apply Kd.Qo));exact aj.out) hb);have τ :=Aside0.mk (Kd.Qw (by(with_reducible repeat(first|apply Kd.Qm|apply Kd.Ql|apply Kd.Qo));exact bc.out) hb);have ψ :=Aside0.mk (Kd.Qw (by(with_reducible repeat(first|apply Kd.Qm|apply Kd.Ql|apply Kd.Qo));exact bd.out) hb);have a1:=Aside0.mk (Qn (g:= ν) (o:=.cells #[.int .i64 I,.int .i64 J] 23 (0,0)) (by(with_reducible repeat(first|refine Qf ?_ _|refine Qc ?_|refine Qg ?_ _));exact O.out) hb);have ak:=Aside0.mk (Qn (g:= ξ) (o:=.cells #[.slice Z B.length U,.slice γ D.length X] 27 (0,0)) (by(with_reducible repeat(first|refine Qf ?_ _|refine Qc ?_|refine Qg ?_ _));exact Y.out) hb);have am:=Aside0.mk (Qn (g:= φ) (o:=.cells #[.int .i64 ζ,.int .i64 L,.int .i64 η] 29 (0,0)) (by(with_reducible repeat(first|refine Qf ?_ _|refine Qc ?_|refine Qg ?_ _));exact δ.out) hb);have az:=Aside0.mk (Qn (g:= μ) (o:=.cells #[.slice bk a9.length bj,.slice b9 aa.length b4] 27 (0,0)) (by(with_reducible repeat(first|refine Qf ?_ _|refine Qc ?_|refine Qg ?_ _));exact ρ.out) hb);have ap:=Aside0.mk (Qn (g:=ax) (o:=.cells #[.slice bs bi.length bu,.slice bh bl.length be] 27 (0,0)) (by(with_reducible repeat(first|refine Qf ?_ _|refine Qc ?_|refine Qg ?_ _));exact ay.out) hb);have av:=Aside0.mk (Qv (by repeat(first|(with_reducible first|exact HB.out|apply Qj|apply Qd|apply Qh|refine Qe ?_ a2.out|refine Qe ?_ a6.out|refine Qe ?_ a8.out|refine Qe ?_ au.out|refine Qe ?_ du.out)|exact HB.out)) hb);clear a3;clear a5;clear ai;clear aj;clear bc;clear bd;clear O;clear Y;clear δ;clear ρ;clear ay;clear HB;have a3:= ε;have a5:= θ;have ai:= ι;have aj:= κ;have bc:= τ;have bd:= ψ;have O:=a1;have Y:=ak;have δ :=am;have ρ:=az;have ay:=ap;have HB:=av;clear ε θ ι κ τ ψ a1 ak am az ap av;(try clear hb);(try clear a4);(try clear hk);(try clear hi);have mt:=cx.out;have mu:=cy.out;have l4:=dv.out;have l5:=dw.out;have hh:dz.cell? ⟨ν,0,none⟩=some (.int .i64 I):=(Qa O.out 0).trans rfl;have hj:dz.cell? ⟨ν,1,none⟩=some (.int .i64 J):=(Qa O.out 1).trans rfl;have hl:=Qb O.out 0;have ho:=Qb O.out 1;have k3:dz.cell? ⟨μ,0,none⟩=some (.slice bk a9.length bj):=(Qa ρ.out 0).trans rfl;have k4:dz.cell? ⟨μ,1,none⟩=some (.slice b9 aa.length b4):=(Qa ρ.out 1).trans rfl;have k5:=Qb ρ.out 0;have k6:=Qb ρ.out 1)|(go_at_call 14;(with_reducible refine(call_Check.calls k I J _ _ a9 _ _ aa bo _ ?side1 ?side2 ?side3 ?side4 l9.out).mono ?_);(case side1=>repeat(first|exact(Kd.Qr ai.out).2.2|(with_reducible refine Kd.Za ?_ _)|(with_reducible refine Kd.Q9 ?_ _)|(with_reducible refine Kd.Zl ?_)));(case side2=>exact(Kd.Qr ai.out).2.1);(case side3=>repeat(first|exact(Kd.Qr aj.out).2.2|(with_reducible refine Kd.Za ?_ _)|(with_reducible refine Kd.Q9 ?_ _)|(with_reducible refine Kd.Zl ?_)));(case side4=>exact(Kd.Qr aj.out).2.1);rintro e gi ⟨rfl,hb⟩;have ε :=Aside0.mk (Kd.Qw (by(with_reducible repeat(first|apply Kd.Qm|apply Kd.Ql|apply Kd.Qo));exact a3.out) hb);have θ :=Aside0.mk (Kd.Qw (by(with_reducible repeat(first|apply Kd.Qm|apply Kd.Ql|apply Kd.Qo));exact a5.out) hb);have ι :=Aside0.mk (Kd.Qw (by(with_reducible repeat(first|apply Kd.Qm|apply Kd.Ql|apply Kd.Qo));exact ai.out) hb);have κ :=Aside0.mk (Kd.Qw (by(with_reducible repeat(first|apply Kd.Qm|apply Kd.Ql|apply Kd.Qo));exact aj.out) hb);have τ :=Aside0.mk (Kd.Qw (by(with_reducible repeat(first|apply Kd.Qm|apply Kd.Ql|apply Kd.Qo));exact bc.out) hb);have ψ :=Aside0.mk (Kd.Qw (by(with_reducible repeat(first|apply Kd.Qm|apply Kd.Ql|apply Kd.Qo));exact bd.out) hb);have a1:=Aside0.mk (Qn (g:= ν) (o:=.cells #[.int .i64 I,.int .i64 J] 23 (0,0)) (by(with_reducible repeat(first|refine Qf ?_ _|refine Qc ?_|refine Qg ?_ _));exact O.out) hb);have ak:=Aside0.mk (Qn (g:= ξ) (o:=.cells #[.slice Z B.length U,.slice γ D.length X] 27 (0,0)) (by(with_reducible repeat(first|refine Qf ?_ _|refine Qc ?_|refine Qg ?_ _));exact Y.out) hb);have am:=Aside0.mk (Qn (g:= φ) (o:=.cells #[.int .i64 ζ,.int .i64 L,.int .i64 η] 29 (0,0)) (by(with_reducible repeat(first|refine Qf ?_ _|refine Qc ?_|refine Qg ?_ _));exact δ.out) hb);have az:=Aside0.mk (Qn (g:= μ) (o:=.cells #[.slice bk a9.length bj,.slice b9 aa.length b4] 27 (0,0)) (by(with_reducible repeat(first|refine Qf ?_ _|refine Qc ?_|refine Qg ?_ _));exact ρ.out) hb);have ap:=Aside0.mk (Qn (g:=ax) (o:=.cells #[.slice bs bi.length bu,.slice bh bl.length be] 27 (0,0)) (by(with_reducible repeat(first|refine Qf ?_ _|refine Qc ?_|refine Qg ?_ _));exact ay.out) hb);have av:=Aside0.mk (Qv (by repeat(first|(with_reducible first|exact HB.out|apply Qj|apply Qd|apply Qh|refine Qe ?_ a2.out|refine Qe ?_ a6.out|refine Qe ?_ a8.out|refine Qe ?_ au.out|refine Qe ?_ du.out)|exact HB.out)) hb);clear a3;clear a5;clear ai;clear aj;clear bc;clear bd;clear O;clear Y;clear δ;clear ρ;clear ay;clear HB;have a3:= ε;have a5:= θ;have ai:= ι;have aj:= κ;have bc:= τ;have bd:= ψ;have O:=a1;have Y:=ak;have δ :=am;have ρ:=az;have ay:=ap;have HB:=av;clear ε θ ι κ τ ψ a1 ak am az ap av;(try clear hb);(try clear a4);(try clear hk);(try clear hi);have hu:gi.cell? ⟨μ,0,none⟩=some (.slice bk a9.length bj):=(Qa ρ.out 0).trans rfl;have hx:gi.cell? ⟨μ,1,none⟩=some (.slice b9 aa.length b4):=(Qa ρ.out 1).trans rfl;have hy:=Qb ρ.out 0;have i0:=Qb ρ.out 1;have ky:=d9.out;have kz:=da.out;have gt:gi.cell? ⟨ξ,0,none⟩=some (.slice Z B.length U):=(Qa Y.out 0).trans rfl;have gu:gi.cell? ⟨ξ,1,none⟩=some (.slice γ D.length X):=(Qa Y.out 1).trans rfl;have gv:=Qb Y.out 0;have gw:=Qb Y.out 1)|(go_at_call 27;(with_reducible refine(call_Same.calls k _ _ a9 _ _ aa _ _ B _ _ D bp _ ?side1 ?side2 ?side3 ?side4 ?side5 ?side6 ?side7 ?side8 mh.out).mono ?_);(case side1=>repeat(first|exact(Kd.Qr ai.out).2.2|(with_reducible refine Kd.Za ?_ _)|(with_reducible refine Kd.Q9 ?_ _)|(with_reducible refine Kd.Zl ?_)));(case side2=>exact(Kd.Qr ai.out).2.1);(case side3=>repeat(first|exact(Kd.Qr aj.out).2.2|(with_reducible refine Kd.Za ?_ _)|(with_reducible refine Kd.Q9 ?_ _)|(with_reducible refine Kd.Zl ?_)));(case side4=>exact(Kd.Qr aj.out).2.1);(case side5=>repeat(first|exact(Kd.Qz ag.out HB.out)|(with_reducible refine Kd.Za ?_ _)|(with_reducible refine Kd.Q9 ?_ _)|(with_reducible refine Kd.Zl ?_)));(case side6=>exact ar.out);(case side7=>repeat(first|exact(Kd.Qz ah.out HB.out)|(with_reducible refine Kd.Za ?_ _)|(with_reducible refine Kd.Q9 ?_ _)|(with_reducible refine Kd.Zl ?_)));(case side8=>exact aw.out);rintro e nd ⟨rfl,hb⟩;have ε :=Aside0.mk (Kd.Qw (by(with_reducible repeat(first|apply Kd.Qm|apply Kd.Ql|apply Kd.Qo));exact a3.out) hb);have θ :=Aside0.mk (Kd.Qw (by(with_reducible repeat(first|apply Kd.Qm|apply Kd.Ql|apply Kd.Qo));exact a5.out) hb);have ι :=Aside0.mk (Kd.Qw (by(with_reducible repeat(first|apply Kd.Qm|apply Kd.Ql|apply Kd.Qo));exact ai.out) hb);have κ :=Aside0.mk (Kd.Qw (by(with_reducible repeat(first|apply Kd.Qm|apply Kd.Ql|apply Kd.Qo));exact aj.out) hb);have τ :=Aside0.mk (Kd.Qw (by(with_reducible repeat(first|apply Kd.Qm|apply Kd.Ql|apply Kd.Qo));exact bc.out) hb);have ψ :=Aside0.mk (Kd.Qw (by(with_reducible repeat(first|apply Kd.Qm|apply Kd.Ql|apply Kd.Qo));exact bd.out) hb);have a1:=Aside0.mk (Qn (g:= ν) (o:=.cells #[.int .i64 I,.int .i64 J] 23 (0,0)) (by(with_reducible repeat(first|refine Qf ?_ _|refine Qc ?_|refine Qg ?_ _));exact O.out) hb);have ak:=Aside0.mk (Qn (g:= ξ) (o:=.cells #[.slice Z B.length U,.slice γ D.length X] 27 (0,0)) (by(with_reducible repeat(first|refine Qf ?_ _|refine Qc ?_|refine Qg ?_ _));exact Y.out) hb);have am:=Aside0.mk (Qn (g:= φ) (o:=.cells #[.int .i64 ζ,.int .i64 L,.int .i64 η] 29 (0,0)) (by(with_reducible repeat(first|refine Qf ?_ _|refine Qc ?_|refine Qg ?_ _));exact δ.out) hb);have az:=Aside0.mk (Qn (g:= μ) (o:=.cells #[.slice bk a9.length bj,.slice b9 aa.length b4] 27 (0,0)) (by(with_reducible repeat(first|refine Qf ?_ _|refine Qc ?_|refine Qg ?_ _));exact ρ.out) hb);have ap:=Aside0.mk (Qn (g:=ax) (o:=.cells #[.slice bs bi.length bu,.slice bh bl.length be] 27 (0,0)) (by(with_reducible repeat(first|refine Qf ?_ _|refine Qc ?_|refine Qg ?_ _));exact ay.out) hb);have av:=Aside0.mk (Qv (by repeat(first|(with_reducible first|exact HB.out|apply Qj|apply Qd|apply Qh|refine Qe ?_ a2.out|refine Qe ?_ a6.out|refine Qe ?_ a8.out|refine Qe ?_ au.out|refine Qe ?_ du.out)|exact HB.out)) hb);clear a3;clear a5;clear ai;clear aj;clear bc;clear bd;clear O;clear Y;clear δ;clear ρ;clear ay;clear HB;have a3:= ε;have a5:= θ;have ai:= ι;have aj:= κ;have bc:= τ;have bd:= ψ;have O:=a1;have Y:=ak;have δ :=am;have ρ:=az;have ay:=ap;have HB:=av;clear ε θ ι κ τ ψ a1 ak am az ap av;(try clear hb);(try clear a4);(try clear hk);(try clear hi)))
          go_meet
          case rel=>exact⟨_,(bp),qR,H',⟨by first|omega|exact Nat.le_refl _⟩,⟨by(with_reducible repeat(first|apply Kd.Qm|apply Kd.Ql|apply Kd.Qo));exact Kd.Qs ai.out (fun _ hk=>hk.2)⟩,⟨by(with_reducible repeat(first|apply Kd.Qm|apply Kd.Ql|apply Kd.Qo));exact Kd.Qs aj.out (fun _ hk=>hk.2)⟩,⟨by(with_reducible repeat(first|apply Kd.Qm|apply Kd.Ql|apply Kd.Qo));exact Kd.Qs bc.out (fun _ hk=>hk.2)⟩,⟨by(with_reducible repeat(first|apply Kd.Qm|apply Kd.Ql|apply Kd.Qo));exact Kd.Qs bd.out (fun _ hk=>hk.2)⟩,⟨by(with_reducible repeat(first|refine Qf ?_ _|refine Qc ?_|refine Qg ?_ _));exact O.out⟩,⟨by(with_reducible repeat(first|refine Qf ?_ _|refine Qc ?_|refine Qg ?_ _));exact Y.out⟩,⟨by(with_reducible repeat(first|refine Qf ?_ _|refine Qc ?_|refine Qg ?_ _));exact δ.out⟩,⟨by(with_reducible repeat(first|refine Qf ?_ _|refine Qc ?_|refine Qg ?_ _));exact ρ.out⟩,⟨by(with_reducible repeat(first|refine Qf ?_ _|refine Qc ?_|refine Qg ?_ _));exact ay.out⟩,⟨by repeat(first|(with_reducible first|exact HB.out|apply Qj|apply Qd|apply Qh|refine Qe ?_ a2.out|refine Qe ?_ a6.out|refine Qe ?_ a8.out|refine Qe ?_ au.out|refine Qe ?_ du.out)|exact HB.out)⟩⟩
         ·rw[if_neg he] at H
          exact absurd H (by simp)
       ·rw[if_neg ef] at H
        exact absurd H (by simp)
      ·replace ej:=Bool.eq_false_iff.mpr ej
       subst ej
       have H1:(none)=some r:=by rw[if_neg (show ¬ (false=true) by decide)] at H;exact H
       clear H
       have H:=H1
       clear H1
       exact absurd H (by simp)
     ·rw[if_neg eh] at H
      exact absurd H (by simp)
    ·replace fc:=Bool.eq_false_iff.mpr fc
     subst fc
     have H1:(none)=some r:=by rw[if_neg (show ¬ (false=true) by decide)] at H;exact H
     clear H
     have H:=H1
     clear H1
     exact absurd H (by simp)
   case rest=>
    clear iw
    try clear c1
    try clear c2
    try clear p2
    try clear c3
    try clear c4
    try clear c5
    try clear c6
    try clear p6
    try clear c7
    try clear c8
    try clear c9
    try clear c10
    try clear cg
    try clear cj
    try clear ck
    try clear mf
    try clear k7
    try clear l7
    try clear mg
    try clear l6
    try clear nc
    try clear dy
    try clear fc
    try clear eh
    try clear c49b0
    try clear c49b1
    try clear ej
    try clear ef
    try clear c53b0
    try clear c53b1
    try clear eg
    try clear c54b0
    try clear c54b1
    try clear ee
    try clear ei
    try clear ek
    try clear nf
    try clear ng
    try clear nh
    try clear ni
    try clear p64
    try clear nj
    try clear nk
    try clear he
    try clear c71b0
    try clear c71b1
    try clear nl
    try clear nm
    try clear nn
    try clear no
    try clear np
    try clear nq
    try clear nr
    try clear ns
    try clear nt
    try clear nu
    try clear fn
    try clear fo
    try clear ea
    try clear eb
    try clear eu
    try clear ev
    try clear k1
    try clear gk
    try clear gx
    try clear h0
    try clear h4
    try clear h7
    try clear h8
    try clear gj
    try clear gl
    try clear gp
    try clear gq
    try clear fw
    try clear fx
    try clear fr
    try clear ft
    try clear f4
    try clear f7
    try clear g0
    try clear g1
    try clear hh
    try clear hj
    try clear k3
    try clear k4
    try clear hu
    try clear hx
    try clear gt
    try clear gu
    try clear fp
    try clear fq
    try clear ec
    try clear ed
    try clear ew
    try clear ey
    try clear k2
    try clear gy
    try clear gz
    try clear h5
    try clear h6
    try clear h9
    try clear ha
    try clear gm
    try clear gn
    try clear gr
    try clear gs
    try clear fy
    try clear fz
    try clear fu
    try clear fv
    try clear f8
    try clear f9
    try clear g2
    try clear g3
    try clear hl
    try clear ho
    try clear k5
    try clear k6
    try clear hy
    try clear i0
    try clear gv
    try clear gw
    obtain⟨kq,ix,rfl,HA,nv,HO_538000,HO_538001,HO_547000,HO_547001,O,Y,δ,ρ,ay,HB⟩:=hcut
    cases kq with
    |zero=>exact absurd HA.out (by simp[newellaw19_CallOnce.j0])
    |succ nw=>
     have H:=HA.out
     clear HA
     simp only[newellaw19_CallOnce.j0] at H
     obtain rfl:=Option.some.inj H
     go_wp2
     go_ret
     exact⟨by first|rfl|(simp[Q1,Q0] <;> rfl)|(simp[*,Q1,Q0] <;> rfl),by repeat(first|(with_reducible first|exact HB.out|apply Qj|apply Qd|apply Qh|refine Qe ?_ a2.out|refine Qe ?_ a6.out|refine Qe ?_ a8.out|refine Qe ?_ au.out|refine Qe ?_ du.out)|exact HB.out)⟩
  ·rw[if_neg c8] at H
   have c8b0:(ci==0)=false:=beq_eq_false_iff_ne.mpr c8
   have c8b1:(ci != 0)=true:=bne_iff_ne.mpr c8
   replace H:=Option.bind_eq_some_iff.mp H
   obtain⟨df,kn,H⟩:=H
   replace H:(some df)=some r:=H
   have mi:=Aside0.mk kn
   clear kn
   obtain rfl:=Option.some.inj H
   go_enter Try.func6,Try.ntmps6
   try go_wp2_with (first|((with_reducible refine Qt (N:=3) rfl ?_);refine Qp ?hg (N:=3) ?hd (cs:=#[.int .i64 I,.int .i64 J]) (t:=23) ?hr ?_;(case hd=>rfl);(case hg=>rfl);(case hr=>first|(go_simp;done)|(go_simp;rfl));intro ν hg nx hbox hb;have ε :=Aside0.mk (Qv (by repeat(first|(with_reducible first|exact HB.out|apply Qj|apply Qd|apply Qh)|exact HB.out)) hb);have θ :=Aside0.mk (hbox);have ι :=Aside0.mk ((by rw[hg];exact(Qk (by repeat(first|(with_reducible first|exact HB.out|apply Qj|apply Qd|apply Qh)|exact HB.out))):w.heap.size ≤ ν));have κ :=Aside0.mk ((by rw[hg];exact(Qk (by repeat(first|(with_reducible first|exact HB.out|apply Qj|apply Qd|apply Qh)|exact HB.out))):w.heap.size ≤ ν));clear HB;have HB:= ε;have O:= θ;have jj:= ι;have a2:= κ;clear ε θ ι κ;clear hb hbox hg)|((with_reducible refine Qt (N:=4) rfl ?_);refine Qp ?hg (N:=4) ?hd (cs:=#[.slice Z B.length U,.slice γ D.length X]) (t:=27) ?hr ?_;(case hd=>rfl);(case hg=>rfl);(case hr=>first|(go_simp;done)|(go_simp;rfl));intro ξ hg mj hbox hb;have ε :=Aside0.mk (Qn (g:= ν) (o:=.cells #[.int .i64 I,.int .i64 J] 23 (0,0)) (by(with_reducible repeat(first|refine Qf ?_ _|refine Qc ?_|refine Qg ?_ _));exact O.out) hb);have θ :=Aside0.mk (Qv (by repeat(first|(with_reducible first|exact HB.out|apply Qj|apply Qd|apply Qh|refine Qe ?_ a2.out)|exact HB.out)) hb);have ι :=Aside0.mk (hbox);have κ :=Aside0.mk ((by rw[hg];exact(Qk (by repeat(first|(with_reducible first|exact HB.out|apply Qj|apply Qd|apply Qh|refine Qe ?_ a2.out)|exact HB.out))):w.heap.size ≤ ξ));have τ :=Aside0.mk ((by rw[hg];exact(Qk (by repeat(first|(with_reducible first|exact HB.out|apply Qj|apply Qd|apply Qh|refine Qe ?_ a2.out)|exact HB.out))):w.heap.size ≤ ξ));have ψ :=Aside0.mk ((by rw[hg];exact Nat.ne_of_lt (Q5 (g:= ν) (o:=.cells #[.int .i64 I,.int .i64 J] 23 (0,0)) (by(with_reducible repeat(first|refine Qf ?_ _|refine Qc ?_|refine Qg ?_ _));exact O.out)): ν ≠ ξ));have a1:=Aside0.mk ((by rw[hg];exact Nat.ne_of_gt (Q5 (g:= ν) (o:=.cells #[.int .i64 I,.int .i64 J] 23 (0,0)) (by(with_reducible repeat(first|refine Qf ?_ _|refine Qc ?_|refine Qg ?_ _));exact O.out)): ξ ≠ ν));clear O;clear HB;have O:= ε;have HB:= θ;have Y:= ι;have jk:= κ;have a6:= τ;have cx:= ψ;have cy:=a1;clear ε θ ι κ τ ψ a1;clear hb hbox hg)|((with_reducible refine Qt (N:=5) rfl ?_);refine Qp ?hg (N:=5) ?hd (cs:=#[.int .i64 ζ,.int .i64 L,.int .i64 η]) (t:=29) ?hr ?_;(case hd=>rfl);(case hg=>rfl);(case hr=>first|(go_simp;done)|(go_simp;rfl));intro φ hg ko hbox hb;have ε :=Aside0.mk (Qn (g:= ν) (o:=.cells #[.int .i64 I,.int .i64 J] 23 (0,0)) (by(with_reducible repeat(first|refine Qf ?_ _|refine Qc ?_|refine Qg ?_ _));exact O.out) hb);have θ :=Aside0.mk (Qn (g:= ξ) (o:=.cells #[.slice Z B.length U,.slice γ D.length X] 27 (0,0)) (by(with_reducible repeat(first|refine Qf ?_ _|refine Qc ?_|refine Qg ?_ _));exact Y.out) hb);have ι :=Aside0.mk (Qv (by repeat(first|(with_reducible first|exact HB.out|apply Qj|apply Qd|apply Qh|refine Qe ?_ a2.out|refine Qe ?_ a6.out)|exact HB.out)) hb);have κ :=Aside0.mk (hbox);have τ :=Aside0.mk ((by rw[hg];exact(Qk (by repeat(first|(with_reducible first|exact HB.out|apply Qj|apply Qd|apply Qh|refine Qe ?_ a2.out|refine Qe ?_ a6.out)|exact HB.out))):w.heap.size ≤ φ));have ψ :=Aside0.mk ((by rw[hg];exact(Qk (by repeat(first|(with_reducible first|exact HB.out|apply Qj|apply Qd|apply Qh|refine Qe ?_ a2.out|refine Qe ?_ a6.out)|exact HB.out))):w.heap.size ≤ φ));have a1:=Aside0.mk ((by rw[hg];exact Nat.ne_of_lt (Q5 (g:= ν) (o:=.cells #[.int .i64 I,.int .i64 J] 23 (0,0)) (by(with_reducible repeat(first|refine Qf ?_ _|refine Qc ?_|refine Qg ?_ _));exact O.out)): ν ≠ φ));have ak:=Aside0.mk ((by rw[hg];exact Nat.ne_of_gt (Q5 (g:= ν) (o:=.cells #[.int .i64 I,.int .i64 J] 23 (0,0)) (by(with_reducible repeat(first|refine Qf ?_ _|refine Qc ?_|refine Qg ?_ _));exact O.out)): φ ≠ ν));have am:=Aside0.mk ((by rw[hg];exact Nat.ne_of_lt (Q5 (g:= ξ) (o:=.cells #[.slice Z B.length U,.slice γ D.length X] 27 (0,0)) (by(with_reducible repeat(first|refine Qf ?_ _|refine Qc ?_|refine Qg ?_ _));exact Y.out)): ξ ≠ φ));have az:=Aside0.mk ((by rw[hg];exact Nat.ne_of_gt (Q5 (g:= ξ) (o:=.cells #[.slice Z B.length U,.slice γ D.length X] 27 (0,0)) (by(with_reducible repeat(first|refine Qf ?_ _|refine Qc ?_|refine Qg ?_ _));exact Y.out)): φ ≠ ξ));clear O;clear Y;clear HB;have O:= ε;have Y:= θ;have HB:= ι;have δ := κ;have jl:= τ;have a8:= ψ;have dv:=a1;have dw:=ak;have d9:=am;have da:=az;clear ε θ ι κ τ ψ a1 ak am az;clear hb hbox hg;have l2:=cy.out;have l3:=cx.out;have jh:=d9.out;have ji:=da.out;have jx:ko.cell? ⟨ξ,0,none⟩=some (.slice Z B.length U):=(Qa Y.out 0).trans rfl;have jy:ko.cell? ⟨ξ,1,none⟩=some (.slice γ D.length X):=(Qa Y.out 1).trans rfl;have jz:=Qb Y.out 0;have k0:=Qb Y.out 1)|((with_reducible refine Q2 (f:=9) rfl ?_);refine Zq (some 13) rfl rfl Try.func9 kr rfl #[.agg #[.slice Z B.length U,.slice γ D.length X]] rfl (by(try simp only[List.map_toArray,List.map_cons,List.map_nil]);first|done|rfl|(simp only[List.length_drop,List.length_take];rfl)) ?_;(with_reducible refine(newelref19_Few.calls _ _ B _ _ D true _ ?side1 ?side2 ?side3 ?side4 A4.out).mono ?_);(case side1=>repeat(first|exact(Kd.Qz ag.out HB.out)|(with_reducible refine Kd.Za ?_ _)|(with_reducible refine Kd.Q9 ?_ _)|(with_reducible refine Kd.Zl ?_)));(case side2=>exact ar.out);(case side3=>repeat(first|exact(Kd.Qz ah.out HB.out)|(with_reducible refine Kd.Za ?_ _)|(with_reducible refine Kd.Q9 ?_ _)|(with_reducible refine Kd.Zl ?_)));(case side4=>exact aw.out);rintro e lc ⟨rfl,hb⟩;refine⟨_,rfl, ?_⟩;have ε :=Aside0.mk (Qn (g:= ν) (o:=.cells #[.int .i64 I,.int .i64 J] 23 (0,0)) (by(with_reducible repeat(first|refine Qf ?_ _|refine Qc ?_|refine Qg ?_ _));exact O.out) hb);have θ :=Aside0.mk (Qn (g:= ξ) (o:=.cells #[.slice Z B.length U,.slice γ D.length X] 27 (0,0)) (by(with_reducible repeat(first|refine Qf ?_ _|refine Qc ?_|refine Qg ?_ _));exact Y.out) hb);have ι :=Aside0.mk (Qn (g:= φ) (o:=.cells #[.int .i64 ζ,.int .i64 L,.int .i64 η] 29 (0,0)) (by(with_reducible repeat(first|refine Qf ?_ _|refine Qc ?_|refine Qg ?_ _));exact δ.out) hb);have κ :=Aside0.mk (Qv (by repeat(first|(with_reducible first|exact HB.out|apply Qj|apply Qd|apply Qh|refine Qe ?_ a2.out|refine Qe ?_ a6.out|refine Qe ?_ a8.out)|exact HB.out)) hb);clear O;clear Y;clear δ;clear HB;have O:= ε;have Y:= θ;have δ := ι;have HB:= κ;clear ε θ ι κ;(try clear hb);(try clear a4);(try clear hk);(try clear hi)))
   have ε :=Aside0.mk (Qc O.out)
   have θ :=Aside0.mk (Qc Y.out)
   have ι :=Aside0.mk (Qc δ.out)
   have κ :=Aside0.mk (Qh HB.out)
   clear O
   clear Y
   clear δ
   clear HB
   have O:= ε
   have Y:= θ
   have δ := ι
   have HB:= κ
   clear ε θ ι κ
   refine Zv (n:=11) (S:=fun w'=>w'.cell? ⟨ν,0,none⟩=some (.int .i64 I)∧w'.cell? ⟨ν,1,none⟩=some (.int .i64 J)∧w'.cell? ⟨ξ,0,none⟩=some (.slice Z B.length U)∧w'.cell? ⟨ξ,1,none⟩=some (.slice γ D.length X)∧w'.cell? ⟨φ,0,none⟩=some (.int .i64 ζ)∧w'.cell? ⟨φ,1,none⟩=some (.int .i64 L)∧w'.cell? ⟨φ,2,none⟩=some (.int .i64 η)) (ds:=[]) #[false,false,false,false,false,false,false,false,false,false,false] kr rfl rfl ⟨(Qa O.out 0).trans rfl,(Qa O.out 1).trans rfl,(Qa Y.out 0).trans rfl,(Qa Y.out 1).trans rfl,(Qa δ.out 0).trans rfl,(Qa δ.out 1).trans rfl,(Qa δ.out 2).trans rfl⟩ (fun hHeld=>?_);refine Q8 newellaw19_CallOnce.Wn newellaw19_CallOnce.Vh (fun HT_ HW_=>?_)
   generalize lc.drew=kp at O Y δ HB hHeld ⊢
   refine qT 0 (some 17) (qB 11 1) HT_ HW_ hHeld ?_
   refine qT 1 (some 18) (qB 11 3) HT_ HW_ hHeld ?_
   refine qT 3 (some 20) (qB 11 11) HT_ HW_ hHeld ?_
   refine K9 (σ:=Value×Value×Value×Value×Nat) 2 #[true,true,true,true,true,true,true,true,true,false,false] (fun s_=>[(19,.agg #[s_.1,s_.2.1]),(21,.tuple #[.agg #[s_.2.2.1,s_.2.2.2.1],.int .i64 ci]),(7,.pointer (some ⟨s_.2.2.2.2,0,none⟩)),(16,.tuple #[.agg #[s_.2.2.1,s_.2.2.2.1],.int .i64 ci]),(22,.agg #[s_.2.2.1,s_.2.2.2.1]),(23,.int .i64 ci)]) (fun s_ w'=>(w'.cell? ⟨ν,0,none⟩=some (.int .i64 I)∧w'.cell? ⟨ν,1,none⟩=some (.int .i64 J)∧w'.cell? ⟨ξ,0,none⟩=some (.slice Z B.length U)∧w'.cell? ⟨ξ,1,none⟩=some (.slice γ D.length X)∧w'.cell? ⟨φ,0,none⟩=some (.int .i64 ζ)∧w'.cell? ⟨φ,1,none⟩=some (.int .i64 L)∧w'.cell? ⟨φ,2,none⟩=some (.int .i64 η))∧(Kd.R k56 56 w' w.heap.size (fun k_=>some k_≠(s_.2.2.1:Value).ownBlock) s_.1 bq)∧(Kd.R k62 62 w' w.heap.size (fun k_=>some k_≠(s_.2.2.2.1:Value).ownBlock) s_.2.1 br)∧(Kd.R k56 56 w' w.heap.size (fun k_=>some k_≠(s_.1:Value).ownBlock) s_.2.2.1 a9)∧(Kd.R k62 62 w' w.heap.size (fun k_=>some k_≠(s_.2.1:Value).ownBlock) s_.2.2.2.1 aa)∧(w'.heap[ν]?=some (.cells #[.int .i64 I,.int .i64 J] 23 (0,0)))∧(w'.heap[ξ]?=some (.cells #[.slice Z B.length U,.slice γ D.length X] 27 (0,0)))∧(w'.heap[φ]?=some (.cells #[.int .i64 ζ,.int .i64 L,.int .i64 η] 29 (0,0)))∧(w'.heap[s_.2.2.2.2]?=some (.cells #[.slice none 0 0,.slice none 0 0] 27 (0,0)))∧(w.heap.size≤s_.2.2.2.2)∧(w.heap.size≤s_.2.2.2.2)∧(ν ≠ s_.2.2.2.2)∧(s_.2.2.2.2 ≠ ν)∧(ξ ≠ s_.2.2.2.2)∧(s_.2.2.2.2 ≠ ξ)∧(φ ≠ s_.2.2.2.2)∧(s_.2.2.2.2 ≠ φ)∧(Below w.heap.size w w')) ?_ ?_
   rotate_left
   ·intro hCont
    refine Kj (i:=2) (j:=8) (Ni:=some 19) (Nj:=some 7) #[true,true,true,true,false,false,false,false,false,false,false] #[true,true,false,true,false,false,false,false,true,false,false] rfl rfl rfl rfl (Ye HT_.out kr) (by decide) (by decide) (fun K hK=>?_) (fun K hK=>?_)
    ·skip
     refine Zg Try.func12 kr rfl #[.agg #[.slice Z B.length U,.slice γ D.length X]] (by rfl) rfl rfl (by(try simp only[List.map_toArray,List.map_cons,List.map_nil]);first|done|rfl|(simp only[List.length_drop,List.length_take];rfl)) ?_
     with_reducible refine(newellaw19_Own.calls _ _ B _ _ D bq br _ ?side1 ?side2 ?side3 ?side4 A6.out).mono ?_
     (case side1=>repeat(first|exact(Kd.Qz ag.out HB.out)|(with_reducible refine Kd.Za ?_ _)|(with_reducible refine Kd.Q9 ?_ _)|(with_reducible refine Kd.Zl ?_)))
     (case side2=>exact ar.out)
     (case side3=>repeat(first|exact(Kd.Qz ah.out HB.out)|(with_reducible refine Kd.Za ?_ _)|(with_reducible refine Kd.Q9 ?_ _)|(with_reducible refine Kd.Zl ?_)))
     (case side4=>exact aw.out)
     rintro e ip ⟨e8,e9,rfl,χ,a7,hb⟩
     refine⟨_,rfl, ?_⟩
     have ε :=Aside0.mk (Kd.Q4 χ (Qk (by repeat(first|(with_reducible first|exact HB.out|apply Qj|apply Qd|apply Qh|refine Qe ?_ a2.out|refine Qe ?_ a6.out|refine Qe ?_ a8.out)|exact HB.out))))
     have θ :=Aside0.mk (Kd.Q4 a7 (Qk (by repeat(first|(with_reducible first|exact HB.out|apply Qj|apply Qd|apply Qh|refine Qe ?_ a2.out|refine Qe ?_ a6.out|refine Qe ?_ a8.out)|exact HB.out))))
     have ι :=Aside0.mk (Qn (g:= ν) (o:=.cells #[.int .i64 I,.int .i64 J] 23 (0,0)) (by(with_reducible repeat(first|refine Qf ?_ _|refine Qc ?_|refine Qg ?_ _));exact O.out) hb)
     have κ :=Aside0.mk (Qn (g:= ξ) (o:=.cells #[.slice Z B.length U,.slice γ D.length X] 27 (0,0)) (by(with_reducible repeat(first|refine Qf ?_ _|refine Qc ?_|refine Qg ?_ _));exact Y.out) hb)
     have τ :=Aside0.mk (Qn (g:= φ) (o:=.cells #[.int .i64 ζ,.int .i64 L,.int .i64 η] 29 (0,0)) (by(with_reducible repeat(first|refine Qf ?_ _|refine Qc ?_|refine Qg ?_ _));exact δ.out) hb)
     have ψ :=Aside0.mk (Qv (by repeat(first|(with_reducible first|exact HB.out|apply Qj|apply Qd|apply Qh|refine Qe ?_ a2.out|refine Qe ?_ a6.out|refine Qe ?_ a8.out)|exact HB.out)) hb)
     clear O
     clear Y
     clear δ
     clear HB
     have a3:= ε
     have a5:= θ
     have O:= ι
     have Y:= κ
     have δ := τ
     have HB:= ψ
     clear ε θ ι κ τ ψ
     (try clear hb)
     (try clear a4)
     (try clear hk)
     (try clear hi)
     (try clear χ)
     (try clear a7)
     obtain⟨jn,jo,jp⟩:=Kd.Q6 a3.out
     (first|subst jp|(injection jp with ω ab a0;have ac:= ω.symm;have ae:=a0.symm;clear ω ab a0;subst ac;subst ae))
     obtain⟨dp,dq,dr⟩:=Kd.Q6 a5.out
     (first|subst dr|(injection dr with ω ab a0;have ac:= ω.symm;have ae:=a0.symm;clear ω ab a0;subst ac;subst ae))
     refine hK.out _ _ ⟨(Qa O.out 0).trans rfl,(Qa O.out 1).trans rfl,(Qa Y.out 0).trans rfl,(Qa Y.out 1).trans rfl,(Qa δ.out 0).trans rfl,(Qa δ.out 1).trans rfl,(Qa δ.out 2).trans rfl⟩ (fun hHeld=>?_)
     clear hK K
     refine qN (some 19) ?_
     refine Kj (i:=4) (j:=8) (Ni:=some 21) (Nj:=some 7) #[true,true,true,true,true,false,false,false,false,false,false] #[true,true,true,true,false,false,false,false,true,false,false] rfl rfl rfl rfl (Ye HT_.out kr) (by decide) (by decide) (fun K hK=>?_) (fun K hK=>?_)
     ·skip
      refine Zg Try.func11 kr rfl #[.agg #[.int .i64 I,.int .i64 J],.agg #[.slice jn bq.length jo,.slice dp br.length dq],.agg #[.int .i64 ζ,.int .i64 L,.int .i64 η]] (by rfl) rfl rfl (by(try simp only[List.map_toArray,List.map_cons,List.map_nil]);first|done|rfl|(simp only[List.length_drop,List.length_take];rfl)) ?_
      with_reducible refine(call_Press.calls k I J _ _ bq _ _ br ζ L η a9 aa ci _ ?side1 ?side2 ?side3 ?side4 A7.out).mono ?_
      (case side1=>repeat(first|exact(Kd.Qr a3.out).2.2|(with_reducible refine Kd.Za ?_ _)|(with_reducible refine Kd.Q9 ?_ _)|(with_reducible refine Kd.Zl ?_)))
      (case side2=>exact(Kd.Qr a3.out).2.1)
      (case side3=>repeat(first|exact(Kd.Qr a5.out).2.2|(with_reducible refine Kd.Za ?_ _)|(with_reducible refine Kd.Q9 ?_ _)|(with_reducible refine Kd.Zl ?_)))
      (case side4=>exact(Kd.Qr a5.out).2.1)
      rintro e n2 ⟨cz,d0,rfl,χ,a7,hb⟩
      refine⟨_,rfl, ?_⟩
      have ε :=Aside0.mk (Kd.Q7 (by(with_reducible repeat(first|apply Kd.Qm|apply Kd.Ql|apply Kd.Qo));exact a3.out) (Kd.Zn χ) hb)
      have θ :=Aside0.mk (Kd.Q7 (by(with_reducible repeat(first|apply Kd.Qm|apply Kd.Ql|apply Kd.Qo));exact a5.out) (Kd.Zn a7) hb)
      have ι :=Aside0.mk (Kd.Q4 (Kd.Zr χ (Kd.Z4 (by(with_reducible repeat(first|apply Kd.Qm|apply Kd.Ql|apply Kd.Qo));exact a3.out))) (Qk (by repeat(first|(with_reducible first|exact HB.out|apply Qj|apply Qd|apply Qh|refine Qe ?_ a2.out|refine Qe ?_ a6.out|refine Qe ?_ a8.out)|exact HB.out))))
      have κ :=Aside0.mk (Kd.Q4 (Kd.Zr a7 (Kd.Z4 (by(with_reducible repeat(first|apply Kd.Qm|apply Kd.Ql|apply Kd.Qo));exact a5.out))) (Qk (by repeat(first|(with_reducible first|exact HB.out|apply Qj|apply Qd|apply Qh|refine Qe ?_ a2.out|refine Qe ?_ a6.out|refine Qe ?_ a8.out)|exact HB.out))))
      have τ :=Aside0.mk (Qn (g:= ν) (o:=.cells #[.int .i64 I,.int .i64 J] 23 (0,0)) (by(with_reducible repeat(first|refine Qf ?_ _|refine Qc ?_|refine Qg ?_ _));exact O.out) hb)
      have ψ :=Aside0.mk (Qn (g:= ξ) (o:=.cells #[.slice Z B.length U,.slice γ D.length X] 27 (0,0)) (by(with_reducible repeat(first|refine Qf ?_ _|refine Qc ?_|refine Qg ?_ _));exact Y.out) hb)
      have a1:=Aside0.mk (Qn (g:= φ) (o:=.cells #[.int .i64 ζ,.int .i64 L,.int .i64 η] 29 (0,0)) (by(with_reducible repeat(first|refine Qf ?_ _|refine Qc ?_|refine Qg ?_ _));exact δ.out) hb)
      have ak:=Aside0.mk (Qv (by repeat(first|(with_reducible first|exact HB.out|apply Qj|apply Qd|apply Qh|refine Qe ?_ a2.out|refine Qe ?_ a6.out|refine Qe ?_ a8.out)|exact HB.out)) hb)
      clear a3
      clear a5
      clear O
      clear Y
      clear δ
      clear HB
      have a3:= ε
      have a5:= θ
      have ai:= ι
      have aj:= κ
      have O:= τ
      have Y:= ψ
      have δ :=a1
      have HB:=ak
      clear ε θ ι κ τ ψ a1 ak
      (try clear hb)
      (try clear a4)
      (try clear hk)
      (try clear hi)
      (try clear χ)
      (try clear a7)
      refine hK.out _ _ ⟨(Qa O.out 0).trans rfl,(Qa O.out 1).trans rfl,(Qa Y.out 0).trans rfl,(Qa Y.out 1).trans rfl,(Qa δ.out 0).trans rfl,(Qa δ.out 1).trans rfl,(Qa δ.out 2).trans rfl⟩ (fun hHeld=>?_)
      clear hK K
      refine qN (some 21) ?_
      refine qP 5 (some 16) (qB 11 63) HT_ ?_
      refine qP 6 (some 22) (qB 11 127) HT_ ?_
      refine qP 7 (some 23) (qB 11 255) HT_ ?_
      refine Zm (i:=8) (N:=some 7) #[true,true,true,true,true,true,true,true,true,false,false] rfl rfl (Q3 HT_.out kr) (by decide) (fun K hK=>?_)
      refine Xk ?hg (N:=7) ?hd (cs:=#[.slice none 0 0,.slice none 0 0]) (t:=27) ?hr ?_;(case hd=>rfl);(case hg=>rfl);(case hr=>first|(go_simp;done)|(go_simp;rfl))
      intro μ hg iy hbox hb
      have ε :=Aside0.mk (Kd.Qw (by(with_reducible repeat(first|apply Kd.Qm|apply Kd.Ql|apply Kd.Qo));exact a3.out) hb)
      have θ :=Aside0.mk (Kd.Qw (by(with_reducible repeat(first|apply Kd.Qm|apply Kd.Ql|apply Kd.Qo));exact a5.out) hb)
      have ι :=Aside0.mk (Kd.Qw (by(with_reducible repeat(first|apply Kd.Qm|apply Kd.Ql|apply Kd.Qo));exact ai.out) hb)
      have κ :=Aside0.mk (Kd.Qw (by(with_reducible repeat(first|apply Kd.Qm|apply Kd.Ql|apply Kd.Qo));exact aj.out) hb)
      have τ :=Aside0.mk (Qn (g:= ν) (o:=.cells #[.int .i64 I,.int .i64 J] 23 (0,0)) (by(with_reducible repeat(first|refine Qf ?_ _|refine Qc ?_|refine Qg ?_ _));exact O.out) hb)
      have ψ :=Aside0.mk (Qn (g:= ξ) (o:=.cells #[.slice Z B.length U,.slice γ D.length X] 27 (0,0)) (by(with_reducible repeat(first|refine Qf ?_ _|refine Qc ?_|refine Qg ?_ _));exact Y.out) hb)
      have a1:=Aside0.mk (Qn (g:= φ) (o:=.cells #[.int .i64 ζ,.int .i64 L,.int .i64 η] 29 (0,0)) (by(with_reducible repeat(first|refine Qf ?_ _|refine Qc ?_|refine Qg ?_ _));exact δ.out) hb)
      have ak:=Aside0.mk (Qv (by repeat(first|(with_reducible first|exact HB.out|apply Qj|apply Qd|apply Qh|refine Qe ?_ a2.out|refine Qe ?_ a6.out|refine Qe ?_ a8.out)|exact HB.out)) hb)
      have am:=Aside0.mk (hbox)
      have az:=Aside0.mk ((by rw[hg];exact(Qk (by repeat(first|(with_reducible first|exact HB.out|apply Qj|apply Qd|apply Qh|refine Qe ?_ a2.out|refine Qe ?_ a6.out|refine Qe ?_ a8.out)|exact HB.out))):w.heap.size ≤ μ))
      have ap:=Aside0.mk ((by rw[hg];exact(Qk (by repeat(first|(with_reducible first|exact HB.out|apply Qj|apply Qd|apply Qh|refine Qe ?_ a2.out|refine Qe ?_ a6.out|refine Qe ?_ a8.out)|exact HB.out))):w.heap.size ≤ μ))
      have av:=Aside0.mk ((by rw[hg];exact Nat.ne_of_lt (Q5 (g:= ν) (o:=.cells #[.int .i64 I,.int .i64 J] 23 (0,0)) (by(with_reducible repeat(first|refine Qf ?_ _|refine Qc ?_|refine Qg ?_ _));exact O.out)): ν ≠ μ))
      have b0:=Aside0.mk ((by rw[hg];exact Nat.ne_of_gt (Q5 (g:= ν) (o:=.cells #[.int .i64 I,.int .i64 J] 23 (0,0)) (by(with_reducible repeat(first|refine Qf ?_ _|refine Qc ?_|refine Qg ?_ _));exact O.out)): μ ≠ ν))
      have ba:=Aside0.mk ((by rw[hg];exact Nat.ne_of_lt (Q5 (g:= ξ) (o:=.cells #[.slice Z B.length U,.slice γ D.length X] 27 (0,0)) (by(with_reducible repeat(first|refine Qf ?_ _|refine Qc ?_|refine Qg ?_ _));exact Y.out)): ξ ≠ μ))
      have bb:=Aside0.mk ((by rw[hg];exact Nat.ne_of_gt (Q5 (g:= ξ) (o:=.cells #[.slice Z B.length U,.slice γ D.length X] 27 (0,0)) (by(with_reducible repeat(first|refine Qf ?_ _|refine Qc ?_|refine Qg ?_ _));exact Y.out)): μ ≠ ξ))
      have bf:=Aside0.mk ((by rw[hg];exact Nat.ne_of_lt (Q5 (g:= φ) (o:=.cells #[.int .i64 ζ,.int .i64 L,.int .i64 η] 29 (0,0)) (by(with_reducible repeat(first|refine Qf ?_ _|refine Qc ?_|refine Qg ?_ _));exact δ.out)): φ ≠ μ))
      have bg:=Aside0.mk ((by rw[hg];exact Nat.ne_of_gt (Q5 (g:= φ) (o:=.cells #[.int .i64 ζ,.int .i64 L,.int .i64 η] 29 (0,0)) (by(with_reducible repeat(first|refine Qf ?_ _|refine Qc ?_|refine Qg ?_ _));exact δ.out)): μ ≠ φ))
      clear a3
      clear a5
      clear ai
      clear aj
      clear O
      clear Y
      clear δ
      clear HB
      have a3:= ε
      have a5:= θ
      have ai:= ι
      have aj:= κ
      have O:= τ
      have Y:= ψ
      have δ :=a1
      have HB:=ak
      have ρ:=am
      have d5:=az
      have au:=ap
      have an:=av
      have b1:=b0
      have ao:=ba
      have b2:=bb
      have al:=bf
      have b3:=bg
      clear ε θ ι κ τ ψ a1 ak am az ap av b0 ba bb bf bg
      clear hb hbox hg
      refine hK.out _ _ ⟨(Qa O.out 0).trans rfl,(Qa O.out 1).trans rfl,(Qa Y.out 0).trans rfl,(Qa Y.out 1).trans rfl,(Qa δ.out 0).trans rfl,(Qa δ.out 1).trans rfl,(Qa δ.out 2).trans rfl⟩ (fun hHeld=>?_)
      clear hK K
      refine qN (some 7) ?_
      exact Xj (by simp only[Z3,Act.put,qS]) (hCont (.slice jn bq.length jo,.slice dp br.length dq,cz,d0,μ) _ ⟨hHeld,(by(with_reducible repeat(first|apply Kd.Qm|apply Kd.Ql|apply Kd.Qo));exact Kd.Qs a3.out (fun _ hk=>hk.2)),(by(with_reducible repeat(first|apply Kd.Qm|apply Kd.Ql|apply Kd.Qo));exact Kd.Qs a5.out (fun _ hk=>hk.2)),(by(with_reducible repeat(first|apply Kd.Qm|apply Kd.Ql|apply Kd.Qo));exact Kd.Qs ai.out (fun _ hk=>hk.2)),(by(with_reducible repeat(first|apply Kd.Qm|apply Kd.Ql|apply Kd.Qo));exact Kd.Qs aj.out (fun _ hk=>hk.2)),(by(with_reducible repeat(first|refine Qf ?_ _|refine Qc ?_|refine Qg ?_ _));exact O.out),(by(with_reducible repeat(first|refine Qf ?_ _|refine Qc ?_|refine Qg ?_ _));exact Y.out),(by(with_reducible repeat(first|refine Qf ?_ _|refine Qc ?_|refine Qg ?_ _));exact δ.out),(by(with_reducible repeat(first|refine Qf ?_ _|refine Qc ?_|refine Qg ?_ _));exact ρ.out),d5.out,au.out,an.out,b1.out,ao.out,b2.out,al.out,b3.out,(by repeat(first|(with_reducible first|exact HB.out|apply Qj|apply Qd|apply Qh|refine Qe ?_ a2.out|refine Qe ?_ a6.out|refine Qe ?_ a8.out|refine Qe ?_ au.out)|exact HB.out))⟩)
     ·skip
      refine Xk ?hg (N:=7) ?hd (cs:=#[.slice none 0 0,.slice none 0 0]) (t:=27) ?hr ?_;(case hd=>rfl);(case hg=>rfl);(case hr=>first|(go_simp;done)|(go_simp;rfl))
      intro μ hg im hbox hb
      have ε :=Aside0.mk (Kd.Qw (by(with_reducible repeat(first|apply Kd.Qm|apply Kd.Ql|apply Kd.Qo));exact a3.out) hb)
      have θ :=Aside0.mk (Kd.Qw (by(with_reducible repeat(first|apply Kd.Qm|apply Kd.Ql|apply Kd.Qo));exact a5.out) hb)
      have ι :=Aside0.mk (Qn (g:= ν) (o:=.cells #[.int .i64 I,.int .i64 J] 23 (0,0)) (by(with_reducible repeat(first|refine Qf ?_ _|refine Qc ?_|refine Qg ?_ _));exact O.out) hb)
      have κ :=Aside0.mk (Qn (g:= ξ) (o:=.cells #[.slice Z B.length U,.slice γ D.length X] 27 (0,0)) (by(with_reducible repeat(first|refine Qf ?_ _|refine Qc ?_|refine Qg ?_ _));exact Y.out) hb)
      have τ :=Aside0.mk (Qn (g:= φ) (o:=.cells #[.int .i64 ζ,.int .i64 L,.int .i64 η] 29 (0,0)) (by(with_reducible repeat(first|refine Qf ?_ _|refine Qc ?_|refine Qg ?_ _));exact δ.out) hb)
      have ψ :=Aside0.mk (Qv (by repeat(first|(with_reducible first|exact HB.out|apply Qj|apply Qd|apply Qh|refine Qe ?_ a2.out|refine Qe ?_ a6.out|refine Qe ?_ a8.out)|exact HB.out)) hb)
      have a1:=Aside0.mk (hbox)
      have ak:=Aside0.mk ((by rw[hg];exact(Qk (by repeat(first|(with_reducible first|exact HB.out|apply Qj|apply Qd|apply Qh|refine Qe ?_ a2.out|refine Qe ?_ a6.out|refine Qe ?_ a8.out)|exact HB.out))):w.heap.size ≤ μ))
      have am:=Aside0.mk ((by rw[hg];exact(Qk (by repeat(first|(with_reducible first|exact HB.out|apply Qj|apply Qd|apply Qh|refine Qe ?_ a2.out|refine Qe ?_ a6.out|refine Qe ?_ a8.out)|exact HB.out))):w.heap.size ≤ μ))
      have az:=Aside0.mk ((by rw[hg];exact Nat.ne_of_lt (Q5 (g:= ν) (o:=.cells #[.int .i64 I,.int .i64 J] 23 (0,0)) (by(with_reducible repeat(first|refine Qf ?_ _|refine Qc ?_|refine Qg ?_ _));exact O.out)): ν ≠ μ))
      have ap:=Aside0.mk ((by rw[hg];exact Nat.ne_of_gt (Q5 (g:= ν) (o:=.cells #[.int .i64 I,.int .i64 J] 23 (0,0)) (by(with_reducible repeat(first|refine Qf ?_ _|refine Qc ?_|refine Qg ?_ _));exact O.out)): μ ≠ ν))
      have av:=Aside0.mk ((by rw[hg];exact Nat.ne_of_lt (Q5 (g:= ξ) (o:=.cells #[.slice Z B.length U,.slice γ D.length X] 27 (0,0)) (by(with_reducible repeat(first|refine Qf ?_ _|refine Qc ?_|refine Qg ?_ _));exact Y.out)): ξ ≠ μ))
      have b0:=Aside0.mk ((by rw[hg];exact Nat.ne_of_gt (Q5 (g:= ξ) (o:=.cells #[.slice Z B.length U,.slice γ D.length X] 27 (0,0)) (by(with_reducible repeat(first|refine Qf ?_ _|refine Qc ?_|refine Qg ?_ _));exact Y.out)): μ ≠ ξ))
      have ba:=Aside0.mk ((by rw[hg];exact Nat.ne_of_lt (Q5 (g:= φ) (o:=.cells #[.int .i64 ζ,.int .i64 L,.int .i64 η] 29 (0,0)) (by(with_reducible repeat(first|refine Qf ?_ _|refine Qc ?_|refine Qg ?_ _));exact δ.out)): φ ≠ μ))
      have bb:=Aside0.mk ((by rw[hg];exact Nat.ne_of_gt (Q5 (g:= φ) (o:=.cells #[.int .i64 ζ,.int .i64 L,.int .i64 η] 29 (0,0)) (by(with_reducible repeat(first|refine Qf ?_ _|refine Qc ?_|refine Qg ?_ _));exact δ.out)): μ ≠ φ))
      clear a3
      clear a5
      clear O
      clear Y
      clear δ
      clear HB
      have a3:= ε
      have a5:= θ
      have O:= ι
      have Y:= κ
      have δ := τ
      have HB:= ψ
      have ρ:=a1
      have d5:=ak
      have au:=am
      have an:=az
      have b1:=ap
      have ao:=av
      have b2:=b0
      have al:=ba
      have b3:=bb
      clear ε θ ι κ τ ψ a1 ak am az ap av b0 ba bb
      clear hb hbox hg
      obtain⟨dp,dq,dr⟩:=Kd.Q6 a3.out
      (first|subst dr|(injection dr with ω ab a0;have ac:= ω.symm;have ae:=a0.symm;clear ω ab a0;subst ac;subst ae))
      obtain⟨cm,cn,co⟩:=Kd.Q6 a5.out
      (first|subst co|(injection co with ω ab a0;have ac:= ω.symm;have ae:=a0.symm;clear ω ab a0;subst ac;subst ae))
      refine hK.out _ _ ⟨(Qa O.out 0).trans rfl,(Qa O.out 1).trans rfl,(Qa Y.out 0).trans rfl,(Qa Y.out 1).trans rfl,(Qa δ.out 0).trans rfl,(Qa δ.out 1).trans rfl,(Qa δ.out 2).trans rfl⟩ (fun hHeld=>?_)
      clear hK K
      refine qN (some 7) ?_
      refine Zm (i:=4) (N:=some 21) #[true,true,true,true,true,false,false,false,true,false,false] rfl rfl (Q3 HT_.out kr) (by decide) (fun K hK=>?_)
      refine Zg Try.func11 kr rfl #[.agg #[.int .i64 I,.int .i64 J],.agg #[.slice dp bq.length dq,.slice cm br.length cn],.agg #[.int .i64 ζ,.int .i64 L,.int .i64 η]] (by rfl) rfl rfl (by(try simp only[List.map_toArray,List.map_cons,List.map_nil]);first|done|rfl|(simp only[List.length_drop,List.length_take];rfl)) ?_
      with_reducible refine(call_Press.calls k I J _ _ bq _ _ br ζ L η a9 aa ci _ ?side1 ?side2 ?side3 ?side4 A7.out).mono ?_
      (case side1=>repeat(first|exact(Kd.Qr a3.out).2.2|(with_reducible refine Kd.Za ?_ _)|(with_reducible refine Kd.Q9 ?_ _)|(with_reducible refine Kd.Zl ?_)))
      (case side2=>exact(Kd.Qr a3.out).2.1)
      (case side3=>repeat(first|exact(Kd.Qr a5.out).2.2|(with_reducible refine Kd.Za ?_ _)|(with_reducible refine Kd.Q9 ?_ _)|(with_reducible refine Kd.Zl ?_)))
      (case side4=>exact(Kd.Qr a5.out).2.1)
      rintro e iy ⟨cz,d0,rfl,χ,a7,hb⟩
      refine⟨_,rfl, ?_⟩
      have ε :=Aside0.mk (Kd.Q7 (by(with_reducible repeat(first|apply Kd.Qm|apply Kd.Ql|apply Kd.Qo));exact a3.out) (Kd.Zn χ) hb)
      have θ :=Aside0.mk (Kd.Q7 (by(with_reducible repeat(first|apply Kd.Qm|apply Kd.Ql|apply Kd.Qo));exact a5.out) (Kd.Zn a7) hb)
      have ι :=Aside0.mk (Kd.Q4 (Kd.Zr χ (Kd.Z4 (by(with_reducible repeat(first|apply Kd.Qm|apply Kd.Ql|apply Kd.Qo));exact a3.out))) (Qk (by repeat(first|(with_reducible first|exact HB.out|apply Qj|apply Qd|apply Qh|refine Qe ?_ a2.out|refine Qe ?_ a6.out|refine Qe ?_ a8.out|refine Qe ?_ au.out)|exact HB.out))))
      have κ :=Aside0.mk (Kd.Q4 (Kd.Zr a7 (Kd.Z4 (by(with_reducible repeat(first|apply Kd.Qm|apply Kd.Ql|apply Kd.Qo));exact a5.out))) (Qk (by repeat(first|(with_reducible first|exact HB.out|apply Qj|apply Qd|apply Qh|refine Qe ?_ a2.out|refine Qe ?_ a6.out|refine Qe ?_ a8.out|refine Qe ?_ au.out)|exact HB.out))))
      have τ :=Aside0.mk (Qn (g:= ν) (o:=.cells #[.int .i64 I,.int .i64 J] 23 (0,0)) (by(with_reducible repeat(first|refine Qf ?_ _|refine Qc ?_|refine Qg ?_ _));exact O.out) hb)
      have ψ :=Aside0.mk (Qn (g:= ξ) (o:=.cells #[.slice Z B.length U,.slice γ D.length X] 27 (0,0)) (by(with_reducible repeat(first|refine Qf ?_ _|refine Qc ?_|refine Qg ?_ _));exact Y.out) hb)
      have a1:=Aside0.mk (Qn (g:= φ) (o:=.cells #[.int .i64 ζ,.int .i64 L,.int .i64 η] 29 (0,0)) (by(with_reducible repeat(first|refine Qf ?_ _|refine Qc ?_|refine Qg ?_ _));exact δ.out) hb)
      have ak:=Aside0.mk (Qn (g:= μ) (o:=.cells #[.slice none 0 0,.slice none 0 0] 27 (0,0)) (by(with_reducible repeat(first|refine Qf ?_ _|refine Qc ?_|refine Qg ?_ _));exact ρ.out) hb)
      have am:=Aside0.mk (Qv (by repeat(first|(with_reducible first|exact HB.out|apply Qj|apply Qd|apply Qh|refine Qe ?_ a2.out|refine Qe ?_ a6.out|refine Qe ?_ a8.out|refine Qe ?_ au.out)|exact HB.out)) hb)
      clear a3
      clear a5
      clear O
      clear Y
      clear δ
      clear ρ
      clear HB
      have a3:= ε
      have a5:= θ
      have ai:= ι
      have aj:= κ
      have O:= τ
      have Y:= ψ
      have δ :=a1
      have ρ:=ak
      have HB:=am
      clear ε θ ι κ τ ψ a1 ak am
      (try clear hb)
      (try clear a4)
      (try clear hk)
      (try clear hi)
      (try clear χ)
      (try clear a7)
      refine hK.out _ _ ⟨(Qa O.out 0).trans rfl,(Qa O.out 1).trans rfl,(Qa Y.out 0).trans rfl,(Qa Y.out 1).trans rfl,(Qa δ.out 0).trans rfl,(Qa δ.out 1).trans rfl,(Qa δ.out 2).trans rfl⟩ (fun hHeld=>?_)
      clear hK K
      refine qN (some 21) ?_
      refine qP 5 (some 16) (qB 11 319) HT_ ?_
      refine qP 6 (some 22) (qB 11 383) HT_ ?_
      refine qP 7 (some 23) (qB 11 511) HT_ ?_
      exact Xj (by simp only[Z3,Act.put,qS]) (hCont (.slice dp bq.length dq,.slice cm br.length cn,cz,d0,μ) _ ⟨hHeld,(by(with_reducible repeat(first|apply Kd.Qm|apply Kd.Ql|apply Kd.Qo));exact Kd.Qs a3.out (fun _ hk=>hk.2)),(by(with_reducible repeat(first|apply Kd.Qm|apply Kd.Ql|apply Kd.Qo));exact Kd.Qs a5.out (fun _ hk=>hk.2)),(by(with_reducible repeat(first|apply Kd.Qm|apply Kd.Ql|apply Kd.Qo));exact Kd.Qs ai.out (fun _ hk=>hk.2)),(by(with_reducible repeat(first|apply Kd.Qm|apply Kd.Ql|apply Kd.Qo));exact Kd.Qs aj.out (fun _ hk=>hk.2)),(by(with_reducible repeat(first|refine Qf ?_ _|refine Qc ?_|refine Qg ?_ _));exact O.out),(by(with_reducible repeat(first|refine Qf ?_ _|refine Qc ?_|refine Qg ?_ _));exact Y.out),(by(with_reducible repeat(first|refine Qf ?_ _|refine Qc ?_|refine Qg ?_ _));exact δ.out),(by(with_reducible repeat(first|refine Qf ?_ _|refine Qc ?_|refine Qg ?_ _));exact ρ.out),d5.out,au.out,an.out,b1.out,ao.out,b2.out,al.out,b3.out,(by repeat(first|(with_reducible first|exact HB.out|apply Qj|apply Qd|apply Qh|refine Qe ?_ a2.out|refine Qe ?_ a6.out|refine Qe ?_ a8.out|refine Qe ?_ au.out)|exact HB.out))⟩)
    ·skip
     refine Xk ?hg (N:=7) ?hd (cs:=#[.slice none 0 0,.slice none 0 0]) (t:=27) ?hr ?_;(case hd=>rfl);(case hg=>rfl);(case hr=>first|(go_simp;done)|(go_simp;rfl))
     intro μ hg ip hbox hb
     have ε :=Aside0.mk (Qn (g:= ν) (o:=.cells #[.int .i64 I,.int .i64 J] 23 (0,0)) (by(with_reducible repeat(first|refine Qf ?_ _|refine Qc ?_|refine Qg ?_ _));exact O.out) hb)
     have θ :=Aside0.mk (Qn (g:= ξ) (o:=.cells #[.slice Z B.length U,.slice γ D.length X] 27 (0,0)) (by(with_reducible repeat(first|refine Qf ?_ _|refine Qc ?_|refine Qg ?_ _));exact Y.out) hb)
     have ι :=Aside0.mk (Qn (g:= φ) (o:=.cells #[.int .i64 ζ,.int .i64 L,.int .i64 η] 29 (0,0)) (by(with_reducible repeat(first|refine Qf ?_ _|refine Qc ?_|refine Qg ?_ _));exact δ.out) hb)
     have κ :=Aside0.mk (Qv (by repeat(first|(with_reducible first|exact HB.out|apply Qj|apply Qd|apply Qh|refine Qe ?_ a2.out|refine Qe ?_ a6.out|refine Qe ?_ a8.out)|exact HB.out)) hb)
     have τ :=Aside0.mk (hbox)
     have ψ :=Aside0.mk ((by rw[hg];exact(Qk (by repeat(first|(with_reducible first|exact HB.out|apply Qj|apply Qd|apply Qh|refine Qe ?_ a2.out|refine Qe ?_ a6.out|refine Qe ?_ a8.out)|exact HB.out))):w.heap.size ≤ μ))
     have a1:=Aside0.mk ((by rw[hg];exact(Qk (by repeat(first|(with_reducible first|exact HB.out|apply Qj|apply Qd|apply Qh|refine Qe ?_ a2.out|refine Qe ?_ a6.out|refine Qe ?_ a8.out)|exact HB.out))):w.heap.size ≤ μ))
     have ak:=Aside0.mk ((by rw[hg];exact Nat.ne_of_lt (Q5 (g:= ν) (o:=.cells #[.int .i64 I,.int .i64 J] 23 (0,0)) (by(with_reducible repeat(first|refine Qf ?_ _|refine Qc ?_|refine Qg ?_ _));exact O.out)): ν ≠ μ))
     have am:=Aside0.mk ((by rw[hg];exact Nat.ne_of_gt (Q5 (g:= ν) (o:=.cells #[.int .i64 I,.int .i64 J] 23 (0,0)) (by(with_reducible repeat(first|refine Qf ?_ _|refine Qc ?_|refine Qg ?_ _));exact O.out)): μ ≠ ν))
     have az:=Aside0.mk ((by rw[hg];exact Nat.ne_of_lt (Q5 (g:= ξ) (o:=.cells #[.slice Z B.length U,.slice γ D.length X] 27 (0,0)) (by(with_reducible repeat(first|refine Qf ?_ _|refine Qc ?_|refine Qg ?_ _));exact Y.out)): ξ ≠ μ))
     have ap:=Aside0.mk ((by rw[hg];exact Nat.ne_of_gt (Q5 (g:= ξ) (o:=.cells #[.slice Z B.length U,.slice γ D.length X] 27 (0,0)) (by(with_reducible repeat(first|refine Qf ?_ _|refine Qc ?_|refine Qg ?_ _));exact Y.out)): μ ≠ ξ))
     have av:=Aside0.mk ((by rw[hg];exact Nat.ne_of_lt (Q5 (g:= φ) (o:=.cells #[.int .i64 ζ,.int .i64 L,.int .i64 η] 29 (0,0)) (by(with_reducible repeat(first|refine Qf ?_ _|refine Qc ?_|refine Qg ?_ _));exact δ.out)): φ ≠ μ))
     have b0:=Aside0.mk ((by rw[hg];exact Nat.ne_of_gt (Q5 (g:= φ) (o:=.cells #[.int .i64 ζ,.int .i64 L,.int .i64 η] 29 (0,0)) (by(with_reducible repeat(first|refine Qf ?_ _|refine Qc ?_|refine Qg ?_ _));exact δ.out)): μ ≠ φ))
     clear O
     clear Y
     clear δ
     clear HB
     have O:= ε
     have Y:= θ
     have δ := ι
     have HB:= κ
     have ρ:= τ
     have d5:= ψ
     have au:=a1
     have an:=ak
     have b1:=am
     have ao:=az
     have b2:=ap
     have al:=av
     have b3:=b0
     clear ε θ ι κ τ ψ a1 ak am az ap av b0
     clear hb hbox hg
     refine hK.out _ _ ⟨(Qa O.out 0).trans rfl,(Qa O.out 1).trans rfl,(Qa Y.out 0).trans rfl,(Qa Y.out 1).trans rfl,(Qa δ.out 0).trans rfl,(Qa δ.out 1).trans rfl,(Qa δ.out 2).trans rfl⟩ (fun hHeld=>?_)
     clear hK K
     refine qN (some 7) ?_
     refine Zm (i:=2) (N:=some 19) #[true,true,true,true,false,false,false,false,true,false,false] rfl rfl (Q3 HT_.out kr) (by decide) (fun K hK=>?_)
     refine Zg Try.func12 kr rfl #[.agg #[.slice Z B.length U,.slice γ D.length X]] (by rfl) rfl rfl (by(try simp only[List.map_toArray,List.map_cons,List.map_nil]);first|done|rfl|(simp only[List.length_drop,List.length_take];rfl)) ?_
     with_reducible refine(newellaw19_Own.calls _ _ B _ _ D bq br _ ?side1 ?side2 ?side3 ?side4 A6.out).mono ?_
     (case side1=>repeat(first|exact(Kd.Qz ag.out HB.out)|(with_reducible refine Kd.Za ?_ _)|(with_reducible refine Kd.Q9 ?_ _)|(with_reducible refine Kd.Zl ?_)))
     (case side2=>exact ar.out)
     (case side3=>repeat(first|exact(Kd.Qz ah.out HB.out)|(with_reducible refine Kd.Za ?_ _)|(with_reducible refine Kd.Q9 ?_ _)|(with_reducible refine Kd.Zl ?_)))
     (case side4=>exact aw.out)
     rintro e im ⟨e8,e9,rfl,χ,a7,hb⟩
     refine⟨_,rfl, ?_⟩
     have ε :=Aside0.mk (Kd.Q4 χ (Qk (by repeat(first|(with_reducible first|exact HB.out|apply Qj|apply Qd|apply Qh|refine Qe ?_ a2.out|refine Qe ?_ a6.out|refine Qe ?_ a8.out|refine Qe ?_ au.out)|exact HB.out))))
     have θ :=Aside0.mk (Kd.Q4 a7 (Qk (by repeat(first|(with_reducible first|exact HB.out|apply Qj|apply Qd|apply Qh|refine Qe ?_ a2.out|refine Qe ?_ a6.out|refine Qe ?_ a8.out|refine Qe ?_ au.out)|exact HB.out))))
     have ι :=Aside0.mk (Qn (g:= ν) (o:=.cells #[.int .i64 I,.int .i64 J] 23 (0,0)) (by(with_reducible repeat(first|refine Qf ?_ _|refine Qc ?_|refine Qg ?_ _));exact O.out) hb)
     have κ :=Aside0.mk (Qn (g:= ξ) (o:=.cells #[.slice Z B.length U,.slice γ D.length X] 27 (0,0)) (by(with_reducible repeat(first|refine Qf ?_ _|refine Qc ?_|refine Qg ?_ _));exact Y.out) hb)
     have τ :=Aside0.mk (Qn (g:= φ) (o:=.cells #[.int .i64 ζ,.int .i64 L,.int .i64 η] 29 (0,0)) (by(with_reducible repeat(first|refine Qf ?_ _|refine Qc ?_|refine Qg ?_ _));exact δ.out) hb)
     have ψ :=Aside0.mk (Qn (g:= μ) (o:=.cells #[.slice none 0 0,.slice none 0 0] 27 (0,0)) (by(with_reducible repeat(first|refine Qf ?_ _|refine Qc ?_|refine Qg ?_ _));exact ρ.out) hb)
     have a1:=Aside0.mk (Qv (by repeat(first|(with_reducible first|exact HB.out|apply Qj|apply Qd|apply Qh|refine Qe ?_ a2.out|refine Qe ?_ a6.out|refine Qe ?_ a8.out|refine Qe ?_ au.out)|exact HB.out)) hb)
     clear O
     clear Y
     clear δ
     clear ρ
     clear HB
     have a3:= ε
     have a5:= θ
     have O:= ι
     have Y:= κ
     have δ := τ
     have ρ:= ψ
     have HB:=a1
     clear ε θ ι κ τ ψ a1
     (try clear hb)
     (try clear a4)
     (try clear hk)
     (try clear hi)
     (try clear χ)
     (try clear a7)
     obtain⟨dp,dq,dr⟩:=Kd.Q6 a3.out
     (first|subst dr|(injection dr with ω ab a0;have ac:= ω.symm;have ae:=a0.symm;clear ω ab a0;subst ac;subst ae))
     obtain⟨cm,cn,co⟩:=Kd.Q6 a5.out
     (first|subst co|(injection co with ω ab a0;have ac:= ω.symm;have ae:=a0.symm;clear ω ab a0;subst ac;subst ae))
     refine hK.out _ _ ⟨(Qa O.out 0).trans rfl,(Qa O.out 1).trans rfl,(Qa Y.out 0).trans rfl,(Qa Y.out 1).trans rfl,(Qa δ.out 0).trans rfl,(Qa δ.out 1).trans rfl,(Qa δ.out 2).trans rfl⟩ (fun hHeld=>?_)
     clear hK K
     refine qN (some 19) ?_
     refine Zm (i:=4) (N:=some 21) #[true,true,true,true,true,false,false,false,true,false,false] rfl rfl (Q3 HT_.out kr) (by decide) (fun K hK=>?_)
     refine Zg Try.func11 kr rfl #[.agg #[.int .i64 I,.int .i64 J],.agg #[.slice dp bq.length dq,.slice cm br.length cn],.agg #[.int .i64 ζ,.int .i64 L,.int .i64 η]] (by rfl) rfl rfl (by(try simp only[List.map_toArray,List.map_cons,List.map_nil]);first|done|rfl|(simp only[List.length_drop,List.length_take];rfl)) ?_
     with_reducible refine(call_Press.calls k I J _ _ bq _ _ br ζ L η a9 aa ci _ ?side1 ?side2 ?side3 ?side4 A7.out).mono ?_
     (case side1=>repeat(first|exact(Kd.Qr a3.out).2.2|(with_reducible refine Kd.Za ?_ _)|(with_reducible refine Kd.Q9 ?_ _)|(with_reducible refine Kd.Zl ?_)))
     (case side2=>exact(Kd.Qr a3.out).2.1)
     (case side3=>repeat(first|exact(Kd.Qr a5.out).2.2|(with_reducible refine Kd.Za ?_ _)|(with_reducible refine Kd.Q9 ?_ _)|(with_reducible refine Kd.Zl ?_)))
     (case side4=>exact(Kd.Qr a5.out).2.1)
     rintro e iy ⟨cz,d0,rfl,χ,a7,hb⟩
     refine⟨_,rfl, ?_⟩
     have ε :=Aside0.mk (Kd.Q7 (by(with_reducible repeat(first|apply Kd.Qm|apply Kd.Ql|apply Kd.Qo));exact a3.out) (Kd.Zn χ) hb)
     have θ :=Aside0.mk (Kd.Q7 (by(with_reducible repeat(first|apply Kd.Qm|apply Kd.Ql|apply Kd.Qo));exact a5.out) (Kd.Zn a7) hb)
     have ι :=Aside0.mk (Kd.Q4 (Kd.Zr χ (Kd.Z4 (by(with_reducible repeat(first|apply Kd.Qm|apply Kd.Ql|apply Kd.Qo));exact a3.out))) (Qk (by repeat(first|(with_reducible first|exact HB.out|apply Qj|apply Qd|apply Qh|refine Qe ?_ a2.out|refine Qe ?_ a6.out|refine Qe ?_ a8.out|refine Qe ?_ au.out)|exact HB.out))))
     have κ :=Aside0.mk (Kd.Q4 (Kd.Zr a7 (Kd.Z4 (by(with_reducible repeat(first|apply Kd.Qm|apply Kd.Ql|apply Kd.Qo));exact a5.out))) (Qk (by repeat(first|(with_reducible first|exact HB.out|apply Qj|apply Qd|apply Qh|refine Qe ?_ a2.out|refine Qe ?_ a6.out|refine Qe ?_ a8.out|refine Qe ?_ au.out)|exact HB.out))))
     have τ :=Aside0.mk (Qn (g:= ν) (o:=.cells #[.int .i64 I,.int .i64 J] 23 (0,0)) (by(with_reducible repeat(first|refine Qf ?_ _|refine Qc ?_|refine Qg ?_ _));exact O.out) hb)
     have ψ :=Aside0.mk (Qn (g:= ξ) (o:=.cells #[.slice Z B.length U,.slice γ D.length X] 27 (0,0)) (by(with_reducible repeat(first|refine Qf ?_ _|refine Qc ?_|refine Qg ?_ _));exact Y.out) hb)
     have a1:=Aside0.mk (Qn (g:= φ) (o:=.cells #[.int .i64 ζ,.int .i64 L,.int .i64 η] 29 (0,0)) (by(with_reducible repeat(first|refine Qf ?_ _|refine Qc ?_|refine Qg ?_ _));exact δ.out) hb)
     have ak:=Aside0.mk (Qn (g:= μ) (o:=.cells #[.slice none 0 0,.slice none 0 0] 27 (0,0)) (by(with_reducible repeat(first|refine Qf ?_ _|refine Qc ?_|refine Qg ?_ _));exact ρ.out) hb)
     have am:=Aside0.mk (Qv (by repeat(first|(with_reducible first|exact HB.out|apply Qj|apply Qd|apply Qh|refine Qe ?_ a2.out|refine Qe ?_ a6.out|refine Qe ?_ a8.out|refine Qe ?_ au.out)|exact HB.out)) hb)
     clear a3
     clear a5
     clear O
     clear Y
     clear δ
     clear ρ
     clear HB
     have a3:= ε
     have a5:= θ
     have ai:= ι
     have aj:= κ
     have O:= τ
     have Y:= ψ
     have δ :=a1
     have ρ:=ak
     have HB:=am
     clear ε θ ι κ τ ψ a1 ak am
     (try clear hb)
     (try clear a4)
     (try clear hk)
     (try clear hi)
     (try clear χ)
     (try clear a7)
     refine hK.out _ _ ⟨(Qa O.out 0).trans rfl,(Qa O.out 1).trans rfl,(Qa Y.out 0).trans rfl,(Qa Y.out 1).trans rfl,(Qa δ.out 0).trans rfl,(Qa δ.out 1).trans rfl,(Qa δ.out 2).trans rfl⟩ (fun hHeld=>?_)
     clear hK K
     refine qN (some 21) ?_
     refine qP 5 (some 16) (qB 11 319) HT_ ?_
     refine qP 6 (some 22) (qB 11 383) HT_ ?_
     refine qP 7 (some 23) (qB 11 511) HT_ ?_
     exact Xj (by simp only[Z3,Act.put,qS]) (hCont (.slice dp bq.length dq,.slice cm br.length cn,cz,d0,μ) _ ⟨hHeld,(by(with_reducible repeat(first|apply Kd.Qm|apply Kd.Ql|apply Kd.Qo));exact Kd.Qs a3.out (fun _ hk=>hk.2)),(by(with_reducible repeat(first|apply Kd.Qm|apply Kd.Ql|apply Kd.Qo));exact Kd.Qs a5.out (fun _ hk=>hk.2)),(by(with_reducible repeat(first|apply Kd.Qm|apply Kd.Ql|apply Kd.Qo));exact Kd.Qs ai.out (fun _ hk=>hk.2)),(by(with_reducible repeat(first|apply Kd.Qm|apply Kd.Ql|apply Kd.Qo));exact Kd.Qs aj.out (fun _ hk=>hk.2)),(by(with_reducible repeat(first|refine Qf ?_ _|refine Qc ?_|refine Qg ?_ _));exact O.out),(by(with_reducible repeat(first|refine Qf ?_ _|refine Qc ?_|refine Qg ?_ _));exact Y.out),(by(with_reducible repeat(first|refine Qf ?_ _|refine Qc ?_|refine Qg ?_ _));exact δ.out),(by(with_reducible repeat(first|refine Qf ?_ _|refine Qc ?_|refine Qg ?_ _));exact ρ.out),d5.out,au.out,an.out,b1.out,ao.out,b2.out,al.out,b3.out,(by repeat(first|(with_reducible first|exact HB.out|apply Qj|apply Qd|apply Qh|refine Qe ?_ a2.out|refine Qe ?_ a6.out|refine Qe ?_ a8.out|refine Qe ?_ au.out)|exact HB.out))⟩)
   rintro⟨e8,e9,cz,d0,μ⟩ cb ⟨hS_,cq,cr,ct,cu,cv,e0,e3,e4,e5,e6,dh,di,dj,dk,dl,dm,dn⟩
   have ε :Aside0 (Kd.R k56 56 cb w.heap.size (fun k_=>some k_≠(cz:Value).ownBlock) e8 bq):=⟨cq⟩
   have θ :Aside0 (Kd.R k62 62 cb w.heap.size (fun k_=>some k_≠(d0:Value).ownBlock) e9 br):=⟨cr⟩
   have ι :Aside0 (Kd.R k56 56 cb w.heap.size (fun k_=>some k_≠(e8:Value).ownBlock) cz a9):=⟨ct⟩
   have κ :Aside0 (Kd.R k62 62 cb w.heap.size (fun k_=>some k_≠(e9:Value).ownBlock) d0 aa):=⟨cu⟩
   have τ :Aside0 (cb.heap[ν]?=some (.cells #[.int .i64 I,.int .i64 J] 23 (0,0))):=⟨cv⟩
   have ψ :Aside0 (cb.heap[ξ]?=some (.cells #[.slice Z B.length U,.slice γ D.length X] 27 (0,0))):=⟨e0⟩
   have a1:Aside0 (cb.heap[φ]?=some (.cells #[.int .i64 ζ,.int .i64 L,.int .i64 η] 29 (0,0))):=⟨e3⟩
   have ak:Aside0 (cb.heap[μ]?=some (.cells #[.slice none 0 0,.slice none 0 0] 27 (0,0))):=⟨e4⟩
   have am:Aside0 (w.heap.size ≤ μ):=⟨e5⟩
   have az:Aside0 (w.heap.size ≤ μ):=⟨e6⟩
   have ap:Aside0 (ν ≠ μ):=⟨dh⟩
   have av:Aside0 (μ ≠ ν):=⟨di⟩
   have b0:Aside0 (ξ ≠ μ):=⟨dj⟩
   have ba:Aside0 (μ ≠ ξ):=⟨dk⟩
   have bb:Aside0 (φ ≠ μ):=⟨dl⟩
   have bf:Aside0 (μ ≠ φ):=⟨dm⟩
   have bg:Aside0 (Below w.heap.size w cb):=⟨dn⟩
   clear O
   clear Y
   clear δ
   clear HB
   clear cq cr ct cu cv e0 e3 e4 e5 e6 dh di dj dk dl dm dn
   have a3:= ε
   have a5:= θ
   have ai:= ι
   have aj:= κ
   have O:= τ
   have Y:= ψ
   have δ :=a1
   have ρ:=ak
   have d5:=am
   have au:=az
   have an:=ap
   have b1:=av
   have ao:=b0
   have b2:=ba
   have al:=bb
   have b3:=bf
   have HB:=bg
   clear ε θ ι κ τ ψ a1 ak am az ap av b0 ba bb bf bg
   have hHeld:cb.cell? ⟨ν,0,none⟩=some (.int .i64 I)∧cb.cell? ⟨ν,1,none⟩=some (.int .i64 J)∧cb.cell? ⟨ξ,0,none⟩=some (.slice Z B.length U)∧cb.cell? ⟨ξ,1,none⟩=some (.slice γ D.length X)∧cb.cell? ⟨φ,0,none⟩=some (.int .i64 ζ)∧cb.cell? ⟨φ,1,none⟩=some (.int .i64 L)∧cb.cell? ⟨φ,2,none⟩=some (.int .i64 η):=hS_
   obtain⟨fa,fb,jq⟩:=Kd.Q6 ai.out
   (first|subst jq|(injection jq with ω ab a0;have ac:= ω.symm;have ae:=a0.symm;clear ω ab a0;subst ac;subst ae))
   obtain⟨fl,fm,jr⟩:=Kd.Q6 aj.out
   (first|subst jr|(injection jr with ω ab a0;have ac:= ω.symm;have ae:=a0.symm;clear ω ab a0;subst ac;subst ae))
   refine Xj (a':=?_) ?_ ?_
   rotate_left
   ·simp only[Z3,Act.put,qS]
    rfl
   refine Zm (i:=9) (N:=none) #[true,true,true,true,true,true,true,true,true,true,false] rfl rfl (Q3 HT_.out kr) (by decide) (fun K hK=>?_)
   have mw:cb.cell? ⟨μ,0,none⟩=some (.slice none 0 0):=(Qa ρ.out 0).trans rfl
   have ml:=Qb ρ.out 0
   have lf:=an.out
   have lg:=ao.out
   have lh:=al.out
   have ll:=b1.out
   have lm:=b2.out
   have ln:=b3.out
   have mx:cb.cell? ⟨μ,1,none⟩=some (.slice none 0 0):=(Qa ρ.out 1).trans rfl
   have mm:=Qb ρ.out 1
   have lp:=an.out
   have lq:=ao.out
   have lr:=al.out
   have ls:=b1.out
   have lu:=b2.out
   have lv:=b3.out
   refine Js (w1:=?_) (by rfl) rfl ?_ ?_
   rotate_left
   ·go_simp
    rfl
   refine hK.out _ _ ⟨((cell_far (p:=⟨μ,_,none⟩) an.out _).trans (((cell_far (p:=⟨μ,_,none⟩) an.out _).trans (hHeld.1)))),((cell_far (p:=⟨μ,_,none⟩) an.out _).trans (((cell_far (p:=⟨μ,_,none⟩) an.out _).trans (hHeld.2.1)))),((cell_far (p:=⟨μ,_,none⟩) ao.out _).trans (((cell_far (p:=⟨μ,_,none⟩) ao.out _).trans (hHeld.2.2.1)))),((cell_far (p:=⟨μ,_,none⟩) ao.out _).trans (((cell_far (p:=⟨μ,_,none⟩) ao.out _).trans (hHeld.2.2.2.1)))),((cell_far (p:=⟨μ,_,none⟩) al.out _).trans (((cell_far (p:=⟨μ,_,none⟩) al.out _).trans (hHeld.2.2.2.2.1)))),((cell_far (p:=⟨μ,_,none⟩) al.out _).trans (((cell_far (p:=⟨μ,_,none⟩) al.out _).trans (hHeld.2.2.2.2.2.1)))),((cell_far (p:=⟨μ,_,none⟩) al.out _).trans (((cell_far (p:=⟨μ,_,none⟩) al.out _).trans (hHeld.2.2.2.2.2.2))))⟩ (fun hHeld=>?_)
   clear hK K
   refine qP 10 (some 8) (qB 11 2047) HT_ ?_
   refine Z0 (Zp HT_.out kr) ?_
   try go_wp2_with (first|((with_reducible refine Q2 (f:=10) rfl ?_);refine Zq (some 26) rfl rfl Try.func10 kr rfl #[] rfl (by(try simp only[List.map_toArray,List.map_cons,List.map_nil]);first|done|rfl|(simp only[List.length_drop,List.length_take];rfl)) ?_;(with_reducible refine(newellaw19_awake.calls k  df _ mi.out).mono ?_);rintro e n3 ⟨rfl,hb⟩;refine⟨_,rfl, ?_⟩;have ε :=Aside0.mk (Kd.Qw (by(with_reducible repeat(first|apply Kd.Qm|apply Kd.Ql|apply Kd.Qo));exact(Kd.Qs (Kd.Qu (p:=⟨μ,1,none⟩) (Kd.Qu (p:=⟨μ,0,none⟩) (Kd.Qy a3.out ρ.out (by decide)) (fun _ hk=>hk.2) (.slice fa a9.length fb)) (fun _ hk=>hk.2) (.slice fl aa.length fm)) (fun _ h_=>h_.1))) hb);have θ :=Aside0.mk (Kd.Qw (by(with_reducible repeat(first|apply Kd.Qm|apply Kd.Ql|apply Kd.Qo));exact(Kd.Qs (Kd.Qu (p:=⟨μ,1,none⟩) (Kd.Qu (p:=⟨μ,0,none⟩) (Kd.Qy a5.out ρ.out (by decide)) (fun _ hk=>hk.2) (.slice fa a9.length fb)) (fun _ hk=>hk.2) (.slice fl aa.length fm)) (fun _ h_=>h_.1))) hb);have ι :=Aside0.mk (Kd.Qw (by(with_reducible repeat(first|apply Kd.Qm|apply Kd.Ql|apply Kd.Qo));exact(Kd.Qs (Kd.Qu (p:=⟨μ,1,none⟩) (Kd.Qu (p:=⟨μ,0,none⟩) (Kd.Qy ai.out ρ.out (by decide)) (fun _ hk=>hk.2) (.slice fa a9.length fb)) (fun _ hk=>hk.2) (.slice fl aa.length fm)) (fun _ h_=>h_.1))) hb);have κ :=Aside0.mk (Kd.Qw (by(with_reducible repeat(first|apply Kd.Qm|apply Kd.Ql|apply Kd.Qo));exact(Kd.Qs (Kd.Qu (p:=⟨μ,1,none⟩) (Kd.Qu (p:=⟨μ,0,none⟩) (Kd.Qy aj.out ρ.out (by decide)) (fun _ hk=>hk.2) (.slice fa a9.length fb)) (fun _ hk=>hk.2) (.slice fl aa.length fm)) (fun _ h_=>h_.1))) hb);have τ :=Aside0.mk (Qn (g:= ν) (o:=.cells #[.int .i64 I,.int .i64 J] 23 (0,0)) (by(with_reducible repeat(first|refine Qf ?_ _|refine Qc ?_|refine Qg ?_ _));refine Zu ?_ an.out _;(with_reducible repeat(first|refine Qf ?_ _|refine Qc ?_|refine Qg ?_ _));refine Zu ?_ an.out _;(with_reducible repeat(first|refine Qf ?_ _|refine Qc ?_|refine Qg ?_ _));exact O.out) hb);have ψ :=Aside0.mk (Qn (g:= ξ) (o:=.cells #[.slice Z B.length U,.slice γ D.length X] 27 (0,0)) (by(with_reducible repeat(first|refine Qf ?_ _|refine Qc ?_|refine Qg ?_ _));refine Zu ?_ ao.out _;(with_reducible repeat(first|refine Qf ?_ _|refine Qc ?_|refine Qg ?_ _));refine Zu ?_ ao.out _;(with_reducible repeat(first|refine Qf ?_ _|refine Qc ?_|refine Qg ?_ _));exact Y.out) hb);have a1:=Aside0.mk (Qn (g:= φ) (o:=.cells #[.int .i64 ζ,.int .i64 L,.int .i64 η] 29 (0,0)) (by(with_reducible repeat(first|refine Qf ?_ _|refine Qc ?_|refine Qg ?_ _));refine Zu ?_ al.out _;(with_reducible repeat(first|refine Qf ?_ _|refine Qc ?_|refine Qg ?_ _));refine Zu ?_ al.out _;(with_reducible repeat(first|refine Qf ?_ _|refine Qc ?_|refine Qg ?_ _));exact δ.out) hb);have ak:=Aside0.mk (Qn (g:= μ) (o:=.cells #[.slice fa a9.length fb,.slice fl aa.length fm] 27 (0,0)) (by(with_reducible repeat(first|refine Qf ?_ _|refine Qc ?_|refine Qg ?_ _));refine Qx (cs:=#[.slice fa a9.length fb,.slice none 0 0]) ?_ 1 _ rfl;(with_reducible repeat(first|refine Qf ?_ _|refine Qc ?_|refine Qg ?_ _));refine Qx (cs:=#[.slice none 0 0,.slice none 0 0]) ?_ 0 _ rfl;(with_reducible repeat(first|refine Qf ?_ _|refine Qc ?_|refine Qg ?_ _));exact ρ.out) hb);have am:=Aside0.mk (Qv (by repeat(first|(with_reducible first|exact HB.out|apply Qj|apply Qd|apply Qh|refine Qe ?_ a2.out|refine Qe ?_ a6.out|refine Qe ?_ a8.out|refine Qe ?_ au.out)|exact HB.out)) hb);clear a3;clear a5;clear ai;clear aj;clear O;clear Y;clear δ;clear ρ;clear HB;have a3:= ε;have a5:= θ;have ai:= ι;have aj:= κ;have O:= τ;have Y:= ψ;have δ :=a1;have ρ:=ak;have HB:=am;clear ε θ ι κ τ ψ a1 ak am;(try clear hb);(try clear a4);(try clear hk);(try clear hi)))
   go_ret
   exact⟨by first|rfl|(simp[Q1,Q0] <;> rfl)|(simp[*,Q1,Q0] <;> rfl),by repeat(first|(with_reducible first|exact HB.out|apply Qj|apply Qd|apply Qh|refine Qe ?_ a2.out|refine Qe ?_ a6.out|refine Qe ?_ a8.out|refine Qe ?_ au.out)|exact HB.out)⟩
 ·replace c5:=Bool.eq_false_iff.mpr c5
  subst c5
  have H1:((newellaw19_awake.f k).bind fun e7=>(some e7))=some r:=by rw[if_neg (show ¬ (false=true) by decide)] at H;exact H
  clear H
  have H:=H1
  clear H1
  replace H:=Option.bind_eq_some_iff.mp H
  obtain⟨e7,js,H⟩:=H
  replace H:(some e7)=some r:=H
  have lw:=Aside0.mk js
  clear js
  obtain rfl:=Option.some.inj H
  go_enter Try.func6,Try.ntmps6
  go_wp2_with (first|((with_reducible refine Qt (N:=3) rfl ?_);refine Qp ?hg (N:=3) ?hd (cs:=#[.int .i64 I,.int .i64 J]) (t:=23) ?hr ?_;(case hd=>rfl);(case hg=>rfl);(case hr=>first|(go_simp;done)|(go_simp;rfl));intro ν hg lz hbox hb;have ε :=Aside0.mk (Qv (by repeat(first|(with_reducible first|exact HB.out|apply Qj|apply Qd|apply Qh)|exact HB.out)) hb);have θ :=Aside0.mk (hbox);have ι :=Aside0.mk ((by rw[hg];exact(Qk (by repeat(first|(with_reducible first|exact HB.out|apply Qj|apply Qd|apply Qh)|exact HB.out))):w.heap.size ≤ ν));have κ :=Aside0.mk ((by rw[hg];exact(Qk (by repeat(first|(with_reducible first|exact HB.out|apply Qj|apply Qd|apply Qh)|exact HB.out))):w.heap.size ≤ ν));clear HB;have HB:= ε;have O:= θ;have jj:= ι;have a2:= κ;clear ε θ ι κ;clear hb hbox hg)|((with_reducible refine Qt (N:=4) rfl ?_);refine Qp ?hg (N:=4) ?hd (cs:=#[.slice Z B.length U,.slice γ D.length X]) (t:=27) ?hr ?_;(case hd=>rfl);(case hg=>rfl);(case hr=>first|(go_simp;done)|(go_simp;rfl));intro ξ hg m0 hbox hb;have ε :=Aside0.mk (Qn (g:= ν) (o:=.cells #[.int .i64 I,.int .i64 J] 23 (0,0)) (by(with_reducible repeat(first|refine Qf ?_ _|refine Qc ?_|refine Qg ?_ _));exact O.out) hb);have θ :=Aside0.mk (Qv (by repeat(first|(with_reducible first|exact HB.out|apply Qj|apply Qd|apply Qh|refine Qe ?_ a2.out)|exact HB.out)) hb);have ι :=Aside0.mk (hbox);have κ :=Aside0.mk ((by rw[hg];exact(Qk (by repeat(first|(with_reducible first|exact HB.out|apply Qj|apply Qd|apply Qh|refine Qe ?_ a2.out)|exact HB.out))):w.heap.size ≤ ξ));have τ :=Aside0.mk ((by rw[hg];exact(Qk (by repeat(first|(with_reducible first|exact HB.out|apply Qj|apply Qd|apply Qh|refine Qe ?_ a2.out)|exact HB.out))):w.heap.size ≤ ξ));have ψ :=Aside0.mk ((by rw[hg];exact Nat.ne_of_lt (Q5 (g:= ν) (o:=.cells #[.int .i64 I,.int .i64 J] 23 (0,0)) (by(with_reducible repeat(first|refine Qf ?_ _|refine Qc ?_|refine Qg ?_ _));exact O.out)): ν ≠ ξ));have a1:=Aside0.mk ((by rw[hg];exact Nat.ne_of_gt (Q5 (g:= ν) (o:=.cells #[.int .i64 I,.int .i64 J] 23 (0,0)) (by(with_reducible repeat(first|refine Qf ?_ _|refine Qc ?_|refine Qg ?_ _));exact O.out)): ξ ≠ ν));clear O;clear HB;have O:= ε;have HB:= θ;have Y:= ι;have jk:= κ;have a6:= τ;have cx:= ψ;have cy:=a1;clear ε θ ι κ τ ψ a1;clear hb hbox hg)|((with_reducible refine Qt (N:=5) rfl ?_);refine Qp ?hg (N:=5) ?hd (cs:=#[.int .i64 ζ,.int .i64 L,.int .i64 η]) (t:=29) ?hr ?_;(case hd=>rfl);(case hg=>rfl);(case hr=>first|(go_simp;done)|(go_simp;rfl));intro φ hg fe hbox hb;have ε :=Aside0.mk (Qn (g:= ν) (o:=.cells #[.int .i64 I,.int .i64 J] 23 (0,0)) (by(with_reducible repeat(first|refine Qf ?_ _|refine Qc ?_|refine Qg ?_ _));exact O.out) hb);have θ :=Aside0.mk (Qn (g:= ξ) (o:=.cells #[.slice Z B.length U,.slice γ D.length X] 27 (0,0)) (by(with_reducible repeat(first|refine Qf ?_ _|refine Qc ?_|refine Qg ?_ _));exact Y.out) hb);have ι :=Aside0.mk (Qv (by repeat(first|(with_reducible first|exact HB.out|apply Qj|apply Qd|apply Qh|refine Qe ?_ a2.out|refine Qe ?_ a6.out)|exact HB.out)) hb);have κ :=Aside0.mk (hbox);have τ :=Aside0.mk ((by rw[hg];exact(Qk (by repeat(first|(with_reducible first|exact HB.out|apply Qj|apply Qd|apply Qh|refine Qe ?_ a2.out|refine Qe ?_ a6.out)|exact HB.out))):w.heap.size ≤ φ));have ψ :=Aside0.mk ((by rw[hg];exact(Qk (by repeat(first|(with_reducible first|exact HB.out|apply Qj|apply Qd|apply Qh|refine Qe ?_ a2.out|refine Qe ?_ a6.out)|exact HB.out))):w.heap.size ≤ φ));have a1:=Aside0.mk ((by rw[hg];exact Nat.ne_of_lt (Q5 (g:= ν) (o:=.cells #[.int .i64 I,.int .i64 J] 23 (0,0)) (by(with_reducible repeat(first|refine Qf ?_ _|refine Qc ?_|refine Qg ?_ _));exact O.out)): ν ≠ φ));have ak:=Aside0.mk ((by rw[hg];exact Nat.ne_of_gt (Q5 (g:= ν) (o:=.cells #[.int .i64 I,.int .i64 J] 23 (0,0)) (by(with_reducible repeat(first|refine Qf ?_ _|refine Qc ?_|refine Qg ?_ _));exact O.out)): φ ≠ ν));have am:=Aside0.mk ((by rw[hg];exact Nat.ne_of_lt (Q5 (g:= ξ) (o:=.cells #[.slice Z B.length U,.slice γ D.length X] 27 (0,0)) (by(with_reducible repeat(first|refine Qf ?_ _|refine Qc ?_|refine Qg ?_ _));exact Y.out)): ξ ≠ φ));have az:=Aside0.mk ((by rw[hg];exact Nat.ne_of_gt (Q5 (g:= ξ) (o:=.cells #[.slice Z B.length U,.slice γ D.length X] 27 (0,0)) (by(with_reducible repeat(first|refine Qf ?_ _|refine Qc ?_|refine Qg ?_ _));exact Y.out)): φ ≠ ξ));clear O;clear Y;clear HB;have O:= ε;have Y:= θ;have HB:= ι;have δ := κ;have jl:= τ;have a8:= ψ;have dv:=a1;have dw:=ak;have d9:=am;have da:=az;clear ε θ ι κ τ ψ a1 ak am az;clear hb hbox hg;have k8:=cy.out;have k9:=cx.out;have ka:=d9.out;have kb:=da.out;have iq:fe.cell? ⟨ξ,0,none⟩=some (.slice Z B.length U):=(Qa Y.out 0).trans rfl;have ir:fe.cell? ⟨ξ,1,none⟩=some (.slice γ D.length X):=(Qa Y.out 1).trans rfl;have it:=Qb Y.out 0;have iu:=Qb Y.out 1)|((with_reducible refine Q2 (f:=9) rfl ?_);refine Zq (some 13) rfl rfl Try.func9 kr rfl #[.agg #[.slice Z B.length U,.slice γ D.length X]] rfl (by(try simp only[List.map_toArray,List.map_cons,List.map_nil]);first|done|rfl|(simp only[List.length_drop,List.length_take];rfl)) ?_;(with_reducible refine(newelref19_Few.calls _ _ B _ _ D false _ ?side1 ?side2 ?side3 ?side4 A4.out).mono ?_);(case side1=>repeat(first|exact(Kd.Qz ag.out HB.out)|(with_reducible refine Kd.Za ?_ _)|(with_reducible refine Kd.Q9 ?_ _)|(with_reducible refine Kd.Zl ?_)));(case side2=>exact ar.out);(case side3=>repeat(first|exact(Kd.Qz ah.out HB.out)|(with_reducible refine Kd.Za ?_ _)|(with_reducible refine Kd.Q9 ?_ _)|(with_reducible refine Kd.Zl ?_)));(case side4=>exact aw.out);rintro e na ⟨rfl,hb⟩;refine⟨_,rfl, ?_⟩;have ε :=Aside0.mk (Qn (g:= ν) (o:=.cells #[.int .i64 I,.int .i64 J] 23 (0,0)) (by(with_reducible repeat(first|refine Qf ?_ _|refine Qc ?_|refine Qg ?_ _));exact O.out) hb);have θ :=Aside0.mk (Qn (g:= ξ) (o:=.cells #[.slice Z B.length U,.slice γ D.length X] 27 (0,0)) (by(with_reducible repeat(first|refine Qf ?_ _|refine Qc ?_|refine Qg ?_ _));exact Y.out) hb);have ι :=Aside0.mk (Qn (g:= φ) (o:=.cells #[.int .i64 ζ,.int .i64 L,.int .i64 η] 29 (0,0)) (by(with_reducible repeat(first|refine Qf ?_ _|refine Qc ?_|refine Qg ?_ _));exact δ.out) hb);have κ :=Aside0.mk (Qv (by repeat(first|(with_reducible first|exact HB.out|apply Qj|apply Qd|apply Qh|refine Qe ?_ a2.out|refine Qe ?_ a6.out|refine Qe ?_ a8.out)|exact HB.out)) hb);clear O;clear Y;clear δ;clear HB;have O:= ε;have Y:= θ;have δ := ι;have HB:= κ;clear ε θ ι κ;(try clear hb);(try clear a4);(try clear hk);(try clear hi))|((with_reducible refine Q2 (f:=10) rfl ?_);refine Zq (some 15) rfl rfl Try.func10 kr rfl #[] rfl (by(try simp only[List.map_toArray,List.map_cons,List.map_nil]);first|done|rfl|(simp only[List.length_drop,List.length_take];rfl)) ?_;(with_reducible refine(newellaw19_awake.calls k  e7 _ lw.out).mono ?_);rintro e nb ⟨rfl,hb⟩;refine⟨_,rfl, ?_⟩;have ε :=Aside0.mk (Qn (g:= ν) (o:=.cells #[.int .i64 I,.int .i64 J] 23 (0,0)) (by(with_reducible repeat(first|refine Qf ?_ _|refine Qc ?_|refine Qg ?_ _));exact O.out) hb);have θ :=Aside0.mk (Qn (g:= ξ) (o:=.cells #[.slice Z B.length U,.slice γ D.length X] 27 (0,0)) (by(with_reducible repeat(first|refine Qf ?_ _|refine Qc ?_|refine Qg ?_ _));exact Y.out) hb);have ι :=Aside0.mk (Qn (g:= φ) (o:=.cells #[.int .i64 ζ,.int .i64 L,.int .i64 η] 29 (0,0)) (by(with_reducible repeat(first|refine Qf ?_ _|refine Qc ?_|refine Qg ?_ _));exact δ.out) hb);have κ :=Aside0.mk (Qv (by repeat(first|(with_reducible first|exact HB.out|apply Qj|apply Qd|apply Qh|refine Qe ?_ a2.out|refine Qe ?_ a6.out|refine Qe ?_ a8.out)|exact HB.out)) hb);clear O;clear Y;clear δ;clear HB;have O:= ε;have Y:= θ;have δ := ι;have HB:= κ;clear ε θ ι κ;(try clear hb);(try clear a4);(try clear hk);(try clear hi)))
  go_ret
  exact⟨by first|rfl|(simp[Q1,Q0] <;> rfl)|(simp[*,Q1,Q0] <;> rfl),by repeat(first|(with_reducible first|exact HB.out|apply Qj|apply Qd|apply Qh|refine Qe ?_ a2.out|refine Qe ?_ a6.out|refine Qe ?_ a8.out)|exact HB.out)⟩
end Go.Proofs.Ytjehhhlhalkieaa.C
namespace Go.Proofs.Ytjehhhlhalkieaa.Call
open Go.RowKit Go.Proofs.YtjehhhlhalkieaaW.PrintWords Go.Proofs.YtjehhhlhalkieaaW.PrintLast Go.Proofs.YtjehhhlhalkieaaW.PrintMore Go.Proofs.Ytjehhhlhalkieaa.C
set_option linter.unusedVariables false
set_option linter.unusedSimpArgs false
theorem Ua (F C:Int):newelref19_House.f F C=some (decide ((2≤F∧F≤64)∧(1≤C∧C≤8))):=by
  unfold newelref19_House.f
  by_cases h1:F≥2
  · rw[if_pos h1]
    by_cases O:F≤64
    · rw[if_pos O]
      by_cases D:C≥1
      · rw[if_pos D]
        congr 1
        rw[decide_eq_decide]
        omega
      · rw[if_neg D,decide_eq_false (by omega)]
    · rw[if_neg O,decide_eq_false (by omega)]
  · rw[if_neg h1,decide_eq_false (by omega)]
theorem Gs (k:Nat) {F C:Int} (J L x2:Int) (hF:2≤F∧F≤64) (hC:1≤C∧C≤8):newelref19_Hall.f (k+1) F C J L x2=some (Xp F C J L x2):=by
  have hb:=L2 (F:=F) (C:=C) (J:=J) (L:=L) (x2:=x2) hF hC
  have w1:wrap64 (F-2)=F-2:=by unfold wrap64;omega
  have w2:wrap64 (F-1)=F-1:=by unfold wrap64;omega
  have tt:∀ p:Prop,[Decidable p]→(p↔((L=1∨L = -1)∧(0≤J∧J≤F-1)∧(0≤J+L∧J+L≤F-1)∧(-1≤x2∧x2≤C-1)))→(some (decide p):Option Bool)=some (Xp F C J L x2):=by
    intro p _ hp
    congr 1
    cases h:Xp F C J L x2
    · rw[h] at hb
      exact decide_eq_false (fun q=>Bool.noConfusion (hb.2 (hp.1 q)))
    · exact decide_eq_true (hp.2 (hb.1 h))
  have ff:¬ ((L=1∨L = -1)∧(0≤J∧J≤F-1)∧(0≤J+L∧J+L≤F-1)∧(-1≤x2∧x2≤C-1))→(some false:Option Bool)=some (Xp F C J L x2):=fun h=>tt False ⟨False.elim,h⟩
  have j:∀ b:Bool,b=decide (x2 < -1∨x2≥C)→newelref19_Hall.j0 (k+1) b F C J L x2=some (Xp F C J L x2):=by
    intro b hbb
    simp only[newelref19_Hall.j0]
    rw[w1,w2]
    by_cases Y:x2 < -1∨x2≥C
    · rw[hbb,decide_eq_true Y,if_pos rfl]
      exact ff (by omega)
    · rw[hbb,decide_eq_false Y,if_neg (by decide)]
      by_cases h1:L=1
      · rw[if_pos h1]
        by_cases O:J≥0
        · rw[if_pos O]
          exact tt _ (by omega)
        · rw[if_neg O]
          exact ff (by omega)
      · rw[if_neg h1]
        by_cases O:L = -1
        · rw[if_pos O]
          by_cases D:J≥1
          · rw[if_pos D]
            exact tt _ (by omega)
          · rw[if_neg D]
            exact ff (by omega)
        · rw[if_neg O]
          exact ff (by omega)
  unfold newelref19_Hall.f
  by_cases h:x2 < -1
  · rw[if_pos h]
    exact j _ (decide_eq_true (.inl h)).symm
  · rw[if_neg h]
    exact j _ (by rw[decide_eq_decide];omega)
theorem Ub (k:Nat) {F C:Int} (J L x2:Int) (hF:2≤F∧F≤64) (hC:1≤C∧C≤8) (hk:0<k):newelref19_Hall.f k F C J L x2=some (Xp F C J L x2):=by
  obtain⟨k,rfl⟩:∃ m,k=m+1:=⟨k-1,by omega⟩
  exact Gs k J L x2 hF hC
theorem Vo {F C:Int} (J L:Int) (hF:2≤F∧F≤64) (hC:1≤C∧C≤8):newelref19_Inside.f F C J L=some (Y0 F C J L):=by
  have hb:=We (F:=F) (C:=C) (J:=J) (L:=L) hF hC
  have tt:∀ p:Prop,[Decidable p]→(p↔((0≤J∧J≤C-1)∧(0≤L∧L≤F-1)))→(some (decide p):Option Bool)=some (Y0 F C J L):=by
    intro p _ hp
    congr 1
    cases h:Y0 F C J L
    · rw[h] at hb
      exact decide_eq_false (fun q=>Bool.noConfusion (hb.2 (hp.1 q)))
    · exact decide_eq_true (hp.2 (hb.1 h))
  have ff:¬ ((0≤J∧J≤C-1)∧(0≤L∧L≤F-1))→(some false:Option Bool)=some (Y0 F C J L):=fun h=>tt False ⟨False.elim,h⟩
  unfold newelref19_Inside.f
  by_cases h1:J≥0
  · rw[if_pos h1]
    by_cases O:J<C
    · rw[if_pos O]
      by_cases D:L≥0
      · rw[if_pos D]
        exact tt _ (by omega)
      · rw[if_neg D]
        exact ff (by omega)
    · rw[if_neg O]
      exact ff (by omega)
  · rw[if_neg h1]
    exact ff (by omega)
theorem Uc (x y:Hall):newelref19_ahead.f x.f0 x.f1 x.f2 y.f0 y.f1 y.f2=some (ltH x y):=by
  unfold newelref19_ahead.f
  by_cases h1:x.f0<y.f0
  · rw[if_pos h1,(Yu x y).2 (.inl h1)]
  · rw[if_neg h1]
    by_cases O:x.f0=y.f0
    · rw[if_pos O]
      congr 1
      cases h:ltH x y
      · exact decide_eq_false (fun q=>by rw[(Yu x y).2 (.inr ⟨O,q⟩)] at h;cases h)
      · have:=(Yu x y).1 h
        exact decide_eq_true (by omega)
    · rw[if_neg O]
      cases h:ltH x y
      · rfl
      · have:=(Yu x y).1 h
        omega
theorem Vq (x y:Ins):newelref19_before.f x.f0 x.f1 y.f0 y.f1=some (ltI x y):=by
  unfold newelref19_before.f
  by_cases h1:x.f0<y.f0
  · rw[if_pos h1,(J5 x y).2 (.inl h1)]
  · rw[if_neg h1]
    by_cases O:x.f0=y.f0
    · rw[if_pos O]
      congr 1
      cases h:ltI x y
      · exact decide_eq_false (fun q=>by rw[(J5 x y).2 (.inr ⟨O,q⟩)] at h;cases h)
      · have:=(J5 x y).1 h
        exact decide_eq_true (by omega)
    · rw[if_neg O]
      cases h:ltI x y
      · rfl
      · have:=(J5 x y).1 h
        omega
theorem Nw {F C:Int} (hF:2≤F∧F≤64) (hC:1≤C∧C≤8) (H:List Hall) (I:List Ins) (hm:I.length≤1000000000) (j:Nat):∀ (f i:Nat),i+j=I.length→j+1<f→newelref19_May.l1 f (i:Int) F C H I=some (Zw (fun x=>Y0 F C x.f0 x.f1) ltI (if i=0 then none else I[i-1]?) (I.drop i)):=by
  induction j with
  |zero=>
    intro f i hi hf
    obtain⟨f,rfl⟩:∃ m,f=m+1:=⟨f-1,by omega⟩
    simp only[newelref19_May.l1]
    rw[if_neg (by omega),List.drop_of_length_le (by omega)]
    cases(if i=0 then none else I[i-1]?) <;> rfl
  |succ j ih=>
    intro f i hi hf
    obtain⟨f,rfl⟩:∃ m,f=m+1:=⟨f-1,by omega⟩
    have ha:i<I.length:=by omega
    have ei:wrap64 ((i:Int)+1)=((i+1:Nat):Int):=by unfold wrap64;omega
    have X:=ih f (i+1) (by omega) (by omega)
    rw[if_neg (by omega),Nat.add_sub_cancel,List.getElem?_eq_getElem ha] at X
    simp only[newelref19_May.l1]
    rw[if_pos (by omega),if_pos (by omega),Yq I i ha,Vo _ _ hF hC,List.drop_eq_getElem_cons ha]
    simp only[Option.bind_some]
    cases h1:Y0 F C I[i].f0 I[i].f1
    · rw[if_neg (by decide)]
      cases(if i=0 then none else I[i-1]?) <;> simp only[Zw,h1,Bool.false_and]
    · rw[if_pos rfl]
      by_cases Y:i=0
      · subst Y
        rw[if_neg (by omega),ei,X,if_pos rfl]
        simp only[Zw,h1,Bool.true_and]
      · have ep:wrap64 ((i:Int)-1)=((i-1:Nat):Int):=by unfold wrap64;omega
        rw[if_pos (by omega),ep,if_pos (by omega),if_pos (by omega),Yq I (i-1) (by omega),Vq,if_neg Y,List.getElem?_eq_getElem (by omega)]
        simp only[Option.bind_some,Zw,h1,Bool.true_and]
        cases O:ltI (I[i-1]'(by omega)) I[i]
        · rw[if_neg (by decide),Bool.false_and]
        · rw[if_pos rfl,ei,X,Bool.true_and]
theorem Nx {F C:Int} (hF:2≤F∧F≤64) (hC:1≤C∧C≤8) (H:List Hall) (I:List Ins) (hH:H.length≤1000000000) (hm:I.length≤1000000000) (j:Nat):∀ (f i:Nat),i+j=H.length→j+I.length+3<f→newelref19_May.l0 f (i:Int) F C H I=some (Zw (fun x=>Xp F C x.f0 x.f1 x.f2) ltH (if i=0 then none else H[i-1]?) (H.drop i)&&Zw (fun x=>Y0 F C x.f0 x.f1) ltI none I):=by
  induction j with
  |zero=>
    intro f i hi hf
    obtain⟨f,rfl⟩:∃ m,f=m+1:=⟨f-1,by omega⟩
    have h1:=Nw hF hC H I hm I.length f 0 (by omega) (by omega)
    rw[if_pos rfl,List.drop_zero] at h1
    simp only[newelref19_May.l0]
    rw[if_neg (by omega),List.drop_of_length_le (by omega)]
    refine h1.trans ?_
    cases(if i=0 then none else H[i-1]?) <;> rfl
  |succ j ih=>
    intro f i hi hf
    obtain⟨f,rfl⟩:∃ m,f=m+1:=⟨f-1,by omega⟩
    have ha:i<H.length:=by omega
    have ei:wrap64 ((i:Int)+1)=((i+1:Nat):Int):=by unfold wrap64;omega
    have X:=ih f (i+1) (by omega) (by omega)
    rw[if_neg (by omega),Nat.add_sub_cancel,List.getElem?_eq_getElem ha] at X
    simp only[newelref19_May.l0]
    rw[if_pos (by omega),if_pos (by omega),Yj H i ha,Ub _ _ _ _ hF hC (by omega),List.drop_eq_getElem_cons ha]
    simp only[Option.bind_some]
    cases h1:Xp F C H[i].f0 H[i].f1 H[i].f2
    · rw[if_neg (by decide)]
      cases(if i=0 then none else H[i-1]?) <;> simp only[Zw,h1,Bool.false_and]
    · rw[if_pos rfl]
      by_cases Y:i=0
      · subst Y
        rw[if_neg (by omega),ei,X,if_pos rfl]
        simp only[Zw,h1,Bool.true_and]
      · have ep:wrap64 ((i:Int)-1)=((i-1:Nat):Int):=by unfold wrap64;omega
        rw[if_pos (by omega),ep,if_pos (by omega),if_pos (by omega),Yj H (i-1) (by omega),Uc,if_neg Y,List.getElem?_eq_getElem (by omega)]
        simp only[Option.bind_some,Zw,h1,Bool.true_and]
        cases O:ltH (H[i-1]'(by omega)) H[i]
        · rw[if_neg (by decide),Bool.false_and,Bool.false_and]
        · rw[if_pos rfl,ei,X,Bool.true_and]
theorem Wt (k:Nat) (F C:Int) (H:List Hall) (I:List Ins) (hH:H.length≤1000000000) (hI:I.length≤1000000000) (hk:H.length+I.length+3<k):newelref19_May.f k F C H I=some (okB F C H I):=by
  unfold newelref19_May.f
  rw[Ua]
  simp only[Option.bind_some]
  by_cases h:(2≤F∧F≤64)∧(1≤C∧C≤8)
  · have:=Nx h.1 h.2 H I hH hI H.length k 0 (by omega) hk
    rw[if_pos rfl,List.drop_zero] at this
    rw[decide_eq_true h,if_pos rfl]
    refine this.trans ?_
    unfold okB
    rw[decide_eq_true h.1,decide_eq_true h.2,Bool.true_and,Bool.true_and]
  · rw[decide_eq_false h,if_neg (by decide)]
    congr 1
    cases hb:okB F C H I
    · rfl
    · exact absurd ⟨(Jk.1 hb).1,(Jk.1 hb).2.1⟩ h
theorem Lq {F C:Int} {H:List Hall} {I:List Ins} (h:okB F C H I=true):(2≤F∧F≤64)∧(1≤C∧C≤8):=⟨(Jk.1 h).1,(Jk.1 h).2.1⟩
theorem Ga (x y:Hall):(!(x.f0==y.f0)||(!(x.f1==y.f1) || !(x.f2==y.f2)))=true ↔ ¬ x=y:=by
  obtain⟨a,b,c⟩:=x
  obtain⟨d,e,f⟩:=y
  simp only[Bool.or_eq_true,Bool.not_eq_true',beq_eq_false_iff_ne,S56.mk.injEq]
  omega
theorem Gt (x y:Ins):(!(x.f0==y.f0)||(!(x.f1==y.f1)))=true ↔ ¬ x=y:=by
  obtain⟨a,b⟩:=x
  obtain⟨d,e⟩:=y
  simp only[Bool.or_eq_true,Bool.not_eq_true',beq_eq_false_iff_ne,S62.mk.injEq]
  omega
theorem Ur (H:List Hall) (I:List Ins) (H':List Hall) (I':List Ins) (hm:I.length≤1000000000) (hl:I.length=I'.length) (j:Nat):∀ (f i:Nat),i+j=I.length→j<f → ∃ b,newelref19_Same.l1 f (i:Int) H I H' I'=some b∧(b=true↔I.drop i=I'.drop i):=by
  induction j with
  |zero=>
    intro f i hi hf
    obtain⟨f,rfl⟩:∃ m,f=m+1:=⟨f-1,by omega⟩
    simp only[newelref19_Same.l1]
    rw[if_neg (by omega),List.drop_of_length_le (by omega),List.drop_of_length_le (by omega)]
    exact⟨true,rfl,by simp⟩
  |succ j ih=>
    intro f i hi hf
    obtain⟨f,rfl⟩:∃ m,f=m+1:=⟨f-1,by omega⟩
    have ha:i<I.length:=by omega
    have hb:i<I'.length:=by omega
    have ei:wrap64 ((i:Int)+1)=((i+1:Nat):Int):=by unfold wrap64;omega
    simp only[newelref19_Same.l1]
    rw[if_pos (by omega),if_pos (by omega),if_pos (by omega),Yq I i ha,Yq I' i hb,List.drop_eq_getElem_cons ha,List.drop_eq_getElem_cons hb,ei]
    by_cases h:I[i]=I'[i]
    · obtain⟨b,e,a4⟩:=ih f (i+1) (by omega) (by omega)
      rw[if_neg (by rw[Gt];exact fun q=>q h)]
      exact⟨b,e,a4.trans ⟨fun q=>by rw[h,q],fun q=>(List.cons.inj q).2⟩⟩
    · rw[if_pos ((Gt _ _).2 h)]
      exact⟨false,rfl,⟨fun q=>(by cases q),fun q=>absurd (List.cons.inj q).1 h⟩⟩
theorem Us (H:List Hall) (I:List Ins) (H':List Hall) (I':List Ins) (hm:H.length≤1000000000) (hI:I.length≤1000000000) (hH:H.length=H'.length) (hl:I.length=I'.length) (j:Nat):∀ (f i:Nat),i+j=H.length→j+I.length+1<f → ∃ b,newelref19_Same.l0 f (i:Int) H I H' I'=some b∧(b=true↔(H.drop i=H'.drop i∧I=I')):=by
  induction j with
  |zero=>
    intro f i hi hf
    obtain⟨f,rfl⟩:∃ m,f=m+1:=⟨f-1,by omega⟩
    obtain⟨b,e,hb⟩:=Ur H I H' I' hI hl I.length f 0 (by omega) (by omega)
    rw[List.drop_zero,List.drop_zero] at hb
    simp only[newelref19_Same.l0]
    rw[if_neg (by omega),List.drop_of_length_le (by omega),List.drop_of_length_le (by omega)]
    exact⟨b,e,hb.trans ⟨fun q=>⟨rfl,q⟩,fun q=>q.2⟩⟩
  |succ j ih=>
    intro f i hi hf
    obtain⟨f,rfl⟩:∃ m,f=m+1:=⟨f-1,by omega⟩
    have ha:i<H.length:=by omega
    have hb:i<H'.length:=by omega
    have ei:wrap64 ((i:Int)+1)=((i+1:Nat):Int):=by unfold wrap64;omega
    simp only[newelref19_Same.l0]
    rw[if_pos (by omega),if_pos (by omega),if_pos (by omega),Yj H i ha,Yj H' i hb,List.drop_eq_getElem_cons ha,List.drop_eq_getElem_cons hb,ei]
    by_cases h:H[i]=H'[i]
    · obtain⟨b,e,a4⟩:=ih f (i+1) (by omega) (by omega)
      rw[if_neg (by rw[Ga];exact fun q=>q h)]
      exact⟨b,e,a4.trans ⟨fun q=>⟨by rw[h,q.1],q.2⟩,fun q=>⟨(List.cons.inj q.1).2,q.2⟩⟩⟩
    · rw[if_pos ((Ga _ _).2 h)]
      exact⟨false,rfl,⟨fun q=>(by cases q),fun q=>absurd (List.cons.inj q.1).1 h⟩⟩
theorem Gr (k:Nat) (H:List Hall) (I:List Ins) (H':List Hall) (I':List Ins) (hH:H.length≤1000000000) (hI:I.length≤1000000000) (hk:H.length+I.length+3<k):∃ b,newelref19_Same.f k H I H' I'=some b∧(b=true↔(H=H'∧I=I')):=by
  obtain⟨k,rfl⟩:∃ m,k=m+1:=⟨k-1,by omega⟩
  unfold newelref19_Same.f
  by_cases h1:H.length=H'.length
  · rw[if_pos (by omega)]
    simp only[newelref19_Same.j0]
    by_cases O:I.length=I'.length
    · obtain⟨b,e,hb⟩:=Us H I H' I' hH hI h1 O H.length k 0 (by omega) (by omega)
      rw[List.drop_zero,List.drop_zero] at hb
      rw[if_neg (by rw[O];simp)]
      exact⟨b,e,hb⟩
    · rw[if_pos (by simp;omega)]
      exact⟨false,rfl,⟨fun q=>(by cases q),fun q=>absurd (by rw[q.2]) O⟩⟩
  · rw[if_neg (by omega)]
    simp only[newelref19_Same.j0]
    rw[if_pos trivial]
    exact⟨false,rfl,⟨fun q=>(by cases q),fun q=>absurd (by rw[q.1]) h1⟩⟩
theorem Km (k:Nat) (H:List Hall) (I:List Ins) (hk:H.length+I.length+3<k) (hH:H.length≤1000000000:=by omega) (hI:I.length≤1000000000:=by omega):newelref19_Same.f k H I H I=some true:=by
  obtain⟨b,hb,h⟩:=Gr k H I H I hH hI hk
  rw[hb,h.2 ⟨rfl,rfl⟩]
theorem K6 (k:Nat) (hk:3<k):newelref19_Same.f k ([]:List Hall) ([]:List Ins) [] []=some true:=Km k [] [] (by simpa using hk) (by simp) (by simp)
end Go.Proofs.Ytjehhhlhalkieaa.Call

