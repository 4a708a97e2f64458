/- Texts of this claim, one behind the other: what the law's functions come to, walked (printed by a program, with the words that the print uses), and what that is, in plain Lean. No conditions of their own. -/
import Derived.Test.YtjehhhlhalkieaaQCallServes9
namespace Go.Proofs.Ytjehhhlhalkieaa.C
open Go.RowKit Go.Proofs.YtjehhhlhalkieaaW.PrintWords Go.Proofs.YtjehhhlhalkieaaW.PrintLast Go.Proofs.YtjehhhlhalkieaaW.PrintMore
attribute [local go_sem] Z3 Z1 Xb Xa Zt Zs Z2 Z0
set_option linter.unusedVariables false
set_option linter.unusedSimpArgs false
def newellaw19_CallOnce.j0:Nat→Bool→Option (Bool)
 |0,_=>none
 |k+1,J=>some J
def newellaw19_CallOnce.f (k:Nat) (D:Int) (I:Int) (B:List (S56)) (J:List (S62)) (Y:Int) (X:Int) (θ :Int):Option (Bool):=(newelref19_Few.f B J).bind fun gk=>(if gk=true then ((newellaw19_Own.f B J).bind fun cr=>((call_Press.f k D I cr.1 cr.2 Y X θ).bind fun af=>(if af.2.2=0 then ((call_Press.f k D I af.1 af.2.1 Y X θ).bind fun bb=>((newellaw19_awake.f k).bind fun co=>(if co=true then (if bb.2.2=0 then ((call_Same.f k af.1 af.2.1 bb.1 bb.2.1).bind fun br=>(if br=true then ((call_Check.f k D I af.1 af.2.1).bind fun bd=>(if bd=0 then (if (wrap64 ((wrap64 ((wrap64 ((af.1.length:Int)+(af.2.1.length:Int))) - (B.length:Int))) - (J.length:Int)))=1 then (newellaw19_CallOnce.j0 k true) else (if (wrap64 ((wrap64 ((wrap64 ((af.1.length:Int)+(af.2.1.length:Int))) - (B.length:Int))) - (J.length:Int)))=0 then ((call_Same.f k af.1 af.2.1 B J).bind fun be=>(newellaw19_CallOnce.j0 k be)) else (none))) else (none))) else (none))) else (none)) else (none)))) else ((newellaw19_awake.f k).bind fun ct=>(some ct))))) else ((newellaw19_awake.f k).bind fun dk=>(some dk)))
theorem newellaw19_CallOnce.Zk:∀ k,(∀ J,LeO (newellaw19_CallOnce.j0 k J) (newellaw19_CallOnce.j0 (k+1) J))
 |0=>fun _ r h=>by simp[newellaw19_CallOnce.j0] at h
 |k+1=>by
  have B:=newellaw19_CallOnce.Zk k
  ·intro J
   unfold newellaw19_CallOnce.j0
   repeat' first
   |(with_reducible exact B _)
   |(with_reducible exact call_Check.mono _ _ _ _ _)
   |(with_reducible exact call_Press.mono _ _ _ _ _ _ _ _)
   |(with_reducible exact call_Same.mono _ _ _ _ _)
   |(with_reducible exact newellaw19_awake.mono _)
   |(with_reducible exact LeO.refl _)
   |(with_reducible exact LeO.none _)
   |(with_reducible refine LeO.ite ?_ ?_)
   |(with_reducible refine LeO.bind ?_ (fun _=>?_))
   |exact B _
   |exact call_Check.mono _ _ _ _ _
   |exact call_Press.mono _ _ _ _ _ _ _ _
   |exact call_Same.mono _ _ _ _ _
   |exact newellaw19_awake.mono _
   |exact LeO.none _
   |refine LeO.ite ?_ ?_
   |refine LeO.bind ?_ (fun _=>?_)
theorem newellaw19_CallOnce.mono:∀ D J a2 X L a5 O k,LeO (newellaw19_CallOnce.f k D J a2 X L a5 O) (newellaw19_CallOnce.f (k+1) D J a2 X L a5 O):=by
 intro D J a2 X L a5 O k
 have B:=newellaw19_CallOnce.Zk k
 unfold newellaw19_CallOnce.f
 repeat' first
   |(with_reducible exact B _)
   |(with_reducible exact call_Check.mono _ _ _ _ _)
   |(with_reducible exact call_Press.mono _ _ _ _ _ _ _ _)
   |(with_reducible exact call_Same.mono _ _ _ _ _)
   |(with_reducible exact newellaw19_awake.mono _)
   |(with_reducible exact LeO.refl _)
   |(with_reducible exact LeO.none _)
   |(with_reducible refine LeO.ite ?_ ?_)
   |(with_reducible refine LeO.bind ?_ (fun _=>?_))
   |exact B _
   |exact call_Check.mono _ _ _ _ _
   |exact call_Press.mono _ _ _ _ _ _ _ _
   |exact call_Same.mono _ _ _ _ _
   |exact newellaw19_awake.mono _
   |exact LeO.none _
   |refine LeO.ite ?_ ?_
   |refine LeO.bind ?_ (fun _=>?_)
def newellaw19_CallOnce.T3:Bool×List (List Nat×List Nat):=(true,[([],[]),([],[]),([1],[1]),([],[]),([0,2,3,2],[0,2,3]),([4],[4]),([5],[5]),([5],[5]),([],[]),([8,6,4,0,1,2,3,4,5,6,8],[6,8]),([7,9,0,1,2,3,4,5,6,7,8,9],[7])])
def newellaw19_CallOnce.B3:List Nat:=[0,0,2,0,15,31,63,63,0,383,1023]
theorem newellaw19_CallOnce.Lu:rtab .any (opsOf Try.f6 3)=newellaw19_CallOnce.T3:=by kernel_rfl
theorem newellaw19_CallOnce.Uv:Zp newellaw19_CallOnce.T3.2 newellaw19_CallOnce.B3=true:=by kernel_rfl
set_option maxHeartbeats 8000000 in
set_option maxRecDepth 100000 in
theorem newellaw19_CallOnce.calls (k:Nat) (D:Int) (I:Int) (ζ :Option Addr) (γ:Nat) (B:List (S56)) (η :Option Addr) (δ :Nat) (J:List (S62)) (Y:Int) (X:Int) (θ :Int) (r:Bool) (w:World) (bj:Kd.C k56 w ζ B.length B) (bk:B.length≤γ) (bl:Kd.C k62 w η J.length J) (bm:J.length ≤ δ) (h:newellaw19_CallOnce.f k D I B J Y X θ = some r):
  Calls Try.prog 6 #[.agg #[.int .i64 D,.int .i64 I],.agg #[.slice ζ B.length γ,.slice η J.length δ],.agg #[.int .i64 Y,.int .i64 X,.int .i64 θ]] w fun e w'=>e = .returned (.bool r)∧Below w.heap.size w w':=by
 have et:=Try.underlying23
 have eh:=Try.underlying27
 have kk:=Try.underlying29
 have ai:=Aside0.mk bj
 have ay:=Aside0.mk bk
 clear bj bk
 have ak:=Aside0.mk bl
 have az:=Aside0.mk bm
 clear bl bm
 have HB:=Aside0.mk (Below.refl w.heap.size w)
 have H:((newelref19_Few.f B J).bind fun gk=>(if gk=true then ((newellaw19_Own.f B J).bind fun cr=>((call_Press.f k D I cr.1 cr.2 Y X θ).bind fun af=>(if af.2.2=0 then ((call_Press.f k D I af.1 af.2.1 Y X θ).bind fun bb=>((newellaw19_awake.f k).bind fun co=>(if co=true then (if bb.2.2=0 then ((call_Same.f k af.1 af.2.1 bb.1 bb.2.1).bind fun br=>(if br=true then ((call_Check.f k D I af.1 af.2.1).bind fun bd=>(if bd=0 then (if (wrap64 ((wrap64 ((wrap64 ((af.1.length:Int)+(af.2.1.length:Int))) - (B.length:Int))) - (J.length:Int)))=1 then (newellaw19_CallOnce.j0 k true) else (if (wrap64 ((wrap64 ((wrap64 ((af.1.length:Int)+(af.2.1.length:Int))) - (B.length:Int))) - (J.length:Int)))=0 then ((call_Same.f k af.1 af.2.1 B J).bind fun be=>(newellaw19_CallOnce.j0 k be)) else (none))) else (none))) else (none))) else (none)) else (none)))) else ((newellaw19_awake.f k).bind fun ct=>(some ct))))) else ((newellaw19_awake.f k).bind fun dk=>(some dk))))=some r:=h
 clear h
 replace H:=Option.bind_eq_some_iff.mp H
 obtain⟨gk,cy,H⟩:=H
 replace H:(if gk=true then ((newellaw19_Own.f B J).bind fun cr=>((call_Press.f k D I cr.1 cr.2 Y X θ).bind fun af=>(if af.2.2=0 then ((call_Press.f k D I af.1 af.2.1 Y X θ).bind fun bb=>((newellaw19_awake.f k).bind fun co=>(if co=true then (if bb.2.2=0 then ((call_Same.f k af.1 af.2.1 bb.1 bb.2.1).bind fun br=>(if br=true then ((call_Check.f k D I af.1 af.2.1).bind fun bd=>(if bd=0 then (if (wrap64 ((wrap64 ((wrap64 ((af.1.length:Int)+(af.2.1.length:Int))) - (B.length:Int))) - (J.length:Int)))=1 then (newellaw19_CallOnce.j0 k true) else (if (wrap64 ((wrap64 ((wrap64 ((af.1.length:Int)+(af.2.1.length:Int))) - (B.length:Int))) - (J.length:Int)))=0 then ((call_Same.f k af.1 af.2.1 B J).bind fun be=>(newellaw19_CallOnce.j0 k be)) else (none))) else (none))) else (none))) else (none)) else (none)))) else ((newellaw19_awake.f k).bind fun ct=>(some ct))))) else ((newellaw19_awake.f k).bind fun dk=>(some dk)))=some r:=H
 have A4:=Aside0.mk cy
 clear cy
 by_cases c5:gk=true
 ·subst c5
  have H1:((newellaw19_Own.f B J).bind fun cr=>((call_Press.f k D I cr.1 cr.2 Y X θ).bind fun af=>(if af.2.2=0 then ((call_Press.f k D I af.1 af.2.1 Y X θ).bind fun bb=>((newellaw19_awake.f k).bind fun co=>(if co=true then (if bb.2.2=0 then ((call_Same.f k af.1 af.2.1 bb.1 bb.2.1).bind fun br=>(if br=true then ((call_Check.f k D I af.1 af.2.1).bind fun bd=>(if bd=0 then (if (wrap64 ((wrap64 ((wrap64 ((af.1.length:Int)+(af.2.1.length:Int))) - (B.length:Int))) - (J.length:Int)))=1 then (newellaw19_CallOnce.j0 k true) else (if (wrap64 ((wrap64 ((wrap64 ((af.1.length:Int)+(af.2.1.length:Int))) - (B.length:Int))) - (J.length:Int)))=0 then ((call_Same.f k af.1 af.2.1 B J).bind fun be=>(newellaw19_CallOnce.j0 k be)) else (none))) else (none))) else (none))) else (none)) else (none)))) else ((newellaw19_awake.f k).bind fun ct=>(some ct)))))=some r:=by rw[if_pos rfl] at H;exact H
  clear H
  have H:=H1
  clear H1
  replace H:=Option.bind_eq_some_iff.mp H
  obtain⟨⟨bf,bi⟩,ei,H⟩:=H
  replace H:((call_Press.f k D I bf bi Y X θ).bind fun af=>(if af.2.2=0 then ((call_Press.f k D I af.1 af.2.1 Y X θ).bind fun bb=>((newellaw19_awake.f k).bind fun co=>(if co=true then (if bb.2.2=0 then ((call_Same.f k af.1 af.2.1 bb.1 bb.2.1).bind fun br=>(if br=true then ((call_Check.f k D I af.1 af.2.1).bind fun bd=>(if bd=0 then (if (wrap64 ((wrap64 ((wrap64 ((af.1.length:Int)+(af.2.1.length:Int))) - (B.length:Int))) - (J.length:Int)))=1 then (newellaw19_CallOnce.j0 k true) else (if (wrap64 ((wrap64 ((wrap64 ((af.1.length:Int)+(af.2.1.length:Int))) - (B.length:Int))) - (J.length:Int)))=0 then ((call_Same.f k af.1 af.2.1 B J).bind fun be=>(newellaw19_CallOnce.j0 k be)) else (none))) else (none))) else (none))) else (none)) else (none)))) else ((newellaw19_awake.f k).bind fun ct=>(some ct))))=some r:=H
  have A6:=Aside0.mk ei
  clear ei
  replace H:=Option.bind_eq_some_iff.mp H
  obtain⟨⟨ac,ae,bz⟩,i5,H⟩:=H
  replace H:(if bz=0 then ((call_Press.f k D I ac ae Y X θ).bind fun bb=>((newellaw19_awake.f k).bind fun co=>(if co=true then (if bb.2.2=0 then ((call_Same.f k ac ae bb.1 bb.2.1).bind fun br=>(if br=true then ((call_Check.f k D I ac ae).bind fun bd=>(if bd=0 then (if (wrap64 ((wrap64 ((wrap64 ((ac.length:Int)+(ae.length:Int))) - (B.length:Int))) - (J.length:Int)))=1 then (newellaw19_CallOnce.j0 k true) else (if (wrap64 ((wrap64 ((wrap64 ((ac.length:Int)+(ae.length:Int))) - (B.length:Int))) - (J.length:Int)))=0 then ((call_Same.f k ac ae B J).bind fun be=>(newellaw19_CallOnce.j0 k be)) else (none))) else (none))) else (none))) else (none)) else (none)))) else ((newellaw19_awake.f k).bind fun ct=>(some ct)))=some r:=H
  have A7:=Aside0.mk i5
  clear i5
  by_cases c8:bz=0
  ·rw[if_pos c8] at H
   have c8b0:(bz==0)=true:=beq_iff_eq.mpr c8
   have c8b1:(bz != 0)=false:=bne_eq_false_iff_eq.mpr c8
   clear c8
   replace H:=Option.bind_eq_some_iff.mp H
   obtain⟨⟨b9,bc,fn⟩,ft,H⟩:=H
   replace H:((newellaw19_awake.f k).bind fun co=>(if co=true then (if fn=0 then ((call_Same.f k ac ae b9 bc).bind fun br=>(if br=true then ((call_Check.f k D I ac ae).bind fun bd=>(if bd=0 then (if (wrap64 ((wrap64 ((wrap64 ((ac.length:Int)+(ae.length:Int))) - (B.length:Int))) - (J.length:Int)))=1 then (newellaw19_CallOnce.j0 k true) else (if (wrap64 ((wrap64 ((wrap64 ((ac.length:Int)+(ae.length:Int))) - (B.length:Int))) - (J.length:Int)))=0 then ((call_Same.f k ac ae B J).bind fun be=>(newellaw19_CallOnce.j0 k be)) else (none))) else (none))) else (none))) else (none)) else (none)))=some r:=H
   have A9:=Aside0.mk ft
   clear ft
   have ie:=Aside0.mk H
   clear H
   go_enter Try.func6,Try.ntmps6
   try go_wp2_with (first|((with_reducible refine Qs (N:=3) rfl ?_);refine Zb ?hg (N:=3) ?hd (cs:=#[.int .i64 D,.int .i64 I]) (t:=23) ?hr ?_;(case hd=>rfl);(case hg=>rfl);(case hr=>first|(go_simp;done)|(go_simp;rfl));intro ρ hg d6 hbox hb;have Z:=Aside0.mk (Qv (by repeat(first|(with_reducible first|exact HB.out|apply Qh|apply Qc|apply Qf)|exact HB.out)) hb);have ε :=Aside0.mk (hbox);have ι :=Aside0.mk ((by rw[hg];exact(Ql (by repeat(first|(with_reducible first|exact HB.out|apply Qh|apply Qc|apply Qf)|exact HB.out))):w.heap.size≤ρ));have κ :=Aside0.mk ((by rw[hg];exact(Ql (by repeat(first|(with_reducible first|exact HB.out|apply Qh|apply Qc|apply Qf)|exact HB.out))):w.heap.size≤ρ));clear HB;have HB:=Z;have L:= ε;have jf:= ι;have a0:= κ;clear Z ε ι κ;clear hb hbox hg)|((with_reducible refine Qs (N:=4) rfl ?_);refine Zb ?hg (N:=4) ?hd (cs:=#[.slice ζ B.length γ,.slice η J.length δ]) (t:=27) ?hr ?_;(case hd=>rfl);(case hg=>rfl);(case hr=>first|(go_simp;done)|(go_simp;rfl));intro τ hg d5 hbox hb;have Z:=Aside0.mk (Qn (g:=ρ) (o:=.cells #[.int .i64 D,.int .i64 I] 23 (0,0)) (by(with_reducible repeat first|apply Qe|apply Qa|apply Qb);exact L.out) hb);have ε :=Aside0.mk (Qv (by repeat(first|(with_reducible first|exact HB.out|apply Qh|apply Qc|apply Qf|refine Qd ?_ a0.out)|exact HB.out)) hb);have ι :=Aside0.mk (hbox);have κ :=Aside0.mk ((by rw[hg];exact(Ql (by repeat(first|(with_reducible first|exact HB.out|apply Qh|apply Qc|apply Qf|refine Qd ?_ a0.out)|exact HB.out))):w.heap.size ≤ τ));have χ :=Aside0.mk ((by rw[hg];exact(Ql (by repeat(first|(with_reducible first|exact HB.out|apply Qh|apply Qc|apply Qf|refine Qd ?_ a0.out)|exact HB.out))):w.heap.size ≤ τ));have ω :=Aside0.mk ((by rw[hg];exact Nat.ne_of_lt (Q5 (g:=ρ) (o:=.cells #[.int .i64 D,.int .i64 I] 23 (0,0)) (by(with_reducible repeat first|apply Qe|apply Qa|apply Qb);exact L.out)):ρ ≠ τ));have a1:=Aside0.mk ((by rw[hg];exact Nat.ne_of_gt (Q5 (g:=ρ) (o:=.cells #[.int .i64 D,.int .i64 I] 23 (0,0)) (by(with_reducible repeat first|apply Qe|apply Qa|apply Qb);exact L.out)): τ ≠ ρ));clear L;clear HB;have L:=Z;have HB:= ε;have O:= ι;have jj:= κ;have aa:= χ;have cd:= ω;have ce:=a1;clear Z ε ι κ χ ω a1;clear hb hbox hg)|((with_reducible refine Qs (N:=5) rfl ?_);refine Zb ?hg (N:=5) ?hd (cs:=#[.int .i64 Y,.int .i64 X,.int .i64 θ]) (t:=29) ?hr ?_;(case hd=>rfl);(case hg=>rfl);(case hr=>first|(go_simp;done)|(go_simp;rfl));intro φ hg fa hbox hb;have Z:=Aside0.mk (Qn (g:=ρ) (o:=.cells #[.int .i64 D,.int .i64 I] 23 (0,0)) (by(with_reducible repeat first|apply Qe|apply Qa|apply Qb);exact L.out) hb);have ε :=Aside0.mk (Qn (g:= τ) (o:=.cells #[.slice ζ B.length γ,.slice η J.length δ] 27 (0,0)) (by(with_reducible repeat first|apply Qe|apply Qa|apply Qb);exact O.out) hb);have ι :=Aside0.mk (Qv (by repeat(first|(with_reducible first|exact HB.out|apply Qh|apply Qc|apply Qf|refine Qd ?_ a0.out|refine Qd ?_ aa.out)|exact HB.out)) hb);have κ :=Aside0.mk (hbox);have χ :=Aside0.mk ((by rw[hg];exact(Ql (by repeat(first|(with_reducible first|exact HB.out|apply Qh|apply Qc|apply Qf|refine Qd ?_ a0.out|refine Qd ?_ aa.out)|exact HB.out))):w.heap.size ≤ φ));have ω :=Aside0.mk ((by rw[hg];exact(Ql (by repeat(first|(with_reducible first|exact HB.out|apply Qh|apply Qc|apply Qf|refine Qd ?_ a0.out|refine Qd ?_ aa.out)|exact HB.out))):w.heap.size ≤ φ));have a1:=Aside0.mk ((by rw[hg];exact Nat.ne_of_lt (Q5 (g:=ρ) (o:=.cells #[.int .i64 D,.int .i64 I] 23 (0,0)) (by(with_reducible repeat first|apply Qe|apply Qa|apply Qb);exact L.out)):ρ ≠ φ));have ag:=Aside0.mk ((by rw[hg];exact Nat.ne_of_gt (Q5 (g:=ρ) (o:=.cells #[.int .i64 D,.int .i64 I] 23 (0,0)) (by(with_reducible repeat first|apply Qe|apply Qa|apply Qb);exact L.out)): φ ≠ ρ));have ah:=Aside0.mk ((by rw[hg];exact Nat.ne_of_lt (Q5 (g:= τ) (o:=.cells #[.slice ζ B.length γ,.slice η J.length δ] 27 (0,0)) (by(with_reducible repeat first|apply Qe|apply Qa|apply Qb);exact O.out)): τ ≠ φ));have ax:=Aside0.mk ((by rw[hg];exact Nat.ne_of_gt (Q5 (g:= τ) (o:=.cells #[.slice ζ B.length γ,.slice η J.length δ] 27 (0,0)) (by(with_reducible repeat first|apply Qe|apply Qa|apply Qb);exact O.out)): φ ≠ τ));clear L;clear O;clear HB;have L:=Z;have O:= ε;have HB:= ι;have U:= κ;have jl:= χ;have ab:= ω;have d3:=a1;have d4:=ag;have cp:=ah;have cq:=ax;clear Z ε ι κ χ ω a1 ag ah ax;clear hb hbox hg;have gz:=ce.out;have h0:=cd.out;have fo:=cp.out;have fp:=cq.out;obtain⟨fy,g0,g2,gb⟩:=qD2 O.out)|((with_reducible refine Q0 (f:=9) rfl ?_);refine Zl (some 13) rfl rfl Try.func9 kr rfl #[.agg #[.slice ζ B.length γ,.slice η J.length δ]] rfl (by(try simp only[List.map_toArray,List.map_cons,List.map_nil]);first|done|rfl|(simp only[List.length_drop,List.length_take];rfl)) ?_;(with_reducible refine(newelref19_Few.calls _ _ B _ _ J true _ ?side1 ?side2 ?side3 ?side4 A4.out).mono ?_);(case side1=>repeat(first|exact(Kd.Qx ai.out HB.out)|(with_reducible refine Kd.Q9 ?_ _)|(with_reducible refine Kd.Q8 ?_ _)|(with_reducible refine Kd.Zc ?_)));(case side2=>exact ay.out);(case side3=>repeat(first|exact(Kd.Qx ak.out HB.out)|(with_reducible refine Kd.Q9 ?_ _)|(with_reducible refine Kd.Q8 ?_ _)|(with_reducible refine Kd.Zc ?_)));(case side4=>exact az.out);rintro e gm ⟨rfl,hb⟩;refine⟨_,rfl, ?_⟩;have Z:=Aside0.mk (Qn (g:=ρ) (o:=.cells #[.int .i64 D,.int .i64 I] 23 (0,0)) (by(with_reducible repeat first|apply Qe|apply Qa|apply Qb);exact L.out) hb);have ε :=Aside0.mk (Qn (g:= τ) (o:=.cells #[.slice ζ B.length γ,.slice η J.length δ] 27 (0,0)) (by(with_reducible repeat first|apply Qe|apply Qa|apply Qb);exact O.out) hb);have ι :=Aside0.mk (Qn (g:= φ) (o:=.cells #[.int .i64 Y,.int .i64 X,.int .i64 θ] 29 (0,0)) (by(with_reducible repeat first|apply Qe|apply Qa|apply Qb);exact U.out) hb);have κ :=Aside0.mk (Qv (by repeat(first|(with_reducible first|exact HB.out|apply Qh|apply Qc|apply Qf|refine Qd ?_ a0.out|refine Qd ?_ aa.out|refine Qd ?_ ab.out)|exact HB.out)) hb);clear L;clear O;clear U;clear HB;have L:=Z;have O:= ε;have U:= ι;have HB:= κ;clear Z ε ι κ;(try clear hb);(try clear a4);(try clear hk);(try clear hi)))
   have Z:=Aside0.mk (Qa L.out)
   have ε :=Aside0.mk (Qa O.out)
   have ι :=Aside0.mk (Qa U.out)
   have κ :=Aside0.mk (Qf HB.out)
   clear L
   clear O
   clear U
   clear HB
   have L:=Z
   have O:= ε
   have U:= ι
   have HB:= κ
   clear Z ε ι κ
   refine Zm (n:=11) (S:=fun w'=>w'.cell? ⟨ρ,0,none⟩=some (.int .i64 D)∧w'.cell? ⟨ρ,1,none⟩=some (.int .i64 I)∧w'.cell? ⟨τ,0,none⟩=some (.slice ζ B.length γ)∧w'.cell? ⟨τ,1,none⟩=some (.slice η J.length δ)∧w'.cell? ⟨φ,0,none⟩=some (.int .i64 Y)∧w'.cell? ⟨φ,1,none⟩=some (.int .i64 X)∧w'.cell? ⟨φ,2,none⟩=some (.int .i64 θ)) (ds:=[]) #[false,false,false,false,false,false,false,false,false,false,false] kr rfl rfl ⟨(Qi L.out 0).trans rfl,(Qi L.out 1).trans rfl,(Qi O.out 0).trans rfl,(Qi O.out 1).trans rfl,(Qi U.out 0).trans rfl,(Qi U.out 1).trans rfl,(Qi U.out 2).trans rfl⟩ (fun hHeld=>?_);refine Q7 newellaw19_CallOnce.Lu newellaw19_CallOnce.Uv (fun HT_ HW_=>?_)
   generalize gm.drew=kd at L O U HB hHeld ⊢
   refine qT 0 (some 17) (qB 11 1) HT_ HW_ hHeld ?_
   refine qT 1 (some 18) (qB 11 3) HT_ HW_ hHeld ?_
   refine qT 3 (some 20) (qB 11 11) HT_ HW_ hHeld ?_
   refine Ku (σ:=Value×Value×Value×Value×Nat) 2 #[true,true,true,true,true,true,true,true,true,false,false] (fun s_=>[(19,.agg #[s_.1,s_.2.1]),(21,.tuple #[.agg #[s_.2.2.1,s_.2.2.2.1],.int .i64 bz]),(7,.pointer (some ⟨s_.2.2.2.2,0,none⟩)),(16,.tuple #[.agg #[s_.2.2.1,s_.2.2.2.1],.int .i64 bz]),(22,.agg #[s_.2.2.1,s_.2.2.2.1]),(23,.int .i64 bz)]) (fun s_ w'=>(w'.cell? ⟨ρ,0,none⟩=some (.int .i64 D)∧w'.cell? ⟨ρ,1,none⟩=some (.int .i64 I)∧w'.cell? ⟨τ,0,none⟩=some (.slice ζ B.length γ)∧w'.cell? ⟨τ,1,none⟩=some (.slice η J.length δ)∧w'.cell? ⟨φ,0,none⟩=some (.int .i64 Y)∧w'.cell? ⟨φ,1,none⟩=some (.int .i64 X)∧w'.cell? ⟨φ,2,none⟩=some (.int .i64 θ))∧(Kd.R k56 56 w' w.heap.size (fun k_=>some k_≠(s_.2.2.1:Value).ownBlock) s_.1 bf)∧(Kd.R k62 62 w' w.heap.size (fun k_=>some k_≠(s_.2.2.2.1:Value).ownBlock) s_.2.1 bi)∧(Kd.R k56 56 w' w.heap.size (fun k_=>some k_≠(s_.1:Value).ownBlock) s_.2.2.1 ac)∧(Kd.R k62 62 w' w.heap.size (fun k_=>some k_≠(s_.2.1:Value).ownBlock) s_.2.2.2.1 ae)∧(w'.heap[ρ]?=some (.cells #[.int .i64 D,.int .i64 I] 23 (0,0)))∧(w'.heap[τ]?=some (.cells #[.slice ζ B.length γ,.slice η J.length δ] 27 (0,0)))∧(w'.heap[φ]?=some (.cells #[.int .i64 Y,.int .i64 X,.int .i64 θ] 29 (0,0)))∧(w'.heap[s_.2.2.2.2]?=some (.cells #[.slice none 0 0,.slice none 0 0] 27 (0,0)))∧(w.heap.size≤s_.2.2.2.2)∧(w.heap.size≤s_.2.2.2.2)∧(ρ≠s_.2.2.2.2)∧(s_.2.2.2.2≠ρ)∧(τ ≠ s_.2.2.2.2)∧(s_.2.2.2.2 ≠ τ)∧(φ ≠ s_.2.2.2.2)∧(s_.2.2.2.2 ≠ φ)∧(Below w.heap.size w w')) ?_ ?_
   rotate_left
   ·intro hCont
    refine J8 (i:=2) (j:=8) (Ni:=some 19) (Nj:=some 7) #[true,true,true,true,false,false,false,false,false,false,false] #[true,true,false,true,false,false,false,false,true,false,false] rfl rfl rfl rfl (X6 HT_.out kr) (by decide) (by decide) (fun K hK=>?_) (fun K hK=>?_)
    ·skip
     refine Zh Try.func12 kr rfl #[.agg #[.slice ζ B.length γ,.slice η J.length δ]] (by rfl) rfl rfl (by(try simp only[List.map_toArray,List.map_cons,List.map_nil]);first|done|rfl|(simp only[List.length_drop,List.length_take];rfl)) ?_
     with_reducible refine(newellaw19_Own.calls _ _ B _ _ J bf bi _ ?side1 ?side2 ?side3 ?side4 A6.out).mono ?_
     (case side1=>repeat(first|exact(Kd.Qx ai.out HB.out)|(with_reducible refine Kd.Q9 ?_ _)|(with_reducible refine Kd.Q8 ?_ _)|(with_reducible refine Kd.Zc ?_)))
     (case side2=>exact ay.out)
     (case side3=>repeat(first|exact(Kd.Qx ak.out HB.out)|(with_reducible refine Kd.Q9 ?_ _)|(with_reducible refine Kd.Q8 ?_ _)|(with_reducible refine Kd.Zc ?_)))
     (case side4=>exact az.out)
     rintro e fb ⟨dl,dm,rfl,ψ,a2,hb⟩
     refine⟨_,rfl, ?_⟩
     have Z:=Aside0.mk (Kd.Q1 ψ (Ql (by repeat(first|(with_reducible first|exact HB.out|apply Qh|apply Qc|apply Qf|refine Qd ?_ a0.out|refine Qd ?_ aa.out|refine Qd ?_ ab.out)|exact HB.out))))
     have ε :=Aside0.mk (Kd.Q1 a2 (Ql (by repeat(first|(with_reducible first|exact HB.out|apply Qh|apply Qc|apply Qf|refine Qd ?_ a0.out|refine Qd ?_ aa.out|refine Qd ?_ ab.out)|exact HB.out))))
     have ι :=Aside0.mk (Qn (g:=ρ) (o:=.cells #[.int .i64 D,.int .i64 I] 23 (0,0)) (by(with_reducible repeat first|apply Qe|apply Qa|apply Qb);exact L.out) hb)
     have κ :=Aside0.mk (Qn (g:= τ) (o:=.cells #[.slice ζ B.length γ,.slice η J.length δ] 27 (0,0)) (by(with_reducible repeat first|apply Qe|apply Qa|apply Qb);exact O.out) hb)
     have χ :=Aside0.mk (Qn (g:= φ) (o:=.cells #[.int .i64 Y,.int .i64 X,.int .i64 θ] 29 (0,0)) (by(with_reducible repeat first|apply Qe|apply Qa|apply Qb);exact U.out) hb)
     have ω :=Aside0.mk (Qv (by repeat(first|(with_reducible first|exact HB.out|apply Qh|apply Qc|apply Qf|refine Qd ?_ a0.out|refine Qd ?_ aa.out|refine Qd ?_ ab.out)|exact HB.out)) hb)
     clear L
     clear O
     clear U
     clear HB
     have a3:=Z
     have a5:= ε
     have L:= ι
     have O:= κ
     have U:= χ
     have HB:= ω
     clear Z ε ι κ χ ω
     (try clear hb)
     (try clear a4)
     (try clear hk)
     (try clear hi)
     (try clear ψ)
     (try clear a2)
     obtain⟨kl,km,kn⟩:=Kd.Q3 a3.out
     (first|subst kn|(injection kn with ν a7 ξ;have a8:= ν.symm;have a9:= ξ.symm;clear ν a7 ξ;subst a8;subst a9))
     obtain⟨dr,dt,du⟩:=Kd.Q3 a5.out
     (first|subst du|(injection du with ν a7 ξ;have a8:= ν.symm;have a9:= ξ.symm;clear ν a7 ξ;subst a8;subst a9))
     refine hK.out _ _ ⟨qc L,qc L,qc O,qc O,qc U,qc U,qc U⟩ (fun hHeld=>?_)
     clear hK K
     refine qN (some 19) ?_
     refine J8 (i:=4) (j:=8) (Ni:=some 21) (Nj:=some 7) #[true,true,true,true,true,false,false,false,false,false,false] #[true,true,true,true,false,false,false,false,true,false,false] rfl rfl rfl rfl (X6 HT_.out kr) (by decide) (by decide) (fun K hK=>?_) (fun K hK=>?_)
     ·skip
      refine Zh Try.func11 kr rfl #[.agg #[.int .i64 D,.int .i64 I],.agg #[.slice kl bf.length km,.slice dr bi.length dt],.agg #[.int .i64 Y,.int .i64 X,.int .i64 θ]] (by rfl) rfl rfl (by(try simp only[List.map_toArray,List.map_cons,List.map_nil]);first|done|rfl|(simp only[List.length_drop,List.length_take];rfl)) ?_
      with_reducible refine(call_Press.calls k D I _ _ bf _ _ bi Y X θ ac ae bz _ ?side1 ?side2 ?side3 ?side4 A7.out).mono ?_
      (case side1=>repeat(first|exact(Kd.Qp a3.out).2.2|(with_reducible refine Kd.Q9 ?_ _)|(with_reducible refine Kd.Q8 ?_ _)|(with_reducible refine Kd.Zc ?_)))
      (case side2=>exact(Kd.Qp a3.out).2.1)
      (case side3=>repeat(first|exact(Kd.Qp a5.out).2.2|(with_reducible refine Kd.Q9 ?_ _)|(with_reducible refine Kd.Q8 ?_ _)|(with_reducible refine Kd.Zc ?_)))
      (case side4=>exact(Kd.Qp a5.out).2.1)
      rintro e fc ⟨cf,cg,rfl,ψ,a2,hb⟩
      refine⟨_,rfl, ?_⟩
      have Z:=Aside0.mk (Kd.Za (by(with_reducible repeat first|apply Kd.Qk|apply Kd.Qj|apply Kd.Qm);exact a3.out) (Kd.Zg ψ) hb)
      have ε :=Aside0.mk (Kd.Za (by(with_reducible repeat first|apply Kd.Qk|apply Kd.Qj|apply Kd.Qm);exact a5.out) (Kd.Zg a2) hb)
      have ι :=Aside0.mk (Kd.Q1 (Kd.Zf ψ (Kd.Zq (by(with_reducible repeat first|apply Kd.Qk|apply Kd.Qj|apply Kd.Qm);exact a3.out))) (Ql (by repeat(first|(with_reducible first|exact HB.out|apply Qh|apply Qc|apply Qf|refine Qd ?_ a0.out|refine Qd ?_ aa.out|refine Qd ?_ ab.out)|exact HB.out))))
      have κ :=Aside0.mk (Kd.Q1 (Kd.Zf a2 (Kd.Zq (by(with_reducible repeat first|apply Kd.Qk|apply Kd.Qj|apply Kd.Qm);exact a5.out))) (Ql (by repeat(first|(with_reducible first|exact HB.out|apply Qh|apply Qc|apply Qf|refine Qd ?_ a0.out|refine Qd ?_ aa.out|refine Qd ?_ ab.out)|exact HB.out))))
      have χ :=Aside0.mk (Qn (g:=ρ) (o:=.cells #[.int .i64 D,.int .i64 I] 23 (0,0)) (by(with_reducible repeat first|apply Qe|apply Qa|apply Qb);exact L.out) hb)
      have ω :=Aside0.mk (Qn (g:= τ) (o:=.cells #[.slice ζ B.length γ,.slice η J.length δ] 27 (0,0)) (by(with_reducible repeat first|apply Qe|apply Qa|apply Qb);exact O.out) hb)
      have a1:=Aside0.mk (Qn (g:= φ) (o:=.cells #[.int .i64 Y,.int .i64 X,.int .i64 θ] 29 (0,0)) (by(with_reducible repeat first|apply Qe|apply Qa|apply Qb);exact U.out) hb)
      have ag:=Aside0.mk (Qv (by repeat(first|(with_reducible first|exact HB.out|apply Qh|apply Qc|apply Qf|refine Qd ?_ a0.out|refine Qd ?_ aa.out|refine Qd ?_ ab.out)|exact HB.out)) hb)
      clear a3
      clear a5
      clear L
      clear O
      clear U
      clear HB
      have a3:=Z
      have a5:= ε
      have al:= ι
      have am:= κ
      have L:= χ
      have O:= ω
      have U:=a1
      have HB:=ag
      clear Z ε ι κ χ ω a1 ag
      (try clear hb)
      (try clear a4)
      (try clear hk)
      (try clear hi)
      (try clear ψ)
      (try clear a2)
      refine hK.out _ _ ⟨qc L,qc L,qc O,qc O,qc U,qc U,qc U⟩ (fun hHeld=>?_)
      clear hK K
      refine qN (some 21) ?_
      refine qP 5 (some 16) (qB 11 63) HT_ ?_
      refine qP 6 (some 22) (qB 11 127) HT_ ?_
      refine qP 7 (some 23) (qB 11 255) HT_ ?_
      refine Zi (i:=8) (N:=some 7) #[true,true,true,true,true,true,true,true,true,false,false] rfl rfl (Q2 HT_.out kr) (by decide) (fun K hK=>?_)
      refine Xc ?hg (N:=7) ?hd (cs:=#[.slice none 0 0,.slice none 0 0]) (t:=27) ?hr ?_;(case hd=>rfl);(case hg=>rfl);(case hr=>first|(go_simp;done)|(go_simp;rfl))
      intro μ hg df hbox hb
      have Z:=Aside0.mk (Kd.Qt (by(with_reducible repeat first|apply Kd.Qk|apply Kd.Qj|apply Kd.Qm);exact a3.out) hb)
      have ε :=Aside0.mk (Kd.Qt (by(with_reducible repeat first|apply Kd.Qk|apply Kd.Qj|apply Kd.Qm);exact a5.out) hb)
      have ι :=Aside0.mk (Kd.Qt (by(with_reducible repeat first|apply Kd.Qk|apply Kd.Qj|apply Kd.Qm);exact al.out) hb)
      have κ :=Aside0.mk (Kd.Qt (by(with_reducible repeat first|apply Kd.Qk|apply Kd.Qj|apply Kd.Qm);exact am.out) hb)
      have χ :=Aside0.mk (Qn (g:=ρ) (o:=.cells #[.int .i64 D,.int .i64 I] 23 (0,0)) (by(with_reducible repeat first|apply Qe|apply Qa|apply Qb);exact L.out) hb)
      have ω :=Aside0.mk (Qn (g:= τ) (o:=.cells #[.slice ζ B.length γ,.slice η J.length δ] 27 (0,0)) (by(with_reducible repeat first|apply Qe|apply Qa|apply Qb);exact O.out) hb)
      have a1:=Aside0.mk (Qn (g:= φ) (o:=.cells #[.int .i64 Y,.int .i64 X,.int .i64 θ] 29 (0,0)) (by(with_reducible repeat first|apply Qe|apply Qa|apply Qb);exact U.out) hb)
      have ag:=Aside0.mk (Qv (by repeat(first|(with_reducible first|exact HB.out|apply Qh|apply Qc|apply Qf|refine Qd ?_ a0.out|refine Qd ?_ aa.out|refine Qd ?_ ab.out)|exact HB.out)) hb)
      have ah:=Aside0.mk (hbox)
      have ax:=Aside0.mk ((by rw[hg];exact(Ql (by repeat(first|(with_reducible first|exact HB.out|apply Qh|apply Qc|apply Qf|refine Qd ?_ a0.out|refine Qd ?_ aa.out|refine Qd ?_ ab.out)|exact HB.out))):w.heap.size ≤ μ))
      have aj:=Aside0.mk ((by rw[hg];exact(Ql (by repeat(first|(with_reducible first|exact HB.out|apply Qh|apply Qc|apply Qf|refine Qd ?_ a0.out|refine Qd ?_ aa.out|refine Qd ?_ ab.out)|exact HB.out))):w.heap.size ≤ μ))
      have ap:=Aside0.mk ((by rw[hg];exact Nat.ne_of_lt (Q5 (g:=ρ) (o:=.cells #[.int .i64 D,.int .i64 I] 23 (0,0)) (by(with_reducible repeat first|apply Qe|apply Qa|apply Qb);exact L.out)):ρ ≠ μ))
      have b8:=Aside0.mk ((by rw[hg];exact Nat.ne_of_gt (Q5 (g:=ρ) (o:=.cells #[.int .i64 D,.int .i64 I] 23 (0,0)) (by(with_reducible repeat first|apply Qe|apply Qa|apply Qb);exact L.out)): μ ≠ ρ))
      have bg:=Aside0.mk ((by rw[hg];exact Nat.ne_of_lt (Q5 (g:= τ) (o:=.cells #[.slice ζ B.length γ,.slice η J.length δ] 27 (0,0)) (by(with_reducible repeat first|apply Qe|apply Qa|apply Qb);exact O.out)): τ ≠ μ))
      have bh:=Aside0.mk ((by rw[hg];exact Nat.ne_of_gt (Q5 (g:= τ) (o:=.cells #[.slice ζ B.length γ,.slice η J.length δ] 27 (0,0)) (by(with_reducible repeat first|apply Qe|apply Qa|apply Qb);exact O.out)): μ ≠ τ))
      have bs:=Aside0.mk ((by rw[hg];exact Nat.ne_of_lt (Q5 (g:= φ) (o:=.cells #[.int .i64 Y,.int .i64 X,.int .i64 θ] 29 (0,0)) (by(with_reducible repeat first|apply Qe|apply Qa|apply Qb);exact U.out)): φ ≠ μ))
      have bu:=Aside0.mk ((by rw[hg];exact Nat.ne_of_gt (Q5 (g:= φ) (o:=.cells #[.int .i64 Y,.int .i64 X,.int .i64 θ] 29 (0,0)) (by(with_reducible repeat first|apply Qe|apply Qa|apply Qb);exact U.out)): μ ≠ φ))
      clear a3
      clear a5
      clear al
      clear am
      clear L
      clear O
      clear U
      clear HB
      have a3:=Z
      have a5:= ε
      have al:= ι
      have am:= κ
      have L:= χ
      have O:= ω
      have U:=a1
      have HB:=ag
      have a6:=ah
      have cn:=ax
      have au:=aj
      have ao:=ap
      have b0:=b8
      have ar:=bg
      have b2:=bh
      have an:=bs
      have b4:=bu
      clear Z ε ι κ χ ω a1 ag ah ax aj ap b8 bg bh bs bu
      clear hb hbox hg
      refine hK.out _ _ ⟨qc L,qc L,qc O,qc O,qc U,qc U,qc U⟩ (fun hHeld=>?_)
      clear hK K
      refine qN (some 7) ?_
      exact Xe (by simp only[Zv,Act.put,qS]) (hCont (.slice kl bf.length km,.slice dr bi.length dt,cf,cg,μ) _ ⟨hHeld,(by(with_reducible repeat first|apply Kd.Qk|apply Kd.Qj|apply Kd.Qm);exact Kd.Qq a3.out (fun _ hk=>hk.2)),(by(with_reducible repeat first|apply Kd.Qk|apply Kd.Qj|apply Kd.Qm);exact Kd.Qq a5.out (fun _ hk=>hk.2)),(by(with_reducible repeat first|apply Kd.Qk|apply Kd.Qj|apply Kd.Qm);exact Kd.Qq al.out (fun _ hk=>hk.2)),(by(with_reducible repeat first|apply Kd.Qk|apply Kd.Qj|apply Kd.Qm);exact Kd.Qq am.out (fun _ hk=>hk.2)),(by(with_reducible repeat first|apply Qe|apply Qa|apply Qb);exact L.out),(by(with_reducible repeat first|apply Qe|apply Qa|apply Qb);exact O.out),(by(with_reducible repeat first|apply Qe|apply Qa|apply Qb);exact U.out),(by(with_reducible repeat first|apply Qe|apply Qa|apply Qb);exact a6.out),cn.out,au.out,ao.out,b0.out,ar.out,b2.out,an.out,b4.out,(by repeat(first|(with_reducible first|exact HB.out|apply Qh|apply Qc|apply Qf|refine Qd ?_ a0.out|refine Qd ?_ aa.out|refine Qd ?_ ab.out|refine Qd ?_ au.out)|exact HB.out))⟩)
     ·skip
      refine Xc ?hg (N:=7) ?hd (cs:=#[.slice none 0 0,.slice none 0 0]) (t:=27) ?hr ?_;(case hd=>rfl);(case hg=>rfl);(case hr=>first|(go_simp;done)|(go_simp;rfl))
      intro μ hg eu hbox hb
      have Z:=Aside0.mk (Kd.Qt (by(with_reducible repeat first|apply Kd.Qk|apply Kd.Qj|apply Kd.Qm);exact a3.out) hb)
      have ε :=Aside0.mk (Kd.Qt (by(with_reducible repeat first|apply Kd.Qk|apply Kd.Qj|apply Kd.Qm);exact a5.out) hb)
      have ι :=Aside0.mk (Qn (g:=ρ) (o:=.cells #[.int .i64 D,.int .i64 I] 23 (0,0)) (by(with_reducible repeat first|apply Qe|apply Qa|apply Qb);exact L.out) hb)
      have κ :=Aside0.mk (Qn (g:= τ) (o:=.cells #[.slice ζ B.length γ,.slice η J.length δ] 27 (0,0)) (by(with_reducible repeat first|apply Qe|apply Qa|apply Qb);exact O.out) hb)
      have χ :=Aside0.mk (Qn (g:= φ) (o:=.cells #[.int .i64 Y,.int .i64 X,.int .i64 θ] 29 (0,0)) (by(with_reducible repeat first|apply Qe|apply Qa|apply Qb);exact U.out) hb)
      have ω :=Aside0.mk (Qv (by repeat(first|(with_reducible first|exact HB.out|apply Qh|apply Qc|apply Qf|refine Qd ?_ a0.out|refine Qd ?_ aa.out|refine Qd ?_ ab.out)|exact HB.out)) hb)
      have a1:=Aside0.mk (hbox)
      have ag:=Aside0.mk ((by rw[hg];exact(Ql (by repeat(first|(with_reducible first|exact HB.out|apply Qh|apply Qc|apply Qf|refine Qd ?_ a0.out|refine Qd ?_ aa.out|refine Qd ?_ ab.out)|exact HB.out))):w.heap.size ≤ μ))
      have ah:=Aside0.mk ((by rw[hg];exact(Ql (by repeat(first|(with_reducible first|exact HB.out|apply Qh|apply Qc|apply Qf|refine Qd ?_ a0.out|refine Qd ?_ aa.out|refine Qd ?_ ab.out)|exact HB.out))):w.heap.size ≤ μ))
      have ax:=Aside0.mk ((by rw[hg];exact Nat.ne_of_lt (Q5 (g:=ρ) (o:=.cells #[.int .i64 D,.int .i64 I] 23 (0,0)) (by(with_reducible repeat first|apply Qe|apply Qa|apply Qb);exact L.out)):ρ ≠ μ))
      have aj:=Aside0.mk ((by rw[hg];exact Nat.ne_of_gt (Q5 (g:=ρ) (o:=.cells #[.int .i64 D,.int .i64 I] 23 (0,0)) (by(with_reducible repeat first|apply Qe|apply Qa|apply Qb);exact L.out)): μ ≠ ρ))
      have ap:=Aside0.mk ((by rw[hg];exact Nat.ne_of_lt (Q5 (g:= τ) (o:=.cells #[.slice ζ B.length γ,.slice η J.length δ] 27 (0,0)) (by(with_reducible repeat first|apply Qe|apply Qa|apply Qb);exact O.out)): τ ≠ μ))
      have b8:=Aside0.mk ((by rw[hg];exact Nat.ne_of_gt (Q5 (g:= τ) (o:=.cells #[.slice ζ B.length γ,.slice η J.length δ] 27 (0,0)) (by(with_reducible repeat first|apply Qe|apply Qa|apply Qb);exact O.out)): μ ≠ τ))
      have bg:=Aside0.mk ((by rw[hg];exact Nat.ne_of_lt (Q5 (g:= φ) (o:=.cells #[.int .i64 Y,.int .i64 X,.int .i64 θ] 29 (0,0)) (by(with_reducible repeat first|apply Qe|apply Qa|apply Qb);exact U.out)): φ ≠ μ))
      have bh:=Aside0.mk ((by rw[hg];exact Nat.ne_of_gt (Q5 (g:= φ) (o:=.cells #[.int .i64 Y,.int .i64 X,.int .i64 θ] 29 (0,0)) (by(with_reducible repeat first|apply Qe|apply Qa|apply Qb);exact U.out)): μ ≠ φ))
      clear a3
      clear a5
      clear L
      clear O
      clear U
      clear HB
      have a3:=Z
      have a5:= ε
      have L:= ι
      have O:= κ
      have U:= χ
      have HB:= ω
      have a6:=a1
      have cn:=ag
      have au:=ah
      have ao:=ax
      have b0:=aj
      have ar:=ap
      have b2:=b8
      have an:=bg
      have b4:=bh
      clear Z ε ι κ χ ω a1 ag ah ax aj ap b8 bg bh
      clear hb hbox hg
      obtain⟨dr,dt,du⟩:=Kd.Q3 a3.out
      (first|subst du|(injection du with ν a7 ξ;have a8:= ν.symm;have a9:= ξ.symm;clear ν a7 ξ;subst a8;subst a9))
      obtain⟨g4,g5,g6⟩:=Kd.Q3 a5.out
      (first|subst g6|(injection g6 with ν a7 ξ;have a8:= ν.symm;have a9:= ξ.symm;clear ν a7 ξ;subst a8;subst a9))
      refine hK.out _ _ ⟨qc L,qc L,qc O,qc O,qc U,qc U,qc U⟩ (fun hHeld=>?_)
      clear hK K
      refine qN (some 7) ?_
      refine Zi (i:=4) (N:=some 21) #[true,true,true,true,true,false,false,false,true,false,false] rfl rfl (Q2 HT_.out kr) (by decide) (fun K hK=>?_)
      refine Zh Try.func11 kr rfl #[.agg #[.int .i64 D,.int .i64 I],.agg #[.slice dr bf.length dt,.slice g4 bi.length g5],.agg #[.int .i64 Y,.int .i64 X,.int .i64 θ]] (by rfl) rfl rfl (by(try simp only[List.map_toArray,List.map_cons,List.map_nil]);first|done|rfl|(simp only[List.length_drop,List.length_take];rfl)) ?_
      with_reducible refine(call_Press.calls k D I _ _ bf _ _ bi Y X θ ac ae bz _ ?side1 ?side2 ?side3 ?side4 A7.out).mono ?_
      (case side1=>repeat(first|exact(Kd.Qp a3.out).2.2|(with_reducible refine Kd.Q9 ?_ _)|(with_reducible refine Kd.Q8 ?_ _)|(with_reducible refine Kd.Zc ?_)))
      (case side2=>exact(Kd.Qp a3.out).2.1)
      (case side3=>repeat(first|exact(Kd.Qp a5.out).2.2|(with_reducible refine Kd.Q9 ?_ _)|(with_reducible refine Kd.Q8 ?_ _)|(with_reducible refine Kd.Zc ?_)))
      (case side4=>exact(Kd.Qp a5.out).2.1)
      rintro e df ⟨cf,cg,rfl,ψ,a2,hb⟩
      refine⟨_,rfl, ?_⟩
      have Z:=Aside0.mk (Kd.Za (by(with_reducible repeat first|apply Kd.Qk|apply Kd.Qj|apply Kd.Qm);exact a3.out) (Kd.Zg ψ) hb)
      have ε :=Aside0.mk (Kd.Za (by(with_reducible repeat first|apply Kd.Qk|apply Kd.Qj|apply Kd.Qm);exact a5.out) (Kd.Zg a2) hb)
      have ι :=Aside0.mk (Kd.Q1 (Kd.Zf ψ (Kd.Zq (by(with_reducible repeat first|apply Kd.Qk|apply Kd.Qj|apply Kd.Qm);exact a3.out))) (Ql (by repeat(first|(with_reducible first|exact HB.out|apply Qh|apply Qc|apply Qf|refine Qd ?_ a0.out|refine Qd ?_ aa.out|refine Qd ?_ ab.out|refine Qd ?_ au.out)|exact HB.out))))
      have κ :=Aside0.mk (Kd.Q1 (Kd.Zf a2 (Kd.Zq (by(with_reducible repeat first|apply Kd.Qk|apply Kd.Qj|apply Kd.Qm);exact a5.out))) (Ql (by repeat(first|(with_reducible first|exact HB.out|apply Qh|apply Qc|apply Qf|refine Qd ?_ a0.out|refine Qd ?_ aa.out|refine Qd ?_ ab.out|refine Qd ?_ au.out)|exact HB.out))))
      have χ :=Aside0.mk (Qn (g:=ρ) (o:=.cells #[.int .i64 D,.int .i64 I] 23 (0,0)) (by(with_reducible repeat first|apply Qe|apply Qa|apply Qb);exact L.out) hb)
      have ω :=Aside0.mk (Qn (g:= τ) (o:=.cells #[.slice ζ B.length γ,.slice η J.length δ] 27 (0,0)) (by(with_reducible repeat first|apply Qe|apply Qa|apply Qb);exact O.out) hb)
      have a1:=Aside0.mk (Qn (g:= φ) (o:=.cells #[.int .i64 Y,.int .i64 X,.int .i64 θ] 29 (0,0)) (by(with_reducible repeat first|apply Qe|apply Qa|apply Qb);exact U.out) hb)
      have ag:=Aside0.mk (Qn (g:= μ) (o:=.cells #[.slice none 0 0,.slice none 0 0] 27 (0,0)) (by(with_reducible repeat first|apply Qe|apply Qa|apply Qb);exact a6.out) hb)
      have ah:=Aside0.mk (Qv (by repeat(first|(with_reducible first|exact HB.out|apply Qh|apply Qc|apply Qf|refine Qd ?_ a0.out|refine Qd ?_ aa.out|refine Qd ?_ ab.out|refine Qd ?_ au.out)|exact HB.out)) hb)
      clear a3
      clear a5
      clear L
      clear O
      clear U
      clear a6
      clear HB
      have a3:=Z
      have a5:= ε
      have al:= ι
      have am:= κ
      have L:= χ
      have O:= ω
      have U:=a1
      have a6:=ag
      have HB:=ah
      clear Z ε ι κ χ ω a1 ag ah
      (try clear hb)
      (try clear a4)
      (try clear hk)
      (try clear hi)
      (try clear ψ)
      (try clear a2)
      refine hK.out _ _ ⟨qc L,qc L,qc O,qc O,qc U,qc U,qc U⟩ (fun hHeld=>?_)
      clear hK K
      refine qN (some 21) ?_
      refine qP 5 (some 16) (qB 11 319) HT_ ?_
      refine qP 6 (some 22) (qB 11 383) HT_ ?_
      refine qP 7 (some 23) (qB 11 511) HT_ ?_
      exact Xe (by simp only[Zv,Act.put,qS]) (hCont (.slice dr bf.length dt,.slice g4 bi.length g5,cf,cg,μ) _ ⟨hHeld,(by(with_reducible repeat first|apply Kd.Qk|apply Kd.Qj|apply Kd.Qm);exact Kd.Qq a3.out (fun _ hk=>hk.2)),(by(with_reducible repeat first|apply Kd.Qk|apply Kd.Qj|apply Kd.Qm);exact Kd.Qq a5.out (fun _ hk=>hk.2)),(by(with_reducible repeat first|apply Kd.Qk|apply Kd.Qj|apply Kd.Qm);exact Kd.Qq al.out (fun _ hk=>hk.2)),(by(with_reducible repeat first|apply Kd.Qk|apply Kd.Qj|apply Kd.Qm);exact Kd.Qq am.out (fun _ hk=>hk.2)),(by(with_reducible repeat first|apply Qe|apply Qa|apply Qb);exact L.out),(by(with_reducible repeat first|apply Qe|apply Qa|apply Qb);exact O.out),(by(with_reducible repeat first|apply Qe|apply Qa|apply Qb);exact U.out),(by(with_reducible repeat first|apply Qe|apply Qa|apply Qb);exact a6.out),cn.out,au.out,ao.out,b0.out,ar.out,b2.out,an.out,b4.out,(by repeat(first|(with_reducible first|exact HB.out|apply Qh|apply Qc|apply Qf|refine Qd ?_ a0.out|refine Qd ?_ aa.out|refine Qd ?_ ab.out|refine Qd ?_ au.out)|exact HB.out))⟩)
    ·skip
     refine Xc ?hg (N:=7) ?hd (cs:=#[.slice none 0 0,.slice none 0 0]) (t:=27) ?hr ?_;(case hd=>rfl);(case hg=>rfl);(case hr=>first|(go_simp;done)|(go_simp;rfl))
     intro μ hg fb hbox hb
     have Z:=Aside0.mk (Qn (g:=ρ) (o:=.cells #[.int .i64 D,.int .i64 I] 23 (0,0)) (by(with_reducible repeat first|apply Qe|apply Qa|apply Qb);exact L.out) hb)
     have ε :=Aside0.mk (Qn (g:= τ) (o:=.cells #[.slice ζ B.length γ,.slice η J.length δ] 27 (0,0)) (by(with_reducible repeat first|apply Qe|apply Qa|apply Qb);exact O.out) hb)
     have ι :=Aside0.mk (Qn (g:= φ) (o:=.cells #[.int .i64 Y,.int .i64 X,.int .i64 θ] 29 (0,0)) (by(with_reducible repeat first|apply Qe|apply Qa|apply Qb);exact U.out) hb)
     have κ :=Aside0.mk (Qv (by repeat(first|(with_reducible first|exact HB.out|apply Qh|apply Qc|apply Qf|refine Qd ?_ a0.out|refine Qd ?_ aa.out|refine Qd ?_ ab.out)|exact HB.out)) hb)
     have χ :=Aside0.mk (hbox)
     have ω :=Aside0.mk ((by rw[hg];exact(Ql (by repeat(first|(with_reducible first|exact HB.out|apply Qh|apply Qc|apply Qf|refine Qd ?_ a0.out|refine Qd ?_ aa.out|refine Qd ?_ ab.out)|exact HB.out))):w.heap.size ≤ μ))
     have a1:=Aside0.mk ((by rw[hg];exact(Ql (by repeat(first|(with_reducible first|exact HB.out|apply Qh|apply Qc|apply Qf|refine Qd ?_ a0.out|refine Qd ?_ aa.out|refine Qd ?_ ab.out)|exact HB.out))):w.heap.size ≤ μ))
     have ag:=Aside0.mk ((by rw[hg];exact Nat.ne_of_lt (Q5 (g:=ρ) (o:=.cells #[.int .i64 D,.int .i64 I] 23 (0,0)) (by(with_reducible repeat first|apply Qe|apply Qa|apply Qb);exact L.out)):ρ ≠ μ))
     have ah:=Aside0.mk ((by rw[hg];exact Nat.ne_of_gt (Q5 (g:=ρ) (o:=.cells #[.int .i64 D,.int .i64 I] 23 (0,0)) (by(with_reducible repeat first|apply Qe|apply Qa|apply Qb);exact L.out)): μ ≠ ρ))
     have ax:=Aside0.mk ((by rw[hg];exact Nat.ne_of_lt (Q5 (g:= τ) (o:=.cells #[.slice ζ B.length γ,.slice η J.length δ] 27 (0,0)) (by(with_reducible repeat first|apply Qe|apply Qa|apply Qb);exact O.out)): τ ≠ μ))
     have aj:=Aside0.mk ((by rw[hg];exact Nat.ne_of_gt (Q5 (g:= τ) (o:=.cells #[.slice ζ B.length γ,.slice η J.length δ] 27 (0,0)) (by(with_reducible repeat first|apply Qe|apply Qa|apply Qb);exact O.out)): μ ≠ τ))
     have ap:=Aside0.mk ((by rw[hg];exact Nat.ne_of_lt (Q5 (g:= φ) (o:=.cells #[.int .i64 Y,.int .i64 X,.int .i64 θ] 29 (0,0)) (by(with_reducible repeat first|apply Qe|apply Qa|apply Qb);exact U.out)): φ ≠ μ))
     have b8:=Aside0.mk ((by rw[hg];exact Nat.ne_of_gt (Q5 (g:= φ) (o:=.cells #[.int .i64 Y,.int .i64 X,.int .i64 θ] 29 (0,0)) (by(with_reducible repeat first|apply Qe|apply Qa|apply Qb);exact U.out)): μ ≠ φ))
     clear L
     clear O
     clear U
     clear HB
     have L:=Z
     have O:= ε
     have U:= ι
     have HB:= κ
     have a6:= χ
     have cn:= ω
     have au:=a1
     have ao:=ag
     have b0:=ah
     have ar:=ax
     have b2:=aj
     have an:=ap
     have b4:=b8
     clear Z ε ι κ χ ω a1 ag ah ax aj ap b8
     clear hb hbox hg
     refine hK.out _ _ ⟨qc L,qc L,qc O,qc O,qc U,qc U,qc U⟩ (fun hHeld=>?_)
     clear hK K
     refine qN (some 7) ?_
     refine Zi (i:=2) (N:=some 19) #[true,true,true,true,false,false,false,false,true,false,false] rfl rfl (Q2 HT_.out kr) (by decide) (fun K hK=>?_)
     refine Zh Try.func12 kr rfl #[.agg #[.slice ζ B.length γ,.slice η J.length δ]] (by rfl) rfl rfl (by(try simp only[List.map_toArray,List.map_cons,List.map_nil]);first|done|rfl|(simp only[List.length_drop,List.length_take];rfl)) ?_
     with_reducible refine(newellaw19_Own.calls _ _ B _ _ J bf bi _ ?side1 ?side2 ?side3 ?side4 A6.out).mono ?_
     (case side1=>repeat(first|exact(Kd.Qx ai.out HB.out)|(with_reducible refine Kd.Q9 ?_ _)|(with_reducible refine Kd.Q8 ?_ _)|(with_reducible refine Kd.Zc ?_)))
     (case side2=>exact ay.out)
     (case side3=>repeat(first|exact(Kd.Qx ak.out HB.out)|(with_reducible refine Kd.Q9 ?_ _)|(with_reducible refine Kd.Q8 ?_ _)|(with_reducible refine Kd.Zc ?_)))
     (case side4=>exact az.out)
     rintro e eu ⟨dl,dm,rfl,ψ,a2,hb⟩
     refine⟨_,rfl, ?_⟩
     have Z:=Aside0.mk (Kd.Q1 ψ (Ql (by repeat(first|(with_reducible first|exact HB.out|apply Qh|apply Qc|apply Qf|refine Qd ?_ a0.out|refine Qd ?_ aa.out|refine Qd ?_ ab.out|refine Qd ?_ au.out)|exact HB.out))))
     have ε :=Aside0.mk (Kd.Q1 a2 (Ql (by repeat(first|(with_reducible first|exact HB.out|apply Qh|apply Qc|apply Qf|refine Qd ?_ a0.out|refine Qd ?_ aa.out|refine Qd ?_ ab.out|refine Qd ?_ au.out)|exact HB.out))))
     have ι :=Aside0.mk (Qn (g:=ρ) (o:=.cells #[.int .i64 D,.int .i64 I] 23 (0,0)) (by(with_reducible repeat first|apply Qe|apply Qa|apply Qb);exact L.out) hb)
     have κ :=Aside0.mk (Qn (g:= τ) (o:=.cells #[.slice ζ B.length γ,.slice η J.length δ] 27 (0,0)) (by(with_reducible repeat first|apply Qe|apply Qa|apply Qb);exact O.out) hb)
     have χ :=Aside0.mk (Qn (g:= φ) (o:=.cells #[.int .i64 Y,.int .i64 X,.int .i64 θ] 29 (0,0)) (by(with_reducible repeat first|apply Qe|apply Qa|apply Qb);exact U.out) hb)
     have ω :=Aside0.mk (Qn (g:= μ) (o:=.cells #[.slice none 0 0,.slice none 0 0] 27 (0,0)) (by(with_reducible repeat first|apply Qe|apply Qa|apply Qb);exact a6.out) hb)
     have a1:=Aside0.mk (Qv (by repeat(first|(with_reducible first|exact HB.out|apply Qh|apply Qc|apply Qf|refine Qd ?_ a0.out|refine Qd ?_ aa.out|refine Qd ?_ ab.out|refine Qd ?_ au.out)|exact HB.out)) hb)
     clear L
     clear O
     clear U
     clear a6
     clear HB
     have a3:=Z
     have a5:= ε
     have L:= ι
     have O:= κ
     have U:= χ
     have a6:= ω
     have HB:=a1
     clear Z ε ι κ χ ω a1
     (try clear hb)
     (try clear a4)
     (try clear hk)
     (try clear hi)
     (try clear ψ)
     (try clear a2)
     obtain⟨dr,dt,du⟩:=Kd.Q3 a3.out
     (first|subst du|(injection du with ν a7 ξ;have a8:= ν.symm;have a9:= ξ.symm;clear ν a7 ξ;subst a8;subst a9))
     obtain⟨g4,g5,g6⟩:=Kd.Q3 a5.out
     (first|subst g6|(injection g6 with ν a7 ξ;have a8:= ν.symm;have a9:= ξ.symm;clear ν a7 ξ;subst a8;subst a9))
     refine hK.out _ _ ⟨qc L,qc L,qc O,qc O,qc U,qc U,qc U⟩ (fun hHeld=>?_)
     clear hK K
     refine qN (some 19) ?_
     refine Zi (i:=4) (N:=some 21) #[true,true,true,true,true,false,false,false,true,false,false] rfl rfl (Q2 HT_.out kr) (by decide) (fun K hK=>?_)
     refine Zh Try.func11 kr rfl #[.agg #[.int .i64 D,.int .i64 I],.agg #[.slice dr bf.length dt,.slice g4 bi.length g5],.agg #[.int .i64 Y,.int .i64 X,.int .i64 θ]] (by rfl) rfl rfl (by(try simp only[List.map_toArray,List.map_cons,List.map_nil]);first|done|rfl|(simp only[List.length_drop,List.length_take];rfl)) ?_
     with_reducible refine(call_Press.calls k D I _ _ bf _ _ bi Y X θ ac ae bz _ ?side1 ?side2 ?side3 ?side4 A7.out).mono ?_
     (case side1=>repeat(first|exact(Kd.Qp a3.out).2.2|(with_reducible refine Kd.Q9 ?_ _)|(with_reducible refine Kd.Q8 ?_ _)|(with_reducible refine Kd.Zc ?_)))
     (case side2=>exact(Kd.Qp a3.out).2.1)
     (case side3=>repeat(first|exact(Kd.Qp a5.out).2.2|(with_reducible refine Kd.Q9 ?_ _)|(with_reducible refine Kd.Q8 ?_ _)|(with_reducible refine Kd.Zc ?_)))
     (case side4=>exact(Kd.Qp a5.out).2.1)
     rintro e df ⟨cf,cg,rfl,ψ,a2,hb⟩
     refine⟨_,rfl, ?_⟩
     have Z:=Aside0.mk (Kd.Za (by(with_reducible repeat first|apply Kd.Qk|apply Kd.Qj|apply Kd.Qm);exact a3.out) (Kd.Zg ψ) hb)
     have ε :=Aside0.mk (Kd.Za (by(with_reducible repeat first|apply Kd.Qk|apply Kd.Qj|apply Kd.Qm);exact a5.out) (Kd.Zg a2) hb)
     have ι :=Aside0.mk (Kd.Q1 (Kd.Zf ψ (Kd.Zq (by(with_reducible repeat first|apply Kd.Qk|apply Kd.Qj|apply Kd.Qm);exact a3.out))) (Ql (by repeat(first|(with_reducible first|exact HB.out|apply Qh|apply Qc|apply Qf|refine Qd ?_ a0.out|refine Qd ?_ aa.out|refine Qd ?_ ab.out|refine Qd ?_ au.out)|exact HB.out))))
     have κ :=Aside0.mk (Kd.Q1 (Kd.Zf a2 (Kd.Zq (by(with_reducible repeat first|apply Kd.Qk|apply Kd.Qj|apply Kd.Qm);exact a5.out))) (Ql (by repeat(first|(with_reducible first|exact HB.out|apply Qh|apply Qc|apply Qf|refine Qd ?_ a0.out|refine Qd ?_ aa.out|refine Qd ?_ ab.out|refine Qd ?_ au.out)|exact HB.out))))
     have χ :=Aside0.mk (Qn (g:=ρ) (o:=.cells #[.int .i64 D,.int .i64 I] 23 (0,0)) (by(with_reducible repeat first|apply Qe|apply Qa|apply Qb);exact L.out) hb)
     have ω :=Aside0.mk (Qn (g:= τ) (o:=.cells #[.slice ζ B.length γ,.slice η J.length δ] 27 (0,0)) (by(with_reducible repeat first|apply Qe|apply Qa|apply Qb);exact O.out) hb)
     have a1:=Aside0.mk (Qn (g:= φ) (o:=.cells #[.int .i64 Y,.int .i64 X,.int .i64 θ] 29 (0,0)) (by(with_reducible repeat first|apply Qe|apply Qa|apply Qb);exact U.out) hb)
     have ag:=Aside0.mk (Qn (g:= μ) (o:=.cells #[.slice none 0 0,.slice none 0 0] 27 (0,0)) (by(with_reducible repeat first|apply Qe|apply Qa|apply Qb);exact a6.out) hb)
     have ah:=Aside0.mk (Qv (by repeat(first|(with_reducible first|exact HB.out|apply Qh|apply Qc|apply Qf|refine Qd ?_ a0.out|refine Qd ?_ aa.out|refine Qd ?_ ab.out|refine Qd ?_ au.out)|exact HB.out)) hb)
     clear a3
     clear a5
     clear L
     clear O
     clear U
     clear a6
     clear HB
     have a3:=Z
     have a5:= ε
     have al:= ι
     have am:= κ
     have L:= χ
     have O:= ω
     have U:=a1
     have a6:=ag
     have HB:=ah
     clear Z ε ι κ χ ω a1 ag ah
     (try clear hb)
     (try clear a4)
     (try clear hk)
     (try clear hi)
     (try clear ψ)
     (try clear a2)
     refine hK.out _ _ ⟨qc L,qc L,qc O,qc O,qc U,qc U,qc U⟩ (fun hHeld=>?_)
     clear hK K
     refine qN (some 21) ?_
     refine qP 5 (some 16) (qB 11 319) HT_ ?_
     refine qP 6 (some 22) (qB 11 383) HT_ ?_
     refine qP 7 (some 23) (qB 11 511) HT_ ?_
     exact Xe (by simp only[Zv,Act.put,qS]) (hCont (.slice dr bf.length dt,.slice g4 bi.length g5,cf,cg,μ) _ ⟨hHeld,(by(with_reducible repeat first|apply Kd.Qk|apply Kd.Qj|apply Kd.Qm);exact Kd.Qq a3.out (fun _ hk=>hk.2)),(by(with_reducible repeat first|apply Kd.Qk|apply Kd.Qj|apply Kd.Qm);exact Kd.Qq a5.out (fun _ hk=>hk.2)),(by(with_reducible repeat first|apply Kd.Qk|apply Kd.Qj|apply Kd.Qm);exact Kd.Qq al.out (fun _ hk=>hk.2)),(by(with_reducible repeat first|apply Kd.Qk|apply Kd.Qj|apply Kd.Qm);exact Kd.Qq am.out (fun _ hk=>hk.2)),(by(with_reducible repeat first|apply Qe|apply Qa|apply Qb);exact L.out),(by(with_reducible repeat first|apply Qe|apply Qa|apply Qb);exact O.out),(by(with_reducible repeat first|apply Qe|apply Qa|apply Qb);exact U.out),(by(with_reducible repeat first|apply Qe|apply Qa|apply Qb);exact a6.out),cn.out,au.out,ao.out,b0.out,ar.out,b2.out,an.out,b4.out,(by repeat(first|(with_reducible first|exact HB.out|apply Qh|apply Qc|apply Qf|refine Qd ?_ a0.out|refine Qd ?_ aa.out|refine Qd ?_ ab.out|refine Qd ?_ au.out)|exact HB.out))⟩)
   rintro⟨dl,dm,cf,cg,μ⟩ cx ⟨hS_,da,db,dc,dd,de,ev,ew,ey,ez,f3,dx,dy,dz,e0,e3,e4,e5⟩
   have Z:Aside0 (Kd.R k56 56 cx w.heap.size (fun k_=>some k_≠(cf:Value).ownBlock) dl bf):=⟨da⟩
   have ε :Aside0 (Kd.R k62 62 cx w.heap.size (fun k_=>some k_≠(cg:Value).ownBlock) dm bi):=⟨db⟩
   have ι :Aside0 (Kd.R k56 56 cx w.heap.size (fun k_=>some k_≠(dl:Value).ownBlock) cf ac):=⟨dc⟩
   have κ :Aside0 (Kd.R k62 62 cx w.heap.size (fun k_=>some k_≠(dm:Value).ownBlock) cg ae):=⟨dd⟩
   have χ :Aside0 (cx.heap[ρ]?=some (.cells #[.int .i64 D,.int .i64 I] 23 (0,0))):=⟨de⟩
   have ω :Aside0 (cx.heap[τ]?=some (.cells #[.slice ζ B.length γ,.slice η J.length δ] 27 (0,0))):=⟨ev⟩
   have a1:Aside0 (cx.heap[φ]?=some (.cells #[.int .i64 Y,.int .i64 X,.int .i64 θ] 29 (0,0))):=⟨ew⟩
   have ag:Aside0 (cx.heap[μ]?=some (.cells #[.slice none 0 0,.slice none 0 0] 27 (0,0))):=⟨ey⟩
   have ah:Aside0 (w.heap.size ≤ μ):=⟨ez⟩
   have ax:Aside0 (w.heap.size ≤ μ):=⟨f3⟩
   have aj:Aside0 (ρ ≠ μ):=⟨dx⟩
   have ap:Aside0 (μ ≠ ρ):=⟨dy⟩
   have b8:Aside0 (τ ≠ μ):=⟨dz⟩
   have bg:Aside0 (μ ≠ τ):=⟨e0⟩
   have bh:Aside0 (φ ≠ μ):=⟨e3⟩
   have bs:Aside0 (μ ≠ φ):=⟨e4⟩
   have bu:Aside0 (Below w.heap.size w cx):=⟨e5⟩
   clear L
   clear O
   clear U
   clear HB
   clear da db dc dd de ev ew ey ez f3 dx dy dz e0 e3 e4 e5
   have a3:=Z
   have a5:= ε
   have al:= ι
   have am:= κ
   have L:= χ
   have O:= ω
   have U:=a1
   have a6:=ag
   have cn:=ah
   have au:=ax
   have ao:=aj
   have b0:=ap
   have ar:=b8
   have b2:=bg
   have an:=bh
   have b4:=bs
   have HB:=bu
   clear Z ε ι κ χ ω a1 ag ah ax aj ap b8 bg bh bs bu
   have hHeld:cx.cell? ⟨ρ,0,none⟩=some (.int .i64 D)∧cx.cell? ⟨ρ,1,none⟩=some (.int .i64 I)∧cx.cell? ⟨τ,0,none⟩=some (.slice ζ B.length γ)∧cx.cell? ⟨τ,1,none⟩=some (.slice η J.length δ)∧cx.cell? ⟨φ,0,none⟩=some (.int .i64 Y)∧cx.cell? ⟨φ,1,none⟩=some (.int .i64 X)∧cx.cell? ⟨φ,2,none⟩=some (.int .i64 θ):=hS_
   obtain⟨bq,bn,ko⟩:=Kd.Q3 al.out
   (first|subst ko|(injection ko with ν a7 ξ;have a8:= ν.symm;have a9:= ξ.symm;clear ν a7 ξ;subst a8;subst a9))
   obtain⟨b3,b1,gp⟩:=Kd.Q3 am.out
   (first|subst gp|(injection gp with ν a7 ξ;have a8:= ν.symm;have a9:= ξ.symm;clear ν a7 ξ;subst a8;subst a9))
   refine Xe (a':=?_) ?_ ?_
   rotate_left
   ·simp only[Zv,Act.put,qS]
    rfl
   refine Zi (i:=9) (N:=none) #[true,true,true,true,true,true,true,true,true,true,false] rfl rfl (Q2 HT_.out kr) (by decide) (fun K hK=>?_)
   have mc:cx.cell? ⟨μ,0,none⟩=some (.slice none 0 0):=(Qi a6.out 0).trans rfl
   have m8:=Q6 a6.out 0
   have lv:=ao.out
   have lw:=ar.out
   have m0:=an.out
   have m1:=b0.out
   have m2:=b2.out
   have m3:=b4.out
   have oi:cx.cell? ⟨μ,1,none⟩=some (.slice none 0 0):=(Qi a6.out 1).trans rfl
   have ny:=Q6 a6.out 1
   have mw:=ao.out
   have mx:=ar.out
   have my:=an.out
   have mz:=b0.out
   have n0:=b2.out
   have n1:=b4.out
   refine Yl (w1:=?_) (by rfl) rfl ?_ ?_
   rotate_left
   ·go_simp
    rfl
   refine hK.out _ _ ⟨((cell_far (p:=⟨μ,_,none⟩) ao.out _).trans (((cell_far (p:=⟨μ,_,none⟩) ao.out _).trans (hHeld.1)))),((cell_far (p:=⟨μ,_,none⟩) ao.out _).trans (((cell_far (p:=⟨μ,_,none⟩) ao.out _).trans (hHeld.2.1)))),((cell_far (p:=⟨μ,_,none⟩) ar.out _).trans (((cell_far (p:=⟨μ,_,none⟩) ar.out _).trans (hHeld.2.2.1)))),((cell_far (p:=⟨μ,_,none⟩) ar.out _).trans (((cell_far (p:=⟨μ,_,none⟩) ar.out _).trans (hHeld.2.2.2.1)))),((cell_far (p:=⟨μ,_,none⟩) an.out _).trans (((cell_far (p:=⟨μ,_,none⟩) an.out _).trans (hHeld.2.2.2.2.1)))),((cell_far (p:=⟨μ,_,none⟩) an.out _).trans (((cell_far (p:=⟨μ,_,none⟩) an.out _).trans (hHeld.2.2.2.2.2.1)))),((cell_far (p:=⟨μ,_,none⟩) an.out _).trans (((cell_far (p:=⟨μ,_,none⟩) an.out _).trans (hHeld.2.2.2.2.2.2))))⟩ (fun hHeld=>?_)
   clear hK K
   refine qP 10 (some 8) (qB 11 2047) HT_ ?_
   refine Zr (Ze HT_.out kr) ?_
   have j5:=d3.out
   have j6:=d4.out
   have i4:=ao.out
   have i6:=b0.out
   obtain⟨e8,e9,ea,eb⟩:=qD2 L.out
   have fr:=b2.out
   have g1:=ar.out
   have ef:=b4.out
   have eg:=an.out
   obtain⟨cw,d0,d1,d2⟩:=qD2 a6.out
   obtain⟨ee,en,js,eo,ep,jt⟩:=qD3 U.out
   go_upto_region 8 with(first|((with_reducible refine Q0 (f:=11) rfl ?_);refine Zl (some 31) rfl rfl Try.func11 kr rfl #[.agg #[.int .i64 D,.int .i64 I],.agg #[.slice bq ac.length bn,.slice b3 ae.length b1],.agg #[.int .i64 Y,.int .i64 X,.int .i64 θ]] rfl (by(try simp only[List.map_toArray,List.map_cons,List.map_nil]);first|done|rfl|(simp only[List.length_drop,List.length_take];rfl)) ?_;(with_reducible refine(call_Press.calls k D I _ _ ac _ _ ae Y X θ b9 bc fn _ ?side1 ?side2 ?side3 ?side4 A9.out).mono ?_);(case side1=>refine(Kd.Qp (e:=56) (base:=w.heap.size) (ok:=fun k_=>some k_≠(dl:Value).ownBlock) (n:=ac.length) (c:=bn) ?_).2.2;exact(by(with_reducible repeat first|apply Kd.Qk|apply Kd.Qj|apply Kd.Qm);exact(Kd.Qq (Kd.Qr (p:=⟨μ,1,none⟩) (Kd.Qr (p:=⟨μ,0,none⟩) (Kd.Qu al.out a6.out (by decide)) (fun _ hk=>hk.2) (.slice bq ac.length bn)) (fun _ hk=>hk.2) (.slice b3 ae.length b1)) (fun _ h_=>h_.1))));(case side2=>exact(Kd.Qp al.out).2.1);(case side3=>refine(Kd.Qp (e:=62) (base:=w.heap.size) (ok:=fun k_=>some k_≠(dm:Value).ownBlock) (n:=ae.length) (c:=b1) ?_).2.2;exact(by(with_reducible repeat first|apply Kd.Qk|apply Kd.Qj|apply Kd.Qm);exact(Kd.Qq (Kd.Qr (p:=⟨μ,1,none⟩) (Kd.Qr (p:=⟨μ,0,none⟩) (Kd.Qu am.out a6.out (by decide)) (fun _ hk=>hk.2) (.slice bq ac.length bn)) (fun _ hk=>hk.2) (.slice b3 ae.length b1)) (fun _ h_=>h_.1))));(case side4=>exact(Kd.Qp am.out).2.1);rintro e nf ⟨me,mf,rfl,ψ,a2,hb⟩;refine⟨_,rfl, ?_⟩;have Z:=Aside0.mk (Kd.Za (by(with_reducible repeat first|apply Kd.Qk|apply Kd.Qj|apply Kd.Qm);exact(Kd.Qq (Kd.Qr (p:=⟨μ,1,none⟩) (Kd.Qr (p:=⟨μ,0,none⟩) (Kd.Qu a3.out a6.out (by decide)) (fun _ hk=>hk.2) (.slice bq ac.length bn)) (fun _ hk=>hk.2) (.slice b3 ae.length b1)) (fun _ h_=>h_.1))) (Kd.Zg ψ) hb);have ε :=Aside0.mk (Kd.Za (by(with_reducible repeat first|apply Kd.Qk|apply Kd.Qj|apply Kd.Qm);exact(Kd.Qq (Kd.Qr (p:=⟨μ,1,none⟩) (Kd.Qr (p:=⟨μ,0,none⟩) (Kd.Qu a5.out a6.out (by decide)) (fun _ hk=>hk.2) (.slice bq ac.length bn)) (fun _ hk=>hk.2) (.slice b3 ae.length b1)) (fun _ h_=>h_.1))) (Kd.Zg a2) hb);have ι :=Aside0.mk (Kd.Za (by(with_reducible repeat first|apply Kd.Qk|apply Kd.Qj|apply Kd.Qm);exact(Kd.Qq (Kd.Qr (p:=⟨μ,1,none⟩) (Kd.Qr (p:=⟨μ,0,none⟩) (Kd.Qu al.out a6.out (by decide)) (fun _ hk=>hk.2) (.slice bq ac.length bn)) (fun _ hk=>hk.2) (.slice b3 ae.length b1)) (fun _ h_=>h_.1))) (Kd.Zg ψ) hb);have κ :=Aside0.mk (Kd.Za (by(with_reducible repeat first|apply Kd.Qk|apply Kd.Qj|apply Kd.Qm);exact(Kd.Qq (Kd.Qr (p:=⟨μ,1,none⟩) (Kd.Qr (p:=⟨μ,0,none⟩) (Kd.Qu am.out a6.out (by decide)) (fun _ hk=>hk.2) (.slice bq ac.length bn)) (fun _ hk=>hk.2) (.slice b3 ae.length b1)) (fun _ h_=>h_.1))) (Kd.Zg a2) hb);have χ :=Aside0.mk (Kd.Q1 (Kd.Zf (Kd.Zf ψ (Kd.Zq (by(with_reducible repeat first|apply Kd.Qk|apply Kd.Qj|apply Kd.Qm);exact(Kd.Qq (Kd.Qr (p:=⟨μ,1,none⟩) (Kd.Qr (p:=⟨μ,0,none⟩) (Kd.Qu a3.out a6.out (by decide)) (fun _ hk=>hk.2) (.slice bq ac.length bn)) (fun _ hk=>hk.2) (.slice b3 ae.length b1)) (fun _ h_=>h_.1))))) (Kd.Zq (by(with_reducible repeat first|apply Kd.Qk|apply Kd.Qj|apply Kd.Qm);exact(Kd.Qq (Kd.Qr (p:=⟨μ,1,none⟩) (Kd.Qr (p:=⟨μ,0,none⟩) (Kd.Qu al.out a6.out (by decide)) (fun _ hk=>hk.2) (.slice bq ac.length bn)) (fun _ hk=>hk.2) (.slice b3 ae.length b1)) (fun _ h_=>h_.1))))) (Ql (by repeat(first|(with_reducible first|exact HB.out|apply Qh|apply Qc|apply Qf|refine Qd ?_ a0.out|refine Qd ?_ aa.out|refine Qd ?_ ab.out|refine Qd ?_ au.out)|exact HB.out))));have ω :=Aside0.mk (Kd.Q1 (Kd.Zf (Kd.Zf a2 (Kd.Zq (by(with_reducible repeat first|apply Kd.Qk|apply Kd.Qj|apply Kd.Qm);exact(Kd.Qq (Kd.Qr (p:=⟨μ,1,none⟩) (Kd.Qr (p:=⟨μ,0,none⟩) (Kd.Qu a5.out a6.out (by decide)) (fun _ hk=>hk.2) (.slice bq ac.length bn)) (fun _ hk=>hk.2) (.slice b3 ae.length b1)) (fun _ h_=>h_.1))))) (Kd.Zq (by(with_reducible repeat first|apply Kd.Qk|apply Kd.Qj|apply Kd.Qm);exact(Kd.Qq (Kd.Qr (p:=⟨μ,1,none⟩) (Kd.Qr (p:=⟨μ,0,none⟩) (Kd.Qu am.out a6.out (by decide)) (fun _ hk=>hk.2) (.slice bq ac.length bn)) (fun _ hk=>hk.2) (.slice b3 ae.length b1)) (fun _ h_=>h_.1))))) (Ql (by repeat(first|(with_reducible first|exact HB.out|apply Qh|apply Qc|apply Qf|refine Qd ?_ a0.out|refine Qd ?_ aa.out|refine Qd ?_ ab.out|refine Qd ?_ au.out)|exact HB.out))));have a1:=Aside0.mk (Qn (g:=ρ) (o:=.cells #[.int .i64 D,.int .i64 I] 23 (0,0)) (by(with_reducible repeat first|apply Qe|apply Qa|apply Qb);refine Zn ?_ ao.out _;(with_reducible repeat first|apply Qe|apply Qa|apply Qb);refine Zn ?_ ao.out _;(with_reducible repeat first|apply Qe|apply Qa|apply Qb);exact L.out) hb);have ag:=Aside0.mk (Qn (g:= τ) (o:=.cells #[.slice ζ B.length γ,.slice η J.length δ] 27 (0,0)) (by(with_reducible repeat first|apply Qe|apply Qa|apply Qb);refine Zn ?_ ar.out _;(with_reducible repeat first|apply Qe|apply Qa|apply Qb);refine Zn ?_ ar.out _;(with_reducible repeat first|apply Qe|apply Qa|apply Qb);exact O.out) hb);have ah:=Aside0.mk (Qn (g:= φ) (o:=.cells #[.int .i64 Y,.int .i64 X,.int .i64 θ] 29 (0,0)) (by(with_reducible repeat first|apply Qe|apply Qa|apply Qb);refine Zn ?_ an.out _;(with_reducible repeat first|apply Qe|apply Qa|apply Qb);refine Zn ?_ an.out _;(with_reducible repeat first|apply Qe|apply Qa|apply Qb);exact U.out) hb);have ax:=Aside0.mk (Qn (g:= μ) (o:=.cells #[.slice bq ac.length bn,.slice b3 ae.length b1] 27 (0,0)) (by(with_reducible repeat first|apply Qe|apply Qa|apply Qb);refine Qw (cs:=#[.slice bq ac.length bn,.slice none 0 0]) ?_ 1 _ rfl;(with_reducible repeat first|apply Qe|apply Qa|apply Qb);refine Qw (cs:=#[.slice none 0 0,.slice none 0 0]) ?_ 0 _ rfl;(with_reducible repeat first|apply Qe|apply Qa|apply Qb);exact a6.out) hb);have aj:=Aside0.mk (Qv (by repeat(first|(with_reducible first|exact HB.out|apply Qh|apply Qc|apply Qf|refine Qd ?_ a0.out|refine Qd ?_ aa.out|refine Qd ?_ ab.out|refine Qd ?_ au.out)|exact HB.out)) hb);clear a3;clear a5;clear al;clear am;clear L;clear O;clear U;clear a6;clear HB;have a3:=Z;have a5:= ε;have al:= ι;have am:= κ;have b5:= χ;have b6:= ω;have L:=a1;have O:=ag;have U:=ah;have a6:=ax;have HB:=aj;clear Z ε ι κ χ ω a1 ag ah ax aj;(try clear hb);(try clear a4);(try clear hk);(try clear hi);(try clear ψ);(try clear a2))|((with_reducible refine Qs (N:=9) rfl ?_);refine Zb ?hg (N:=9) ?hd (cs:=#[.slice none 0 0,.slice none 0 0]) (t:=27) ?hr ?_;(case hd=>rfl);(case hg=>rfl);(case hr=>first|(go_simp;done)|(go_simp;rfl));intro av hg il hbox hb;have Z:=Aside0.mk (Kd.Qt (by(with_reducible repeat first|apply Kd.Qk|apply Kd.Qj|apply Kd.Qm);exact a3.out) hb);have ε :=Aside0.mk (Kd.Qt (by(with_reducible repeat first|apply Kd.Qk|apply Kd.Qj|apply Kd.Qm);exact a5.out) hb);have ι :=Aside0.mk (Kd.Qt (by(with_reducible repeat first|apply Kd.Qk|apply Kd.Qj|apply Kd.Qm);exact al.out) hb);have κ :=Aside0.mk (Kd.Qt (by(with_reducible repeat first|apply Kd.Qk|apply Kd.Qj|apply Kd.Qm);exact am.out) hb);have χ :=Aside0.mk (Kd.Qt (by(with_reducible repeat first|apply Kd.Qk|apply Kd.Qj|apply Kd.Qm);exact b5.out) hb);have ω :=Aside0.mk (Kd.Qt (by(with_reducible repeat first|apply Kd.Qk|apply Kd.Qj|apply Kd.Qm);exact b6.out) hb);have a1:=Aside0.mk (Qn (g:=ρ) (o:=.cells #[.int .i64 D,.int .i64 I] 23 (0,0)) (by(with_reducible repeat first|apply Qe|apply Qa|apply Qb);exact L.out) hb);have ag:=Aside0.mk (Qn (g:= τ) (o:=.cells #[.slice ζ B.length γ,.slice η J.length δ] 27 (0,0)) (by(with_reducible repeat first|apply Qe|apply Qa|apply Qb);exact O.out) hb);have ah:=Aside0.mk (Qn (g:= φ) (o:=.cells #[.int .i64 Y,.int .i64 X,.int .i64 θ] 29 (0,0)) (by(with_reducible repeat first|apply Qe|apply Qa|apply Qb);exact U.out) hb);have ax:=Aside0.mk (Qn (g:= μ) (o:=.cells #[.slice bq ac.length bn,.slice b3 ae.length b1] 27 (0,0)) (by(with_reducible repeat first|apply Qe|apply Qa|apply Qb);exact a6.out) hb);have aj:=Aside0.mk (Qv (by repeat(first|(with_reducible first|exact HB.out|apply Qh|apply Qc|apply Qf|refine Qd ?_ a0.out|refine Qd ?_ aa.out|refine Qd ?_ ab.out|refine Qd ?_ au.out)|exact HB.out)) hb);have ap:=Aside0.mk (hbox);have b8:=Aside0.mk ((by rw[hg];exact(Ql (by repeat(first|(with_reducible first|exact HB.out|apply Qh|apply Qc|apply Qf|refine Qd ?_ a0.out|refine Qd ?_ aa.out|refine Qd ?_ ab.out|refine Qd ?_ au.out)|exact HB.out))):w.heap.size≤av));have bg:=Aside0.mk ((by rw[hg];exact(Ql (by repeat(first|(with_reducible first|exact HB.out|apply Qh|apply Qc|apply Qf|refine Qd ?_ a0.out|refine Qd ?_ aa.out|refine Qd ?_ ab.out|refine Qd ?_ au.out)|exact HB.out))):w.heap.size≤av));have bh:=Aside0.mk ((by rw[hg];exact Nat.ne_of_lt (Q5 (g:=ρ) (o:=.cells #[.int .i64 D,.int .i64 I] 23 (0,0)) (by(with_reducible repeat first|apply Qe|apply Qa|apply Qb);exact L.out)):ρ≠av));have bs:=Aside0.mk ((by rw[hg];exact Nat.ne_of_gt (Q5 (g:=ρ) (o:=.cells #[.int .i64 D,.int .i64 I] 23 (0,0)) (by(with_reducible repeat first|apply Qe|apply Qa|apply Qb);exact L.out)):av≠ρ));have bu:=Aside0.mk ((by rw[hg];exact Nat.ne_of_lt (Q5 (g:= τ) (o:=.cells #[.slice ζ B.length γ,.slice η J.length δ] 27 (0,0)) (by(with_reducible repeat first|apply Qe|apply Qa|apply Qb);exact O.out)): τ ≠ av));have d8:=Aside0.mk ((by rw[hg];exact Nat.ne_of_gt (Q5 (g:= τ) (o:=.cells #[.slice ζ B.length γ,.slice η J.length δ] 27 (0,0)) (by(with_reducible repeat first|apply Qe|apply Qa|apply Qb);exact O.out)):av ≠ τ));have d9:=Aside0.mk ((by rw[hg];exact Nat.ne_of_lt (Q5 (g:= φ) (o:=.cells #[.int .i64 Y,.int .i64 X,.int .i64 θ] 29 (0,0)) (by(with_reducible repeat first|apply Qe|apply Qa|apply Qb);exact U.out)): φ ≠ av));have g7:=Aside0.mk ((by rw[hg];exact Nat.ne_of_gt (Q5 (g:= φ) (o:=.cells #[.int .i64 Y,.int .i64 X,.int .i64 θ] 29 (0,0)) (by(with_reducible repeat first|apply Qe|apply Qa|apply Qb);exact U.out)):av ≠ φ));have g8:=Aside0.mk ((by rw[hg];exact Nat.ne_of_lt (Q5 (g:= μ) (o:=.cells #[.slice bq ac.length bn,.slice b3 ae.length b1] 27 (0,0)) (by(with_reducible repeat first|apply Qe|apply Qa|apply Qb);exact a6.out)): μ ≠ av));have g9:=Aside0.mk ((by rw[hg];exact Nat.ne_of_gt (Q5 (g:= μ) (o:=.cells #[.slice bq ac.length bn,.slice b3 ae.length b1] 27 (0,0)) (by(with_reducible repeat first|apply Qe|apply Qa|apply Qb);exact a6.out)):av ≠ μ));clear a3;clear a5;clear al;clear am;clear b5;clear b6;clear L;clear O;clear U;clear a6;clear HB;have a3:=Z;have a5:= ε;have al:= ι;have am:= κ;have b5:= χ;have b6:= ω;have L:=a1;have O:=ag;have U:=ah;have a6:=ax;have HB:=aj;have aw:=ap;have m9:=b8;have cz:=bg;have ch:=bh;have dv:=bs;have ci:=bu;have dw:=d8;have ck:=d9;have e6:=g7;have cm:=g8;have e7:=g9;clear Z ε ι κ χ ω a1 ag ah ax aj ap b8 bg bh bs bu d8 d9 g7 g8 g9;clear hb hbox hg;obtain⟨bo,bp,i3⟩:=Kd.Q3 b5.out;subst i3;have j7:=dv.out;have j8:=ch.out;have dp:=dw.out;have dq:=ci.out;have h4:=e6.out;have h5:=ck.out;have g3:=e7.out;have ga:=cm.out;obtain⟨fj,fk,fl,fm⟩:=qD2 aw.out;obtain⟨ba,b7,ho⟩:=Kd.Q3 b6.out;subst ho;obtain⟨ej,ek,el,em⟩:=qD2 a6.out;obtain⟨ju,jv,jw,jx⟩:=qD2 O.out))
   (try simp only[Act.put,qS])
   go_cut [6] (fun v6 wc=>∃ (kq:Nat) (ig:Bool),v6 = .bool ig∧Aside0 (newellaw19_CallOnce.j0 kq ig=some r)∧Aside0 (kq≤k)∧Aside0 (Kd.R k56 56 wc w.heap.size (fun k_=>some k_≠((.slice bo b9.length bp):Value).ownBlock) (.slice bq ac.length bn) ac)∧Aside0 (Kd.R k62 62 wc w.heap.size (fun k_=>some k_≠((.slice ba bc.length b7):Value).ownBlock) (.slice b3 ae.length b1) ae)∧Aside0 (Kd.R k56 56 wc w.heap.size (fun k_=>some k_≠((.slice bq ac.length bn):Value).ownBlock) (.slice bo b9.length bp) b9)∧Aside0 (Kd.R k62 62 wc w.heap.size (fun k_=>some k_≠((.slice b3 ae.length b1):Value).ownBlock) (.slice ba bc.length b7) bc)∧Aside0 (wc.heap[ρ]?=some (.cells #[.int .i64 D,.int .i64 I] 23 (0,0)))∧Aside0 (wc.heap[τ]?=some (.cells #[(.slice ζ B.length γ),(.slice η J.length δ)] 27 (0,0)))∧Aside0 (wc.heap[φ]?=some (.cells #[.int .i64 Y,.int .i64 X,.int .i64 θ] 29 (0,0)))∧Aside0 (wc.heap[μ]?=some (.cells #[(.slice bq ac.length bn),(.slice b3 ae.length b1)] 27 (0,0)))∧Aside0 (wc.heap[av]?=some (.cells #[(.slice bo b9.length bp),(.slice ba bc.length b7)] 27 (0,0)))∧Aside0 (Below w.heap.size w wc))
   case first=>
    have H:=ie.out
    clear ie
    replace H:=Option.bind_eq_some_iff.mp H
    obtain⟨co,kp,H⟩:=H
    replace H:(if co=true then (if fn=0 then ((call_Same.f k ac ae b9 bc).bind fun br=>(if br=true then ((call_Check.f k D I ac ae).bind fun bd=>(if bd=0 then (if (wrap64 ((wrap64 ((wrap64 ((ac.length:Int)+(ae.length:Int))) - (B.length:Int))) - (J.length:Int)))=1 then (newellaw19_CallOnce.j0 k true) else (if (wrap64 ((wrap64 ((wrap64 ((ac.length:Int)+(ae.length:Int))) - (B.length:Int))) - (J.length:Int)))=0 then ((call_Same.f k ac ae B J).bind fun be=>(newellaw19_CallOnce.j0 k be)) else (none))) else (none))) else (none))) else (none)) else (none))=some r:=H
    have kw:=Aside0.mk kp
    clear kp
    by_cases cv:co=true
    ·subst cv
     have H1:(if fn=0 then ((call_Same.f k ac ae b9 bc).bind fun br=>(if br=true then ((call_Check.f k D I ac ae).bind fun bd=>(if bd=0 then (if (wrap64 ((wrap64 ((wrap64 ((ac.length:Int)+(ae.length:Int))) - (B.length:Int))) - (J.length:Int)))=1 then (newellaw19_CallOnce.j0 k true) else (if (wrap64 ((wrap64 ((wrap64 ((ac.length:Int)+(ae.length:Int))) - (B.length:Int))) - (J.length:Int)))=0 then ((call_Same.f k ac ae B J).bind fun be=>(newellaw19_CallOnce.j0 k be)) else (none))) else (none))) else (none))) else (none))=some r:=by rw[if_pos rfl] at H;exact H
     clear H
     have H:=H1
     clear H1
     by_cases ed:fn=0
     ·rw[if_pos ed] at H
      have c49b0:(fn==0)=true:=beq_iff_eq.mpr ed
      have c49b1:(fn != 0)=false:=bne_eq_false_iff_eq.mpr ed
      clear ed
      (first|rw[c49b0]|(simp only[Xm,Ya];rw[c49b0])|skip)
      replace H:=Option.bind_eq_some_iff.mp H
      obtain⟨br,gs,H⟩:=H
      replace H:(if br=true then ((call_Check.f k D I ac ae).bind fun bd=>(if bd=0 then (if (wrap64 ((wrap64 ((wrap64 ((ac.length:Int)+(ae.length:Int))) - (B.length:Int))) - (J.length:Int)))=1 then (newellaw19_CallOnce.j0 k true) else (if (wrap64 ((wrap64 ((wrap64 ((ac.length:Int)+(ae.length:Int))) - (B.length:Int))) - (J.length:Int)))=0 then ((call_Same.f k ac ae B J).bind fun be=>(newellaw19_CallOnce.j0 k be)) else (none))) else (none))) else (none))=some r:=H
      have bv:=Aside0.mk gs
      clear gs
      by_cases dn:br=true
      ·subst dn
       have H1:((call_Check.f k D I ac ae).bind fun bd=>(if bd=0 then (if (wrap64 ((wrap64 ((wrap64 ((ac.length:Int)+(ae.length:Int))) - (B.length:Int))) - (J.length:Int)))=1 then (newellaw19_CallOnce.j0 k true) else (if (wrap64 ((wrap64 ((wrap64 ((ac.length:Int)+(ae.length:Int))) - (B.length:Int))) - (J.length:Int)))=0 then ((call_Same.f k ac ae B J).bind fun be=>(newellaw19_CallOnce.j0 k be)) else (none))) else (none)))=some r:=by rw[if_pos rfl] at H;exact H
       clear H
       have H:=H1
       clear H1
       replace H:=Option.bind_eq_some_iff.mp H
       obtain⟨bd,ks,H⟩:=H
       replace H:(if bd=0 then (if (wrap64 ((wrap64 ((wrap64 ((ac.length:Int)+(ae.length:Int))) - (B.length:Int))) - (J.length:Int)))=1 then (newellaw19_CallOnce.j0 k true) else (if (wrap64 ((wrap64 ((wrap64 ((ac.length:Int)+(ae.length:Int))) - (B.length:Int))) - (J.length:Int)))=0 then ((call_Same.f k ac ae B J).bind fun be=>(newellaw19_CallOnce.j0 k be)) else (none))) else (none))=some r:=H
       have kx:=Aside0.mk ks
       clear ks
       by_cases d7:bd=0
       ·rw[if_pos d7] at H
        have c53b0:(bd==0)=true:=beq_iff_eq.mpr d7
        have c53b1:(bd != 0)=false:=bne_eq_false_iff_eq.mpr d7
        clear d7
        by_cases ff:(wrap64 ((wrap64 ((wrap64 ((ac.length:Int)+(ae.length:Int))) - (B.length:Int))) - (J.length:Int)))=1
        ·rw[if_pos ff] at H
         have c54b0:((wrap64 ((wrap64 ((wrap64 ((ac.length:Int)+(ae.length:Int))) - (B.length:Int))) - (J.length:Int)))==1)=true:=beq_iff_eq.mpr ff
         have c54b1:((wrap64 ((wrap64 ((wrap64 ((ac.length:Int)+(ae.length:Int))) - (B.length:Int))) - (J.length:Int))) != 1)=false:=bne_eq_false_iff_eq.mpr ff
         clear ff
         have H':=Aside0.mk H
         clear H
         go_wp2_with (first|((with_reducible refine Q0 (f:=10) rfl ?_);refine Zl (some 49) rfl rfl Try.func10 kr rfl #[] rfl (by(try simp only[List.map_toArray,List.map_cons,List.map_nil]);first|done|rfl|(simp only[List.length_drop,List.length_take];rfl)) ?_;(with_reducible refine(newellaw19_awake.calls k  true _ kw.out).mono ?_);rintro e iz ⟨rfl,hb⟩;refine⟨_,rfl, ?_⟩;have Z:=Aside0.mk (Kd.Qt (by(with_reducible repeat first|apply Kd.Qk|apply Kd.Qj|apply Kd.Qm);exact(Kd.Qq (Kd.Qr (p:=⟨av,1,none⟩) (Kd.Qr (p:=⟨av,0,none⟩) (Kd.Qu a3.out aw.out (by decide)) (fun _ hk=>hk.2) (.slice bo b9.length bp)) (fun _ hk=>hk.2) (.slice ba bc.length b7)) (fun _ h_=>h_.1))) hb);have ε :=Aside0.mk (Kd.Qt (by(with_reducible repeat first|apply Kd.Qk|apply Kd.Qj|apply Kd.Qm);exact(Kd.Qq (Kd.Qr (p:=⟨av,1,none⟩) (Kd.Qr (p:=⟨av,0,none⟩) (Kd.Qu a5.out aw.out (by decide)) (fun _ hk=>hk.2) (.slice bo b9.length bp)) (fun _ hk=>hk.2) (.slice ba bc.length b7)) (fun _ h_=>h_.1))) hb);have ι :=Aside0.mk (Kd.Qt (by(with_reducible repeat first|apply Kd.Qk|apply Kd.Qj|apply Kd.Qm);exact(Kd.Qq (Kd.Qr (p:=⟨av,1,none⟩) (Kd.Qr (p:=⟨av,0,none⟩) (Kd.Qu al.out aw.out (by decide)) (fun _ hk=>hk.2) (.slice bo b9.length bp)) (fun _ hk=>hk.2) (.slice ba bc.length b7)) (fun _ h_=>h_.1))) hb);have κ :=Aside0.mk (Kd.Qt (by(with_reducible repeat first|apply Kd.Qk|apply Kd.Qj|apply Kd.Qm);exact(Kd.Qq (Kd.Qr (p:=⟨av,1,none⟩) (Kd.Qr (p:=⟨av,0,none⟩) (Kd.Qu am.out aw.out (by decide)) (fun _ hk=>hk.2) (.slice bo b9.length bp)) (fun _ hk=>hk.2) (.slice ba bc.length b7)) (fun _ h_=>h_.1))) hb);have χ :=Aside0.mk (Kd.Qt (by(with_reducible repeat first|apply Kd.Qk|apply Kd.Qj|apply Kd.Qm);exact(Kd.Qq (Kd.Qr (p:=⟨av,1,none⟩) (Kd.Qr (p:=⟨av,0,none⟩) (Kd.Qu b5.out aw.out (by decide)) (fun _ hk=>hk.2) (.slice bo b9.length bp)) (fun _ hk=>hk.2) (.slice ba bc.length b7)) (fun _ h_=>h_.1))) hb);have ω :=Aside0.mk (Kd.Qt (by(with_reducible repeat first|apply Kd.Qk|apply Kd.Qj|apply Kd.Qm);exact(Kd.Qq (Kd.Qr (p:=⟨av,1,none⟩) (Kd.Qr (p:=⟨av,0,none⟩) (Kd.Qu b6.out aw.out (by decide)) (fun _ hk=>hk.2) (.slice bo b9.length bp)) (fun _ hk=>hk.2) (.slice ba bc.length b7)) (fun _ h_=>h_.1))) hb);have a1:=Aside0.mk (Qn (g:=ρ) (o:=.cells #[.int .i64 D,.int .i64 I] 23 (0,0)) (by(with_reducible repeat first|apply Qe|apply Qa|apply Qb);refine Zn ?_ ch.out _;(with_reducible repeat first|apply Qe|apply Qa|apply Qb);refine Zn ?_ ch.out _;(with_reducible repeat first|apply Qe|apply Qa|apply Qb);exact L.out) hb);have ag:=Aside0.mk (Qn (g:= τ) (o:=.cells #[.slice ζ B.length γ,.slice η J.length δ] 27 (0,0)) (by(with_reducible repeat first|apply Qe|apply Qa|apply Qb);refine Zn ?_ ci.out _;(with_reducible repeat first|apply Qe|apply Qa|apply Qb);refine Zn ?_ ci.out _;(with_reducible repeat first|apply Qe|apply Qa|apply Qb);exact O.out) hb);have ah:=Aside0.mk (Qn (g:= φ) (o:=.cells #[.int .i64 Y,.int .i64 X,.int .i64 θ] 29 (0,0)) (by(with_reducible repeat first|apply Qe|apply Qa|apply Qb);refine Zn ?_ ck.out _;(with_reducible repeat first|apply Qe|apply Qa|apply Qb);refine Zn ?_ ck.out _;(with_reducible repeat first|apply Qe|apply Qa|apply Qb);exact U.out) hb);have ax:=Aside0.mk (Qn (g:= μ) (o:=.cells #[.slice bq ac.length bn,.slice b3 ae.length b1] 27 (0,0)) (by(with_reducible repeat first|apply Qe|apply Qa|apply Qb);refine Zn ?_ cm.out _;(with_reducible repeat first|apply Qe|apply Qa|apply Qb);refine Zn ?_ cm.out _;(with_reducible repeat first|apply Qe|apply Qa|apply Qb);exact a6.out) hb);have aj:=Aside0.mk (Qn (g:=av) (o:=.cells #[.slice bo b9.length bp,.slice ba bc.length b7] 27 (0,0)) (by(with_reducible repeat first|apply Qe|apply Qa|apply Qb);refine Qw (cs:=#[.slice bo b9.length bp,.slice none 0 0]) ?_ 1 _ rfl;(with_reducible repeat first|apply Qe|apply Qa|apply Qb);refine Qw (cs:=#[.slice none 0 0,.slice none 0 0]) ?_ 0 _ rfl;(with_reducible repeat first|apply Qe|apply Qa|apply Qb);exact aw.out) hb);have ap:=Aside0.mk (Qv (by repeat(first|(with_reducible first|exact HB.out|apply Qh|apply Qc|apply Qf|refine Qd ?_ a0.out|refine Qd ?_ aa.out|refine Qd ?_ ab.out|refine Qd ?_ au.out|refine Qd ?_ cz.out)|exact HB.out)) hb);clear a3;clear a5;clear al;clear am;clear b5;clear b6;clear L;clear O;clear U;clear a6;clear aw;clear HB;have a3:=Z;have a5:= ε;have al:= ι;have am:= κ;have b5:= χ;have b6:= ω;have L:=a1;have O:=ag;have U:=ah;have a6:=ax;have aw:=aj;have HB:=ap;clear Z ε ι κ χ ω a1 ag ah ax aj ap;(try clear hb);(try clear a4);(try clear hk);(try clear hi);have jy:=b0.out;have jz:=ao.out;have nz:=b2.out;have o0:=ar.out;have j3:=b4.out;have j4:=an.out;have ls:=cm.out;have lu:=e7.out;obtain⟨h9,ha,he,hh⟩:=qD2 a6.out;have ih:=dv.out;have ii:=ch.out;have k8:=dw.out;have k9:=ci.out;have ir:=e6.out;have it:=ck.out;obtain⟨ge,gf,gg,gq⟩:=qD2 aw.out)|(go_at_call 27;(with_reducible refine(call_Same.calls k _ _ ac _ _ ae _ _ b9 _ _ bc true _ ?side1 ?side2 ?side3 ?side4 ?side5 ?side6 ?side7 ?side8 bv.out).mono ?_);(case side1=>repeat(first|exact(Kd.Qp al.out).2.2|(with_reducible refine Kd.Q9 ?_ _)|(with_reducible refine Kd.Q8 ?_ _)|(with_reducible refine Kd.Zc ?_)));(case side2=>exact(Kd.Qp al.out).2.1);(case side3=>repeat(first|exact(Kd.Qp am.out).2.2|(with_reducible refine Kd.Q9 ?_ _)|(with_reducible refine Kd.Q8 ?_ _)|(with_reducible refine Kd.Zc ?_)));(case side4=>exact(Kd.Qp am.out).2.1);(case side5=>repeat(first|exact(Kd.Qp b5.out).2.2|(with_reducible refine Kd.Q9 ?_ _)|(with_reducible refine Kd.Q8 ?_ _)|(with_reducible refine Kd.Zc ?_)));(case side6=>exact(Kd.Qp b5.out).2.1);(case side7=>repeat(first|exact(Kd.Qp b6.out).2.2|(with_reducible refine Kd.Q9 ?_ _)|(with_reducible refine Kd.Q8 ?_ _)|(with_reducible refine Kd.Zc ?_)));(case side8=>exact(Kd.Qp b6.out).2.1);rintro e ml ⟨rfl,hb⟩;have Z:=Aside0.mk (Kd.Qt (by(with_reducible repeat first|apply Kd.Qk|apply Kd.Qj|apply Kd.Qm);exact a3.out) hb);have ε :=Aside0.mk (Kd.Qt (by(with_reducible repeat first|apply Kd.Qk|apply Kd.Qj|apply Kd.Qm);exact a5.out) hb);have ι :=Aside0.mk (Kd.Qt (by(with_reducible repeat first|apply Kd.Qk|apply Kd.Qj|apply Kd.Qm);exact al.out) hb);have κ :=Aside0.mk (Kd.Qt (by(with_reducible repeat first|apply Kd.Qk|apply Kd.Qj|apply Kd.Qm);exact am.out) hb);have χ :=Aside0.mk (Kd.Qt (by(with_reducible repeat first|apply Kd.Qk|apply Kd.Qj|apply Kd.Qm);exact b5.out) hb);have ω :=Aside0.mk (Kd.Qt (by(with_reducible repeat first|apply Kd.Qk|apply Kd.Qj|apply Kd.Qm);exact b6.out) hb);have a1:=Aside0.mk (Qn (g:=ρ) (o:=.cells #[.int .i64 D,.int .i64 I] 23 (0,0)) (by(with_reducible repeat first|apply Qe|apply Qa|apply Qb);exact L.out) hb);have ag:=Aside0.mk (Qn (g:= τ) (o:=.cells #[.slice ζ B.length γ,.slice η J.length δ] 27 (0,0)) (by(with_reducible repeat first|apply Qe|apply Qa|apply Qb);exact O.out) hb);have ah:=Aside0.mk (Qn (g:= φ) (o:=.cells #[.int .i64 Y,.int .i64 X,.int .i64 θ] 29 (0,0)) (by(with_reducible repeat first|apply Qe|apply Qa|apply Qb);exact U.out) hb);have ax:=Aside0.mk (Qn (g:= μ) (o:=.cells #[.slice bq ac.length bn,.slice b3 ae.length b1] 27 (0,0)) (by(with_reducible repeat first|apply Qe|apply Qa|apply Qb);exact a6.out) hb);have aj:=Aside0.mk (Qn (g:=av) (o:=.cells #[.slice bo b9.length bp,.slice ba bc.length b7] 27 (0,0)) (by(with_reducible repeat first|apply Qe|apply Qa|apply Qb);exact aw.out) hb);have ap:=Aside0.mk (Qv (by repeat(first|(with_reducible first|exact HB.out|apply Qh|apply Qc|apply Qf|refine Qd ?_ a0.out|refine Qd ?_ aa.out|refine Qd ?_ ab.out|refine Qd ?_ au.out|refine Qd ?_ cz.out)|exact HB.out)) hb);clear a3;clear a5;clear al;clear am;clear b5;clear b6;clear L;clear O;clear U;clear a6;clear aw;clear HB;have a3:=Z;have a5:= ε;have al:= ι;have am:= κ;have b5:= χ;have b6:= ω;have L:=a1;have O:=ag;have U:=ah;have a6:=ax;have aw:=aj;have HB:=ap;clear Z ε ι κ χ ω a1 ag ah ax aj ap;(try clear hb);(try clear a4);(try clear hk);(try clear hi);have i9:=cd.out;have ia:=ce.out;have ja:=d3.out;have jb:=d4.out;obtain⟨er,f5,f7,f8⟩:=qD2 L.out;obtain⟨gt,h6,h7,h8⟩:=qD2 a6.out)|(go_at_call 14;(with_reducible refine(call_Check.calls k D I _ _ ac _ _ ae bd _ ?side1 ?side2 ?side3 ?side4 kx.out).mono ?_);(case side1=>repeat(first|exact(Kd.Qp al.out).2.2|(with_reducible refine Kd.Q9 ?_ _)|(with_reducible refine Kd.Q8 ?_ _)|(with_reducible refine Kd.Zc ?_)));(case side2=>exact(Kd.Qp al.out).2.1);(case side3=>repeat(first|exact(Kd.Qp am.out).2.2|(with_reducible refine Kd.Q9 ?_ _)|(with_reducible refine Kd.Q8 ?_ _)|(with_reducible refine Kd.Zc ?_)));(case side4=>exact(Kd.Qp am.out).2.1);rintro e kc ⟨rfl,hb⟩;have Z:=Aside0.mk (Kd.Qt (by(with_reducible repeat first|apply Kd.Qk|apply Kd.Qj|apply Kd.Qm);exact a3.out) hb);have ε :=Aside0.mk (Kd.Qt (by(with_reducible repeat first|apply Kd.Qk|apply Kd.Qj|apply Kd.Qm);exact a5.out) hb);have ι :=Aside0.mk (Kd.Qt (by(with_reducible repeat first|apply Kd.Qk|apply Kd.Qj|apply Kd.Qm);exact al.out) hb);have κ :=Aside0.mk (Kd.Qt (by(with_reducible repeat first|apply Kd.Qk|apply Kd.Qj|apply Kd.Qm);exact am.out) hb);have χ :=Aside0.mk (Kd.Qt (by(with_reducible repeat first|apply Kd.Qk|apply Kd.Qj|apply Kd.Qm);exact b5.out) hb);have ω :=Aside0.mk (Kd.Qt (by(with_reducible repeat first|apply Kd.Qk|apply Kd.Qj|apply Kd.Qm);exact b6.out) hb);have a1:=Aside0.mk (Qn (g:=ρ) (o:=.cells #[.int .i64 D,.int .i64 I] 23 (0,0)) (by(with_reducible repeat first|apply Qe|apply Qa|apply Qb);exact L.out) hb);have ag:=Aside0.mk (Qn (g:= τ) (o:=.cells #[.slice ζ B.length γ,.slice η J.length δ] 27 (0,0)) (by(with_reducible repeat first|apply Qe|apply Qa|apply Qb);exact O.out) hb);have ah:=Aside0.mk (Qn (g:= φ) (o:=.cells #[.int .i64 Y,.int .i64 X,.int .i64 θ] 29 (0,0)) (by(with_reducible repeat first|apply Qe|apply Qa|apply Qb);exact U.out) hb);have ax:=Aside0.mk (Qn (g:= μ) (o:=.cells #[.slice bq ac.length bn,.slice b3 ae.length b1] 27 (0,0)) (by(with_reducible repeat first|apply Qe|apply Qa|apply Qb);exact a6.out) hb);have aj:=Aside0.mk (Qn (g:=av) (o:=.cells #[.slice bo b9.length bp,.slice ba bc.length b7] 27 (0,0)) (by(with_reducible repeat first|apply Qe|apply Qa|apply Qb);exact aw.out) hb);have ap:=Aside0.mk (Qv (by repeat(first|(with_reducible first|exact HB.out|apply Qh|apply Qc|apply Qf|refine Qd ?_ a0.out|refine Qd ?_ aa.out|refine Qd ?_ ab.out|refine Qd ?_ au.out|refine Qd ?_ cz.out)|exact HB.out)) hb);clear a3;clear a5;clear al;clear am;clear b5;clear b6;clear L;clear O;clear U;clear a6;clear aw;clear HB;have a3:=Z;have a5:= ε;have al:= ι;have am:= κ;have b5:= χ;have b6:= ω;have L:=a1;have O:=ag;have U:=ah;have a6:=ax;have aw:=aj;have HB:=ap;clear Z ε ι κ χ ω a1 ag ah ax aj ap;(try clear hb);(try clear a4);(try clear hk);(try clear hi)))
         go_meet
         case rel=>exact⟨_,(true),qR,H',⟨by first|omega|exact Nat.le_refl _⟩,⟨by(with_reducible repeat first|apply Kd.Qk|apply Kd.Qj|apply Kd.Qm);exact Kd.Qq al.out (fun _ hk=>hk.2)⟩,⟨by(with_reducible repeat first|apply Kd.Qk|apply Kd.Qj|apply Kd.Qm);exact Kd.Qq am.out (fun _ hk=>hk.2)⟩,⟨by(with_reducible repeat first|apply Kd.Qk|apply Kd.Qj|apply Kd.Qm);exact Kd.Qq b5.out (fun _ hk=>hk.2)⟩,⟨by(with_reducible repeat first|apply Kd.Qk|apply Kd.Qj|apply Kd.Qm);exact Kd.Qq b6.out (fun _ hk=>hk.2)⟩,⟨by(with_reducible repeat first|apply Qe|apply Qa|apply Qb);exact L.out⟩,⟨by(with_reducible repeat first|apply Qe|apply Qa|apply Qb);exact O.out⟩,⟨by(with_reducible repeat first|apply Qe|apply Qa|apply Qb);exact U.out⟩,⟨by(with_reducible repeat first|apply Qe|apply Qa|apply Qb);exact a6.out⟩,⟨by(with_reducible repeat first|apply Qe|apply Qa|apply Qb);exact aw.out⟩,⟨by repeat(first|(with_reducible first|exact HB.out|apply Qh|apply Qc|apply Qf|refine Qd ?_ a0.out|refine Qd ?_ aa.out|refine Qd ?_ ab.out|refine Qd ?_ au.out|refine Qd ?_ cz.out)|exact HB.out)⟩⟩
        ·rw[if_neg ff] at H
         have c54b0:((wrap64 ((wrap64 ((wrap64 ((ac.length:Int)+(ae.length:Int))) - (B.length:Int))) - (J.length:Int)))==1)=false:=beq_eq_false_iff_ne.mpr ff
         have c54b1:((wrap64 ((wrap64 ((wrap64 ((ac.length:Int)+(ae.length:Int))) - (B.length:Int))) - (J.length:Int))) != 1)=true:=bne_iff_ne.mpr ff
         by_cases fz:(wrap64 ((wrap64 ((wrap64 ((ac.length:Int)+(ae.length:Int))) - (B.length:Int))) - (J.length:Int)))=0
         ·rw[if_pos fz] at H
          have c71b0:((wrap64 ((wrap64 ((wrap64 ((ac.length:Int)+(ae.length:Int))) - (B.length:Int))) - (J.length:Int)))==0)=true:=beq_iff_eq.mpr fz
          have c71b1:((wrap64 ((wrap64 ((wrap64 ((ac.length:Int)+(ae.length:Int))) - (B.length:Int))) - (J.length:Int))) != 0)=false:=bne_eq_false_iff_eq.mpr fz
          clear fz
          replace H:=Option.bind_eq_some_iff.mp H
          obtain⟨be,kt,H⟩:=H
          replace H:(newellaw19_CallOnce.j0 k be)=some r:=H
          have m4:=Aside0.mk kt
          clear kt
          have H':=Aside0.mk H
          clear H
          go_wp2_with (first|((with_reducible refine Q0 (f:=10) rfl ?_);refine Zl (some 49) rfl rfl Try.func10 kr rfl #[] rfl (by(try simp only[List.map_toArray,List.map_cons,List.map_nil]);first|done|rfl|(simp only[List.length_drop,List.length_take];rfl)) ?_;(with_reducible refine(newellaw19_awake.calls k  true _ kw.out).mono ?_);rintro e no ⟨rfl,hb⟩;refine⟨_,rfl, ?_⟩;have Z:=Aside0.mk (Kd.Qt (by(with_reducible repeat first|apply Kd.Qk|apply Kd.Qj|apply Kd.Qm);exact(Kd.Qq (Kd.Qr (p:=⟨av,1,none⟩) (Kd.Qr (p:=⟨av,0,none⟩) (Kd.Qu a3.out aw.out (by decide)) (fun _ hk=>hk.2) (.slice bo b9.length bp)) (fun _ hk=>hk.2) (.slice ba bc.length b7)) (fun _ h_=>h_.1))) hb);have ε :=Aside0.mk (Kd.Qt (by(with_reducible repeat first|apply Kd.Qk|apply Kd.Qj|apply Kd.Qm);exact(Kd.Qq (Kd.Qr (p:=⟨av,1,none⟩) (Kd.Qr (p:=⟨av,0,none⟩) (Kd.Qu a5.out aw.out (by decide)) (fun _ hk=>hk.2) (.slice bo b9.length bp)) (fun _ hk=>hk.2) (.slice ba bc.length b7)) (fun _ h_=>h_.1))) hb);have ι :=Aside0.mk (Kd.Qt (by(with_reducible repeat first|apply Kd.Qk|apply Kd.Qj|apply Kd.Qm);exact(Kd.Qq (Kd.Qr (p:=⟨av,1,none⟩) (Kd.Qr (p:=⟨av,0,none⟩) (Kd.Qu al.out aw.out (by decide)) (fun _ hk=>hk.2) (.slice bo b9.length bp)) (fun _ hk=>hk.2) (.slice ba bc.length b7)) (fun _ h_=>h_.1))) hb);have κ :=Aside0.mk (Kd.Qt (by(with_reducible repeat first|apply Kd.Qk|apply Kd.Qj|apply Kd.Qm);exact(Kd.Qq (Kd.Qr (p:=⟨av,1,none⟩) (Kd.Qr (p:=⟨av,0,none⟩) (Kd.Qu am.out aw.out (by decide)) (fun _ hk=>hk.2) (.slice bo b9.length bp)) (fun _ hk=>hk.2) (.slice ba bc.length b7)) (fun _ h_=>h_.1))) hb);have χ :=Aside0.mk (Kd.Qt (by(with_reducible repeat first|apply Kd.Qk|apply Kd.Qj|apply Kd.Qm);exact(Kd.Qq (Kd.Qr (p:=⟨av,1,none⟩) (Kd.Qr (p:=⟨av,0,none⟩) (Kd.Qu b5.out aw.out (by decide)) (fun _ hk=>hk.2) (.slice bo b9.length bp)) (fun _ hk=>hk.2) (.slice ba bc.length b7)) (fun _ h_=>h_.1))) hb);have ω :=Aside0.mk (Kd.Qt (by(with_reducible repeat first|apply Kd.Qk|apply Kd.Qj|apply Kd.Qm);exact(Kd.Qq (Kd.Qr (p:=⟨av,1,none⟩) (Kd.Qr (p:=⟨av,0,none⟩) (Kd.Qu b6.out aw.out (by decide)) (fun _ hk=>hk.2) (.slice bo b9.length bp)) (fun _ hk=>hk.2) (.slice ba bc.length b7)) (fun _ h_=>h_.1))) hb);have a1:=Aside0.mk (Qn (g:=ρ) (o:=.cells #[.int .i64 D,.int .i64 I] 23 (0,0)) (by(with_reducible repeat first|apply Qe|apply Qa|apply Qb);refine Zn ?_ ch.out _;(with_reducible repeat first|apply Qe|apply Qa|apply Qb);refine Zn ?_ ch.out _;(with_reducible repeat first|apply Qe|apply Qa|apply Qb);exact L.out) hb);have ag:=Aside0.mk (Qn (g:= τ) (o:=.cells #[.slice ζ B.length γ,.slice η J.length δ] 27 (0,0)) (by(with_reducible repeat first|apply Qe|apply Qa|apply Qb);refine Zn ?_ ci.out _;(with_reducible repeat first|apply Qe|apply Qa|apply Qb);refine Zn ?_ ci.out _;(with_reducible repeat first|apply Qe|apply Qa|apply Qb);exact O.out) hb);have ah:=Aside0.mk (Qn (g:= φ) (o:=.cells #[.int .i64 Y,.int .i64 X,.int .i64 θ] 29 (0,0)) (by(with_reducible repeat first|apply Qe|apply Qa|apply Qb);refine Zn ?_ ck.out _;(with_reducible repeat first|apply Qe|apply Qa|apply Qb);refine Zn ?_ ck.out _;(with_reducible repeat first|apply Qe|apply Qa|apply Qb);exact U.out) hb);have ax:=Aside0.mk (Qn (g:= μ) (o:=.cells #[.slice bq ac.length bn,.slice b3 ae.length b1] 27 (0,0)) (by(with_reducible repeat first|apply Qe|apply Qa|apply Qb);refine Zn ?_ cm.out _;(with_reducible repeat first|apply Qe|apply Qa|apply Qb);refine Zn ?_ cm.out _;(with_reducible repeat first|apply Qe|apply Qa|apply Qb);exact a6.out) hb);have aj:=Aside0.mk (Qn (g:=av) (o:=.cells #[.slice bo b9.length bp,.slice ba bc.length b7] 27 (0,0)) (by(with_reducible repeat first|apply Qe|apply Qa|apply Qb);refine Qw (cs:=#[.slice bo b9.length bp,.slice none 0 0]) ?_ 1 _ rfl;(with_reducible repeat first|apply Qe|apply Qa|apply Qb);refine Qw (cs:=#[.slice none 0 0,.slice none 0 0]) ?_ 0 _ rfl;(with_reducible repeat first|apply Qe|apply Qa|apply Qb);exact aw.out) hb);have ap:=Aside0.mk (Qv (by repeat(first|(with_reducible first|exact HB.out|apply Qh|apply Qc|apply Qf|refine Qd ?_ a0.out|refine Qd ?_ aa.out|refine Qd ?_ ab.out|refine Qd ?_ au.out|refine Qd ?_ cz.out)|exact HB.out)) hb);clear a3;clear a5;clear al;clear am;clear b5;clear b6;clear L;clear O;clear U;clear a6;clear aw;clear HB;have a3:=Z;have a5:= ε;have al:= ι;have am:= κ;have b5:= χ;have b6:= ω;have L:=a1;have O:=ag;have U:=ah;have a6:=ax;have aw:=aj;have HB:=ap;clear Z ε ι κ χ ω a1 ag ah ax aj ap;(try clear hb);(try clear a4);(try clear hk);(try clear hi);have jd:=b0.out;have je:=ao.out;have jh:=b2.out;have ji:=ar.out;have ij:=b4.out;have ik:=an.out;have ib:=cm.out;have ic:=e7.out;obtain⟨gr,gv,gw,gx⟩:=qD2 a6.out;have lx:=dv.out;have ly:=ch.out;have k0:=dw.out;have k3:=ci.out;have im:=e6.out;have iq:=ck.out;obtain⟨f9,fg,fh,fi⟩:=qD2 aw.out)|(go_at_call 27;(with_reducible refine(call_Same.calls k _ _ ac _ _ ae _ _ b9 _ _ bc true _ ?side1 ?side2 ?side3 ?side4 ?side5 ?side6 ?side7 ?side8 bv.out).mono ?_);(case side1=>repeat(first|exact(Kd.Qp al.out).2.2|(with_reducible refine Kd.Q9 ?_ _)|(with_reducible refine Kd.Q8 ?_ _)|(with_reducible refine Kd.Zc ?_)));(case side2=>exact(Kd.Qp al.out).2.1);(case side3=>repeat(first|exact(Kd.Qp am.out).2.2|(with_reducible refine Kd.Q9 ?_ _)|(with_reducible refine Kd.Q8 ?_ _)|(with_reducible refine Kd.Zc ?_)));(case side4=>exact(Kd.Qp am.out).2.1);(case side5=>repeat(first|exact(Kd.Qp b5.out).2.2|(with_reducible refine Kd.Q9 ?_ _)|(with_reducible refine Kd.Q8 ?_ _)|(with_reducible refine Kd.Zc ?_)));(case side6=>exact(Kd.Qp b5.out).2.1);(case side7=>repeat(first|exact(Kd.Qp b6.out).2.2|(with_reducible refine Kd.Q9 ?_ _)|(with_reducible refine Kd.Q8 ?_ _)|(with_reducible refine Kd.Zc ?_)));(case side8=>exact(Kd.Qp b6.out).2.1);rintro e lg ⟨rfl,hb⟩;have Z:=Aside0.mk (Kd.Qt (by(with_reducible repeat first|apply Kd.Qk|apply Kd.Qj|apply Kd.Qm);exact a3.out) hb);have ε :=Aside0.mk (Kd.Qt (by(with_reducible repeat first|apply Kd.Qk|apply Kd.Qj|apply Kd.Qm);exact a5.out) hb);have ι :=Aside0.mk (Kd.Qt (by(with_reducible repeat first|apply Kd.Qk|apply Kd.Qj|apply Kd.Qm);exact al.out) hb);have κ :=Aside0.mk (Kd.Qt (by(with_reducible repeat first|apply Kd.Qk|apply Kd.Qj|apply Kd.Qm);exact am.out) hb);have χ :=Aside0.mk (Kd.Qt (by(with_reducible repeat first|apply Kd.Qk|apply Kd.Qj|apply Kd.Qm);exact b5.out) hb);have ω :=Aside0.mk (Kd.Qt (by(with_reducible repeat first|apply Kd.Qk|apply Kd.Qj|apply Kd.Qm);exact b6.out) hb);have a1:=Aside0.mk (Qn (g:=ρ) (o:=.cells #[.int .i64 D,.int .i64 I] 23 (0,0)) (by(with_reducible repeat first|apply Qe|apply Qa|apply Qb);exact L.out) hb);have ag:=Aside0.mk (Qn (g:= τ) (o:=.cells #[.slice ζ B.length γ,.slice η J.length δ] 27 (0,0)) (by(with_reducible repeat first|apply Qe|apply Qa|apply Qb);exact O.out) hb);have ah:=Aside0.mk (Qn (g:= φ) (o:=.cells #[.int .i64 Y,.int .i64 X,.int .i64 θ] 29 (0,0)) (by(with_reducible repeat first|apply Qe|apply Qa|apply Qb);exact U.out) hb);have ax:=Aside0.mk (Qn (g:= μ) (o:=.cells #[.slice bq ac.length bn,.slice b3 ae.length b1] 27 (0,0)) (by(with_reducible repeat first|apply Qe|apply Qa|apply Qb);exact a6.out) hb);have aj:=Aside0.mk (Qn (g:=av) (o:=.cells #[.slice bo b9.length bp,.slice ba bc.length b7] 27 (0,0)) (by(with_reducible repeat first|apply Qe|apply Qa|apply Qb);exact aw.out) hb);have ap:=Aside0.mk (Qv (by repeat(first|(with_reducible first|exact HB.out|apply Qh|apply Qc|apply Qf|refine Qd ?_ a0.out|refine Qd ?_ aa.out|refine Qd ?_ ab.out|refine Qd ?_ au.out|refine Qd ?_ cz.out)|exact HB.out)) hb);clear a3;clear a5;clear al;clear am;clear b5;clear b6;clear L;clear O;clear U;clear a6;clear aw;clear HB;have a3:=Z;have a5:= ε;have al:= ι;have am:= κ;have b5:= χ;have b6:= ω;have L:=a1;have O:=ag;have U:=ah;have a6:=ax;have aw:=aj;have HB:=ap;clear Z ε ι κ χ ω a1 ag ah ax aj ap;(try clear hb);(try clear a4);(try clear hk);(try clear hi);have o1:=cd.out;have o2:=ce.out;have o3:=d3.out;have o4:=d4.out;obtain⟨gh,gi,gj,gl⟩:=qD2 L.out;obtain⟨k1,k2,k4,k5⟩:=qD2 a6.out)|(go_at_call 14;(with_reducible refine(call_Check.calls k D I _ _ ac _ _ ae bd _ ?side1 ?side2 ?side3 ?side4 kx.out).mono ?_);(case side1=>repeat(first|exact(Kd.Qp al.out).2.2|(with_reducible refine Kd.Q9 ?_ _)|(with_reducible refine Kd.Q8 ?_ _)|(with_reducible refine Kd.Zc ?_)));(case side2=>exact(Kd.Qp al.out).2.1);(case side3=>repeat(first|exact(Kd.Qp am.out).2.2|(with_reducible refine Kd.Q9 ?_ _)|(with_reducible refine Kd.Q8 ?_ _)|(with_reducible refine Kd.Zc ?_)));(case side4=>exact(Kd.Qp am.out).2.1);rintro e mm ⟨rfl,hb⟩;have Z:=Aside0.mk (Kd.Qt (by(with_reducible repeat first|apply Kd.Qk|apply Kd.Qj|apply Kd.Qm);exact a3.out) hb);have ε :=Aside0.mk (Kd.Qt (by(with_reducible repeat first|apply Kd.Qk|apply Kd.Qj|apply Kd.Qm);exact a5.out) hb);have ι :=Aside0.mk (Kd.Qt (by(with_reducible repeat first|apply Kd.Qk|apply Kd.Qj|apply Kd.Qm);exact al.out) hb);have κ :=Aside0.mk (Kd.Qt (by(with_reducible repeat first|apply Kd.Qk|apply Kd.Qj|apply Kd.Qm);exact am.out) hb);have χ :=Aside0.mk (Kd.Qt (by(with_reducible repeat first|apply Kd.Qk|apply Kd.Qj|apply Kd.Qm);exact b5.out) hb);have ω :=Aside0.mk (Kd.Qt (by(with_reducible repeat first|apply Kd.Qk|apply Kd.Qj|apply Kd.Qm);exact b6.out) hb);have a1:=Aside0.mk (Qn (g:=ρ) (o:=.cells #[.int .i64 D,.int .i64 I] 23 (0,0)) (by(with_reducible repeat first|apply Qe|apply Qa|apply Qb);exact L.out) hb);have ag:=Aside0.mk (Qn (g:= τ) (o:=.cells #[.slice ζ B.length γ,.slice η J.length δ] 27 (0,0)) (by(with_reducible repeat first|apply Qe|apply Qa|apply Qb);exact O.out) hb);have ah:=Aside0.mk (Qn (g:= φ) (o:=.cells #[.int .i64 Y,.int .i64 X,.int .i64 θ] 29 (0,0)) (by(with_reducible repeat first|apply Qe|apply Qa|apply Qb);exact U.out) hb);have ax:=Aside0.mk (Qn (g:= μ) (o:=.cells #[.slice bq ac.length bn,.slice b3 ae.length b1] 27 (0,0)) (by(with_reducible repeat first|apply Qe|apply Qa|apply Qb);exact a6.out) hb);have aj:=Aside0.mk (Qn (g:=av) (o:=.cells #[.slice bo b9.length bp,.slice ba bc.length b7] 27 (0,0)) (by(with_reducible repeat first|apply Qe|apply Qa|apply Qb);exact aw.out) hb);have ap:=Aside0.mk (Qv (by repeat(first|(with_reducible first|exact HB.out|apply Qh|apply Qc|apply Qf|refine Qd ?_ a0.out|refine Qd ?_ aa.out|refine Qd ?_ ab.out|refine Qd ?_ au.out|refine Qd ?_ cz.out)|exact HB.out)) hb);clear a3;clear a5;clear al;clear am;clear b5;clear b6;clear L;clear O;clear U;clear a6;clear aw;clear HB;have a3:=Z;have a5:= ε;have al:= ι;have am:= κ;have b5:= χ;have b6:= ω;have L:=a1;have O:=ag;have U:=ah;have a6:=ax;have aw:=aj;have HB:=ap;clear Z ε ι κ χ ω a1 ag ah ax aj ap;(try clear hb);(try clear a4);(try clear hk);(try clear hi);obtain⟨k6,k7,ka,kb⟩:=qD2 a6.out;have jc:=cp.out;have jg:=cq.out;obtain⟨hy,i0,i1,i2⟩:=qD2 O.out)|(go_at_call 27;(with_reducible refine(call_Same.calls k _ _ ac _ _ ae _ _ B _ _ J be _ ?side1 ?side2 ?side3 ?side4 ?side5 ?side6 ?side7 ?side8 m4.out).mono ?_);(case side1=>repeat(first|exact(Kd.Qp al.out).2.2|(with_reducible refine Kd.Q9 ?_ _)|(with_reducible refine Kd.Q8 ?_ _)|(with_reducible refine Kd.Zc ?_)));(case side2=>exact(Kd.Qp al.out).2.1);(case side3=>repeat(first|exact(Kd.Qp am.out).2.2|(with_reducible refine Kd.Q9 ?_ _)|(with_reducible refine Kd.Q8 ?_ _)|(with_reducible refine Kd.Zc ?_)));(case side4=>exact(Kd.Qp am.out).2.1);(case side5=>repeat(first|exact(Kd.Qx ai.out HB.out)|(with_reducible refine Kd.Q9 ?_ _)|(with_reducible refine Kd.Q8 ?_ _)|(with_reducible refine Kd.Zc ?_)));(case side6=>exact ay.out);(case side7=>repeat(first|exact(Kd.Qx ak.out HB.out)|(with_reducible refine Kd.Q9 ?_ _)|(with_reducible refine Kd.Q8 ?_ _)|(with_reducible refine Kd.Zc ?_)));(case side8=>exact az.out);rintro e so ⟨rfl,hb⟩;have Z:=Aside0.mk (Kd.Qt (by(with_reducible repeat first|apply Kd.Qk|apply Kd.Qj|apply Kd.Qm);exact a3.out) hb);have ε :=Aside0.mk (Kd.Qt (by(with_reducible repeat first|apply Kd.Qk|apply Kd.Qj|apply Kd.Qm);exact a5.out) hb);have ι :=Aside0.mk (Kd.Qt (by(with_reducible repeat first|apply Kd.Qk|apply Kd.Qj|apply Kd.Qm);exact al.out) hb);have κ :=Aside0.mk (Kd.Qt (by(with_reducible repeat first|apply Kd.Qk|apply Kd.Qj|apply Kd.Qm);exact am.out) hb);have χ :=Aside0.mk (Kd.Qt (by(with_reducible repeat first|apply Kd.Qk|apply Kd.Qj|apply Kd.Qm);exact b5.out) hb);have ω :=Aside0.mk (Kd.Qt (by(with_reducible repeat first|apply Kd.Qk|apply Kd.Qj|apply Kd.Qm);exact b6.out) hb);have a1:=Aside0.mk (Qn (g:=ρ) (o:=.cells #[.int .i64 D,.int .i64 I] 23 (0,0)) (by(with_reducible repeat first|apply Qe|apply Qa|apply Qb);exact L.out) hb);have ag:=Aside0.mk (Qn (g:= τ) (o:=.cells #[.slice ζ B.length γ,.slice η J.length δ] 27 (0,0)) (by(with_reducible repeat first|apply Qe|apply Qa|apply Qb);exact O.out) hb);have ah:=Aside0.mk (Qn (g:= φ) (o:=.cells #[.int .i64 Y,.int .i64 X,.int .i64 θ] 29 (0,0)) (by(with_reducible repeat first|apply Qe|apply Qa|apply Qb);exact U.out) hb);have ax:=Aside0.mk (Qn (g:= μ) (o:=.cells #[.slice bq ac.length bn,.slice b3 ae.length b1] 27 (0,0)) (by(with_reducible repeat first|apply Qe|apply Qa|apply Qb);exact a6.out) hb);have aj:=Aside0.mk (Qn (g:=av) (o:=.cells #[.slice bo b9.length bp,.slice ba bc.length b7] 27 (0,0)) (by(with_reducible repeat first|apply Qe|apply Qa|apply Qb);exact aw.out) hb);have ap:=Aside0.mk (Qv (by repeat(first|(with_reducible first|exact HB.out|apply Qh|apply Qc|apply Qf|refine Qd ?_ a0.out|refine Qd ?_ aa.out|refine Qd ?_ ab.out|refine Qd ?_ au.out|refine Qd ?_ cz.out)|exact HB.out)) hb);clear a3;clear a5;clear al;clear am;clear b5;clear b6;clear L;clear O;clear U;clear a6;clear aw;clear HB;have a3:=Z;have a5:= ε;have al:= ι;have am:= κ;have b5:= χ;have b6:= ω;have L:=a1;have O:=ag;have U:=ah;have a6:=ax;have aw:=aj;have HB:=ap;clear Z ε ι κ χ ω a1 ag ah ax aj ap;(try clear hb);(try clear a4);(try clear hk);(try clear hi)))
          go_meet
          case rel=>exact⟨_,(be),qR,H',⟨by first|omega|exact Nat.le_refl _⟩,⟨by(with_reducible repeat first|apply Kd.Qk|apply Kd.Qj|apply Kd.Qm);exact Kd.Qq al.out (fun _ hk=>hk.2)⟩,⟨by(with_reducible repeat first|apply Kd.Qk|apply Kd.Qj|apply Kd.Qm);exact Kd.Qq am.out (fun _ hk=>hk.2)⟩,⟨by(with_reducible repeat first|apply Kd.Qk|apply Kd.Qj|apply Kd.Qm);exact Kd.Qq b5.out (fun _ hk=>hk.2)⟩,⟨by(with_reducible repeat first|apply Kd.Qk|apply Kd.Qj|apply Kd.Qm);exact Kd.Qq b6.out (fun _ hk=>hk.2)⟩,⟨by(with_reducible repeat first|apply Qe|apply Qa|apply Qb);exact L.out⟩,⟨by(with_reducible repeat first|apply Qe|apply Qa|apply Qb);exact O.out⟩,⟨by(with_reducible repeat first|apply Qe|apply Qa|apply Qb);exact U.out⟩,⟨by(with_reducible repeat first|apply Qe|apply Qa|apply Qb);exact a6.out⟩,⟨by(with_reducible repeat first|apply Qe|apply Qa|apply Qb);exact aw.out⟩,⟨by repeat(first|(with_reducible first|exact HB.out|apply Qh|apply Qc|apply Qf|refine Qd ?_ a0.out|refine Qd ?_ aa.out|refine Qd ?_ ab.out|refine Qd ?_ au.out|refine Qd ?_ cz.out)|exact HB.out)⟩⟩
         ·rw[if_neg fz] at H
          exact absurd H (by simp)
       ·rw[if_neg d7] at H
        exact absurd H (by simp)
      ·replace dn:=Bool.eq_false_iff.mpr dn
       subst dn
       have H1:(none)=some r:=by rw[if_neg (show ¬ (false=true) by decide)] at H;exact H
       clear H
       have H:=H1
       clear H1
       exact absurd H (by simp)
     ·rw[if_neg ed] at H
      exact absurd H (by simp)
    ·replace cv:=Bool.eq_false_iff.mpr cv
     subst cv
     have H1:(none)=some r:=by rw[if_neg (show ¬ (false=true) by decide)] at H;exact H
     clear H
     have H:=H1
     clear H1
     exact absurd H (by simp)
   case rest=>
    clear ie
    try clear c1
    try clear c2
    try clear p2
    try clear c3
    try clear c4
    try clear c5
    try clear c6
    try clear p6
    try clear c7
    try clear c8
    try clear c9
    try clear c10
    try clear ca
    try clear cj
    try clear bw
    try clear gy
    try clear iy
    try clear j9
    try clear l8
    try clear ip
    try clear lz
    try clear cu
    try clear cv
    try clear ed
    try clear c49b0
    try clear c49b1
    try clear dn
    try clear d7
    try clear c53b0
    try clear c53b1
    try clear ff
    try clear c54b0
    try clear c54b1
    try clear gn
    try clear gu
    try clear i7
    try clear ob
    try clear oc
    try clear od
    try clear io
    try clear p64
    try clear oe
    try clear mo
    try clear fz
    try clear c71b0
    try clear c71b1
    try clear jk
    try clear mq
    try clear mr
    try clear sp
    try clear sq
    try clear sr
    try clear ms
    try clear ss
    try clear st
    try clear mt
    try clear e8
    try clear e9
    try clear cw
    try clear d0
    try clear ee
    try clear en
    try clear js
    try clear fj
    try clear fk
    try clear ej
    try clear ek
    try clear ju
    try clear jv
    try clear h9
    try clear ha
    try clear ge
    try clear gf
    try clear er
    try clear f5
    try clear gt
    try clear h6
    try clear gr
    try clear gv
    try clear f9
    try clear fg
    try clear gh
    try clear gi
    try clear k1
    try clear k2
    try clear k6
    try clear k7
    try clear hy
    try clear i0
    try clear ea
    try clear eb
    try clear d1
    try clear d2
    try clear eo
    try clear ep
    try clear jt
    try clear fl
    try clear fm
    try clear el
    try clear em
    try clear jw
    try clear jx
    try clear he
    try clear hh
    try clear gg
    try clear gq
    try clear f7
    try clear f8
    try clear h7
    try clear h8
    try clear gw
    try clear gx
    try clear fh
    try clear fi
    try clear gj
    try clear gl
    try clear k4
    try clear k5
    try clear ka
    try clear kb
    try clear i1
    try clear i2
    obtain⟨kq,ig,rfl,HA,mu,HO_538000,HO_538001,HO_547000,HO_547001,L,O,U,a6,aw,HB⟩:=hcut
    cases kq with
    |zero=>exact absurd HA.out (by simp[newellaw19_CallOnce.j0])
    |succ n2=>
     have H:=HA.out
     clear HA
     simp only[newellaw19_CallOnce.j0] at H
     obtain rfl:=Option.some.inj H
     go_wp2
     go_ret
     exact⟨by first|rfl|(simp[Qz,Qy] <;> rfl)|(simp[*,Qz,Qy] <;> rfl),by repeat(first|(with_reducible first|exact HB.out|apply Qh|apply Qc|apply Qf|refine Qd ?_ a0.out|refine Qd ?_ aa.out|refine Qd ?_ ab.out|refine Qd ?_ au.out|refine Qd ?_ cz.out)|exact HB.out)⟩
  ·rw[if_neg c8] at H
   have c8b0:(bz==0)=false:=beq_eq_false_iff_ne.mpr c8
   have c8b1:(bz != 0)=true:=bne_iff_ne.mpr c8
   replace H:=Option.bind_eq_some_iff.mp H
   obtain⟨ct,ku,H⟩:=H
   replace H:(some ct)=some r:=H
   have m5:=Aside0.mk ku
   clear ku
   obtain rfl:=Option.some.inj H
   go_enter Try.func6,Try.ntmps6
   try go_wp2_with (first|((with_reducible refine Qs (N:=3) rfl ?_);refine Zb ?hg (N:=3) ?hd (cs:=#[.int .i64 D,.int .i64 I]) (t:=23) ?hr ?_;(case hd=>rfl);(case hg=>rfl);(case hr=>first|(go_simp;done)|(go_simp;rfl));intro ρ hg n3 hbox hb;have Z:=Aside0.mk (Qv (by repeat(first|(with_reducible first|exact HB.out|apply Qh|apply Qc|apply Qf)|exact HB.out)) hb);have ε :=Aside0.mk (hbox);have ι :=Aside0.mk ((by rw[hg];exact(Ql (by repeat(first|(with_reducible first|exact HB.out|apply Qh|apply Qc|apply Qf)|exact HB.out))):w.heap.size≤ρ));have κ :=Aside0.mk ((by rw[hg];exact(Ql (by repeat(first|(with_reducible first|exact HB.out|apply Qh|apply Qc|apply Qf)|exact HB.out))):w.heap.size≤ρ));clear HB;have HB:=Z;have L:= ε;have jf:= ι;have a0:= κ;clear Z ε ι κ;clear hb hbox hg)|((with_reducible refine Qs (N:=4) rfl ?_);refine Zb ?hg (N:=4) ?hd (cs:=#[.slice ζ B.length γ,.slice η J.length δ]) (t:=27) ?hr ?_;(case hd=>rfl);(case hg=>rfl);(case hr=>first|(go_simp;done)|(go_simp;rfl));intro τ hg na hbox hb;have Z:=Aside0.mk (Qn (g:=ρ) (o:=.cells #[.int .i64 D,.int .i64 I] 23 (0,0)) (by(with_reducible repeat first|apply Qe|apply Qa|apply Qb);exact L.out) hb);have ε :=Aside0.mk (Qv (by repeat(first|(with_reducible first|exact HB.out|apply Qh|apply Qc|apply Qf|refine Qd ?_ a0.out)|exact HB.out)) hb);have ι :=Aside0.mk (hbox);have κ :=Aside0.mk ((by rw[hg];exact(Ql (by repeat(first|(with_reducible first|exact HB.out|apply Qh|apply Qc|apply Qf|refine Qd ?_ a0.out)|exact HB.out))):w.heap.size ≤ τ));have χ :=Aside0.mk ((by rw[hg];exact(Ql (by repeat(first|(with_reducible first|exact HB.out|apply Qh|apply Qc|apply Qf|refine Qd ?_ a0.out)|exact HB.out))):w.heap.size ≤ τ));have ω :=Aside0.mk ((by rw[hg];exact Nat.ne_of_lt (Q5 (g:=ρ) (o:=.cells #[.int .i64 D,.int .i64 I] 23 (0,0)) (by(with_reducible repeat first|apply Qe|apply Qa|apply Qb);exact L.out)):ρ ≠ τ));have a1:=Aside0.mk ((by rw[hg];exact Nat.ne_of_gt (Q5 (g:=ρ) (o:=.cells #[.int .i64 D,.int .i64 I] 23 (0,0)) (by(with_reducible repeat first|apply Qe|apply Qa|apply Qb);exact L.out)): τ ≠ ρ));clear L;clear HB;have L:=Z;have HB:= ε;have O:= ι;have jj:= κ;have aa:= χ;have cd:= ω;have ce:=a1;clear Z ε ι κ χ ω a1;clear hb hbox hg)|((with_reducible refine Qs (N:=5) rfl ?_);refine Zb ?hg (N:=5) ?hd (cs:=#[.int .i64 Y,.int .i64 X,.int .i64 θ]) (t:=29) ?hr ?_;(case hd=>rfl);(case hg=>rfl);(case hr=>first|(go_simp;done)|(go_simp;rfl));intro φ hg nb hbox hb;have Z:=Aside0.mk (Qn (g:=ρ) (o:=.cells #[.int .i64 D,.int .i64 I] 23 (0,0)) (by(with_reducible repeat first|apply Qe|apply Qa|apply Qb);exact L.out) hb);have ε :=Aside0.mk (Qn (g:= τ) (o:=.cells #[.slice ζ B.length γ,.slice η J.length δ] 27 (0,0)) (by(with_reducible repeat first|apply Qe|apply Qa|apply Qb);exact O.out) hb);have ι :=Aside0.mk (Qv (by repeat(first|(with_reducible first|exact HB.out|apply Qh|apply Qc|apply Qf|refine Qd ?_ a0.out|refine Qd ?_ aa.out)|exact HB.out)) hb);have κ :=Aside0.mk (hbox);have χ :=Aside0.mk ((by rw[hg];exact(Ql (by repeat(first|(with_reducible first|exact HB.out|apply Qh|apply Qc|apply Qf|refine Qd ?_ a0.out|refine Qd ?_ aa.out)|exact HB.out))):w.heap.size ≤ φ));have ω :=Aside0.mk ((by rw[hg];exact(Ql (by repeat(first|(with_reducible first|exact HB.out|apply Qh|apply Qc|apply Qf|refine Qd ?_ a0.out|refine Qd ?_ aa.out)|exact HB.out))):w.heap.size ≤ φ));have a1:=Aside0.mk ((by rw[hg];exact Nat.ne_of_lt (Q5 (g:=ρ) (o:=.cells #[.int .i64 D,.int .i64 I] 23 (0,0)) (by(with_reducible repeat first|apply Qe|apply Qa|apply Qb);exact L.out)):ρ ≠ φ));have ag:=Aside0.mk ((by rw[hg];exact Nat.ne_of_gt (Q5 (g:=ρ) (o:=.cells #[.int .i64 D,.int .i64 I] 23 (0,0)) (by(with_reducible repeat first|apply Qe|apply Qa|apply Qb);exact L.out)): φ ≠ ρ));have ah:=Aside0.mk ((by rw[hg];exact Nat.ne_of_lt (Q5 (g:= τ) (o:=.cells #[.slice ζ B.length γ,.slice η J.length δ] 27 (0,0)) (by(with_reducible repeat first|apply Qe|apply Qa|apply Qb);exact O.out)): τ ≠ φ));have ax:=Aside0.mk ((by rw[hg];exact Nat.ne_of_gt (Q5 (g:= τ) (o:=.cells #[.slice ζ B.length γ,.slice η J.length δ] 27 (0,0)) (by(with_reducible repeat first|apply Qe|apply Qa|apply Qb);exact O.out)): φ ≠ τ));clear L;clear O;clear HB;have L:=Z;have O:= ε;have HB:= ι;have U:= κ;have jl:= χ;have ab:= ω;have d3:=a1;have d4:=ag;have cp:=ah;have cq:=ax;clear Z ε ι κ χ ω a1 ag ah ax;clear hb hbox hg;have l3:=ce.out;have l4:=cd.out;have l5:=cp.out;have l7:=cq.out;obtain⟨hj,hl,hu,hx⟩:=qD2 O.out)|((with_reducible refine Q0 (f:=9) rfl ?_);refine Zl (some 13) rfl rfl Try.func9 kr rfl #[.agg #[.slice ζ B.length γ,.slice η J.length δ]] rfl (by(try simp only[List.map_toArray,List.map_cons,List.map_nil]);first|done|rfl|(simp only[List.length_drop,List.length_take];rfl)) ?_;(with_reducible refine(newelref19_Few.calls _ _ B _ _ J true _ ?side1 ?side2 ?side3 ?side4 A4.out).mono ?_);(case side1=>repeat(first|exact(Kd.Qx ai.out HB.out)|(with_reducible refine Kd.Q9 ?_ _)|(with_reducible refine Kd.Q8 ?_ _)|(with_reducible refine Kd.Zc ?_)));(case side2=>exact ay.out);(case side3=>repeat(first|exact(Kd.Qx ak.out HB.out)|(with_reducible refine Kd.Q9 ?_ _)|(with_reducible refine Kd.Q8 ?_ _)|(with_reducible refine Kd.Zc ?_)));(case side4=>exact az.out);rintro e ky ⟨rfl,hb⟩;refine⟨_,rfl, ?_⟩;have Z:=Aside0.mk (Qn (g:=ρ) (o:=.cells #[.int .i64 D,.int .i64 I] 23 (0,0)) (by(with_reducible repeat first|apply Qe|apply Qa|apply Qb);exact L.out) hb);have ε :=Aside0.mk (Qn (g:= τ) (o:=.cells #[.slice ζ B.length γ,.slice η J.length δ] 27 (0,0)) (by(with_reducible repeat first|apply Qe|apply Qa|apply Qb);exact O.out) hb);have ι :=Aside0.mk (Qn (g:= φ) (o:=.cells #[.int .i64 Y,.int .i64 X,.int .i64 θ] 29 (0,0)) (by(with_reducible repeat first|apply Qe|apply Qa|apply Qb);exact U.out) hb);have κ :=Aside0.mk (Qv (by repeat(first|(with_reducible first|exact HB.out|apply Qh|apply Qc|apply Qf|refine Qd ?_ a0.out|refine Qd ?_ aa.out|refine Qd ?_ ab.out)|exact HB.out)) hb);clear L;clear O;clear U;clear HB;have L:=Z;have O:= ε;have U:= ι;have HB:= κ;clear Z ε ι κ;(try clear hb);(try clear a4);(try clear hk);(try clear hi)))
   have Z:=Aside0.mk (Qa L.out)
   have ε :=Aside0.mk (Qa O.out)
   have ι :=Aside0.mk (Qa U.out)
   have κ :=Aside0.mk (Qf HB.out)
   clear L
   clear O
   clear U
   clear HB
   have L:=Z
   have O:= ε
   have U:= ι
   have HB:= κ
   clear Z ε ι κ
   refine Zm (n:=11) (S:=fun w'=>w'.cell? ⟨ρ,0,none⟩=some (.int .i64 D)∧w'.cell? ⟨ρ,1,none⟩=some (.int .i64 I)∧w'.cell? ⟨τ,0,none⟩=some (.slice ζ B.length γ)∧w'.cell? ⟨τ,1,none⟩=some (.slice η J.length δ)∧w'.cell? ⟨φ,0,none⟩=some (.int .i64 Y)∧w'.cell? ⟨φ,1,none⟩=some (.int .i64 X)∧w'.cell? ⟨φ,2,none⟩=some (.int .i64 θ)) (ds:=[]) #[false,false,false,false,false,false,false,false,false,false,false] kr rfl rfl ⟨(Qi L.out 0).trans rfl,(Qi L.out 1).trans rfl,(Qi O.out 0).trans rfl,(Qi O.out 1).trans rfl,(Qi U.out 0).trans rfl,(Qi U.out 1).trans rfl,(Qi U.out 2).trans rfl⟩ (fun hHeld=>?_);refine Q7 newellaw19_CallOnce.Lu newellaw19_CallOnce.Uv (fun HT_ HW_=>?_)
   generalize ky.drew=mg at L O U HB hHeld ⊢
   refine qT 0 (some 17) (qB 11 1) HT_ HW_ hHeld ?_
   refine qT 1 (some 18) (qB 11 3) HT_ HW_ hHeld ?_
   refine qT 3 (some 20) (qB 11 11) HT_ HW_ hHeld ?_
   refine Ku (σ:=Value×Value×Value×Value×Nat) 2 #[true,true,true,true,true,true,true,true,true,false,false] (fun s_=>[(19,.agg #[s_.1,s_.2.1]),(21,.tuple #[.agg #[s_.2.2.1,s_.2.2.2.1],.int .i64 bz]),(7,.pointer (some ⟨s_.2.2.2.2,0,none⟩)),(16,.tuple #[.agg #[s_.2.2.1,s_.2.2.2.1],.int .i64 bz]),(22,.agg #[s_.2.2.1,s_.2.2.2.1]),(23,.int .i64 bz)]) (fun s_ w'=>(w'.cell? ⟨ρ,0,none⟩=some (.int .i64 D)∧w'.cell? ⟨ρ,1,none⟩=some (.int .i64 I)∧w'.cell? ⟨τ,0,none⟩=some (.slice ζ B.length γ)∧w'.cell? ⟨τ,1,none⟩=some (.slice η J.length δ)∧w'.cell? ⟨φ,0,none⟩=some (.int .i64 Y)∧w'.cell? ⟨φ,1,none⟩=some (.int .i64 X)∧w'.cell? ⟨φ,2,none⟩=some (.int .i64 θ))∧(Kd.R k56 56 w' w.heap.size (fun k_=>some k_≠(s_.2.2.1:Value).ownBlock) s_.1 bf)∧(Kd.R k62 62 w' w.heap.size (fun k_=>some k_≠(s_.2.2.2.1:Value).ownBlock) s_.2.1 bi)∧(Kd.R k56 56 w' w.heap.size (fun k_=>some k_≠(s_.1:Value).ownBlock) s_.2.2.1 ac)∧(Kd.R k62 62 w' w.heap.size (fun k_=>some k_≠(s_.2.1:Value).ownBlock) s_.2.2.2.1 ae)∧(w'.heap[ρ]?=some (.cells #[.int .i64 D,.int .i64 I] 23 (0,0)))∧(w'.heap[τ]?=some (.cells #[.slice ζ B.length γ,.slice η J.length δ] 27 (0,0)))∧(w'.heap[φ]?=some (.cells #[.int .i64 Y,.int .i64 X,.int .i64 θ] 29 (0,0)))∧(w'.heap[s_.2.2.2.2]?=some (.cells #[.slice none 0 0,.slice none 0 0] 27 (0,0)))∧(w.heap.size≤s_.2.2.2.2)∧(w.heap.size≤s_.2.2.2.2)∧(ρ≠s_.2.2.2.2)∧(s_.2.2.2.2≠ρ)∧(τ ≠ s_.2.2.2.2)∧(s_.2.2.2.2 ≠ τ)∧(φ ≠ s_.2.2.2.2)∧(s_.2.2.2.2 ≠ φ)∧(Below w.heap.size w w')) ?_ ?_
   rotate_left
   ·intro hCont
    refine J8 (i:=2) (j:=8) (Ni:=some 19) (Nj:=some 7) #[true,true,true,true,false,false,false,false,false,false,false] #[true,true,false,true,false,false,false,false,true,false,false] rfl rfl rfl rfl (X6 HT_.out kr) (by decide) (by decide) (fun K hK=>?_) (fun K hK=>?_)
    ·skip
     refine Zh Try.func12 kr rfl #[.agg #[.slice ζ B.length γ,.slice η J.length δ]] (by rfl) rfl rfl (by(try simp only[List.map_toArray,List.map_cons,List.map_nil]);first|done|rfl|(simp only[List.length_drop,List.length_take];rfl)) ?_
     with_reducible refine(newellaw19_Own.calls _ _ B _ _ J bf bi _ ?side1 ?side2 ?side3 ?side4 A6.out).mono ?_
     (case side1=>repeat(first|exact(Kd.Qx ai.out HB.out)|(with_reducible refine Kd.Q9 ?_ _)|(with_reducible refine Kd.Q8 ?_ _)|(with_reducible refine Kd.Zc ?_)))
     (case side2=>exact ay.out)
     (case side3=>repeat(first|exact(Kd.Qx ak.out HB.out)|(with_reducible refine Kd.Q9 ?_ _)|(with_reducible refine Kd.Q8 ?_ _)|(with_reducible refine Kd.Zc ?_)))
     (case side4=>exact az.out)
     rintro e ke ⟨dl,dm,rfl,ψ,a2,hb⟩
     refine⟨_,rfl, ?_⟩
     have Z:=Aside0.mk (Kd.Q1 ψ (Ql (by repeat(first|(with_reducible first|exact HB.out|apply Qh|apply Qc|apply Qf|refine Qd ?_ a0.out|refine Qd ?_ aa.out|refine Qd ?_ ab.out)|exact HB.out))))
     have ε :=Aside0.mk (Kd.Q1 a2 (Ql (by repeat(first|(with_reducible first|exact HB.out|apply Qh|apply Qc|apply Qf|refine Qd ?_ a0.out|refine Qd ?_ aa.out|refine Qd ?_ ab.out)|exact HB.out))))
     have ι :=Aside0.mk (Qn (g:=ρ) (o:=.cells #[.int .i64 D,.int .i64 I] 23 (0,0)) (by(with_reducible repeat first|apply Qe|apply Qa|apply Qb);exact L.out) hb)
     have κ :=Aside0.mk (Qn (g:= τ) (o:=.cells #[.slice ζ B.length γ,.slice η J.length δ] 27 (0,0)) (by(with_reducible repeat first|apply Qe|apply Qa|apply Qb);exact O.out) hb)
     have χ :=Aside0.mk (Qn (g:= φ) (o:=.cells #[.int .i64 Y,.int .i64 X,.int .i64 θ] 29 (0,0)) (by(with_reducible repeat first|apply Qe|apply Qa|apply Qb);exact U.out) hb)
     have ω :=Aside0.mk (Qv (by repeat(first|(with_reducible first|exact HB.out|apply Qh|apply Qc|apply Qf|refine Qd ?_ a0.out|refine Qd ?_ aa.out|refine Qd ?_ ab.out)|exact HB.out)) hb)
     clear L
     clear O
     clear U
     clear HB
     have a3:=Z
     have a5:= ε
     have L:= ι
     have O:= κ
     have U:= χ
     have HB:= ω
     clear Z ε ι κ χ ω
     (try clear hb)
     (try clear a4)
     (try clear hk)
     (try clear hi)
     (try clear ψ)
     (try clear a2)
     obtain⟨jm,jn,jo⟩:=Kd.Q3 a3.out
     (first|subst jo|(injection jo with ν a7 ξ;have a8:= ν.symm;have a9:= ξ.symm;clear ν a7 ξ;subst a8;subst a9))
     obtain⟨dh,di,dj⟩:=Kd.Q3 a5.out
     (first|subst dj|(injection dj with ν a7 ξ;have a8:= ν.symm;have a9:= ξ.symm;clear ν a7 ξ;subst a8;subst a9))
     refine hK.out _ _ ⟨qc L,qc L,qc O,qc O,qc U,qc U,qc U⟩ (fun hHeld=>?_)
     clear hK K
     refine qN (some 19) ?_
     refine J8 (i:=4) (j:=8) (Ni:=some 21) (Nj:=some 7) #[true,true,true,true,true,false,false,false,false,false,false] #[true,true,true,true,false,false,false,false,true,false,false] rfl rfl rfl rfl (X6 HT_.out kr) (by decide) (by decide) (fun K hK=>?_) (fun K hK=>?_)
     ·skip
      refine Zh Try.func11 kr rfl #[.agg #[.int .i64 D,.int .i64 I],.agg #[.slice jm bf.length jn,.slice dh bi.length di],.agg #[.int .i64 Y,.int .i64 X,.int .i64 θ]] (by rfl) rfl rfl (by(try simp only[List.map_toArray,List.map_cons,List.map_nil]);first|done|rfl|(simp only[List.length_drop,List.length_take];rfl)) ?_
      with_reducible refine(call_Press.calls k D I _ _ bf _ _ bi Y X θ ac ae bz _ ?side1 ?side2 ?side3 ?side4 A7.out).mono ?_
      (case side1=>repeat(first|exact(Kd.Qp a3.out).2.2|(with_reducible refine Kd.Q9 ?_ _)|(with_reducible refine Kd.Q8 ?_ _)|(with_reducible refine Kd.Zc ?_)))
      (case side2=>exact(Kd.Qp a3.out).2.1)
      (case side3=>repeat(first|exact(Kd.Qp a5.out).2.2|(with_reducible refine Kd.Q9 ?_ _)|(with_reducible refine Kd.Q8 ?_ _)|(with_reducible refine Kd.Zc ?_)))
      (case side4=>exact(Kd.Qp a5.out).2.1)
      rintro e mh ⟨cf,cg,rfl,ψ,a2,hb⟩
      refine⟨_,rfl, ?_⟩
      have Z:=Aside0.mk (Kd.Za (by(with_reducible repeat first|apply Kd.Qk|apply Kd.Qj|apply Kd.Qm);exact a3.out) (Kd.Zg ψ) hb)
      have ε :=Aside0.mk (Kd.Za (by(with_reducible repeat first|apply Kd.Qk|apply Kd.Qj|apply Kd.Qm);exact a5.out) (Kd.Zg a2) hb)
      have ι :=Aside0.mk (Kd.Q1 (Kd.Zf ψ (Kd.Zq (by(with_reducible repeat first|apply Kd.Qk|apply Kd.Qj|apply Kd.Qm);exact a3.out))) (Ql (by repeat(first|(with_reducible first|exact HB.out|apply Qh|apply Qc|apply Qf|refine Qd ?_ a0.out|refine Qd ?_ aa.out|refine Qd ?_ ab.out)|exact HB.out))))
      have κ :=Aside0.mk (Kd.Q1 (Kd.Zf a2 (Kd.Zq (by(with_reducible repeat first|apply Kd.Qk|apply Kd.Qj|apply Kd.Qm);exact a5.out))) (Ql (by repeat(first|(with_reducible first|exact HB.out|apply Qh|apply Qc|apply Qf|refine Qd ?_ a0.out|refine Qd ?_ aa.out|refine Qd ?_ ab.out)|exact HB.out))))
      have χ :=Aside0.mk (Qn (g:=ρ) (o:=.cells #[.int .i64 D,.int .i64 I] 23 (0,0)) (by(with_reducible repeat first|apply Qe|apply Qa|apply Qb);exact L.out) hb)
      have ω :=Aside0.mk (Qn (g:= τ) (o:=.cells #[.slice ζ B.length γ,.slice η J.length δ] 27 (0,0)) (by(with_reducible repeat first|apply Qe|apply Qa|apply Qb);exact O.out) hb)
      have a1:=Aside0.mk (Qn (g:= φ) (o:=.cells #[.int .i64 Y,.int .i64 X,.int .i64 θ] 29 (0,0)) (by(with_reducible repeat first|apply Qe|apply Qa|apply Qb);exact U.out) hb)
      have ag:=Aside0.mk (Qv (by repeat(first|(with_reducible first|exact HB.out|apply Qh|apply Qc|apply Qf|refine Qd ?_ a0.out|refine Qd ?_ aa.out|refine Qd ?_ ab.out)|exact HB.out)) hb)
      clear a3
      clear a5
      clear L
      clear O
      clear U
      clear HB
      have a3:=Z
      have a5:= ε
      have al:= ι
      have am:= κ
      have L:= χ
      have O:= ω
      have U:=a1
      have HB:=ag
      clear Z ε ι κ χ ω a1 ag
      (try clear hb)
      (try clear a4)
      (try clear hk)
      (try clear hi)
      (try clear ψ)
      (try clear a2)
      refine hK.out _ _ ⟨qc L,qc L,qc O,qc O,qc U,qc U,qc U⟩ (fun hHeld=>?_)
      clear hK K
      refine qN (some 21) ?_
      refine qP 5 (some 16) (qB 11 63) HT_ ?_
      refine qP 6 (some 22) (qB 11 127) HT_ ?_
      refine qP 7 (some 23) (qB 11 255) HT_ ?_
      refine Zi (i:=8) (N:=some 7) #[true,true,true,true,true,true,true,true,true,false,false] rfl rfl (Q2 HT_.out kr) (by decide) (fun K hK=>?_)
      refine Xc ?hg (N:=7) ?hd (cs:=#[.slice none 0 0,.slice none 0 0]) (t:=27) ?hr ?_;(case hd=>rfl);(case hg=>rfl);(case hr=>first|(go_simp;done)|(go_simp;rfl))
      intro μ hg kv hbox hb
      have Z:=Aside0.mk (Kd.Qt (by(with_reducible repeat first|apply Kd.Qk|apply Kd.Qj|apply Kd.Qm);exact a3.out) hb)
      have ε :=Aside0.mk (Kd.Qt (by(with_reducible repeat first|apply Kd.Qk|apply Kd.Qj|apply Kd.Qm);exact a5.out) hb)
      have ι :=Aside0.mk (Kd.Qt (by(with_reducible repeat first|apply Kd.Qk|apply Kd.Qj|apply Kd.Qm);exact al.out) hb)
      have κ :=Aside0.mk (Kd.Qt (by(with_reducible repeat first|apply Kd.Qk|apply Kd.Qj|apply Kd.Qm);exact am.out) hb)
      have χ :=Aside0.mk (Qn (g:=ρ) (o:=.cells #[.int .i64 D,.int .i64 I] 23 (0,0)) (by(with_reducible repeat first|apply Qe|apply Qa|apply Qb);exact L.out) hb)
      have ω :=Aside0.mk (Qn (g:= τ) (o:=.cells #[.slice ζ B.length γ,.slice η J.length δ] 27 (0,0)) (by(with_reducible repeat first|apply Qe|apply Qa|apply Qb);exact O.out) hb)
      have a1:=Aside0.mk (Qn (g:= φ) (o:=.cells #[.int .i64 Y,.int .i64 X,.int .i64 θ] 29 (0,0)) (by(with_reducible repeat first|apply Qe|apply Qa|apply Qb);exact U.out) hb)
      have ag:=Aside0.mk (Qv (by repeat(first|(with_reducible first|exact HB.out|apply Qh|apply Qc|apply Qf|refine Qd ?_ a0.out|refine Qd ?_ aa.out|refine Qd ?_ ab.out)|exact HB.out)) hb)
      have ah:=Aside0.mk (hbox)
      have ax:=Aside0.mk ((by rw[hg];exact(Ql (by repeat(first|(with_reducible first|exact HB.out|apply Qh|apply Qc|apply Qf|refine Qd ?_ a0.out|refine Qd ?_ aa.out|refine Qd ?_ ab.out)|exact HB.out))):w.heap.size ≤ μ))
      have aj:=Aside0.mk ((by rw[hg];exact(Ql (by repeat(first|(with_reducible first|exact HB.out|apply Qh|apply Qc|apply Qf|refine Qd ?_ a0.out|refine Qd ?_ aa.out|refine Qd ?_ ab.out)|exact HB.out))):w.heap.size ≤ μ))
      have ap:=Aside0.mk ((by rw[hg];exact Nat.ne_of_lt (Q5 (g:=ρ) (o:=.cells #[.int .i64 D,.int .i64 I] 23 (0,0)) (by(with_reducible repeat first|apply Qe|apply Qa|apply Qb);exact L.out)):ρ ≠ μ))
      have b8:=Aside0.mk ((by rw[hg];exact Nat.ne_of_gt (Q5 (g:=ρ) (o:=.cells #[.int .i64 D,.int .i64 I] 23 (0,0)) (by(with_reducible repeat first|apply Qe|apply Qa|apply Qb);exact L.out)): μ ≠ ρ))
      have bg:=Aside0.mk ((by rw[hg];exact Nat.ne_of_lt (Q5 (g:= τ) (o:=.cells #[.slice ζ B.length γ,.slice η J.length δ] 27 (0,0)) (by(with_reducible repeat first|apply Qe|apply Qa|apply Qb);exact O.out)): τ ≠ μ))
      have bh:=Aside0.mk ((by rw[hg];exact Nat.ne_of_gt (Q5 (g:= τ) (o:=.cells #[.slice ζ B.length γ,.slice η J.length δ] 27 (0,0)) (by(with_reducible repeat first|apply Qe|apply Qa|apply Qb);exact O.out)): μ ≠ τ))
      have bs:=Aside0.mk ((by rw[hg];exact Nat.ne_of_lt (Q5 (g:= φ) (o:=.cells #[.int .i64 Y,.int .i64 X,.int .i64 θ] 29 (0,0)) (by(with_reducible repeat first|apply Qe|apply Qa|apply Qb);exact U.out)): φ ≠ μ))
      have bu:=Aside0.mk ((by rw[hg];exact Nat.ne_of_gt (Q5 (g:= φ) (o:=.cells #[.int .i64 Y,.int .i64 X,.int .i64 θ] 29 (0,0)) (by(with_reducible repeat first|apply Qe|apply Qa|apply Qb);exact U.out)): μ ≠ φ))
      clear a3
      clear a5
      clear al
      clear am
      clear L
      clear O
      clear U
      clear HB
      have a3:=Z
      have a5:= ε
      have al:= ι
      have am:= κ
      have L:= χ
      have O:= ω
      have U:=a1
      have HB:=ag
      have a6:=ah
      have cn:=ax
      have au:=aj
      have ao:=ap
      have b0:=b8
      have ar:=bg
      have b2:=bh
      have an:=bs
      have b4:=bu
      clear Z ε ι κ χ ω a1 ag ah ax aj ap b8 bg bh bs bu
      clear hb hbox hg
      refine hK.out _ _ ⟨qc L,qc L,qc O,qc O,qc U,qc U,qc U⟩ (fun hHeld=>?_)
      clear hK K
      refine qN (some 7) ?_
      exact Xe (by simp only[Zv,Act.put,qS]) (hCont (.slice jm bf.length jn,.slice dh bi.length di,cf,cg,μ) _ ⟨hHeld,(by(with_reducible repeat first|apply Kd.Qk|apply Kd.Qj|apply Kd.Qm);exact Kd.Qq a3.out (fun _ hk=>hk.2)),(by(with_reducible repeat first|apply Kd.Qk|apply Kd.Qj|apply Kd.Qm);exact Kd.Qq a5.out (fun _ hk=>hk.2)),(by(with_reducible repeat first|apply Kd.Qk|apply Kd.Qj|apply Kd.Qm);exact Kd.Qq al.out (fun _ hk=>hk.2)),(by(with_reducible repeat first|apply Kd.Qk|apply Kd.Qj|apply Kd.Qm);exact Kd.Qq am.out (fun _ hk=>hk.2)),(by(with_reducible repeat first|apply Qe|apply Qa|apply Qb);exact L.out),(by(with_reducible repeat first|apply Qe|apply Qa|apply Qb);exact O.out),(by(with_reducible repeat first|apply Qe|apply Qa|apply Qb);exact U.out),(by(with_reducible repeat first|apply Qe|apply Qa|apply Qb);exact a6.out),cn.out,au.out,ao.out,b0.out,ar.out,b2.out,an.out,b4.out,(by repeat(first|(with_reducible first|exact HB.out|apply Qh|apply Qc|apply Qf|refine Qd ?_ a0.out|refine Qd ?_ aa.out|refine Qd ?_ ab.out|refine Qd ?_ au.out)|exact HB.out))⟩)
     ·skip
      refine Xc ?hg (N:=7) ?hd (cs:=#[.slice none 0 0,.slice none 0 0]) (t:=27) ?hr ?_;(case hd=>rfl);(case hg=>rfl);(case hr=>first|(go_simp;done)|(go_simp;rfl))
      intro μ hg kf hbox hb
      have Z:=Aside0.mk (Kd.Qt (by(with_reducible repeat first|apply Kd.Qk|apply Kd.Qj|apply Kd.Qm);exact a3.out) hb)
      have ε :=Aside0.mk (Kd.Qt (by(with_reducible repeat first|apply Kd.Qk|apply Kd.Qj|apply Kd.Qm);exact a5.out) hb)
      have ι :=Aside0.mk (Qn (g:=ρ) (o:=.cells #[.int .i64 D,.int .i64 I] 23 (0,0)) (by(with_reducible repeat first|apply Qe|apply Qa|apply Qb);exact L.out) hb)
      have κ :=Aside0.mk (Qn (g:= τ) (o:=.cells #[.slice ζ B.length γ,.slice η J.length δ] 27 (0,0)) (by(with_reducible repeat first|apply Qe|apply Qa|apply Qb);exact O.out) hb)
      have χ :=Aside0.mk (Qn (g:= φ) (o:=.cells #[.int .i64 Y,.int .i64 X,.int .i64 θ] 29 (0,0)) (by(with_reducible repeat first|apply Qe|apply Qa|apply Qb);exact U.out) hb)
      have ω :=Aside0.mk (Qv (by repeat(first|(with_reducible first|exact HB.out|apply Qh|apply Qc|apply Qf|refine Qd ?_ a0.out|refine Qd ?_ aa.out|refine Qd ?_ ab.out)|exact HB.out)) hb)
      have a1:=Aside0.mk (hbox)
      have ag:=Aside0.mk ((by rw[hg];exact(Ql (by repeat(first|(with_reducible first|exact HB.out|apply Qh|apply Qc|apply Qf|refine Qd ?_ a0.out|refine Qd ?_ aa.out|refine Qd ?_ ab.out)|exact HB.out))):w.heap.size ≤ μ))
      have ah:=Aside0.mk ((by rw[hg];exact(Ql (by repeat(first|(with_reducible first|exact HB.out|apply Qh|apply Qc|apply Qf|refine Qd ?_ a0.out|refine Qd ?_ aa.out|refine Qd ?_ ab.out)|exact HB.out))):w.heap.size ≤ μ))
      have ax:=Aside0.mk ((by rw[hg];exact Nat.ne_of_lt (Q5 (g:=ρ) (o:=.cells #[.int .i64 D,.int .i64 I] 23 (0,0)) (by(with_reducible repeat first|apply Qe|apply Qa|apply Qb);exact L.out)):ρ ≠ μ))
      have aj:=Aside0.mk ((by rw[hg];exact Nat.ne_of_gt (Q5 (g:=ρ) (o:=.cells #[.int .i64 D,.int .i64 I] 23 (0,0)) (by(with_reducible repeat first|apply Qe|apply Qa|apply Qb);exact L.out)): μ ≠ ρ))
      have ap:=Aside0.mk ((by rw[hg];exact Nat.ne_of_lt (Q5 (g:= τ) (o:=.cells #[.slice ζ B.length γ,.slice η J.length δ] 27 (0,0)) (by(with_reducible repeat first|apply Qe|apply Qa|apply Qb);exact O.out)): τ ≠ μ))
      have b8:=Aside0.mk ((by rw[hg];exact Nat.ne_of_gt (Q5 (g:= τ) (o:=.cells #[.slice ζ B.length γ,.slice η J.length δ] 27 (0,0)) (by(with_reducible repeat first|apply Qe|apply Qa|apply Qb);exact O.out)): μ ≠ τ))
      have bg:=Aside0.mk ((by rw[hg];exact Nat.ne_of_lt (Q5 (g:= φ) (o:=.cells #[.int .i64 Y,.int .i64 X,.int .i64 θ] 29 (0,0)) (by(with_reducible repeat first|apply Qe|apply Qa|apply Qb);exact U.out)): φ ≠ μ))
      have bh:=Aside0.mk ((by rw[hg];exact Nat.ne_of_gt (Q5 (g:= φ) (o:=.cells #[.int .i64 Y,.int .i64 X,.int .i64 θ] 29 (0,0)) (by(with_reducible repeat first|apply Qe|apply Qa|apply Qb);exact U.out)): μ ≠ φ))
      clear a3
      clear a5
      clear L
      clear O
      clear U
      clear HB
      have a3:=Z
      have a5:= ε
      have L:= ι
      have O:= κ
      have U:= χ
      have HB:= ω
      have a6:=a1
      have cn:=ag
      have au:=ah
      have ao:=ax
      have b0:=aj
      have ar:=ap
      have b2:=b8
      have an:=bg
      have b4:=bh
      clear Z ε ι κ χ ω a1 ag ah ax aj ap b8 bg bh
      clear hb hbox hg
      obtain⟨dh,di,dj⟩:=Kd.Q3 a3.out
      (first|subst dj|(injection dj with ν a7 ξ;have a8:= ν.symm;have a9:= ξ.symm;clear ν a7 ξ;subst a8;subst a9))
      obtain⟨fq,fu,fv⟩:=Kd.Q3 a5.out
      (first|subst fv|(injection fv with ν a7 ξ;have a8:= ν.symm;have a9:= ξ.symm;clear ν a7 ξ;subst a8;subst a9))
      refine hK.out _ _ ⟨qc L,qc L,qc O,qc O,qc U,qc U,qc U⟩ (fun hHeld=>?_)
      clear hK K
      refine qN (some 7) ?_
      refine Zi (i:=4) (N:=some 21) #[true,true,true,true,true,false,false,false,true,false,false] rfl rfl (Q2 HT_.out kr) (by decide) (fun K hK=>?_)
      refine Zh Try.func11 kr rfl #[.agg #[.int .i64 D,.int .i64 I],.agg #[.slice dh bf.length di,.slice fq bi.length fu],.agg #[.int .i64 Y,.int .i64 X,.int .i64 θ]] (by rfl) rfl rfl (by(try simp only[List.map_toArray,List.map_cons,List.map_nil]);first|done|rfl|(simp only[List.length_drop,List.length_take];rfl)) ?_
      with_reducible refine(call_Press.calls k D I _ _ bf _ _ bi Y X θ ac ae bz _ ?side1 ?side2 ?side3 ?side4 A7.out).mono ?_
      (case side1=>repeat(first|exact(Kd.Qp a3.out).2.2|(with_reducible refine Kd.Q9 ?_ _)|(with_reducible refine Kd.Q8 ?_ _)|(with_reducible refine Kd.Zc ?_)))
      (case side2=>exact(Kd.Qp a3.out).2.1)
      (case side3=>repeat(first|exact(Kd.Qp a5.out).2.2|(with_reducible refine Kd.Q9 ?_ _)|(with_reducible refine Kd.Q8 ?_ _)|(with_reducible refine Kd.Zc ?_)))
      (case side4=>exact(Kd.Qp a5.out).2.1)
      rintro e kv ⟨cf,cg,rfl,ψ,a2,hb⟩
      refine⟨_,rfl, ?_⟩
      have Z:=Aside0.mk (Kd.Za (by(with_reducible repeat first|apply Kd.Qk|apply Kd.Qj|apply Kd.Qm);exact a3.out) (Kd.Zg ψ) hb)
      have ε :=Aside0.mk (Kd.Za (by(with_reducible repeat first|apply Kd.Qk|apply Kd.Qj|apply Kd.Qm);exact a5.out) (Kd.Zg a2) hb)
      have ι :=Aside0.mk (Kd.Q1 (Kd.Zf ψ (Kd.Zq (by(with_reducible repeat first|apply Kd.Qk|apply Kd.Qj|apply Kd.Qm);exact a3.out))) (Ql (by repeat(first|(with_reducible first|exact HB.out|apply Qh|apply Qc|apply Qf|refine Qd ?_ a0.out|refine Qd ?_ aa.out|refine Qd ?_ ab.out|refine Qd ?_ au.out)|exact HB.out))))
      have κ :=Aside0.mk (Kd.Q1 (Kd.Zf a2 (Kd.Zq (by(with_reducible repeat first|apply Kd.Qk|apply Kd.Qj|apply Kd.Qm);exact a5.out))) (Ql (by repeat(first|(with_reducible first|exact HB.out|apply Qh|apply Qc|apply Qf|refine Qd ?_ a0.out|refine Qd ?_ aa.out|refine Qd ?_ ab.out|refine Qd ?_ au.out)|exact HB.out))))
      have χ :=Aside0.mk (Qn (g:=ρ) (o:=.cells #[.int .i64 D,.int .i64 I] 23 (0,0)) (by(with_reducible repeat first|apply Qe|apply Qa|apply Qb);exact L.out) hb)
      have ω :=Aside0.mk (Qn (g:= τ) (o:=.cells #[.slice ζ B.length γ,.slice η J.length δ] 27 (0,0)) (by(with_reducible repeat first|apply Qe|apply Qa|apply Qb);exact O.out) hb)
      have a1:=Aside0.mk (Qn (g:= φ) (o:=.cells #[.int .i64 Y,.int .i64 X,.int .i64 θ] 29 (0,0)) (by(with_reducible repeat first|apply Qe|apply Qa|apply Qb);exact U.out) hb)
      have ag:=Aside0.mk (Qn (g:= μ) (o:=.cells #[.slice none 0 0,.slice none 0 0] 27 (0,0)) (by(with_reducible repeat first|apply Qe|apply Qa|apply Qb);exact a6.out) hb)
      have ah:=Aside0.mk (Qv (by repeat(first|(with_reducible first|exact HB.out|apply Qh|apply Qc|apply Qf|refine Qd ?_ a0.out|refine Qd ?_ aa.out|refine Qd ?_ ab.out|refine Qd ?_ au.out)|exact HB.out)) hb)
      clear a3
      clear a5
      clear L
      clear O
      clear U
      clear a6
      clear HB
      have a3:=Z
      have a5:= ε
      have al:= ι
      have am:= κ
      have L:= χ
      have O:= ω
      have U:=a1
      have a6:=ag
      have HB:=ah
      clear Z ε ι κ χ ω a1 ag ah
      (try clear hb)
      (try clear a4)
      (try clear hk)
      (try clear hi)
      (try clear ψ)
      (try clear a2)
      refine hK.out _ _ ⟨qc L,qc L,qc O,qc O,qc U,qc U,qc U⟩ (fun hHeld=>?_)
      clear hK K
      refine qN (some 21) ?_
      refine qP 5 (some 16) (qB 11 319) HT_ ?_
      refine qP 6 (some 22) (qB 11 383) HT_ ?_
      refine qP 7 (some 23) (qB 11 511) HT_ ?_
      exact Xe (by simp only[Zv,Act.put,qS]) (hCont (.slice dh bf.length di,.slice fq bi.length fu,cf,cg,μ) _ ⟨hHeld,(by(with_reducible repeat first|apply Kd.Qk|apply Kd.Qj|apply Kd.Qm);exact Kd.Qq a3.out (fun _ hk=>hk.2)),(by(with_reducible repeat first|apply Kd.Qk|apply Kd.Qj|apply Kd.Qm);exact Kd.Qq a5.out (fun _ hk=>hk.2)),(by(with_reducible repeat first|apply Kd.Qk|apply Kd.Qj|apply Kd.Qm);exact Kd.Qq al.out (fun _ hk=>hk.2)),(by(with_reducible repeat first|apply Kd.Qk|apply Kd.Qj|apply Kd.Qm);exact Kd.Qq am.out (fun _ hk=>hk.2)),(by(with_reducible repeat first|apply Qe|apply Qa|apply Qb);exact L.out),(by(with_reducible repeat first|apply Qe|apply Qa|apply Qb);exact O.out),(by(with_reducible repeat first|apply Qe|apply Qa|apply Qb);exact U.out),(by(with_reducible repeat first|apply Qe|apply Qa|apply Qb);exact a6.out),cn.out,au.out,ao.out,b0.out,ar.out,b2.out,an.out,b4.out,(by repeat(first|(with_reducible first|exact HB.out|apply Qh|apply Qc|apply Qf|refine Qd ?_ a0.out|refine Qd ?_ aa.out|refine Qd ?_ ab.out|refine Qd ?_ au.out)|exact HB.out))⟩)
    ·skip
     refine Xc ?hg (N:=7) ?hd (cs:=#[.slice none 0 0,.slice none 0 0]) (t:=27) ?hr ?_;(case hd=>rfl);(case hg=>rfl);(case hr=>first|(go_simp;done)|(go_simp;rfl))
     intro μ hg ke hbox hb
     have Z:=Aside0.mk (Qn (g:=ρ) (o:=.cells #[.int .i64 D,.int .i64 I] 23 (0,0)) (by(with_reducible repeat first|apply Qe|apply Qa|apply Qb);exact L.out) hb)
     have ε :=Aside0.mk (Qn (g:= τ) (o:=.cells #[.slice ζ B.length γ,.slice η J.length δ] 27 (0,0)) (by(with_reducible repeat first|apply Qe|apply Qa|apply Qb);exact O.out) hb)
     have ι :=Aside0.mk (Qn (g:= φ) (o:=.cells #[.int .i64 Y,.int .i64 X,.int .i64 θ] 29 (0,0)) (by(with_reducible repeat first|apply Qe|apply Qa|apply Qb);exact U.out) hb)
     have κ :=Aside0.mk (Qv (by repeat(first|(with_reducible first|exact HB.out|apply Qh|apply Qc|apply Qf|refine Qd ?_ a0.out|refine Qd ?_ aa.out|refine Qd ?_ ab.out)|exact HB.out)) hb)
     have χ :=Aside0.mk (hbox)
     have ω :=Aside0.mk ((by rw[hg];exact(Ql (by repeat(first|(with_reducible first|exact HB.out|apply Qh|apply Qc|apply Qf|refine Qd ?_ a0.out|refine Qd ?_ aa.out|refine Qd ?_ ab.out)|exact HB.out))):w.heap.size ≤ μ))
     have a1:=Aside0.mk ((by rw[hg];exact(Ql (by repeat(first|(with_reducible first|exact HB.out|apply Qh|apply Qc|apply Qf|refine Qd ?_ a0.out|refine Qd ?_ aa.out|refine Qd ?_ ab.out)|exact HB.out))):w.heap.size ≤ μ))
     have ag:=Aside0.mk ((by rw[hg];exact Nat.ne_of_lt (Q5 (g:=ρ) (o:=.cells #[.int .i64 D,.int .i64 I] 23 (0,0)) (by(with_reducible repeat first|apply Qe|apply Qa|apply Qb);exact L.out)):ρ ≠ μ))
     have ah:=Aside0.mk ((by rw[hg];exact Nat.ne_of_gt (Q5 (g:=ρ) (o:=.cells #[.int .i64 D,.int .i64 I] 23 (0,0)) (by(with_reducible repeat first|apply Qe|apply Qa|apply Qb);exact L.out)): μ ≠ ρ))
     have ax:=Aside0.mk ((by rw[hg];exact Nat.ne_of_lt (Q5 (g:= τ) (o:=.cells #[.slice ζ B.length γ,.slice η J.length δ] 27 (0,0)) (by(with_reducible repeat first|apply Qe|apply Qa|apply Qb);exact O.out)): τ ≠ μ))
     have aj:=Aside0.mk ((by rw[hg];exact Nat.ne_of_gt (Q5 (g:= τ) (o:=.cells #[.slice ζ B.length γ,.slice η J.length δ] 27 (0,0)) (by(with_reducible repeat first|apply Qe|apply Qa|apply Qb);exact O.out)): μ ≠ τ))
     have ap:=Aside0.mk ((by rw[hg];exact Nat.ne_of_lt (Q5 (g:= φ) (o:=.cells #[.int .i64 Y,.int .i64 X,.int .i64 θ] 29 (0,0)) (by(with_reducible repeat first|apply Qe|apply Qa|apply Qb);exact U.out)): φ ≠ μ))
     have b8:=Aside0.mk ((by rw[hg];exact Nat.ne_of_gt (Q5 (g:= φ) (o:=.cells #[.int .i64 Y,.int .i64 X,.int .i64 θ] 29 (0,0)) (by(with_reducible repeat first|apply Qe|apply Qa|apply Qb);exact U.out)): μ ≠ φ))
     clear L
     clear O
     clear U
     clear HB
     have L:=Z
     have O:= ε
     have U:= ι
     have HB:= κ
     have a6:= χ
     have cn:= ω
     have au:=a1
     have ao:=ag
     have b0:=ah
     have ar:=ax
     have b2:=aj
     have an:=ap
     have b4:=b8
     clear Z ε ι κ χ ω a1 ag ah ax aj ap b8
     clear hb hbox hg
     refine hK.out _ _ ⟨qc L,qc L,qc O,qc O,qc U,qc U,qc U⟩ (fun hHeld=>?_)
     clear hK K
     refine qN (some 7) ?_
     refine Zi (i:=2) (N:=some 19) #[true,true,true,true,false,false,false,false,true,false,false] rfl rfl (Q2 HT_.out kr) (by decide) (fun K hK=>?_)
     refine Zh Try.func12 kr rfl #[.agg #[.slice ζ B.length γ,.slice η J.length δ]] (by rfl) rfl rfl (by(try simp only[List.map_toArray,List.map_cons,List.map_nil]);first|done|rfl|(simp only[List.length_drop,List.length_take];rfl)) ?_
     with_reducible refine(newellaw19_Own.calls _ _ B _ _ J bf bi _ ?side1 ?side2 ?side3 ?side4 A6.out).mono ?_
     (case side1=>repeat(first|exact(Kd.Qx ai.out HB.out)|(with_reducible refine Kd.Q9 ?_ _)|(with_reducible refine Kd.Q8 ?_ _)|(with_reducible refine Kd.Zc ?_)))
     (case side2=>exact ay.out)
     (case side3=>repeat(first|exact(Kd.Qx ak.out HB.out)|(with_reducible refine Kd.Q9 ?_ _)|(with_reducible refine Kd.Q8 ?_ _)|(with_reducible refine Kd.Zc ?_)))
     (case side4=>exact az.out)
     rintro e kf ⟨dl,dm,rfl,ψ,a2,hb⟩
     refine⟨_,rfl, ?_⟩
     have Z:=Aside0.mk (Kd.Q1 ψ (Ql (by repeat(first|(with_reducible first|exact HB.out|apply Qh|apply Qc|apply Qf|refine Qd ?_ a0.out|refine Qd ?_ aa.out|refine Qd ?_ ab.out|refine Qd ?_ au.out)|exact HB.out))))
     have ε :=Aside0.mk (Kd.Q1 a2 (Ql (by repeat(first|(with_reducible first|exact HB.out|apply Qh|apply Qc|apply Qf|refine Qd ?_ a0.out|refine Qd ?_ aa.out|refine Qd ?_ ab.out|refine Qd ?_ au.out)|exact HB.out))))
     have ι :=Aside0.mk (Qn (g:=ρ) (o:=.cells #[.int .i64 D,.int .i64 I] 23 (0,0)) (by(with_reducible repeat first|apply Qe|apply Qa|apply Qb);exact L.out) hb)
     have κ :=Aside0.mk (Qn (g:= τ) (o:=.cells #[.slice ζ B.length γ,.slice η J.length δ] 27 (0,0)) (by(with_reducible repeat first|apply Qe|apply Qa|apply Qb);exact O.out) hb)
     have χ :=Aside0.mk (Qn (g:= φ) (o:=.cells #[.int .i64 Y,.int .i64 X,.int .i64 θ] 29 (0,0)) (by(with_reducible repeat first|apply Qe|apply Qa|apply Qb);exact U.out) hb)
     have ω :=Aside0.mk (Qn (g:= μ) (o:=.cells #[.slice none 0 0,.slice none 0 0] 27 (0,0)) (by(with_reducible repeat first|apply Qe|apply Qa|apply Qb);exact a6.out) hb)
     have a1:=Aside0.mk (Qv (by repeat(first|(with_reducible first|exact HB.out|apply Qh|apply Qc|apply Qf|refine Qd ?_ a0.out|refine Qd ?_ aa.out|refine Qd ?_ ab.out|refine Qd ?_ au.out)|exact HB.out)) hb)
     clear L
     clear O
     clear U
     clear a6
     clear HB
     have a3:=Z
     have a5:= ε
     have L:= ι
     have O:= κ
     have U:= χ
     have a6:= ω
     have HB:=a1
     clear Z ε ι κ χ ω a1
     (try clear hb)
     (try clear a4)
     (try clear hk)
     (try clear hi)
     (try clear ψ)
     (try clear a2)
     obtain⟨dh,di,dj⟩:=Kd.Q3 a3.out
     (first|subst dj|(injection dj with ν a7 ξ;have a8:= ν.symm;have a9:= ξ.symm;clear ν a7 ξ;subst a8;subst a9))
     obtain⟨fq,fu,fv⟩:=Kd.Q3 a5.out
     (first|subst fv|(injection fv with ν a7 ξ;have a8:= ν.symm;have a9:= ξ.symm;clear ν a7 ξ;subst a8;subst a9))
     refine hK.out _ _ ⟨qc L,qc L,qc O,qc O,qc U,qc U,qc U⟩ (fun hHeld=>?_)
     clear hK K
     refine qN (some 19) ?_
     refine Zi (i:=4) (N:=some 21) #[true,true,true,true,true,false,false,false,true,false,false] rfl rfl (Q2 HT_.out kr) (by decide) (fun K hK=>?_)
     refine Zh Try.func11 kr rfl #[.agg #[.int .i64 D,.int .i64 I],.agg #[.slice dh bf.length di,.slice fq bi.length fu],.agg #[.int .i64 Y,.int .i64 X,.int .i64 θ]] (by rfl) rfl rfl (by(try simp only[List.map_toArray,List.map_cons,List.map_nil]);first|done|rfl|(simp only[List.length_drop,List.length_take];rfl)) ?_
     with_reducible refine(call_Press.calls k D I _ _ bf _ _ bi Y X θ ac ae bz _ ?side1 ?side2 ?side3 ?side4 A7.out).mono ?_
     (case side1=>repeat(first|exact(Kd.Qp a3.out).2.2|(with_reducible refine Kd.Q9 ?_ _)|(with_reducible refine Kd.Q8 ?_ _)|(with_reducible refine Kd.Zc ?_)))
     (case side2=>exact(Kd.Qp a3.out).2.1)
     (case side3=>repeat(first|exact(Kd.Qp a5.out).2.2|(with_reducible refine Kd.Q9 ?_ _)|(with_reducible refine Kd.Q8 ?_ _)|(with_reducible refine Kd.Zc ?_)))
     (case side4=>exact(Kd.Qp a5.out).2.1)
     rintro e kv ⟨cf,cg,rfl,ψ,a2,hb⟩
     refine⟨_,rfl, ?_⟩
     have Z:=Aside0.mk (Kd.Za (by(with_reducible repeat first|apply Kd.Qk|apply Kd.Qj|apply Kd.Qm);exact a3.out) (Kd.Zg ψ) hb)
     have ε :=Aside0.mk (Kd.Za (by(with_reducible repeat first|apply Kd.Qk|apply Kd.Qj|apply Kd.Qm);exact a5.out) (Kd.Zg a2) hb)
     have ι :=Aside0.mk (Kd.Q1 (Kd.Zf ψ (Kd.Zq (by(with_reducible repeat first|apply Kd.Qk|apply Kd.Qj|apply Kd.Qm);exact a3.out))) (Ql (by repeat(first|(with_reducible first|exact HB.out|apply Qh|apply Qc|apply Qf|refine Qd ?_ a0.out|refine Qd ?_ aa.out|refine Qd ?_ ab.out|refine Qd ?_ au.out)|exact HB.out))))
     have κ :=Aside0.mk (Kd.Q1 (Kd.Zf a2 (Kd.Zq (by(with_reducible repeat first|apply Kd.Qk|apply Kd.Qj|apply Kd.Qm);exact a5.out))) (Ql (by repeat(first|(with_reducible first|exact HB.out|apply Qh|apply Qc|apply Qf|refine Qd ?_ a0.out|refine Qd ?_ aa.out|refine Qd ?_ ab.out|refine Qd ?_ au.out)|exact HB.out))))
     have χ :=Aside0.mk (Qn (g:=ρ) (o:=.cells #[.int .i64 D,.int .i64 I] 23 (0,0)) (by(with_reducible repeat first|apply Qe|apply Qa|apply Qb);exact L.out) hb)
     have ω :=Aside0.mk (Qn (g:= τ) (o:=.cells #[.slice ζ B.length γ,.slice η J.length δ] 27 (0,0)) (by(with_reducible repeat first|apply Qe|apply Qa|apply Qb);exact O.out) hb)
     have a1:=Aside0.mk (Qn (g:= φ) (o:=.cells #[.int .i64 Y,.int .i64 X,.int .i64 θ] 29 (0,0)) (by(with_reducible repeat first|apply Qe|apply Qa|apply Qb);exact U.out) hb)
     have ag:=Aside0.mk (Qn (g:= μ) (o:=.cells #[.slice none 0 0,.slice none 0 0] 27 (0,0)) (by(with_reducible repeat first|apply Qe|apply Qa|apply Qb);exact a6.out) hb)
     have ah:=Aside0.mk (Qv (by repeat(first|(with_reducible first|exact HB.out|apply Qh|apply Qc|apply Qf|refine Qd ?_ a0.out|refine Qd ?_ aa.out|refine Qd ?_ ab.out|refine Qd ?_ au.out)|exact HB.out)) hb)
     clear a3
     clear a5
     clear L
     clear O
     clear U
     clear a6
     clear HB
     have a3:=Z
     have a5:= ε
     have al:= ι
     have am:= κ
     have L:= χ
     have O:= ω
     have U:=a1
     have a6:=ag
     have HB:=ah
     clear Z ε ι κ χ ω a1 ag ah
     (try clear hb)
     (try clear a4)
     (try clear hk)
     (try clear hi)
     (try clear ψ)
     (try clear a2)
     refine hK.out _ _ ⟨qc L,qc L,qc O,qc O,qc U,qc U,qc U⟩ (fun hHeld=>?_)
     clear hK K
     refine qN (some 21) ?_
     refine qP 5 (some 16) (qB 11 319) HT_ ?_
     refine qP 6 (some 22) (qB 11 383) HT_ ?_
     refine qP 7 (some 23) (qB 11 511) HT_ ?_
     exact Xe (by simp only[Zv,Act.put,qS]) (hCont (.slice dh bf.length di,.slice fq bi.length fu,cf,cg,μ) _ ⟨hHeld,(by(with_reducible repeat first|apply Kd.Qk|apply Kd.Qj|apply Kd.Qm);exact Kd.Qq a3.out (fun _ hk=>hk.2)),(by(with_reducible repeat first|apply Kd.Qk|apply Kd.Qj|apply Kd.Qm);exact Kd.Qq a5.out (fun _ hk=>hk.2)),(by(with_reducible repeat first|apply Kd.Qk|apply Kd.Qj|apply Kd.Qm);exact Kd.Qq al.out (fun _ hk=>hk.2)),(by(with_reducible repeat first|apply Kd.Qk|apply Kd.Qj|apply Kd.Qm);exact Kd.Qq am.out (fun _ hk=>hk.2)),(by(with_reducible repeat first|apply Qe|apply Qa|apply Qb);exact L.out),(by(with_reducible repeat first|apply Qe|apply Qa|apply Qb);exact O.out),(by(with_reducible repeat first|apply Qe|apply Qa|apply Qb);exact U.out),(by(with_reducible repeat first|apply Qe|apply Qa|apply Qb);exact a6.out),cn.out,au.out,ao.out,b0.out,ar.out,b2.out,an.out,b4.out,(by repeat(first|(with_reducible first|exact HB.out|apply Qh|apply Qc|apply Qf|refine Qd ?_ a0.out|refine Qd ?_ aa.out|refine Qd ?_ ab.out|refine Qd ?_ au.out)|exact HB.out))⟩)
   rintro⟨dl,dm,cf,cg,μ⟩ cb ⟨hS_,da,db,dc,dd,de,ev,ew,ey,ez,f3,dx,dy,dz,e0,e3,e4,e5⟩
   have Z:Aside0 (Kd.R k56 56 cb w.heap.size (fun k_=>some k_≠(cf:Value).ownBlock) dl bf):=⟨da⟩
   have ε :Aside0 (Kd.R k62 62 cb w.heap.size (fun k_=>some k_≠(cg:Value).ownBlock) dm bi):=⟨db⟩
   have ι :Aside0 (Kd.R k56 56 cb w.heap.size (fun k_=>some k_≠(dl:Value).ownBlock) cf ac):=⟨dc⟩
   have κ :Aside0 (Kd.R k62 62 cb w.heap.size (fun k_=>some k_≠(dm:Value).ownBlock) cg ae):=⟨dd⟩
   have χ :Aside0 (cb.heap[ρ]?=some (.cells #[.int .i64 D,.int .i64 I] 23 (0,0))):=⟨de⟩
   have ω :Aside0 (cb.heap[τ]?=some (.cells #[.slice ζ B.length γ,.slice η J.length δ] 27 (0,0))):=⟨ev⟩
   have a1:Aside0 (cb.heap[φ]?=some (.cells #[.int .i64 Y,.int .i64 X,.int .i64 θ] 29 (0,0))):=⟨ew⟩
   have ag:Aside0 (cb.heap[μ]?=some (.cells #[.slice none 0 0,.slice none 0 0] 27 (0,0))):=⟨ey⟩
   have ah:Aside0 (w.heap.size ≤ μ):=⟨ez⟩
   have ax:Aside0 (w.heap.size ≤ μ):=⟨f3⟩
   have aj:Aside0 (ρ ≠ μ):=⟨dx⟩
   have ap:Aside0 (μ ≠ ρ):=⟨dy⟩
   have b8:Aside0 (τ ≠ μ):=⟨dz⟩
   have bg:Aside0 (μ ≠ τ):=⟨e0⟩
   have bh:Aside0 (φ ≠ μ):=⟨e3⟩
   have bs:Aside0 (μ ≠ φ):=⟨e4⟩
   have bu:Aside0 (Below w.heap.size w cb):=⟨e5⟩
   clear L
   clear O
   clear U
   clear HB
   clear da db dc dd de ev ew ey ez f3 dx dy dz e0 e3 e4 e5
   have a3:=Z
   have a5:= ε
   have al:= ι
   have am:= κ
   have L:= χ
   have O:= ω
   have U:=a1
   have a6:=ag
   have cn:=ah
   have au:=ax
   have ao:=aj
   have b0:=ap
   have ar:=b8
   have b2:=bg
   have an:=bh
   have b4:=bs
   have HB:=bu
   clear Z ε ι κ χ ω a1 ag ah ax aj ap b8 bg bh bs bu
   have hHeld:cb.cell? ⟨ρ,0,none⟩=some (.int .i64 D)∧cb.cell? ⟨ρ,1,none⟩=some (.int .i64 I)∧cb.cell? ⟨τ,0,none⟩=some (.slice ζ B.length γ)∧cb.cell? ⟨τ,1,none⟩=some (.slice η J.length δ)∧cb.cell? ⟨φ,0,none⟩=some (.int .i64 Y)∧cb.cell? ⟨φ,1,none⟩=some (.int .i64 X)∧cb.cell? ⟨φ,2,none⟩=some (.int .i64 θ):=hS_
   obtain⟨ec,fe,jp⟩:=Kd.Q3 al.out
   (first|subst jp|(injection jp with ν a7 ξ;have a8:= ν.symm;have a9:= ξ.symm;clear ν a7 ξ;subst a8;subst a9))
   obtain⟨fw,fx,jq⟩:=Kd.Q3 am.out
   (first|subst jq|(injection jq with ν a7 ξ;have a8:= ν.symm;have a9:= ξ.symm;clear ν a7 ξ;subst a8;subst a9))
   refine Xe (a':=?_) ?_ ?_
   rotate_left
   ·simp only[Zv,Act.put,qS]
    rfl
   refine Zi (i:=9) (N:=none) #[true,true,true,true,true,true,true,true,true,true,false] rfl rfl (Q2 HT_.out kr) (by decide) (fun K hK=>?_)
   have ma:cb.cell? ⟨μ,0,none⟩=some (.slice none 0 0):=(Qi a6.out 0).trans rfl
   have m6:=Q6 a6.out 0
   have kz:=ao.out
   have l2:=ar.out
   have l9:=an.out
   have lb:=b0.out
   have lc:=b2.out
   have lf:=b4.out
   have mb:cb.cell? ⟨μ,1,none⟩=some (.slice none 0 0):=(Qi a6.out 1).trans rfl
   have m7:=Q6 a6.out 1
   have lh:=ao.out
   have ll:=ar.out
   have lm:=an.out
   have ln:=b0.out
   have lp:=b2.out
   have lq:=b4.out
   refine Yl (w1:=?_) (by rfl) rfl ?_ ?_
   rotate_left
   ·go_simp
    rfl
   refine hK.out _ _ ⟨((cell_far (p:=⟨μ,_,none⟩) ao.out _).trans (((cell_far (p:=⟨μ,_,none⟩) ao.out _).trans (hHeld.1)))),((cell_far (p:=⟨μ,_,none⟩) ao.out _).trans (((cell_far (p:=⟨μ,_,none⟩) ao.out _).trans (hHeld.2.1)))),((cell_far (p:=⟨μ,_,none⟩) ar.out _).trans (((cell_far (p:=⟨μ,_,none⟩) ar.out _).trans (hHeld.2.2.1)))),((cell_far (p:=⟨μ,_,none⟩) ar.out _).trans (((cell_far (p:=⟨μ,_,none⟩) ar.out _).trans (hHeld.2.2.2.1)))),((cell_far (p:=⟨μ,_,none⟩) an.out _).trans (((cell_far (p:=⟨μ,_,none⟩) an.out _).trans (hHeld.2.2.2.2.1)))),((cell_far (p:=⟨μ,_,none⟩) an.out _).trans (((cell_far (p:=⟨μ,_,none⟩) an.out _).trans (hHeld.2.2.2.2.2.1)))),((cell_far (p:=⟨μ,_,none⟩) an.out _).trans (((cell_far (p:=⟨μ,_,none⟩) an.out _).trans (hHeld.2.2.2.2.2.2))))⟩ (fun hHeld=>?_)
   clear hK K
   refine qP 10 (some 8) (qB 11 2047) HT_ ?_
   refine Zr (Ze HT_.out kr) ?_
   try go_wp2_with (first|((with_reducible refine Q0 (f:=10) rfl ?_);refine Zl (some 26) rfl rfl Try.func10 kr rfl #[] rfl (by(try simp only[List.map_toArray,List.map_cons,List.map_nil]);first|done|rfl|(simp only[List.length_drop,List.length_take];rfl)) ?_;(with_reducible refine(newellaw19_awake.calls k  ct _ m5.out).mono ?_);rintro e mi ⟨rfl,hb⟩;refine⟨_,rfl, ?_⟩;have Z:=Aside0.mk (Kd.Qt (by(with_reducible repeat first|apply Kd.Qk|apply Kd.Qj|apply Kd.Qm);exact(Kd.Qq (Kd.Qr (p:=⟨μ,1,none⟩) (Kd.Qr (p:=⟨μ,0,none⟩) (Kd.Qu a3.out a6.out (by decide)) (fun _ hk=>hk.2) (.slice ec ac.length fe)) (fun _ hk=>hk.2) (.slice fw ae.length fx)) (fun _ h_=>h_.1))) hb);have ε :=Aside0.mk (Kd.Qt (by(with_reducible repeat first|apply Kd.Qk|apply Kd.Qj|apply Kd.Qm);exact(Kd.Qq (Kd.Qr (p:=⟨μ,1,none⟩) (Kd.Qr (p:=⟨μ,0,none⟩) (Kd.Qu a5.out a6.out (by decide)) (fun _ hk=>hk.2) (.slice ec ac.length fe)) (fun _ hk=>hk.2) (.slice fw ae.length fx)) (fun _ h_=>h_.1))) hb);have ι :=Aside0.mk (Kd.Qt (by(with_reducible repeat first|apply Kd.Qk|apply Kd.Qj|apply Kd.Qm);exact(Kd.Qq (Kd.Qr (p:=⟨μ,1,none⟩) (Kd.Qr (p:=⟨μ,0,none⟩) (Kd.Qu al.out a6.out (by decide)) (fun _ hk=>hk.2) (.slice ec ac.length fe)) (fun _ hk=>hk.2) (.slice fw ae.length fx)) (fun _ h_=>h_.1))) hb);have κ :=Aside0.mk (Kd.Qt (by(with_reducible repeat first|apply Kd.Qk|apply Kd.Qj|apply Kd.Qm);exact(Kd.Qq (Kd.Qr (p:=⟨μ,1,none⟩) (Kd.Qr (p:=⟨μ,0,none⟩) (Kd.Qu am.out a6.out (by decide)) (fun _ hk=>hk.2) (.slice ec ac.length fe)) (fun _ hk=>hk.2) (.slice fw ae.length fx)) (fun _ h_=>h_.1))) hb);have χ :=Aside0.mk (Qn (g:=ρ) (o:=.cells #[.int .i64 D,.int .i64 I] 23 (0,0)) (by(with_reducible repeat first|apply Qe|apply Qa|apply Qb);refine Zn ?_ ao.out _;(with_reducible repeat first|apply Qe|apply Qa|apply Qb);refine Zn ?_ ao.out _;(with_reducible repeat first|apply Qe|apply Qa|apply Qb);exact L.out) hb);have ω :=Aside0.mk (Qn (g:= τ) (o:=.cells #[.slice ζ B.length γ,.slice η J.length δ] 27 (0,0)) (by(with_reducible repeat first|apply Qe|apply Qa|apply Qb);refine Zn ?_ ar.out _;(with_reducible repeat first|apply Qe|apply Qa|apply Qb);refine Zn ?_ ar.out _;(with_reducible repeat first|apply Qe|apply Qa|apply Qb);exact O.out) hb);have a1:=Aside0.mk (Qn (g:= φ) (o:=.cells #[.int .i64 Y,.int .i64 X,.int .i64 θ] 29 (0,0)) (by(with_reducible repeat first|apply Qe|apply Qa|apply Qb);refine Zn ?_ an.out _;(with_reducible repeat first|apply Qe|apply Qa|apply Qb);refine Zn ?_ an.out _;(with_reducible repeat first|apply Qe|apply Qa|apply Qb);exact U.out) hb);have ag:=Aside0.mk (Qn (g:= μ) (o:=.cells #[.slice ec ac.length fe,.slice fw ae.length fx] 27 (0,0)) (by(with_reducible repeat first|apply Qe|apply Qa|apply Qb);refine Qw (cs:=#[.slice ec ac.length fe,.slice none 0 0]) ?_ 1 _ rfl;(with_reducible repeat first|apply Qe|apply Qa|apply Qb);refine Qw (cs:=#[.slice none 0 0,.slice none 0 0]) ?_ 0 _ rfl;(with_reducible repeat first|apply Qe|apply Qa|apply Qb);exact a6.out) hb);have ah:=Aside0.mk (Qv (by repeat(first|(with_reducible first|exact HB.out|apply Qh|apply Qc|apply Qf|refine Qd ?_ a0.out|refine Qd ?_ aa.out|refine Qd ?_ ab.out|refine Qd ?_ au.out)|exact HB.out)) hb);clear a3;clear a5;clear al;clear am;clear L;clear O;clear U;clear a6;clear HB;have a3:=Z;have a5:= ε;have al:= ι;have am:= κ;have L:= χ;have O:= ω;have U:=a1;have a6:=ag;have HB:=ah;clear Z ε ι κ χ ω a1 ag ah;(try clear hb);(try clear a4);(try clear hk);(try clear hi)))
   go_ret
   exact⟨by first|rfl|(simp[Qz,Qy] <;> rfl)|(simp[*,Qz,Qy] <;> rfl),by repeat(first|(with_reducible first|exact HB.out|apply Qh|apply Qc|apply Qf|refine Qd ?_ a0.out|refine Qd ?_ aa.out|refine Qd ?_ ab.out|refine Qd ?_ au.out)|exact HB.out)⟩
 ·replace c5:=Bool.eq_false_iff.mpr c5
  subst c5
  have H1:((newellaw19_awake.f k).bind fun dk=>(some dk))=some r:=by rw[if_neg (show ¬ (false=true) by decide)] at H;exact H
  clear H
  have H:=H1
  clear H1
  replace H:=Option.bind_eq_some_iff.mp H
  obtain⟨dk,jr,H⟩:=H
  replace H:(some dk)=some r:=H
  have lr:=Aside0.mk jr
  clear jr
  obtain rfl:=Option.some.inj H
  go_enter Try.func6,Try.ntmps6
  go_wp2_with (first|((with_reducible refine Qs (N:=3) rfl ?_);refine Zb ?hg (N:=3) ?hd (cs:=#[.int .i64 D,.int .i64 I]) (t:=23) ?hr ?_;(case hd=>rfl);(case hg=>rfl);(case hr=>first|(go_simp;done)|(go_simp;rfl));intro ρ hg mn hbox hb;have Z:=Aside0.mk (Qv (by repeat(first|(with_reducible first|exact HB.out|apply Qh|apply Qc|apply Qf)|exact HB.out)) hb);have ε :=Aside0.mk (hbox);have ι :=Aside0.mk ((by rw[hg];exact(Ql (by repeat(first|(with_reducible first|exact HB.out|apply Qh|apply Qc|apply Qf)|exact HB.out))):w.heap.size≤ρ));have κ :=Aside0.mk ((by rw[hg];exact(Ql (by repeat(first|(with_reducible first|exact HB.out|apply Qh|apply Qc|apply Qf)|exact HB.out))):w.heap.size≤ρ));clear HB;have HB:=Z;have L:= ε;have jf:= ι;have a0:= κ;clear Z ε ι κ;clear hb hbox hg)|((with_reducible refine Qs (N:=4) rfl ?_);refine Zb ?hg (N:=4) ?hd (cs:=#[.slice ζ B.length γ,.slice η J.length δ]) (t:=27) ?hr ?_;(case hd=>rfl);(case hg=>rfl);(case hr=>first|(go_simp;done)|(go_simp;rfl));intro τ hg l6 hbox hb;have Z:=Aside0.mk (Qn (g:=ρ) (o:=.cells #[.int .i64 D,.int .i64 I] 23 (0,0)) (by(with_reducible repeat first|apply Qe|apply Qa|apply Qb);exact L.out) hb);have ε :=Aside0.mk (Qv (by repeat(first|(with_reducible first|exact HB.out|apply Qh|apply Qc|apply Qf|refine Qd ?_ a0.out)|exact HB.out)) hb);have ι :=Aside0.mk (hbox);have κ :=Aside0.mk ((by rw[hg];exact(Ql (by repeat(first|(with_reducible first|exact HB.out|apply Qh|apply Qc|apply Qf|refine Qd ?_ a0.out)|exact HB.out))):w.heap.size ≤ τ));have χ :=Aside0.mk ((by rw[hg];exact(Ql (by repeat(first|(with_reducible first|exact HB.out|apply Qh|apply Qc|apply Qf|refine Qd ?_ a0.out)|exact HB.out))):w.heap.size ≤ τ));have ω :=Aside0.mk ((by rw[hg];exact Nat.ne_of_lt (Q5 (g:=ρ) (o:=.cells #[.int .i64 D,.int .i64 I] 23 (0,0)) (by(with_reducible repeat first|apply Qe|apply Qa|apply Qb);exact L.out)):ρ ≠ τ));have a1:=Aside0.mk ((by rw[hg];exact Nat.ne_of_gt (Q5 (g:=ρ) (o:=.cells #[.int .i64 D,.int .i64 I] 23 (0,0)) (by(with_reducible repeat first|apply Qe|apply Qa|apply Qb);exact L.out)): τ ≠ ρ));clear L;clear HB;have L:=Z;have HB:= ε;have O:= ι;have jj:= κ;have aa:= χ;have cd:= ω;have ce:=a1;clear Z ε ι κ χ ω a1;clear hb hbox hg)|((with_reducible refine Qs (N:=5) rfl ?_);refine Zb ?hg (N:=5) ?hd (cs:=#[.int .i64 Y,.int .i64 X,.int .i64 θ]) (t:=29) ?hr ?_;(case hd=>rfl);(case hg=>rfl);(case hr=>first|(go_simp;done)|(go_simp;rfl));intro φ hg ng hbox hb;have Z:=Aside0.mk (Qn (g:=ρ) (o:=.cells #[.int .i64 D,.int .i64 I] 23 (0,0)) (by(with_reducible repeat first|apply Qe|apply Qa|apply Qb);exact L.out) hb);have ε :=Aside0.mk (Qn (g:= τ) (o:=.cells #[.slice ζ B.length γ,.slice η J.length δ] 27 (0,0)) (by(with_reducible repeat first|apply Qe|apply Qa|apply Qb);exact O.out) hb);have ι :=Aside0.mk (Qv (by repeat(first|(with_reducible first|exact HB.out|apply Qh|apply Qc|apply Qf|refine Qd ?_ a0.out|refine Qd ?_ aa.out)|exact HB.out)) hb);have κ :=Aside0.mk (hbox);have χ :=Aside0.mk ((by rw[hg];exact(Ql (by repeat(first|(with_reducible first|exact HB.out|apply Qh|apply Qc|apply Qf|refine Qd ?_ a0.out|refine Qd ?_ aa.out)|exact HB.out))):w.heap.size ≤ φ));have ω :=Aside0.mk ((by rw[hg];exact(Ql (by repeat(first|(with_reducible first|exact HB.out|apply Qh|apply Qc|apply Qf|refine Qd ?_ a0.out|refine Qd ?_ aa.out)|exact HB.out))):w.heap.size ≤ φ));have a1:=Aside0.mk ((by rw[hg];exact Nat.ne_of_lt (Q5 (g:=ρ) (o:=.cells #[.int .i64 D,.int .i64 I] 23 (0,0)) (by(with_reducible repeat first|apply Qe|apply Qa|apply Qb);exact L.out)):ρ ≠ φ));have ag:=Aside0.mk ((by rw[hg];exact Nat.ne_of_gt (Q5 (g:=ρ) (o:=.cells #[.int .i64 D,.int .i64 I] 23 (0,0)) (by(with_reducible repeat first|apply Qe|apply Qa|apply Qb);exact L.out)): φ ≠ ρ));have ah:=Aside0.mk ((by rw[hg];exact Nat.ne_of_lt (Q5 (g:= τ) (o:=.cells #[.slice ζ B.length γ,.slice η J.length δ] 27 (0,0)) (by(with_reducible repeat first|apply Qe|apply Qa|apply Qb);exact O.out)): τ ≠ φ));have ax:=Aside0.mk ((by rw[hg];exact Nat.ne_of_gt (Q5 (g:= τ) (o:=.cells #[.slice ζ B.length γ,.slice η J.length δ] 27 (0,0)) (by(with_reducible repeat first|apply Qe|apply Qa|apply Qb);exact O.out)): φ ≠ τ));clear L;clear O;clear HB;have L:=Z;have O:= ε;have HB:= ι;have U:= κ;have jl:= χ;have ab:= ω;have d3:=a1;have d4:=ag;have cp:=ah;have cq:=ax;clear Z ε ι κ χ ω a1 ag ah ax;clear hb hbox hg;have kg:=ce.out;have kh:=cd.out;have ki:=cp.out;have kj:=cq.out;obtain⟨iu,iv,iw,ix⟩:=qD2 O.out)|((with_reducible refine Q0 (f:=9) rfl ?_);refine Zl (some 13) rfl rfl Try.func9 kr rfl #[.agg #[.slice ζ B.length γ,.slice η J.length δ]] rfl (by(try simp only[List.map_toArray,List.map_cons,List.map_nil]);first|done|rfl|(simp only[List.length_drop,List.length_take];rfl)) ?_;(with_reducible refine(newelref19_Few.calls _ _ B _ _ J false _ ?side1 ?side2 ?side3 ?side4 A4.out).mono ?_);(case side1=>repeat(first|exact(Kd.Qx ai.out HB.out)|(with_reducible refine Kd.Q9 ?_ _)|(with_reducible refine Kd.Q8 ?_ _)|(with_reducible refine Kd.Zc ?_)));(case side2=>exact ay.out);(case side3=>repeat(first|exact(Kd.Qx ak.out HB.out)|(with_reducible refine Kd.Q9 ?_ _)|(with_reducible refine Kd.Q8 ?_ _)|(with_reducible refine Kd.Zc ?_)));(case side4=>exact az.out);rintro e mj ⟨rfl,hb⟩;refine⟨_,rfl, ?_⟩;have Z:=Aside0.mk (Qn (g:=ρ) (o:=.cells #[.int .i64 D,.int .i64 I] 23 (0,0)) (by(with_reducible repeat first|apply Qe|apply Qa|apply Qb);exact L.out) hb);have ε :=Aside0.mk (Qn (g:= τ) (o:=.cells #[.slice ζ B.length γ,.slice η J.length δ] 27 (0,0)) (by(with_reducible repeat first|apply Qe|apply Qa|apply Qb);exact O.out) hb);have ι :=Aside0.mk (Qn (g:= φ) (o:=.cells #[.int .i64 Y,.int .i64 X,.int .i64 θ] 29 (0,0)) (by(with_reducible repeat first|apply Qe|apply Qa|apply Qb);exact U.out) hb);have κ :=Aside0.mk (Qv (by repeat(first|(with_reducible first|exact HB.out|apply Qh|apply Qc|apply Qf|refine Qd ?_ a0.out|refine Qd ?_ aa.out|refine Qd ?_ ab.out)|exact HB.out)) hb);clear L;clear O;clear U;clear HB;have L:=Z;have O:= ε;have U:= ι;have HB:= κ;clear Z ε ι κ;(try clear hb);(try clear a4);(try clear hk);(try clear hi))|((with_reducible refine Q0 (f:=10) rfl ?_);refine Zl (some 15) rfl rfl Try.func10 kr rfl #[] rfl (by(try simp only[List.map_toArray,List.map_cons,List.map_nil]);first|done|rfl|(simp only[List.length_drop,List.length_take];rfl)) ?_;(with_reducible refine(newellaw19_awake.calls k  dk _ lr.out).mono ?_);rintro e oj ⟨rfl,hb⟩;refine⟨_,rfl, ?_⟩;have Z:=Aside0.mk (Qn (g:=ρ) (o:=.cells #[.int .i64 D,.int .i64 I] 23 (0,0)) (by(with_reducible repeat first|apply Qe|apply Qa|apply Qb);exact L.out) hb);have ε :=Aside0.mk (Qn (g:= τ) (o:=.cells #[.slice ζ B.length γ,.slice η J.length δ] 27 (0,0)) (by(with_reducible repeat first|apply Qe|apply Qa|apply Qb);exact O.out) hb);have ι :=Aside0.mk (Qn (g:= φ) (o:=.cells #[.int .i64 Y,.int .i64 X,.int .i64 θ] 29 (0,0)) (by(with_reducible repeat first|apply Qe|apply Qa|apply Qb);exact U.out) hb);have κ :=Aside0.mk (Qv (by repeat(first|(with_reducible first|exact HB.out|apply Qh|apply Qc|apply Qf|refine Qd ?_ a0.out|refine Qd ?_ aa.out|refine Qd ?_ ab.out)|exact HB.out)) hb);clear L;clear O;clear U;clear HB;have L:=Z;have O:= ε;have U:= ι;have HB:= κ;clear Z ε ι κ;(try clear hb);(try clear a4);(try clear hk);(try clear hi)))
  go_ret
  exact⟨by first|rfl|(simp[Qz,Qy] <;> rfl)|(simp[*,Qz,Qy] <;> rfl),by repeat(first|(with_reducible first|exact HB.out|apply Qh|apply Qc|apply Qf|refine Qd ?_ a0.out|refine Qd ?_ aa.out|refine Qd ?_ ab.out)|exact HB.out)⟩
end Go.Proofs.Ytjehhhlhalkieaa.C
namespace Go.Proofs.Ytjehhhlhalkieaa.Call
open Go.RowKit Go.Proofs.YtjehhhlhalkieaaW.PrintWords Go.Proofs.YtjehhhlhalkieaaW.PrintLast Go.Proofs.YtjehhhlhalkieaaW.PrintMore Go.Proofs.Ytjehhhlhalkieaa.C
set_option linter.unusedVariables false
set_option linter.unusedSimpArgs false
theorem Uh (F C:Int):newelref19_House.f F C=some (decide ((2≤F∧F≤64)∧(1≤C∧C≤8))):=by
  unfold newelref19_House.f
  by_cases h1:F≥2
  · rw[if_pos h1]
    by_cases L:F≤64
    · rw[if_pos L]
      by_cases J:C≥1
      · rw[if_pos J]
        congr 1
        rw[decide_eq_decide]
        omega
      · rw[if_neg J,decide_eq_false (by omega)]
    · rw[if_neg L,decide_eq_false (by omega)]
  · rw[if_neg h1,decide_eq_false (by omega)]
theorem U6 (k:Nat) {F C:Int} (I D U:Int) (hF:2≤F∧F≤64) (hC:1≤C∧C≤8):newelref19_Hall.f (k+1) F C I D U=some (Xy F C I D U):=by
  have hb:=Uo (F:=F) (C:=C) (I:=I) (D:=D) (U:=U) hF hC
  have w1:wrap64 (F-2)=F-2:=by unfold wrap64;omega
  have X:wrap64 (F-1)=F-1:=by unfold wrap64;omega
  have tt:∀ p:Prop,[Decidable p]→(p↔((D=1∨D = -1)∧(0≤I∧I≤F-1)∧(0≤I+D∧I+D≤F-1)∧(-1≤U∧U≤C-1)))→(some (decide p):Option Bool)=some (Xy F C I D U):=by
    intro p _ hp
    congr 1
    cases h:Xy F C I D U
    · rw[h] at hb
      exact decide_eq_false (fun q=>Bool.noConfusion (hb.2 (hp.1 q)))
    · exact decide_eq_true (hp.2 (hb.1 h))
  have ff:¬ ((D=1∨D = -1)∧(0≤I∧I≤F-1)∧(0≤I+D∧I+D≤F-1)∧(-1≤U∧U≤C-1))→(some false:Option Bool)=some (Xy F C I D U):=fun h=>tt False ⟨False.elim,h⟩
  have j:∀ b:Bool,b=decide (U < -1∨U≥C)→newelref19_Hall.j0 (k+1) b F C I D U=some (Xy F C I D U):=by
    intro b hbb
    simp only[newelref19_Hall.j0]
    rw[w1,X]
    by_cases O:U < -1∨U≥C
    · rw[hbb,decide_eq_true O,if_pos rfl]
      exact ff (by omega)
    · rw[hbb,decide_eq_false O,if_neg (by decide)]
      by_cases h1:D=1
      · rw[if_pos h1]
        by_cases L:I≥0
        · rw[if_pos L]
          exact tt _ (by omega)
        · rw[if_neg L]
          exact ff (by omega)
      · rw[if_neg h1]
        by_cases L:D = -1
        · rw[if_pos L]
          by_cases J:I≥1
          · rw[if_pos J]
            exact tt _ (by omega)
          · rw[if_neg J]
            exact ff (by omega)
        · rw[if_neg L]
          exact ff (by omega)
  unfold newelref19_Hall.f
  by_cases h:U < -1
  · rw[if_pos h]
    exact j _ (decide_eq_true (.inl h)).symm
  · rw[if_neg h]
    exact j _ (by rw[decide_eq_decide];omega)
theorem Ui (k:Nat) {F C:Int} (I D U:Int) (hF:2≤F∧F≤64) (hC:1≤C∧C≤8) (hk:0<k):newelref19_Hall.f k F C I D U=some (Xy F C I D U):=by
  obtain⟨k,rfl⟩:∃ m,k=m+1:=⟨k-1,by omega⟩
  exact U6 k I D U hF hC
theorem Ko {F C:Int} (I D:Int) (hF:2≤F∧F≤64) (hC:1≤C∧C≤8):newelref19_Inside.f F C I D=some (X1 F C I D):=by
  have hb:=Wp (F:=F) (C:=C) (I:=I) (D:=D) hF hC
  have tt:∀ p:Prop,[Decidable p]→(p↔((0≤I∧I≤C-1)∧(0≤D∧D≤F-1)))→(some (decide p):Option Bool)=some (X1 F C I D):=by
    intro p _ hp
    congr 1
    cases h:X1 F C I D
    · rw[h] at hb
      exact decide_eq_false (fun q=>Bool.noConfusion (hb.2 (hp.1 q)))
    · exact decide_eq_true (hp.2 (hb.1 h))
  have ff:¬ ((0≤I∧I≤C-1)∧(0≤D∧D≤F-1))→(some false:Option Bool)=some (X1 F C I D):=fun h=>tt False ⟨False.elim,h⟩
  unfold newelref19_Inside.f
  by_cases h1:I≥0
  · rw[if_pos h1]
    by_cases L:I<C
    · rw[if_pos L]
      by_cases J:D≥0
      · rw[if_pos J]
        exact tt _ (by omega)
      · rw[if_neg J]
        exact ff (by omega)
    · rw[if_neg L]
      exact ff (by omega)
  · rw[if_neg h1]
    exact ff (by omega)
theorem Uj (x y:Hall):newelref19_ahead.f x.f0 x.f1 x.f2 y.f0 y.f1 y.f2=some (ltH x y):=by
  unfold newelref19_ahead.f
  by_cases h1:x.f0<y.f0
  · rw[if_pos h1,(Y2 x y).2 (.inl h1)]
  · rw[if_neg h1]
    by_cases L:x.f0=y.f0
    · rw[if_pos L]
      congr 1
      cases h:ltH x y
      · exact decide_eq_false (fun q=>by rw[(Y2 x y).2 (.inr ⟨L,q⟩)] at h;cases h)
      · have:=(Y2 x y).1 h
        exact decide_eq_true (by omega)
    · rw[if_neg L]
      cases h:ltH x y
      · rfl
      · have:=(Y2 x y).1 h
        omega
theorem Vu (x y:Ins):newelref19_before.f x.f0 x.f1 y.f0 y.f1=some (ltI x y):=by
  unfold newelref19_before.f
  by_cases h1:x.f0<y.f0
  · rw[if_pos h1,(J4 x y).2 (.inl h1)]
  · rw[if_neg h1]
    by_cases L:x.f0=y.f0
    · rw[if_pos L]
      congr 1
      cases h:ltI x y
      · exact decide_eq_false (fun q=>by rw[(J4 x y).2 (.inr ⟨L,q⟩)] at h;cases h)
      · have:=(J4 x y).1 h
        exact decide_eq_true (by omega)
    · rw[if_neg L]
      cases h:ltI x y
      · rfl
      · have:=(J4 x y).1 h
        omega
theorem Ny {F C:Int} (hF:2≤F∧F≤64) (hC:1≤C∧C≤8) (H:List Hall) (I:List Ins) (hm:I.length≤1000000000) (j:Nat):∀ (f i:Nat),i+j=I.length→j+1<f→newelref19_May.l1 f (i:Int) F C H I=some (Zo (fun x=>X1 F C x.f0 x.f1) ltI (if i=0 then none else I[i-1]?) (I.drop i)):=by
  induction j with
  |zero=>
    intro f i hi hf
    obtain⟨f,rfl⟩:∃ m,f=m+1:=⟨f-1,by omega⟩
    simp only[newelref19_May.l1]
    rw[if_neg (by omega),List.drop_of_length_le (by omega)]
    cases(if i=0 then none else I[i-1]?) <;> rfl
  |succ j ih=>
    intro f i hi hf
    obtain⟨f,rfl⟩:∃ m,f=m+1:=⟨f-1,by omega⟩
    have ha:i<I.length:=by omega
    have ei:wrap64 ((i:Int)+1)=((i+1:Nat):Int):=by unfold wrap64;omega
    have Z:=ih f (i+1) (by omega) (by omega)
    rw[if_neg (by omega),Nat.add_sub_cancel,List.getElem?_eq_getElem ha] at Z
    simp only[newelref19_May.l1]
    rw[if_pos (by omega),if_pos (by omega),Ys I i ha,Ko _ _ hF hC,List.drop_eq_getElem_cons ha]
    simp only[Option.bind_some]
    cases h1:X1 F C I[i].f0 I[i].f1
    · rw[if_neg (by decide)]
      cases(if i=0 then none else I[i-1]?) <;> simp only[Zo,h1,Bool.false_and]
    · rw[if_pos rfl]
      by_cases O:i=0
      · subst O
        rw[if_neg (by omega),ei,Z,if_pos rfl]
        simp only[Zo,h1,Bool.true_and]
      · have ep:wrap64 ((i:Int)-1)=((i-1:Nat):Int):=by unfold wrap64;omega
        rw[if_pos (by omega),ep,if_pos (by omega),if_pos (by omega),Ys I (i-1) (by omega),Vu,if_neg O,List.getElem?_eq_getElem (by omega)]
        simp only[Option.bind_some,Zo,h1,Bool.true_and]
        cases L:ltI (I[i-1]'(by omega)) I[i]
        · rw[if_neg (by decide),Bool.false_and]
        · rw[if_pos rfl,ei,Z,Bool.true_and]
theorem Nz {F C:Int} (hF:2≤F∧F≤64) (hC:1≤C∧C≤8) (H:List Hall) (I:List Ins) (hH:H.length≤1000000000) (hm:I.length≤1000000000) (j:Nat):∀ (f i:Nat),i+j=H.length→j+I.length+3<f→newelref19_May.l0 f (i:Int) F C H I=some (Zo (fun x=>Xy F C x.f0 x.f1 x.f2) ltH (if i=0 then none else H[i-1]?) (H.drop i)&&Zo (fun x=>X1 F C x.f0 x.f1) ltI none I):=by
  induction j with
  |zero=>
    intro f i hi hf
    obtain⟨f,rfl⟩:∃ m,f=m+1:=⟨f-1,by omega⟩
    have h1:=Ny hF hC H I hm I.length f 0 (by omega) (by omega)
    rw[if_pos rfl,List.drop_zero] at h1
    simp only[newelref19_May.l0]
    rw[if_neg (by omega),List.drop_of_length_le (by omega)]
    refine h1.trans ?_
    cases(if i=0 then none else H[i-1]?) <;> rfl
  |succ j ih=>
    intro f i hi hf
    obtain⟨f,rfl⟩:∃ m,f=m+1:=⟨f-1,by omega⟩
    have ha:i<H.length:=by omega
    have ei:wrap64 ((i:Int)+1)=((i+1:Nat):Int):=by unfold wrap64;omega
    have Z:=ih f (i+1) (by omega) (by omega)
    rw[if_neg (by omega),Nat.add_sub_cancel,List.getElem?_eq_getElem ha] at Z
    simp only[newelref19_May.l0]
    rw[if_pos (by omega),if_pos (by omega),Yt H i ha,Ui _ _ _ _ hF hC (by omega),List.drop_eq_getElem_cons ha]
    simp only[Option.bind_some]
    cases h1:Xy F C H[i].f0 H[i].f1 H[i].f2
    · rw[if_neg (by decide)]
      cases(if i=0 then none else H[i-1]?) <;> simp only[Zo,h1,Bool.false_and]
    · rw[if_pos rfl]
      by_cases O:i=0
      · subst O
        rw[if_neg (by omega),ei,Z,if_pos rfl]
        simp only[Zo,h1,Bool.true_and]
      · have ep:wrap64 ((i:Int)-1)=((i-1:Nat):Int):=by unfold wrap64;omega
        rw[if_pos (by omega),ep,if_pos (by omega),if_pos (by omega),Yt H (i-1) (by omega),Uj,if_neg O,List.getElem?_eq_getElem (by omega)]
        simp only[Option.bind_some,Zo,h1,Bool.true_and]
        cases L:ltH (H[i-1]'(by omega)) H[i]
        · rw[if_neg (by decide),Bool.false_and,Bool.false_and]
        · rw[if_pos rfl,ei,Z,Bool.true_and]
theorem W4 (k:Nat) (F C:Int) (H:List Hall) (I:List Ins) (hH:H.length≤1000000000) (hI:I.length≤1000000000) (hk:H.length+I.length+3<k):newelref19_May.f k F C H I=some (okB F C H I):=by
  unfold newelref19_May.f
  rw[Uh]
  simp only[Option.bind_some]
  by_cases h:(2≤F∧F≤64)∧(1≤C∧C≤8)
  · have:=Nz h.1 h.2 H I hH hI H.length k 0 (by omega) hk
    rw[if_pos rfl,List.drop_zero] at this
    rw[decide_eq_true h,if_pos rfl]
    refine this.trans ?_
    unfold okB
    rw[decide_eq_true h.1,decide_eq_true h.2,Bool.true_and,Bool.true_and]
  · rw[decide_eq_false h,if_neg (by decide)]
    congr 1
    cases hb:okB F C H I
    · rfl
    · exact absurd ⟨(Jo.1 hb).1,(Jo.1 hb).2.1⟩ h
theorem Um {F C:Int} {H:List Hall} {I:List Ins} (h:okB F C H I=true):(2≤F∧F≤64)∧(1≤C∧C≤8):=⟨(Jo.1 h).1,(Jo.1 h).2.1⟩
theorem Gg (x y:Hall):(!(x.f0==y.f0)||(!(x.f1==y.f1) || !(x.f2==y.f2)))=true ↔ ¬ x=y:=by
  obtain⟨a,b,c⟩:=x
  obtain⟨d,e,f⟩:=y
  simp only[Bool.or_eq_true,Bool.not_eq_true',beq_eq_false_iff_ne,S56.mk.injEq]
  omega
theorem Gv (x y:Ins):(!(x.f0==y.f0)||(!(x.f1==y.f1)))=true ↔ ¬ x=y:=by
  obtain⟨a,b⟩:=x
  obtain⟨d,e⟩:=y
  simp only[Bool.or_eq_true,Bool.not_eq_true',beq_eq_false_iff_ne,S62.mk.injEq]
  omega
theorem U3 (H:List Hall) (I:List Ins) (H':List Hall) (I':List Ins) (hm:I.length≤1000000000) (hl:I.length=I'.length) (j:Nat):∀ (f i:Nat),i+j=I.length→j<f → ∃ b,newelref19_Same.l1 f (i:Int) H I H' I'=some b∧(b=true↔I.drop i=I'.drop i):=by
  induction j with
  |zero=>
    intro f i hi hf
    obtain⟨f,rfl⟩:∃ m,f=m+1:=⟨f-1,by omega⟩
    simp only[newelref19_Same.l1]
    rw[if_neg (by omega),List.drop_of_length_le (by omega),List.drop_of_length_le (by omega)]
    exact⟨true,rfl,by simp⟩
  |succ j ih=>
    intro f i hi hf
    obtain⟨f,rfl⟩:∃ m,f=m+1:=⟨f-1,by omega⟩
    have ha:i<I.length:=by omega
    have hb:i<I'.length:=by omega
    have ei:wrap64 ((i:Int)+1)=((i+1:Nat):Int):=by unfold wrap64;omega
    simp only[newelref19_Same.l1]
    rw[if_pos (by omega),if_pos (by omega),if_pos (by omega),Ys I i ha,Ys I' i hb,List.drop_eq_getElem_cons ha,List.drop_eq_getElem_cons hb,ei]
    by_cases h:I[i]=I'[i]
    · obtain⟨b,e,a4⟩:=ih f (i+1) (by omega) (by omega)
      rw[if_neg (by rw[Gv];exact fun q=>q h)]
      exact⟨b,e,a4.trans ⟨fun q=>by rw[h,q],fun q=>(List.cons.inj q).2⟩⟩
    · rw[if_pos ((Gv _ _).2 h)]
      exact⟨false,rfl,⟨fun q=>(by cases q),fun q=>absurd (List.cons.inj q).1 h⟩⟩
theorem U4 (H:List Hall) (I:List Ins) (H':List Hall) (I':List Ins) (hm:H.length≤1000000000) (hI:I.length≤1000000000) (hH:H.length=H'.length) (hl:I.length=I'.length) (j:Nat):∀ (f i:Nat),i+j=H.length→j+I.length+1<f → ∃ b,newelref19_Same.l0 f (i:Int) H I H' I'=some b∧(b=true↔(H.drop i=H'.drop i∧I=I')):=by
  induction j with
  |zero=>
    intro f i hi hf
    obtain⟨f,rfl⟩:∃ m,f=m+1:=⟨f-1,by omega⟩
    obtain⟨b,e,hb⟩:=U3 H I H' I' hI hl I.length f 0 (by omega) (by omega)
    rw[List.drop_zero,List.drop_zero] at hb
    simp only[newelref19_Same.l0]
    rw[if_neg (by omega),List.drop_of_length_le (by omega),List.drop_of_length_le (by omega)]
    exact⟨b,e,hb.trans ⟨fun q=>⟨rfl,q⟩,fun q=>q.2⟩⟩
  |succ j ih=>
    intro f i hi hf
    obtain⟨f,rfl⟩:∃ m,f=m+1:=⟨f-1,by omega⟩
    have ha:i<H.length:=by omega
    have hb:i<H'.length:=by omega
    have ei:wrap64 ((i:Int)+1)=((i+1:Nat):Int):=by unfold wrap64;omega
    simp only[newelref19_Same.l0]
    rw[if_pos (by omega),if_pos (by omega),if_pos (by omega),Yt H i ha,Yt H' i hb,List.drop_eq_getElem_cons ha,List.drop_eq_getElem_cons hb,ei]
    by_cases h:H[i]=H'[i]
    · obtain⟨b,e,a4⟩:=ih f (i+1) (by omega) (by omega)
      rw[if_neg (by rw[Gg];exact fun q=>q h)]
      exact⟨b,e,a4.trans ⟨fun q=>⟨by rw[h,q.1],q.2⟩,fun q=>⟨(List.cons.inj q.1).2,q.2⟩⟩⟩
    · rw[if_pos ((Gg _ _).2 h)]
      exact⟨false,rfl,⟨fun q=>(by cases q),fun q=>absurd (List.cons.inj q.1).1 h⟩⟩
theorem U5 (k:Nat) (H:List Hall) (I:List Ins) (H':List Hall) (I':List Ins) (hH:H.length≤1000000000) (hI:I.length≤1000000000) (hk:H.length+I.length+3<k):∃ b,newelref19_Same.f k H I H' I'=some b∧(b=true↔(H=H'∧I=I')):=by
  obtain⟨k,rfl⟩:∃ m,k=m+1:=⟨k-1,by omega⟩
  unfold newelref19_Same.f
  by_cases h1:H.length=H'.length
  · rw[if_pos (by omega)]
    simp only[newelref19_Same.j0]
    by_cases L:I.length=I'.length
    · obtain⟨b,e,hb⟩:=U4 H I H' I' hH hI h1 L H.length k 0 (by omega) (by omega)
      rw[List.drop_zero,List.drop_zero] at hb
      rw[if_neg (by rw[L];simp)]
      exact⟨b,e,hb⟩
    · rw[if_pos (by simp;omega)]
      exact⟨false,rfl,⟨fun q=>(by cases q),fun q=>absurd (by rw[q.2]) L⟩⟩
  · rw[if_neg (by omega)]
    simp only[newelref19_Same.j0]
    rw[if_pos trivial]
    exact⟨false,rfl,⟨fun q=>(by cases q),fun q=>absurd (by rw[q.1]) h1⟩⟩
theorem Kn (k:Nat) (H:List Hall) (I:List Ins) (hk:H.length+I.length+3<k) (hH:H.length≤1000000000:=by omega) (hI:I.length≤1000000000:=by omega):newelref19_Same.f k H I H I=some true:=by
  obtain⟨b,hb,h⟩:=U5 k H I H I hH hI hk
  rw[hb,h.2 ⟨rfl,rfl⟩]
theorem Jz (k:Nat) (hk:3<k):newelref19_Same.f k ([]:List Hall) ([]:List Ins) [] []=some true:=Kn k [] [] (by simpa using hk) (by simp) (by simp)
end Go.Proofs.Ytjehhhlhalkieaa.Call
