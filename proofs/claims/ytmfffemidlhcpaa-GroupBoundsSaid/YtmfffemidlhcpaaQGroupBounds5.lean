/- Texts of this claim, one behind the other: what the law's functions come to, walked (printed by a program, with the words that the print uses), and what that is, in plain Lean. No conditions of their own. -/
import Derived.Test.YtmfffemidlhcpaaQGroupBounds4
namespace Go.Proofs.Ytmfffemidlhcpaa.C
open Go.RowKit Go.Proofs.YtmfffemidlhcpaaW.PrintWords Go.Proofs.YtmfffemidlhcpaaW.PrintLast Go.Proofs.YtmfffemidlhcpaaW.PrintMore
attribute [local go_sem] Z1 Zz Z9 Z8 Zq Zp Z0 Zy
set_option linter.unusedVariables false
set_option linter.unusedSimpArgs false
def group_lift.f (k:Nat) (J:Int) (B:Int) (Y:Int) (Z:Int) (γ:Int) (ζ :Int) (ε :Int) (κ :Int) (ι :Int) (θ :Int) (μ :Int) (η :Int) (ν :Int) (τ :Int) (ρ:Int) (χ :Int) (ψ :Int) (a1:Int) (a2:Bool) (a5:Bool):Option (Bool):=(car_Rest.f k J B Y Z γ ζ ε κ ι θ μ η ν τ ρ χ ψ).bind fun av=>(if av.2=0 then (if (-1)≤a1 then (some (decide (a1≤1))) else (some false)) else (some false))
theorem group_lift.mono:∀ J Z a2 a3 L a5 O a7 a8 a9 X Y γ ε δ ζ η B θ ι k,LeO (group_lift.f k J Z a2 a3 L a5 O a7 a8 a9 X Y γ ε δ ζ η B θ ι) (group_lift.f (k+1) J Z a2 a3 L a5 O a7 a8 a9 X Y γ ε δ ζ η B θ ι):=by
 intro J Z a2 a3 L a5 O a7 a8 a9 X Y γ ε δ ζ η B θ ι k
 unfold group_lift.f
 repeat' first
   |(with_reducible exact car_Rest.mono _ _ _ _ _ _ _ _ _ _ _ _ _ _ _ _ _ _)
   |(with_reducible exact LeO.refl _)
   |(with_reducible exact LeO.none _)
   |(with_reducible refine LeO.ite ?_ ?_)
   |(with_reducible refine LeO.bind ?_ (fun _=>?_))
   |exact car_Rest.mono _ _ _ _ _ _ _ _ _ _ _ _ _ _ _ _ _ _
   |exact LeO.none _
   |refine LeO.ite ?_ ?_
   |refine LeO.bind ?_ (fun _=>?_)
set_option maxHeartbeats 8000000 in
set_option maxRecDepth 100000 in
theorem group_lift.calls (k:Nat) (J:Int) (B:Int) (Y:Int) (Z:Int) (γ:Int) (ζ :Int) (ε :Int) (κ :Int) (ι :Int) (θ :Int) (μ :Int) (η :Int) (ν :Int) (τ :Int) (ρ:Int) (χ :Int) (ψ :Int) (a1:Int) (a2:Bool) (a5:Bool) (r:Bool) (w:World) (h:group_lift.f k J B Y Z γ ζ ε κ ι θ μ η ν τ ρ χ ψ a1 a2 a5=some r):
  Calls Try.prog 28 #[.agg #[.int .i64 J,.int .i64 B,.int .i64 Y,.int .i64 Z,.int .i64 γ,.int .i64 ζ,.int .i64 ε,.int .i64 κ,.int .i64 ι,.int .i64 θ],.agg #[.int .i64 μ,.int .i64 η,.int .i64 ν,.int .i64 τ,.int .i64 ρ,.int .i64 χ,.int .i64 ψ,.int .i64 a1,.bool a2,.bool a5]] w fun e w'=>e = .returned (.bool r)∧Below w.heap.size w w':=by
 have dc:=Try.underlying25
 have fv:=Try.underlying31
 have g8:=Try.underlying29
 have HB:=Aside0.mk (Below.refl w.heap.size w)
 have H:((car_Rest.f k J B Y Z γ ζ ε κ ι θ μ η ν τ ρ χ ψ).bind fun av=>(if av.2=0 then (if (-1)≤a1 then (some (decide (a1≤1))) else (some false)) else (some false)))=some r:=h
 clear h
 replace H:=Option.bind_eq_some_iff.mp H
 obtain⟨⟨bh,aa⟩,ab,H⟩:=H
 replace H:(if aa=0 then (if (-1)≤a1 then (some (decide (a1≤1))) else (some false)) else (some false))=some r:=H
 have A3:=Aside0.mk ab
 clear ab
 by_cases c4:aa=0
 ·rw[if_pos c4] at H
  have c4b0:(aa==0)=true:=beq_iff_eq.mpr c4
  have c4b1:(aa != 0)=false:=bne_eq_false_iff_eq.mpr c4
  clear c4
  by_cases c5:(-1)≤a1
  ·rw[if_pos c5] at H
   have c5b0:decide ((-1)≤a1)=true:=decide_eq_true c5
   clear c5
   obtain rfl:=Option.some.inj H
   go_enter Try.func28,Try.ntmps28
   go_wp2_with (first|((with_reducible refine Qr (N:=2) rfl ?_);refine Qq ?hg (N:=2) ?hd (cs:=#[.int .i64 J,.int .i64 B,.int .i64 Y,.int .i64 Z,.int .i64 γ,.int .i64 ζ,.int .i64 ε,.int .i64 κ,.int .i64 ι,.int .i64 θ]) (t:=25) ?hr ?_;(case hd=>rfl);(case hg=>rfl);(case hr=>first|(go_simp;done)|(go_simp;rfl));intro a0 hg w6 hbox hb;have L:=Aside0.mk (Qj (by repeat(first|(with_reducible first|exact HB.out|apply Qg|apply Qd|apply Qf)|exact HB.out)) hb);have O:=Aside0.mk (hbox);have X:=Aside0.mk ((by rw[hg];exact(Qi (by repeat(first|(with_reducible first|exact HB.out|apply Qg|apply Qd|apply Qf)|exact HB.out))):w.heap.size≤a0));have δ :=Aside0.mk ((by rw[hg];exact(Qi (by repeat(first|(with_reducible first|exact HB.out|apply Qg|apply Qd|apply Qf)|exact HB.out))):w.heap.size≤a0));clear HB;have HB:=L;have σ:=O;have bl:=X;have a3:= δ;clear L O X δ;clear hb hbox hg)|((with_reducible refine Qr (N:=3) rfl ?_);refine Qq ?hg (N:=3) ?hd (cs:=#[.int .i64 μ,.int .i64 η,.int .i64 ν,.int .i64 τ,.int .i64 ρ,.int .i64 χ,.int .i64 ψ,.int .i64 a1,.bool a2,.bool a5]) (t:=31) ?hr ?_;(case hd=>rfl);(case hg=>rfl);(case hr=>first|(go_simp;done)|(go_simp;rfl));intro a4 hg w7 hbox hb;have L:=Aside0.mk (Qh (g:=a0) (o:=.cells #[.int .i64 J,.int .i64 B,.int .i64 Y,.int .i64 Z,.int .i64 γ,.int .i64 ζ,.int .i64 ε,.int .i64 κ,.int .i64 ι,.int .i64 θ] 25 (0,0)) (by(with_reducible repeat first|apply Qb|apply Qe|apply Qc);exact σ.out) hb);have O:=Aside0.mk (Qj (by repeat(first|(with_reducible first|exact HB.out|apply Qg|apply Qd|apply Qf|refine Qa ?_ a3.out)|exact HB.out)) hb);have X:=Aside0.mk (hbox);have δ :=Aside0.mk ((by rw[hg];exact(Qi (by repeat(first|(with_reducible first|exact HB.out|apply Qg|apply Qd|apply Qf|refine Qa ?_ a3.out)|exact HB.out))):w.heap.size≤a4));have ξ :=Aside0.mk ((by rw[hg];exact(Qi (by repeat(first|(with_reducible first|exact HB.out|apply Qg|apply Qd|apply Qf|refine Qa ?_ a3.out)|exact HB.out))):w.heap.size≤a4));have φ :=Aside0.mk ((by rw[hg];exact Nat.ne_of_lt (Qp (g:=a0) (o:=.cells #[.int .i64 J,.int .i64 B,.int .i64 Y,.int .i64 Z,.int .i64 γ,.int .i64 ζ,.int .i64 ε,.int .i64 κ,.int .i64 ι,.int .i64 θ] 25 (0,0)) (by(with_reducible repeat first|apply Qb|apply Qe|apply Qc);exact σ.out)):a0≠a4));have ω :=Aside0.mk ((by rw[hg];exact Nat.ne_of_gt (Qp (g:=a0) (o:=.cells #[.int .i64 J,.int .i64 B,.int .i64 Y,.int .i64 Z,.int .i64 γ,.int .i64 ζ,.int .i64 ε,.int .i64 κ,.int .i64 ι,.int .i64 θ] 25 (0,0)) (by(with_reducible repeat first|apply Qb|apply Qe|apply Qc);exact σ.out)):a4≠a0));clear σ;clear HB;have σ:=L;have HB:=O;have a6:=X;have cb:= δ;have a9:= ξ;have a7:= φ;have a8:= ω;clear L O X δ ξ φ ω;clear hb hbox hg;have cm:=a7.out;have cn:=a8.out;obtain⟨al,bc,ce,cg,ch,cu,cv,cw,cy,cz,cp,cq,cx,d9,db,dj,dk,dl,d0,d1⟩:=Zh σ.out;obtain⟨aw,bb,da,dq,dr,dt,du,am,ap,b5,dx,ec,ed,ee,ef,eg,eh,ev,fa,ft⟩:=Zh a6.out)|((with_reducible refine Qt (f:=25) rfl ?_);refine Q7 (some 11) rfl rfl Try.func25 kr rfl #[.agg #[.int .i64 J,.int .i64 B,.int .i64 Y,.int .i64 Z,.int .i64 γ,.int .i64 ζ,.int .i64 ε,.int .i64 κ,.int .i64 ι,.int .i64 θ],.agg #[.int .i64 μ,.int .i64 η,.int .i64 ν,.int .i64 τ,.int .i64 ρ,.int .i64 χ,.int .i64 ψ]] rfl (by(try simp only[List.map_toArray,List.map_cons,List.map_nil]);first|done|rfl|(simp only[List.length_drop,List.length_take];rfl)) ?_;(with_reducible refine(car_Rest.calls k J B Y Z γ ζ ε κ ι θ μ η ν τ ρ χ ψ bh aa _ A3.out).mono ?_);rintro e em ⟨rfl,hb⟩;refine⟨_,rfl, ?_⟩;have L:=Aside0.mk (Qh (g:=a0) (o:=.cells #[.int .i64 J,.int .i64 B,.int .i64 Y,.int .i64 Z,.int .i64 γ,.int .i64 ζ,.int .i64 ε,.int .i64 κ,.int .i64 ι,.int .i64 θ] 25 (0,0)) (by(with_reducible repeat first|apply Qb|apply Qe|apply Qc);exact σ.out) hb);have O:=Aside0.mk (Qh (g:=a4) (o:=.cells #[.int .i64 μ,.int .i64 η,.int .i64 ν,.int .i64 τ,.int .i64 ρ,.int .i64 χ,.int .i64 ψ,.int .i64 a1,.bool a2,.bool a5] 31 (0,0)) (by(with_reducible repeat first|apply Qb|apply Qe|apply Qc);exact a6.out) hb);have X:=Aside0.mk (Qj (by repeat(first|(with_reducible first|exact HB.out|apply Qg|apply Qd|apply Qf|refine Qa ?_ a3.out|refine Qa ?_ a9.out)|exact HB.out)) hb);clear σ;clear a6;clear HB;have σ:=L;have a6:=O;have HB:=X;clear L O X;(try clear hb);(try clear ak);(try clear hk);(try clear hi);obtain⟨ac,ae,aj,ao,ar,au,ax,ey,ez,f8,af,ah,an,ay,az,b0,b4,fc,fe,fj⟩:=Zh a6.out))
   go_ret
   exact⟨by first|rfl|(simp[Qo,Qn] <;> rfl)|(simp[*,Qo,Qn] <;> rfl),by repeat(first|(with_reducible first|exact HB.out|apply Qg|apply Qd|apply Qf|refine Qa ?_ a3.out|refine Qa ?_ a9.out)|exact HB.out)⟩
  ·rw[if_neg c5] at H
   have c5b0:decide ((-1)≤a1)=false:=decide_eq_false c5
   clear c5
   obtain rfl:=Option.some.inj H
   go_enter Try.func28,Try.ntmps28
   go_wp2_with (first|((with_reducible refine Qr (N:=2) rfl ?_);refine Qq ?hg (N:=2) ?hd (cs:=#[.int .i64 J,.int .i64 B,.int .i64 Y,.int .i64 Z,.int .i64 γ,.int .i64 ζ,.int .i64 ε,.int .i64 κ,.int .i64 ι,.int .i64 θ]) (t:=25) ?hr ?_;(case hd=>rfl);(case hg=>rfl);(case hr=>first|(go_simp;done)|(go_simp;rfl));intro a0 hg ew hbox hb;have L:=Aside0.mk (Qj (by repeat(first|(with_reducible first|exact HB.out|apply Qg|apply Qd|apply Qf)|exact HB.out)) hb);have O:=Aside0.mk (hbox);have X:=Aside0.mk ((by rw[hg];exact(Qi (by repeat(first|(with_reducible first|exact HB.out|apply Qg|apply Qd|apply Qf)|exact HB.out))):w.heap.size≤a0));have δ :=Aside0.mk ((by rw[hg];exact(Qi (by repeat(first|(with_reducible first|exact HB.out|apply Qg|apply Qd|apply Qf)|exact HB.out))):w.heap.size≤a0));clear HB;have HB:=L;have σ:=O;have bl:=X;have a3:= δ;clear L O X δ;clear hb hbox hg)|((with_reducible refine Qr (N:=3) rfl ?_);refine Qq ?hg (N:=3) ?hd (cs:=#[.int .i64 μ,.int .i64 η,.int .i64 ν,.int .i64 τ,.int .i64 ρ,.int .i64 χ,.int .i64 ψ,.int .i64 a1,.bool a2,.bool a5]) (t:=31) ?hr ?_;(case hd=>rfl);(case hg=>rfl);(case hr=>first|(go_simp;done)|(go_simp;rfl));intro a4 hg cf hbox hb;have L:=Aside0.mk (Qh (g:=a0) (o:=.cells #[.int .i64 J,.int .i64 B,.int .i64 Y,.int .i64 Z,.int .i64 γ,.int .i64 ζ,.int .i64 ε,.int .i64 κ,.int .i64 ι,.int .i64 θ] 25 (0,0)) (by(with_reducible repeat first|apply Qb|apply Qe|apply Qc);exact σ.out) hb);have O:=Aside0.mk (Qj (by repeat(first|(with_reducible first|exact HB.out|apply Qg|apply Qd|apply Qf|refine Qa ?_ a3.out)|exact HB.out)) hb);have X:=Aside0.mk (hbox);have δ :=Aside0.mk ((by rw[hg];exact(Qi (by repeat(first|(with_reducible first|exact HB.out|apply Qg|apply Qd|apply Qf|refine Qa ?_ a3.out)|exact HB.out))):w.heap.size≤a4));have ξ :=Aside0.mk ((by rw[hg];exact(Qi (by repeat(first|(with_reducible first|exact HB.out|apply Qg|apply Qd|apply Qf|refine Qa ?_ a3.out)|exact HB.out))):w.heap.size≤a4));have φ :=Aside0.mk ((by rw[hg];exact Nat.ne_of_lt (Qp (g:=a0) (o:=.cells #[.int .i64 J,.int .i64 B,.int .i64 Y,.int .i64 Z,.int .i64 γ,.int .i64 ζ,.int .i64 ε,.int .i64 κ,.int .i64 ι,.int .i64 θ] 25 (0,0)) (by(with_reducible repeat first|apply Qb|apply Qe|apply Qc);exact σ.out)):a0≠a4));have ω :=Aside0.mk ((by rw[hg];exact Nat.ne_of_gt (Qp (g:=a0) (o:=.cells #[.int .i64 J,.int .i64 B,.int .i64 Y,.int .i64 Z,.int .i64 γ,.int .i64 ζ,.int .i64 ε,.int .i64 κ,.int .i64 ι,.int .i64 θ] 25 (0,0)) (by(with_reducible repeat first|apply Qb|apply Qe|apply Qc);exact σ.out)):a4≠a0));clear σ;clear HB;have σ:=L;have HB:=O;have a6:=X;have cb:= δ;have a9:= ξ;have a7:= φ;have a8:= ω;clear L O X δ ξ φ ω;clear hb hbox hg;have gf:=a7.out;have gg:=a8.out;obtain⟨dy,dz,ag,bu,df,dh,dn,ei,fu,fw,e0,e3,ai,ej,ek,el,eo,ep,fx,fy⟩:=Zh σ.out;obtain⟨b6,b7,bf,bg,cd,ci,co,d8,di,e4,b8,b9,bi,e5,e6,e7,e8,e9,ea,eb⟩:=Zh a6.out)|((with_reducible refine Qt (f:=25) rfl ?_);refine Q7 (some 11) rfl rfl Try.func25 kr rfl #[.agg #[.int .i64 J,.int .i64 B,.int .i64 Y,.int .i64 Z,.int .i64 γ,.int .i64 ζ,.int .i64 ε,.int .i64 κ,.int .i64 ι,.int .i64 θ],.agg #[.int .i64 μ,.int .i64 η,.int .i64 ν,.int .i64 τ,.int .i64 ρ,.int .i64 χ,.int .i64 ψ]] rfl (by(try simp only[List.map_toArray,List.map_cons,List.map_nil]);first|done|rfl|(simp only[List.length_drop,List.length_take];rfl)) ?_;(with_reducible refine(car_Rest.calls k J B Y Z γ ζ ε κ ι θ μ η ν τ ρ χ ψ bh aa _ A3.out).mono ?_);rintro e gt ⟨rfl,hb⟩;refine⟨_,rfl, ?_⟩;have L:=Aside0.mk (Qh (g:=a0) (o:=.cells #[.int .i64 J,.int .i64 B,.int .i64 Y,.int .i64 Z,.int .i64 γ,.int .i64 ζ,.int .i64 ε,.int .i64 κ,.int .i64 ι,.int .i64 θ] 25 (0,0)) (by(with_reducible repeat first|apply Qb|apply Qe|apply Qc);exact σ.out) hb);have O:=Aside0.mk (Qh (g:=a4) (o:=.cells #[.int .i64 μ,.int .i64 η,.int .i64 ν,.int .i64 τ,.int .i64 ρ,.int .i64 χ,.int .i64 ψ,.int .i64 a1,.bool a2,.bool a5] 31 (0,0)) (by(with_reducible repeat first|apply Qb|apply Qe|apply Qc);exact a6.out) hb);have X:=Aside0.mk (Qj (by repeat(first|(with_reducible first|exact HB.out|apply Qg|apply Qd|apply Qf|refine Qa ?_ a3.out|refine Qa ?_ a9.out)|exact HB.out)) hb);clear σ;clear a6;clear HB;have σ:=L;have a6:=O;have HB:=X;clear L O X;(try clear hb);(try clear ak);(try clear hk);(try clear hi);obtain⟨b1,b2,bd,bj,bk,bm,br,cr,ct,dp,b3,ba,be,bv,bw,bz,ca,er,et,eu⟩:=Zh a6.out))
   go_ret
   exact⟨by first|rfl|(simp[Qo,Qn] <;> rfl)|(simp[*,Qo,Qn] <;> rfl),by repeat(first|(with_reducible first|exact HB.out|apply Qg|apply Qd|apply Qf|refine Qa ?_ a3.out|refine Qa ?_ a9.out)|exact HB.out)⟩
 ·rw[if_neg c4] at H
  have c4b0:(aa==0)=false:=beq_eq_false_iff_ne.mpr c4
  have c4b1:(aa != 0)=true:=bne_iff_ne.mpr c4
  obtain rfl:=Option.some.inj H
  go_enter Try.func28,Try.ntmps28
  go_wp2_with (first|((with_reducible refine Qr (N:=2) rfl ?_);refine Qq ?hg (N:=2) ?hd (cs:=#[.int .i64 J,.int .i64 B,.int .i64 Y,.int .i64 Z,.int .i64 γ,.int .i64 ζ,.int .i64 ε,.int .i64 κ,.int .i64 ι,.int .i64 θ]) (t:=25) ?hr ?_;(case hd=>rfl);(case hg=>rfl);(case hr=>first|(go_simp;done)|(go_simp;rfl));intro a0 hg dw hbox hb;have L:=Aside0.mk (Qj (by repeat(first|(with_reducible first|exact HB.out|apply Qg|apply Qd|apply Qf)|exact HB.out)) hb);have O:=Aside0.mk (hbox);have X:=Aside0.mk ((by rw[hg];exact(Qi (by repeat(first|(with_reducible first|exact HB.out|apply Qg|apply Qd|apply Qf)|exact HB.out))):w.heap.size≤a0));have δ :=Aside0.mk ((by rw[hg];exact(Qi (by repeat(first|(with_reducible first|exact HB.out|apply Qg|apply Qd|apply Qf)|exact HB.out))):w.heap.size≤a0));clear HB;have HB:=L;have σ:=O;have bl:=X;have a3:= δ;clear L O X δ;clear hb hbox hg)|((with_reducible refine Qr (N:=3) rfl ?_);refine Qq ?hg (N:=3) ?hd (cs:=#[.int .i64 μ,.int .i64 η,.int .i64 ν,.int .i64 τ,.int .i64 ρ,.int .i64 χ,.int .i64 ψ,.int .i64 a1,.bool a2,.bool a5]) (t:=31) ?hr ?_;(case hd=>rfl);(case hg=>rfl);(case hr=>first|(go_simp;done)|(go_simp;rfl));intro a4 hg bn hbox hb;have L:=Aside0.mk (Qh (g:=a0) (o:=.cells #[.int .i64 J,.int .i64 B,.int .i64 Y,.int .i64 Z,.int .i64 γ,.int .i64 ζ,.int .i64 ε,.int .i64 κ,.int .i64 ι,.int .i64 θ] 25 (0,0)) (by(with_reducible repeat first|apply Qb|apply Qe|apply Qc);exact σ.out) hb);have O:=Aside0.mk (Qj (by repeat(first|(with_reducible first|exact HB.out|apply Qg|apply Qd|apply Qf|refine Qa ?_ a3.out)|exact HB.out)) hb);have X:=Aside0.mk (hbox);have δ :=Aside0.mk ((by rw[hg];exact(Qi (by repeat(first|(with_reducible first|exact HB.out|apply Qg|apply Qd|apply Qf|refine Qa ?_ a3.out)|exact HB.out))):w.heap.size≤a4));have ξ :=Aside0.mk ((by rw[hg];exact(Qi (by repeat(first|(with_reducible first|exact HB.out|apply Qg|apply Qd|apply Qf|refine Qa ?_ a3.out)|exact HB.out))):w.heap.size≤a4));have φ :=Aside0.mk ((by rw[hg];exact Nat.ne_of_lt (Qp (g:=a0) (o:=.cells #[.int .i64 J,.int .i64 B,.int .i64 Y,.int .i64 Z,.int .i64 γ,.int .i64 ζ,.int .i64 ε,.int .i64 κ,.int .i64 ι,.int .i64 θ] 25 (0,0)) (by(with_reducible repeat first|apply Qb|apply Qe|apply Qc);exact σ.out)):a0≠a4));have ω :=Aside0.mk ((by rw[hg];exact Nat.ne_of_gt (Qp (g:=a0) (o:=.cells #[.int .i64 J,.int .i64 B,.int .i64 Y,.int .i64 Z,.int .i64 γ,.int .i64 ζ,.int .i64 ε,.int .i64 κ,.int .i64 ι,.int .i64 θ] 25 (0,0)) (by(with_reducible repeat first|apply Qb|apply Qe|apply Qc);exact σ.out)):a4≠a0));clear σ;clear HB;have σ:=L;have HB:=O;have a6:=X;have cb:= δ;have a9:= ξ;have a7:= φ;have a8:= ω;clear L O X δ ξ φ ω;clear hb hbox hg;have g6:=a7.out;have gn:=a8.out;obtain⟨fb,fg,fh,i4,i5,i6,i7,i9,ia,ib,fi,fk,fl,io,iq,ir,it,iu,jj,jk⟩:=Zh σ.out;obtain⟨bo,bp,cj,d7,ff,fm,fn,fo,fp,fq,bq,bs,ck,fr,g7,gb,ge,gj,gl,gm⟩:=Zh a6.out)|((with_reducible refine Qt (f:=25) rfl ?_);refine Q7 (some 11) rfl rfl Try.func25 kr rfl #[.agg #[.int .i64 J,.int .i64 B,.int .i64 Y,.int .i64 Z,.int .i64 γ,.int .i64 ζ,.int .i64 ε,.int .i64 κ,.int .i64 ι,.int .i64 θ],.agg #[.int .i64 μ,.int .i64 η,.int .i64 ν,.int .i64 τ,.int .i64 ρ,.int .i64 χ,.int .i64 ψ]] rfl (by(try simp only[List.map_toArray,List.map_cons,List.map_nil]);first|done|rfl|(simp only[List.length_drop,List.length_take];rfl)) ?_;(with_reducible refine(car_Rest.calls k J B Y Z γ ζ ε κ ι θ μ η ν τ ρ χ ψ bh aa _ A3.out).mono ?_);rintro e en ⟨rfl,hb⟩;refine⟨_,rfl, ?_⟩;have L:=Aside0.mk (Qh (g:=a0) (o:=.cells #[.int .i64 J,.int .i64 B,.int .i64 Y,.int .i64 Z,.int .i64 γ,.int .i64 ζ,.int .i64 ε,.int .i64 κ,.int .i64 ι,.int .i64 θ] 25 (0,0)) (by(with_reducible repeat first|apply Qb|apply Qe|apply Qc);exact σ.out) hb);have O:=Aside0.mk (Qh (g:=a4) (o:=.cells #[.int .i64 μ,.int .i64 η,.int .i64 ν,.int .i64 τ,.int .i64 ρ,.int .i64 χ,.int .i64 ψ,.int .i64 a1,.bool a2,.bool a5] 31 (0,0)) (by(with_reducible repeat first|apply Qb|apply Qe|apply Qc);exact a6.out) hb);have X:=Aside0.mk (Qj (by repeat(first|(with_reducible first|exact HB.out|apply Qg|apply Qd|apply Qf|refine Qa ?_ a3.out|refine Qa ?_ a9.out)|exact HB.out)) hb);clear σ;clear a6;clear HB;have σ:=L;have a6:=O;have HB:=X;clear L O X;(try clear hb);(try clear ak);(try clear hk);(try clear hi)))
  go_ret
  exact⟨by first|rfl|(simp[Qo,Qn] <;> rfl)|(simp[*,Qo,Qn] <;> rfl),by repeat(first|(with_reducible first|exact HB.out|apply Qg|apply Qd|apply Qf|refine Qa ?_ a3.out|refine Qa ?_ a9.out)|exact HB.out)⟩
end Go.Proofs.Ytmfffemidlhcpaa.C
namespace Go.Proofs.Ytmfffemidlhcpaa.GrpPure
open Go.RowKit Go.Proofs.YtmfffemidlhcpaaW.PrintWords Go.Proofs.YtmfffemidlhcpaaW.PrintLast Go.Proofs.YtmfffemidlhcpaaW.PrintMore Go.Proofs.Ytmfffemidlhcpaa.C Go.Proofs.Ytmfffemidlhcpaa.DoorPure
abbrev Xj (F c0 c1 c2 c3 c4:Int):Prop:=
  (c2=0∧c1=0∧c3=0∧c4=0)∨(c2=1∧(c1=1∨c1 = -1)∧(0≤c0+c1∧c0+c1<F)∧(1≤c3∧c3≤60)∧c4=0)∨(c2=2∧c1=0∧(1≤c3∧c3≤60)∧c4=0)∨(c2=3∧c1=0∧c3=0∧c4≠0)
abbrev Gw (F c0 c1 c2 c3 c4 c5 c6:Int):Prop:=((2≤F∧F≤64)∧(0≤c0∧c0<F)∧Xu c4 c5 c6)∧Xj F c0 c1 c2 c3 c4
theorem Jx (n a b:Int):car_within.f n a b=some (decide (a≤n∧n≤b)):=by
  unfold car_within.f
  by_cases h:a≤n
  · rw[if_pos h];simp[h]
  · rw[if_neg h];simp[h]
theorem Gg (F c0 c1 c2 c3 c4 c5 c6:Int) (f:Nat):car_Check.j0 (f+1) F false c0 c1 c2 c3 c4 c5 c6=some 180:=by
  simp[car_Check.j0]
theorem Ll (F c0 c1 c2 c3 c4 c5 c6:Int) (f:Nat) (h:(2≤F∧F≤64)∧(0≤c0∧c0<F)):car_Check.j0 (f+1) F true c0 c1 c2 c3 c4 c5 c6=some (if Xj F c0 c1 c2 c3 c4 then 0 else 180):=by
  obtain⟨h1,L⟩:=h
  have e1:wrap64 (c0+1)=c0+1:=w64 (by omega)
  have e2:wrap64 (c0 + -1)=c0 + -1:=w64 (by omega)
  have B:wrap64 (F-1)=F-1:=w64 (by omega)
  simp only[car_Check.j0,Jx,Option.bind_some,if_true]
  by_cases J:c2=0
  · subst J
    rw[if_pos rfl]
    by_cases b1:c1=0 <;> by_cases b2:c3=0 <;> by_cases b3:c4=0 <;> simp[Xj,b1,b2,b3]
  · rw[if_neg J]
    by_cases Z:c2=1
    · subst Z
      rw[if_pos rfl]
      by_cases b1:c1=1
      · subst b1
        rw[if_pos rfl,e1,B]
        by_cases b2:0≤c0+1∧c0+1≤F-1
        · rw[decide_eq_true b2,if_pos rfl]
          by_cases b3:1≤c3∧c3≤60
          · rw[decide_eq_true b3,if_pos rfl]
            by_cases O:c4=0
            · rw[if_pos O,if_pos (Or.inr (Or.inl ⟨rfl,Or.inl rfl,by omega,b3,O⟩))]
            · rw[if_neg O,if_neg (by unfold Xj;omega)]
          · rw[decide_eq_false b3,if_neg (by decide),if_neg (by unfold Xj;omega)]
        · rw[decide_eq_false b2,if_neg (by decide),if_neg (by unfold Xj;omega)]
      · rw[if_neg b1]
        by_cases X:c1 = -1
        · subst X
          rw[if_pos rfl,e2,B]
          by_cases b2:0≤c0 + -1∧c0 + -1≤F-1
          · rw[decide_eq_true b2,if_pos rfl]
            by_cases b3:1≤c3∧c3≤60
            · rw[decide_eq_true b3,if_pos rfl]
              by_cases O:c4=0
              · rw[if_pos O,if_pos (Or.inr (Or.inl ⟨rfl,Or.inr rfl,by omega,b3,O⟩))]
              · rw[if_neg O,if_neg (by unfold Xj;omega)]
            · rw[decide_eq_false b3,if_neg (by decide),if_neg (by unfold Xj;omega)]
          · rw[decide_eq_false b2,if_neg (by decide),if_neg (by unfold Xj;omega)]
        · rw[if_neg X,if_neg (by unfold Xj;omega)]
    · rw[if_neg Z]
      by_cases a2:c2=2
      · subst a2
        rw[if_pos rfl]
        by_cases b1:c1=0
        · rw[if_pos b1]
          by_cases b3:1≤c3∧c3≤60
          · rw[decide_eq_true b3,if_pos rfl]
            by_cases O:c4=0
            · rw[if_pos O,if_pos (Or.inr (Or.inr (Or.inl ⟨rfl,b1,b3,O⟩)))]
            · rw[if_neg O,if_neg (by unfold Xj;omega)]
          · rw[decide_eq_false b3,if_neg (by decide),if_neg (by unfold Xj;omega)]
        · rw[if_neg b1,if_neg (by unfold Xj;omega)]
      · rw[if_neg a2]
        by_cases a3:c2=3
        · subst a3
          rw[if_pos rfl]
          by_cases b1:c1=0 <;> by_cases b2:c3=0 <;> by_cases b3:c4=0 <;> simp[Xj,b1,b2,b3]
        · rw[if_neg a3,if_neg (by unfold Xj;omega)]
theorem Um (F c0 c1 c2 c3 c4 c5 c6:Int) (f:Nat) (hf:2<f):car_Check.f f F c0 c1 c2 c3 c4 c5 c6=some (if Gw F c0 c1 c2 c3 c4 c5 c6 then 0 else 180):=by
  obtain⟨f,rfl⟩:∃ m,f=m+1:=⟨f-1,by omega⟩
  unfold car_Check.f
  rw[Jx,Jx,Yj]
  simp only[Option.bind_some,Gg]
  by_cases h1:2≤F∧F≤64
  · rw[decide_eq_true h1,if_pos rfl,w64 (n:=F-1) (by omega)]
    by_cases L:0≤c0∧c0≤F-1
    · rw[decide_eq_true L,if_pos rfl]
      by_cases Z:Xu c4 c5 c6
      · rw[if_pos Z]
        show car_Check.j0 (f+1) F true c0 c1 c2 c3 c4 c5 c6=_
        rw[Ll _ _ _ _ _ _ _ _ _ ⟨h1,by omega⟩]
        by_cases Y:Xj F c0 c1 c2 c3 c4
        · rw[if_pos Y,if_pos ⟨⟨h1,by omega,Z⟩,Y⟩]
        · rw[if_neg Y,if_neg (fun h=>Y h.2)]
      · rw[if_neg Z]
        show car_Check.j0 (f+1) F false c0 c1 c2 c3 c4 c5 c6=_
        rw[Gg,if_neg (fun h=>Z h.1.2.2)]
    · rw[decide_eq_false L,if_neg (by decide),if_neg (fun h=>L ⟨h.1.2.1.1,by have:=h.1.2.1.2;omega⟩)]
  · rw[decide_eq_false h1,if_neg (by decide),if_neg (fun h=>h1 h.1.1)]
theorem Lk (g0 Y g2 g3 g4 g5 g6 g7 g8 g9 c0 c1 c2 c3 c4 c5 c6:Int) (f:Nat) (hf:10<f):car_check.f f g0 Y g2 g3 g4 g5 g6 g7 g8 g9 c0 c1 c2 c3 c4 c5 c6=some (if X6 g0 Y g2 g3 g4 g5 g6 g7 g8 g9∧Gw g0 c0 c1 c2 c3 c4 c5 c6 then 0 else 180):=by
  unfold car_check.f
  rw[U9 _ _ _ _ _ _ _ _ _ _ _ _ _ f hf,Um _ _ _ _ _ _ _ _ f (by omega)]
  simp only[Option.bind_some]
  by_cases h1:X6 g0 Y g2 g3 g4 g5 g6 g7 g8 g9
  · have hz:X6 g0 Y g2 g3 g4 g5 g6 g7 g8 g9∧Xu 0 0 0:=⟨h1,by unfold Xu;omega⟩
    rw[if_pos hz]
    simp only[if_true]
    by_cases L:Gw g0 c0 c1 c2 c3 c4 c5 c6
    · rw[if_pos L,if_pos ⟨h1,L⟩]
    · rw[if_neg L,if_neg (fun h=>L h.2)]
  · have hz:¬ (X6 g0 Y g2 g3 g4 g5 g6 g7 g8 g9∧Xu 0 0 0):=fun h=>h1 h.1
    have hy:¬ (X6 g0 Y g2 g3 g4 g5 g6 g7 g8 g9∧Gw g0 c0 c1 c2 c3 c4 c5 c6):=fun h=>h1 h.1
    rw[if_neg hz,if_neg hy]
    simp only
    rw[if_neg (by decide)]
def X3 (g3 g6 g8 g9 c2 c3 c4 c5 c6:Int):Int:=c3+(if c2=2 then K4 g3 g6 g8 g9 1 g3 0 else K4 g3 g6 g8 g9 c4 c5 c6)
theorem Ud (g0 Y g2 g3 g4 g5 g6 g7 g8 g9 d0 d1 d2:Int) (hg:X6 g0 Y g2 g3 g4 g5 g6 g7 g8 g9) (hd:Xu d0 d1 d2):0≤K4 g3 g6 g8 g9 d0 d1 d2∧K4 g3 g6 g8 g9 d0 d1 d2≤26000:=by
  obtain⟨-,m2,m3⟩:=Uc _ _ _ _ _ _ _ _ _ _ _ _ _ hg hd
  have Z:1≤g3∧g3≤60:=hg.1.1.2.2.1
  have a2:1≤g6∧g6≤60:=hg.1.1.2.2.2.2.2
  have a3:1≤g8∧g8≤300:=hg.2.2.1
  unfold K4
  generalize(if d2<g9 then (g9-d2) * (g3+g8+g6) else 0)=p at m2 m3 ⊢
  split
  · omega
  · split
    · omega
    · split <;> omega
theorem Jg (g0 Y g2 g3 g4 g5 g6 g7 g8 g9 c0 c1 c2 c3 c4 c5 c6:Int) (hg:X6 g0 Y g2 g3 g4 g5 g6 g7 g8 g9) (hc:Gw g0 c0 c1 c2 c3 c4 c5 c6):0≤X3 g3 g6 g8 g9 c2 c3 c4 c5 c6∧X3 g3 g6 g8 g9 c2 c3 c4 c5 c6≤26060:=by
  have Z:1≤g3∧g3≤60:=hg.1.1.2.2.1
  have b1:=Ud _ _ _ _ _ _ _ _ _ _ 1 g3 0 hg (by unfold Xu;omega)
  have b2:=Ud _ _ _ _ _ _ _ _ _ _ _ _ _ hg hc.1.2.2
  have b3:0≤c3∧c3≤60:=by have:=hc.2;unfold Xj at this;omega
  unfold X3
  split <;> omega
theorem Jz (g0 Y g2 g3 g4 g5 g6 g7 g8 g9 c0 c1 c2 c3 c4 c5 c6:Int) (f:Nat) (hf:10<f):car_Rest.f f g0 Y g2 g3 g4 g5 g6 g7 g8 g9 c0 c1 c2 c3 c4 c5 c6=some (if X6 g0 Y g2 g3 g4 g5 g6 g7 g8 g9∧Gw g0 c0 c1 c2 c3 c4 c5 c6 then (X3 g3 g6 g8 g9 c2 c3 c4 c5 c6,0) else (0,180)):=by
  unfold car_Rest.f
  rw[Lk _ _ _ _ _ _ _ _ _ _ _ _ _ _ _ _ _ f hf,N9 _ _ _ _ _ _ _ _ _ _ f hf]
  simp only[Option.bind_some,U9 _ _ _ _ _ _ _ _ _ _ _ _ _ f hf]
  by_cases h:X6 g0 Y g2 g3 g4 g5 g6 g7 g8 g9∧Gw g0 c0 c1 c2 c3 c4 c5 c6
  · rw[if_pos h,if_pos rfl,if_pos h]
    have hb:=Jg _ _ _ _ _ _ _ _ _ _ _ _ _ _ _ _ _ h.1 h.2
    have Z:1≤g3∧g3≤60:=h.1.1.1.2.2.1
    unfold X3 at hb ⊢
    by_cases e:c2=2
    · have B:c4=0:=by have:=h.2.2;unfold Xj at this;omega
      have hd:Xu 1 g3 0:=by unfold Xu;omega
      have ht:Jt Y g2 g3 g4 g5 g6 g7∧Xu c4 c5 c6:=⟨h.1.1,h.2.1.2.2⟩
      have hy:X6 g0 Y g2 g3 g4 g5 g6 g7 g8 g9∧Xu 1 g3 0:=⟨h.1,hd⟩
      rw[if_pos e] at hb
      simp only[if_pos e,if_pos ht,if_pos B,if_pos hy]
      rw[w64 (by omega)]
    · have hy:X6 g0 Y g2 g3 g4 g5 g6 g7 g8 g9∧Xu c4 c5 c6:=⟨h.1,h.2.1.2.2⟩
      rw[if_neg e] at hb
      simp only[if_neg e,if_pos hy]
      rw[w64 (by omega)]
  · rw[if_neg h,if_neg (by decide),if_neg h]
abbrev G3 (g0 Y g2 g3 g4 g5 g6 g7 g8 g9 c0 c1 c2 c3 c4 c5 c6 l7:Int):Prop:=(X6 g0 Y g2 g3 g4 g5 g6 g7 g8 g9∧Gw g0 c0 c1 c2 c3 c4 c5 c6) ∧ -1≤l7∧l7≤1
theorem M1 (g0 Y g2 g3 g4 g5 g6 g7 g8 g9 c0 c1 c2 c3 c4 c5 c6 l7:Int) (l8 l9:Bool) (f:Nat) (hf:10<f):group_lift.f f g0 Y g2 g3 g4 g5 g6 g7 g8 g9 c0 c1 c2 c3 c4 c5 c6 l7 l8 l9=some (decide (G3 g0 Y g2 g3 g4 g5 g6 g7 g8 g9 c0 c1 c2 c3 c4 c5 c6 l7)):=by
  unfold group_lift.f
  rw[Jz _ _ _ _ _ _ _ _ _ _ _ _ _ _ _ _ _ f hf]
  simp only[Option.bind_some]
  by_cases h:X6 g0 Y g2 g3 g4 g5 g6 g7 g8 g9∧Gw g0 c0 c1 c2 c3 c4 c5 c6
  · rw[if_pos h]
    simp only[if_true]
    by_cases e: -1≤l7
    · rw[if_pos e];congr 1;rw[decide_eq_decide];exact⟨fun x=>⟨h,e,x⟩,fun x=>x.2.2⟩
    · rw[if_neg e,decide_eq_false (fun x=>e x.2.1)]
  · rw[if_neg h,if_neg (by decide),decide_eq_false (fun x=>h x.1)]
end Go.Proofs.Ytmfffemidlhcpaa.GrpPure
namespace Go.Proofs.Ytmfffemidlhcpaa.C
open Go.RowKit Go.Proofs.YtmfffemidlhcpaaW.PrintWords Go.Proofs.YtmfffemidlhcpaaW.PrintLast Go.Proofs.YtmfffemidlhcpaaW.PrintMore
attribute [local go_sem] Z1 Zz Z9 Z8 Zq Zp Z0 Zy
set_option linter.unusedVariables false
set_option linter.unusedSimpArgs false
def group_cost.f (k:Nat) (J:Int) (B:Int) (Y:Int) (Z:Int) (γ:Int) (ζ :Int) (ε :Int) (κ :Int) (ι :Int) (θ :Int) (μ :Int) (η :Int) (ν :Int) (τ :Int) (ρ:Int) (χ :Int) (ψ :Int) (a1:Int) (a2:Bool) (a5:Bool) (a3:List Int) (a4:List Int) (ae:List Int) (au:Int) (av:Int) (aw:Int):Option (Int):=(car_Rest.f k J B Y Z γ ζ ε κ ι θ μ η ν τ ρ χ ψ).bind fun b4=>((group_way.f k J μ η ν τ ρ χ ψ a1 a2 a5 au av aw).bind fun ax=>(some (wrap64 ((wrap64 (b4.1+(wrap64 (B * ax))))+(wrap64 ((wrap64 ((wrap64 ((wrap64 (Y+Z)) + ι)) + ε)) * (wrap64 ((wrap64 ((a3.length:Int)+(a4.length:Int)))+(ae.length:Int)))))))))
theorem group_cost.mono:∀ J Z a2 a3 L a5 O a7 a8 a9 X Y γ ε δ ζ η B θ ι κ μ ν ξ ρ σ k,LeO (group_cost.f k J Z a2 a3 L a5 O a7 a8 a9 X Y γ ε δ ζ η B θ ι κ μ ν ξ ρ σ) (group_cost.f (k+1) J Z a2 a3 L a5 O a7 a8 a9 X Y γ ε δ ζ η B θ ι κ μ ν ξ ρ σ):=by
 intro J Z a2 a3 L a5 O a7 a8 a9 X Y γ ε δ ζ η B θ ι κ μ ν ξ ρ σ k
 unfold group_cost.f
 repeat' first
   |(with_reducible exact car_Rest.mono _ _ _ _ _ _ _ _ _ _ _ _ _ _ _ _ _ _)
   |(with_reducible exact group_way.mono _ _ _ _ _ _ _ _ _ _ _ _ _ _ _)
   |(with_reducible exact LeO.refl _)
   |(with_reducible exact LeO.none _)
   |(with_reducible refine LeO.ite ?_ ?_)
   |(with_reducible refine LeO.bind ?_ (fun _=>?_))
   |exact car_Rest.mono _ _ _ _ _ _ _ _ _ _ _ _ _ _ _ _ _ _
   |exact group_way.mono _ _ _ _ _ _ _ _ _ _ _ _ _ _ _
   |exact LeO.none _
   |refine LeO.ite ?_ ?_
   |refine LeO.bind ?_ (fun _=>?_)
def group_cost.T3:Bool×List (List Nat×List Nat):=(true,[([],[]),([],[]),([1],[1]),([2],[2]),([],[]),([4],[4]),([],[]),([],[]),([5,6,7],[5,6,7]),([3,8],[3,8]),([0,9],[0,9]),([],[]),([],[]),([12],[12]),([13],[13]),([],[]),([15],[15]),([16],[16]),([14,17],[14,17]),([],[]),([19],[19]),([20],[20]),([18,21],[18,21]),([11,22],[11,22]),([10,23],[10,23]),([24,8,0,1,2,3,4,5,6,7,8,9,10,11,12,13,14,15,16,17,18,19,20,21,22,23,24],[24])])
def group_cost.B3:List Nat:=[0,0,2,6,0,16,0,0,240,510,1023,0,0,4096,12288,0,32768,98304,258048,0,524288,1572864,4190208,8386560,16777215,33554431]
theorem group_cost.tab3:rtab .any (opsOf Try.f31 3)=group_cost.T3:=by kernel_rfl
theorem group_cost.bits3:Z3 group_cost.T3.2 group_cost.B3=true:=by kernel_rfl
set_option maxHeartbeats 8000000 in
set_option maxRecDepth 100000 in
theorem group_cost.calls (k:Nat) (J:Int) (B:Int) (Y:Int) (Z:Int) (γ:Int) (ζ :Int) (ε :Int) (κ :Int) (ι :Int) (θ :Int) (μ :Int) (η :Int) (ν :Int) (τ :Int) (ρ:Int) (χ :Int) (ψ :Int) (a1:Int) (a2:Bool) (a5:Bool) (al:Option Addr) (am:Nat) (a3:List Int) (an:Option Addr) (ao:Nat) (a4:List Int) (ay:Option Addr) (az:Nat) (ae:List Int) (au:Int) (av:Int) (aw:Int) (r:Int) (w:World) (ce:Kd.C (Kd.int .i64) w al a3.length a3) (cg:a3.length≤am) (ch:Kd.C (Kd.int .i64) w an a4.length a4) (cq:a4.length≤ao) (df:Kd.C (Kd.int .i64) w ay ae.length ae) (dm:ae.length≤az) (h:group_cost.f k J B Y Z γ ζ ε κ ι θ μ η ν τ ρ χ ψ a1 a2 a5 a3 a4 ae au av aw=some r):
  Calls Try.prog 31 #[.agg #[.int .i64 J,.int .i64 B,.int .i64 Y,.int .i64 Z,.int .i64 γ,.int .i64 ζ,.int .i64 ε,.int .i64 κ,.int .i64 ι,.int .i64 θ],.agg #[.int .i64 μ,.int .i64 η,.int .i64 ν,.int .i64 τ,.int .i64 ρ,.int .i64 χ,.int .i64 ψ,.int .i64 a1,.bool a2,.bool a5],.agg #[.slice al a3.length am,.slice an a4.length ao,.slice ay ae.length az],.agg #[.int .i64 au,.int .i64 av,.int .i64 aw]] w fun e w'=>e = .returned (.int .i64 r)∧Below w.heap.size w w':=by
 have dc:=Try.underlying25
 have fv:=Try.underlying31
 have ga:=Try.underlying34
 have da:=Try.underlying36
 have g8:=Try.underlying29
 have dh:=Aside0.mk ce
 have dq:=Aside0.mk cg
 clear ce cg
 have dr:=Aside0.mk ch
 have dt:=Aside0.mk cq
 clear ch cq
 have du:=Aside0.mk df
 have dx:=Aside0.mk dm
 clear df dm
 have HB:=Aside0.mk (Below.refl w.heap.size w)
 have H:((car_Rest.f k J B Y Z γ ζ ε κ ι θ μ η ν τ ρ χ ψ).bind fun b4=>((group_way.f k J μ η ν τ ρ χ ψ a1 a2 a5 au av aw).bind fun ax=>(some (wrap64 ((wrap64 (b4.1+(wrap64 (B * ax))))+(wrap64 ((wrap64 ((wrap64 ((wrap64 (Y+Z)) + ι)) + ε)) * (wrap64 ((wrap64 ((a3.length:Int)+(a4.length:Int)))+(ae.length:Int))))))))))=some r:=h
 clear h
 replace H:=Option.bind_eq_some_iff.mp H
 obtain⟨⟨cu,cx⟩,bu,H⟩:=H
 replace H:((group_way.f k J μ η ν τ ρ χ ψ a1 a2 a5 au av aw).bind fun ax=>(some (wrap64 ((wrap64 (cu+(wrap64 (B * ax))))+(wrap64 ((wrap64 ((wrap64 ((wrap64 (Y+Z)) + ι)) + ε)) * (wrap64 ((wrap64 ((a3.length:Int)+(a4.length:Int)))+(ae.length:Int)))))))))=some r:=H
 have A5:=Aside0.mk bu
 clear bu
 replace H:=Option.bind_eq_some_iff.mp H
 obtain⟨ax,bc,H⟩:=H
 replace H:(some (wrap64 ((wrap64 (cu+(wrap64 (B * ax))))+(wrap64 ((wrap64 ((wrap64 ((wrap64 (Y+Z)) + ι)) + ε)) * (wrap64 ((wrap64 ((a3.length:Int)+(a4.length:Int)))+(ae.length:Int))))))))=some r:=H
 have A6:=Aside0.mk bc
 clear bc
 obtain rfl:=Option.some.inj H
 go_enter Try.func31,Try.ntmps31
 try go_wp2_with (first|((with_reducible refine Qr (N:=4) rfl ?_);refine Qq ?hg (N:=4) ?hd (cs:=#[.int .i64 J,.int .i64 B,.int .i64 Y,.int .i64 Z,.int .i64 γ,.int .i64 ζ,.int .i64 ε,.int .i64 κ,.int .i64 ι,.int .i64 θ]) (t:=25) ?hr ?_;(case hd=>rfl);(case hg=>rfl);(case hr=>first|(go_simp;done)|(go_simp;rfl));intro a8 hg w7 hbox hb;have L:=Aside0.mk (Qj (by repeat(first|(with_reducible first|exact HB.out|apply Qg|apply Qd|apply Qf)|exact HB.out)) hb);have O:=Aside0.mk (hbox);have X:=Aside0.mk ((by rw[hg];exact(Qi (by repeat(first|(with_reducible first|exact HB.out|apply Qg|apply Qd|apply Qf)|exact HB.out))):w.heap.size≤a8));have δ :=Aside0.mk ((by rw[hg];exact(Qi (by repeat(first|(with_reducible first|exact HB.out|apply Qg|apply Qd|apply Qf)|exact HB.out))):w.heap.size≤a8));clear HB;have HB:=L;have σ:=O;have d9:=X;have ap:= δ;clear L O X δ;clear hb hbox hg)|((with_reducible refine Qr (N:=5) rfl ?_);refine Qq ?hg (N:=5) ?hd (cs:=#[.int .i64 μ,.int .i64 η,.int .i64 ν,.int .i64 τ,.int .i64 ρ,.int .i64 χ,.int .i64 ψ,.int .i64 a1,.bool a2,.bool a5]) (t:=31) ?hr ?_;(case hd=>rfl);(case hg=>rfl);(case hr=>first|(go_simp;done)|(go_simp;rfl));intro a9 hg w8 hbox hb;have L:=Aside0.mk (Qh (g:=a8) (o:=.cells #[.int .i64 J,.int .i64 B,.int .i64 Y,.int .i64 Z,.int .i64 γ,.int .i64 ζ,.int .i64 ε,.int .i64 κ,.int .i64 ι,.int .i64 θ] 25 (0,0)) (by(with_reducible repeat first|apply Qb|apply Qe|apply Qc);exact σ.out) hb);have O:=Aside0.mk (Qj (by repeat(first|(with_reducible first|exact HB.out|apply Qg|apply Qd|apply Qf|refine Qa ?_ ap.out)|exact HB.out)) hb);have X:=Aside0.mk (hbox);have δ :=Aside0.mk ((by rw[hg];exact(Qi (by repeat(first|(with_reducible first|exact HB.out|apply Qg|apply Qd|apply Qf|refine Qa ?_ ap.out)|exact HB.out))):w.heap.size≤a9));have ξ :=Aside0.mk ((by rw[hg];exact(Qi (by repeat(first|(with_reducible first|exact HB.out|apply Qg|apply Qd|apply Qf|refine Qa ?_ ap.out)|exact HB.out))):w.heap.size≤a9));have φ :=Aside0.mk ((by rw[hg];exact Nat.ne_of_lt (Qp (g:=a8) (o:=.cells #[.int .i64 J,.int .i64 B,.int .i64 Y,.int .i64 Z,.int .i64 γ,.int .i64 ζ,.int .i64 ε,.int .i64 κ,.int .i64 ι,.int .i64 θ] 25 (0,0)) (by(with_reducible repeat first|apply Qb|apply Qe|apply Qc);exact σ.out)):a8≠a9));have ω :=Aside0.mk ((by rw[hg];exact Nat.ne_of_gt (Qp (g:=a8) (o:=.cells #[.int .i64 J,.int .i64 B,.int .i64 Y,.int .i64 Z,.int .i64 γ,.int .i64 ζ,.int .i64 ε,.int .i64 κ,.int .i64 ι,.int .i64 θ] 25 (0,0)) (by(with_reducible repeat first|apply Qb|apply Qe|apply Qc);exact σ.out)):a9≠a8));clear σ;clear HB;have σ:=L;have HB:=O;have a0:=X;have db:= δ;have ar:= ξ;have bb:= φ;have bh:= ω;clear L O X δ ξ φ ω;clear hb hbox hg)|((with_reducible refine Qr (N:=6) rfl ?_);refine Qq ?hg (N:=6) ?hd (cs:=#[.slice al a3.length am,.slice an a4.length ao,.slice ay ae.length az]) (t:=34) ?hr ?_;(case hd=>rfl);(case hg=>rfl);(case hr=>first|(go_simp;done)|(go_simp;rfl));intro ab hg w9 hbox hb;have L:=Aside0.mk (Qh (g:=a8) (o:=.cells #[.int .i64 J,.int .i64 B,.int .i64 Y,.int .i64 Z,.int .i64 γ,.int .i64 ζ,.int .i64 ε,.int .i64 κ,.int .i64 ι,.int .i64 θ] 25 (0,0)) (by(with_reducible repeat first|apply Qb|apply Qe|apply Qc);exact σ.out) hb);have O:=Aside0.mk (Qh (g:=a9) (o:=.cells #[.int .i64 μ,.int .i64 η,.int .i64 ν,.int .i64 τ,.int .i64 ρ,.int .i64 χ,.int .i64 ψ,.int .i64 a1,.bool a2,.bool a5] 31 (0,0)) (by(with_reducible repeat first|apply Qb|apply Qe|apply Qc);exact a0.out) hb);have X:=Aside0.mk (Qj (by repeat(first|(with_reducible first|exact HB.out|apply Qg|apply Qd|apply Qf|refine Qa ?_ ap.out|refine Qa ?_ ar.out)|exact HB.out)) hb);have δ :=Aside0.mk (hbox);have ξ :=Aside0.mk ((by rw[hg];exact(Qi (by repeat(first|(with_reducible first|exact HB.out|apply Qg|apply Qd|apply Qf|refine Qa ?_ ap.out|refine Qa ?_ ar.out)|exact HB.out))):w.heap.size≤ab));have φ :=Aside0.mk ((by rw[hg];exact(Qi (by repeat(first|(with_reducible first|exact HB.out|apply Qg|apply Qd|apply Qf|refine Qa ?_ ap.out|refine Qa ?_ ar.out)|exact HB.out))):w.heap.size≤ab));have ω :=Aside0.mk ((by rw[hg];exact Nat.ne_of_lt (Qp (g:=a8) (o:=.cells #[.int .i64 J,.int .i64 B,.int .i64 Y,.int .i64 Z,.int .i64 γ,.int .i64 ζ,.int .i64 ε,.int .i64 κ,.int .i64 ι,.int .i64 θ] 25 (0,0)) (by(with_reducible repeat first|apply Qb|apply Qe|apply Qc);exact σ.out)):a8≠ab));have a6:=Aside0.mk ((by rw[hg];exact Nat.ne_of_gt (Qp (g:=a8) (o:=.cells #[.int .i64 J,.int .i64 B,.int .i64 Y,.int .i64 Z,.int .i64 γ,.int .i64 ζ,.int .i64 ε,.int .i64 κ,.int .i64 ι,.int .i64 θ] 25 (0,0)) (by(with_reducible repeat first|apply Qb|apply Qe|apply Qc);exact σ.out)):ab≠a8));have a7:=Aside0.mk ((by rw[hg];exact Nat.ne_of_lt (Qp (g:=a9) (o:=.cells #[.int .i64 μ,.int .i64 η,.int .i64 ν,.int .i64 τ,.int .i64 ρ,.int .i64 χ,.int .i64 ψ,.int .i64 a1,.bool a2,.bool a5] 31 (0,0)) (by(with_reducible repeat first|apply Qb|apply Qe|apply Qc);exact a0.out)):a9≠ab));have ag:=Aside0.mk ((by rw[hg];exact Nat.ne_of_gt (Qp (g:=a9) (o:=.cells #[.int .i64 μ,.int .i64 η,.int .i64 ν,.int .i64 τ,.int .i64 ρ,.int .i64 χ,.int .i64 ψ,.int .i64 a1,.bool a2,.bool a5] 31 (0,0)) (by(with_reducible repeat first|apply Qb|apply Qe|apply Qc);exact a0.out)):ab≠a9));clear σ;clear a0;clear HB;have σ:=L;have a0:=O;have HB:=X;have aa:= δ;have dj:= ξ;have b0:= φ;have bl:= ω;have bo:=a6;have bp:=a7;have bq:=ag;clear L O X δ ξ φ ω a6 a7 ag;clear hb hbox hg)|((with_reducible refine Qr (N:=7) rfl ?_);refine Qq ?hg (N:=7) ?hd (cs:=#[.int .i64 au,.int .i64 av,.int .i64 aw]) (t:=36) ?hr ?_;(case hd=>rfl);(case hg=>rfl);(case hr=>first|(go_simp;done)|(go_simp;rfl));intro af hg ig hbox hb;have L:=Aside0.mk (Qh (g:=a8) (o:=.cells #[.int .i64 J,.int .i64 B,.int .i64 Y,.int .i64 Z,.int .i64 γ,.int .i64 ζ,.int .i64 ε,.int .i64 κ,.int .i64 ι,.int .i64 θ] 25 (0,0)) (by(with_reducible repeat first|apply Qb|apply Qe|apply Qc);exact σ.out) hb);have O:=Aside0.mk (Qh (g:=a9) (o:=.cells #[.int .i64 μ,.int .i64 η,.int .i64 ν,.int .i64 τ,.int .i64 ρ,.int .i64 χ,.int .i64 ψ,.int .i64 a1,.bool a2,.bool a5] 31 (0,0)) (by(with_reducible repeat first|apply Qb|apply Qe|apply Qc);exact a0.out) hb);have X:=Aside0.mk (Qh (g:=ab) (o:=.cells #[.slice al a3.length am,.slice an a4.length ao,.slice ay ae.length az] 34 (0,0)) (by(with_reducible repeat first|apply Qb|apply Qe|apply Qc);exact aa.out) hb);have δ :=Aside0.mk (Qj (by repeat(first|(with_reducible first|exact HB.out|apply Qg|apply Qd|apply Qf|refine Qa ?_ ap.out|refine Qa ?_ ar.out|refine Qa ?_ b0.out)|exact HB.out)) hb);have ξ :=Aside0.mk (hbox);have φ :=Aside0.mk ((by rw[hg];exact(Qi (by repeat(first|(with_reducible first|exact HB.out|apply Qg|apply Qd|apply Qf|refine Qa ?_ ap.out|refine Qa ?_ ar.out|refine Qa ?_ b0.out)|exact HB.out))):w.heap.size≤af));have ω :=Aside0.mk ((by rw[hg];exact(Qi (by repeat(first|(with_reducible first|exact HB.out|apply Qg|apply Qd|apply Qf|refine Qa ?_ ap.out|refine Qa ?_ ar.out|refine Qa ?_ b0.out)|exact HB.out))):w.heap.size≤af));have a6:=Aside0.mk ((by rw[hg];exact Nat.ne_of_lt (Qp (g:=a8) (o:=.cells #[.int .i64 J,.int .i64 B,.int .i64 Y,.int .i64 Z,.int .i64 γ,.int .i64 ζ,.int .i64 ε,.int .i64 κ,.int .i64 ι,.int .i64 θ] 25 (0,0)) (by(with_reducible repeat first|apply Qb|apply Qe|apply Qc);exact σ.out)):a8≠af));have a7:=Aside0.mk ((by rw[hg];exact Nat.ne_of_gt (Qp (g:=a8) (o:=.cells #[.int .i64 J,.int .i64 B,.int .i64 Y,.int .i64 Z,.int .i64 γ,.int .i64 ζ,.int .i64 ε,.int .i64 κ,.int .i64 ι,.int .i64 θ] 25 (0,0)) (by(with_reducible repeat first|apply Qb|apply Qe|apply Qc);exact σ.out)):af≠a8));have ag:=Aside0.mk ((by rw[hg];exact Nat.ne_of_lt (Qp (g:=a9) (o:=.cells #[.int .i64 μ,.int .i64 η,.int .i64 ν,.int .i64 τ,.int .i64 ρ,.int .i64 χ,.int .i64 ψ,.int .i64 a1,.bool a2,.bool a5] 31 (0,0)) (by(with_reducible repeat first|apply Qb|apply Qe|apply Qc);exact a0.out)):a9≠af));have ah:=Aside0.mk ((by rw[hg];exact Nat.ne_of_gt (Qp (g:=a9) (o:=.cells #[.int .i64 μ,.int .i64 η,.int .i64 ν,.int .i64 τ,.int .i64 ρ,.int .i64 χ,.int .i64 ψ,.int .i64 a1,.bool a2,.bool a5] 31 (0,0)) (by(with_reducible repeat first|apply Qb|apply Qe|apply Qc);exact a0.out)):af≠a9));have ai:=Aside0.mk ((by rw[hg];exact Nat.ne_of_lt (Qp (g:=ab) (o:=.cells #[.slice al a3.length am,.slice an a4.length ao,.slice ay ae.length az] 34 (0,0)) (by(with_reducible repeat first|apply Qb|apply Qe|apply Qc);exact aa.out)):ab≠af));have aj:=Aside0.mk ((by rw[hg];exact Nat.ne_of_gt (Qp (g:=ab) (o:=.cells #[.slice al a3.length am,.slice an a4.length ao,.slice ay ae.length az] 34 (0,0)) (by(with_reducible repeat first|apply Qb|apply Qe|apply Qc);exact aa.out)):af≠ab));clear σ;clear a0;clear aa;clear HB;have σ:=L;have a0:=O;have aa:=X;have HB:= δ;have ac:= ξ;have dk:= φ;have b5:= ω;have bs:=a6;have cb:=a7;have cf:=ag;have cp:=ah;have cv:=ai;have cw:=aj;clear L O X δ ξ φ ω a6 a7 ag ah ai aj;clear hb hbox hg;have gs:=bb.out;have gx:=bh.out;have gb:=bl.out;have ge:=bo.out;have j2:=bs.out;have j3:=cb.out;obtain⟨cj,ck,cy,cz,d0,d1,d2,dd,ff,fg,cm,cn,d3,d4,d5,d6,d7,de,fh,fi⟩:=Zh σ.out;have gf:=bp.out;have gg:=bq.out;have ei:=cf.out;have ek:=cp.out;obtain⟨b6,b7,bf,bg,cd,ci,co,d8,di,e4,b8,b9,bi,e5,e6,e7,e8,e9,ea,eb⟩:=Zh a0.out)|((with_reducible refine Qt (f:=25) rfl ?_);refine Q7 (some 16) rfl rfl Try.func25 kr rfl #[.agg #[.int .i64 J,.int .i64 B,.int .i64 Y,.int .i64 Z,.int .i64 γ,.int .i64 ζ,.int .i64 ε,.int .i64 κ,.int .i64 ι,.int .i64 θ],.agg #[.int .i64 μ,.int .i64 η,.int .i64 ν,.int .i64 τ,.int .i64 ρ,.int .i64 χ,.int .i64 ψ]] rfl (by(try simp only[List.map_toArray,List.map_cons,List.map_nil]);first|done|rfl|(simp only[List.length_drop,List.length_take];rfl)) ?_;(with_reducible refine(car_Rest.calls k J B Y Z γ ζ ε κ ι θ μ η ν τ ρ χ ψ cu cx _ A5.out).mono ?_);rintro e gt ⟨rfl,hb⟩;refine⟨_,rfl, ?_⟩;have L:=Aside0.mk (Qh (g:=a8) (o:=.cells #[.int .i64 J,.int .i64 B,.int .i64 Y,.int .i64 Z,.int .i64 γ,.int .i64 ζ,.int .i64 ε,.int .i64 κ,.int .i64 ι,.int .i64 θ] 25 (0,0)) (by(with_reducible repeat first|apply Qb|apply Qe|apply Qc);exact σ.out) hb);have O:=Aside0.mk (Qh (g:=a9) (o:=.cells #[.int .i64 μ,.int .i64 η,.int .i64 ν,.int .i64 τ,.int .i64 ρ,.int .i64 χ,.int .i64 ψ,.int .i64 a1,.bool a2,.bool a5] 31 (0,0)) (by(with_reducible repeat first|apply Qb|apply Qe|apply Qc);exact a0.out) hb);have X:=Aside0.mk (Qh (g:=ab) (o:=.cells #[.slice al a3.length am,.slice an a4.length ao,.slice ay ae.length az] 34 (0,0)) (by(with_reducible repeat first|apply Qb|apply Qe|apply Qc);exact aa.out) hb);have δ :=Aside0.mk (Qh (g:=af) (o:=.cells #[.int .i64 au,.int .i64 av,.int .i64 aw] 36 (0,0)) (by(with_reducible repeat first|apply Qb|apply Qe|apply Qc);exact ac.out) hb);have ξ :=Aside0.mk (Qj (by repeat(first|(with_reducible first|exact HB.out|apply Qg|apply Qd|apply Qf|refine Qa ?_ ap.out|refine Qa ?_ ar.out|refine Qa ?_ b0.out|refine Qa ?_ b5.out)|exact HB.out)) hb);clear σ;clear a0;clear aa;clear ac;clear HB;have σ:=L;have a0:=O;have aa:=X;have ac:= δ;have HB:= ξ;clear L O X δ ξ;(try clear hb);(try clear ak);(try clear hk);(try clear hi);obtain⟨b1,b2,bd,bj,bk,bm,br,cr,ct,dp,b3,ba,be,bv,bw,bz,ca,er,et,eu⟩:=Zh σ.out))
 have L:=Aside0.mk (Qe σ.out)
 have O:=Aside0.mk (Qe a0.out)
 have X:=Aside0.mk (Qe aa.out)
 have δ :=Aside0.mk (Qe ac.out)
 have ξ :=Aside0.mk (Qf HB.out)
 clear σ
 clear a0
 clear aa
 clear ac
 clear HB
 have σ:=L
 have a0:=O
 have aa:=X
 have ac:= δ
 have HB:= ξ
 clear L O X δ ξ
 refine Zv (n:=26) (S:=fun w'=>w'.cell? ⟨a8,0,none⟩=some (.int .i64 J)∧w'.cell? ⟨a8,1,none⟩=some (.int .i64 B)∧w'.cell? ⟨a8,2,none⟩=some (.int .i64 Y)∧w'.cell? ⟨a8,3,none⟩=some (.int .i64 Z)∧w'.cell? ⟨a8,4,none⟩=some (.int .i64 γ)∧w'.cell? ⟨a8,5,none⟩=some (.int .i64 ζ)∧w'.cell? ⟨a8,6,none⟩=some (.int .i64 ε)∧w'.cell? ⟨a8,7,none⟩=some (.int .i64 κ)∧w'.cell? ⟨a8,8,none⟩=some (.int .i64 ι)∧w'.cell? ⟨a8,9,none⟩=some (.int .i64 θ)∧w'.cell? ⟨a9,0,none⟩=some (.int .i64 μ)∧w'.cell? ⟨a9,1,none⟩=some (.int .i64 η)∧w'.cell? ⟨a9,2,none⟩=some (.int .i64 ν)∧w'.cell? ⟨a9,3,none⟩=some (.int .i64 τ)∧w'.cell? ⟨a9,4,none⟩=some (.int .i64 ρ)∧w'.cell? ⟨a9,5,none⟩=some (.int .i64 χ)∧w'.cell? ⟨a9,6,none⟩=some (.int .i64 ψ)∧w'.cell? ⟨a9,7,none⟩=some (.int .i64 a1)∧w'.cell? ⟨a9,8,none⟩=some (.bool a2)∧w'.cell? ⟨a9,9,none⟩=some (.bool a5)∧w'.cell? ⟨af,0,none⟩=some (.int .i64 au)∧w'.cell? ⟨af,1,none⟩=some (.int .i64 av)∧w'.cell? ⟨af,2,none⟩=some (.int .i64 aw)∧w'.cell? ⟨ab,0,none⟩=some (.slice al a3.length am)∧w'.cell? ⟨ab,1,none⟩=some (.slice an a4.length ao)∧w'.cell? ⟨ab,2,none⟩=some (.slice ay ae.length az)) (ds:=[]) #[false,false,false,false,false,false,false,false,false,false,false,false,false,false,false,false,false,false,false,false,false,false,false,false,false,false] kr rfl rfl ⟨(Qk σ.out 0).trans rfl,(Qk σ.out 1).trans rfl,(Qk σ.out 2).trans rfl,(Qk σ.out 3).trans rfl,(Qk σ.out 4).trans rfl,(Qk σ.out 5).trans rfl,(Qk σ.out 6).trans rfl,(Qk σ.out 7).trans rfl,(Qk σ.out 8).trans rfl,(Qk σ.out 9).trans rfl,(Qk a0.out 0).trans rfl,(Qk a0.out 1).trans rfl,(Qk a0.out 2).trans rfl,(Qk a0.out 3).trans rfl,(Qk a0.out 4).trans rfl,(Qk a0.out 5).trans rfl,(Qk a0.out 6).trans rfl,(Qk a0.out 7).trans rfl,(Qk a0.out 8).trans rfl,(Qk a0.out 9).trans rfl,(Qk ac.out 0).trans rfl,(Qk ac.out 1).trans rfl,(Qk ac.out 2).trans rfl,(Qk aa.out 0).trans rfl,(Qk aa.out 1).trans rfl,(Qk aa.out 2).trans rfl⟩ (fun hHeld=>?_);refine Zf group_cost.tab3 group_cost.bits3 (fun HT_ HW_=>?_)
 generalize gt.drew=dw at σ a0 aa ac HB hHeld ⊢
 refine qP 0 (some 33) (qB 26 1) HT_ ?_
 refine qP 1 (some 34) (qB 26 3) HT_ ?_
 refine qP 2 (some 35) (qB 26 7) HT_ ?_
 refine qP 4 (some 37) (qB 26 23) HT_ ?_
 refine qP 11 (some 44) (qB 26 2071) HT_ ?_
 refine qP 12 (some 45) (qB 26 6167) HT_ ?_
 refine qP 15 (some 48) (qB 26 38935) HT_ ?_
 refine qP 19 (some 52) (qB 26 563223) HT_ ?_
 refine qT 3 (some 36) (qB 26 563231) HT_ HW_ hHeld ?_
 refine qT 5 (some 38) (qB 26 563263) HT_ HW_ hHeld ?_
 refine qT 6 (some 39) (qB 26 563327) HT_ HW_ hHeld ?_
 refine qT 7 (some 40) (qB 26 563455) HT_ HW_ hHeld ?_
 refine qT 13 (some 46) (qB 26 571647) HT_ HW_ hHeld ?_
 refine qP 14 (some 47) (qB 26 588031) HT_ ?_
 refine qT 16 (some 49) (qB 26 653567) HT_ HW_ hHeld ?_
 refine qP 17 (some 50) (qB 26 784639) HT_ ?_
 refine qP 18 (some 51) (qB 26 1046783) HT_ ?_
 refine qT 20 (some 53) (qB 26 2095359) HT_ HW_ hHeld ?_
 refine qP 21 (some 54) (qB 26 4192511) HT_ ?_
 refine qP 22 (some 55) (qB 26 8386815) HT_ ?_
 refine qP 23 (some 56) (qB 26 16775423) HT_ ?_
 refine Zn (i:=8) (N:=some 41) #[true,true,true,true,true,true,true,true,true,false,false,true,true,true,true,true,true,true,true,true,true,true,true,true,false,false] rfl rfl (Zc HT_.out kr) (by decide) (fun K hK=>?_)
 refine Zm Try.func52 kr rfl #[.int .i64 J,.agg #[.int .i64 μ,.int .i64 η,.int .i64 ν,.int .i64 τ,.int .i64 ρ,.int .i64 χ,.int .i64 ψ,.int .i64 a1,.bool a2,.bool a5],.agg #[.int .i64 au,.int .i64 av,.int .i64 aw]] (by rfl) rfl rfl (by(try simp only[List.map_toArray,List.map_cons,List.map_nil]);first|done|rfl|(simp only[List.length_drop,List.length_take];rfl)) ?_
 with_reducible refine(group_way.calls k J μ η ν τ ρ χ ψ a1 a2 a5 au av aw ax _ A6.out).mono ?_
 rintro e bn ⟨rfl,hb⟩
 refine⟨_,rfl, ?_⟩
 have L:=Aside0.mk (Qh (g:=a8) (o:=.cells #[.int .i64 J,.int .i64 B,.int .i64 Y,.int .i64 Z,.int .i64 γ,.int .i64 ζ,.int .i64 ε,.int .i64 κ,.int .i64 ι,.int .i64 θ] 25 (0,0)) (by(with_reducible repeat first|apply Qb|apply Qe|apply Qc);exact σ.out) hb)
 have O:=Aside0.mk (Qh (g:=a9) (o:=.cells #[.int .i64 μ,.int .i64 η,.int .i64 ν,.int .i64 τ,.int .i64 ρ,.int .i64 χ,.int .i64 ψ,.int .i64 a1,.bool a2,.bool a5] 31 (0,0)) (by(with_reducible repeat first|apply Qb|apply Qe|apply Qc);exact a0.out) hb)
 have X:=Aside0.mk (Qh (g:=ab) (o:=.cells #[.slice al a3.length am,.slice an a4.length ao,.slice ay ae.length az] 34 (0,0)) (by(with_reducible repeat first|apply Qb|apply Qe|apply Qc);exact aa.out) hb)
 have δ :=Aside0.mk (Qh (g:=af) (o:=.cells #[.int .i64 au,.int .i64 av,.int .i64 aw] 36 (0,0)) (by(with_reducible repeat first|apply Qb|apply Qe|apply Qc);exact ac.out) hb)
 have ξ :=Aside0.mk (Qj (by repeat(first|(with_reducible first|exact HB.out|apply Qg|apply Qd|apply Qf|refine Qa ?_ ap.out|refine Qa ?_ ar.out|refine Qa ?_ b0.out|refine Qa ?_ b5.out)|exact HB.out)) hb)
 clear σ
 clear a0
 clear aa
 clear ac
 clear HB
 have σ:=L
 have a0:=O
 have aa:=X
 have ac:= δ
 have HB:= ξ
 clear L O X δ ξ
 (try clear hb)
 (try clear ak)
 (try clear hk)
 (try clear hi)
 refine hK.out _ _ ⟨qc σ,qc σ,qc σ,qc σ,qc σ,qc σ,qc σ,qc σ,qc σ,qc σ,qc a0,qc a0,qc a0,qc a0,qc a0,qc a0,qc a0,qc a0,qc a0,qc a0,qc ac,qc ac,qc ac,qc aa,qc aa,qc aa⟩ (fun hHeld=>?_)
 clear hK K
 refine qN (some 41) ?_
 refine qP 9 (some 42) (qB 26 16776191) HT_ ?_
 refine qP 10 (some 43) (qB 26 16777215) HT_ ?_
 refine qP 24 (some 57) (qB 26 33554431) HT_ ?_
 refine qP 25 (some 8) (qB 26 67108863) HT_ ?_
 refine Xd (Zu HT_.out kr) ?_
 try go_wp2
 go_ret
 exact⟨by first|rfl|(simp[Qo,Qn] <;> rfl)|(simp[*,Qo,Qn] <;> rfl),by repeat(first|(with_reducible first|exact HB.out|apply Qg|apply Qd|apply Qf|refine Qa ?_ ap.out|refine Qa ?_ ar.out|refine Qa ?_ b0.out|refine Qa ?_ b5.out)|exact HB.out)⟩
end Go.Proofs.Ytmfffemidlhcpaa.C
namespace Go.Proofs.Ytmfffemidlhcpaa.GrpPure
open Go.RowKit Go.Proofs.YtmfffemidlhcpaaW.PrintWords Go.Proofs.YtmfffemidlhcpaaW.PrintLast Go.Proofs.YtmfffemidlhcpaaW.PrintMore Go.Proofs.Ytmfffemidlhcpaa.C Go.Proofs.Ytmfffemidlhcpaa.DoorPure
def Xt (a b:Int):Int:=if a<b then b-a else a-b
theorem Y4 {a b:Int} (ha:0≤a∧a≤64) (hb:0≤b∧b≤64):group_dist.f a b=some (Xt a b):=by
  unfold group_dist.f Xt
  rw[w64 (n:=a-b) (by omega),w64 (n:=b-a) (by omega)]
  unfold mx
  congr 1
  split <;> split <;> omega
def J2 (F p d B J:Int):Int:=
  if d=0 then Xt p B else if d=1 then (if d=J then (if p≤B then Xt p B else Xt p (F-1)+Xt (F-1) 0+Xt 0 B) else Xt p (F-1)+Xt (F-1) B)
  else (if d=J then (if B≤p then Xt p B else Xt p 0+Xt 0 (F-1)+Xt (F-1) B) else Xt p 0+Xt 0 B)
theorem Yd {F a b:Int} (ha:0≤a∧a<F) (hb:0≤b∧b<F):0≤Xt a b∧Xt a b≤F-1:=by
  unfold Xt;split <;> omega
theorem N0 {F c0 c1 l7 B:Int} (J c2 c3 c4 c5 c6 X:Int) (l8 l9:Bool) (f:Nat) (hf:2<f) (hF:2≤F∧F≤64) (hc:0≤c0∧c0<F) (hp:0≤c0+c1∧c0+c1<F) (hx:0≤B∧B<F) (hl: -1≤l7∧l7≤1):
    group_way.f f F c0 c1 c2 c3 c4 c5 c6 l7 l8 l9 B J X=some (J2 F (c0+c1) l7 B J):=by
  obtain⟨f,rfl⟩:∃ m,f=m+2:=⟨f-2,by omega⟩
  unfold group_way.f
  rw[w64 (n:=c0+c1) (by omega),w64 (n:=F-1) (by omega)]
  simp only[group_way.j0]
  rw[w64 (n:=B - (c0+c1)) (by omega)]
  have hp':0≤c0+c1∧c0+c1≤64:=by omega
  have hx':0≤B∧B≤64:=by omega
  have hF':0≤F-1∧F-1≤64:=by omega
  have O:(0:Int)≤0∧(0:Int)≤64:=by omega
  have q1:=Yd hp hx
  have q2:=Yd hp (b:=F-1) (by omega)
  have Y:=Yd hp (b:=0) (by omega)
  have q4:=Yd (F:=F) (a:=F-1) (b:=0) (by omega) (by omega)
  have q5:=Yd (F:=F) (a:=0) (b:=F-1) (by omega) (by omega)
  have Z:=Yd (F:=F) (a:=F-1) (b:=B) (by omega) hx
  have q7:=Yd (F:=F) (a:=0) (b:=B) (by omega) hx
  generalize hP:c0+c1=p at *
  have hd:l7=0∨l7=1∨l7 = -1:=by omega
  simp only[group_way.j1,Y4 hp' hx',Y4 hp' hF',Y4 hp' O,Y4 hF' O,Y4 O hF',Y4 hF' hx',Y4 O hx',Option.bind_some]
  unfold J2
  rcases hd with rfl|rfl|rfl
  · simp
  · have z1:¬ (1:Int)=0:=by decide
    have z2:(1:Int)>0:=by decide
    have L:(1:Int)=1:=rfl
    simp only[if_pos z2,if_neg z1,if_true]
    by_cases e:(1:Int)=J
    · simp only[if_pos e,Int.mul_one]
      rw[w64 (n:=B-p) (by omega)]
      by_cases h:p≤B
      · rw[if_pos h,decide_eq_true (by omega),if_pos rfl]
      · rw[if_neg h,decide_eq_false (by omega),if_neg (by decide),w64 (n:=Xt p (F-1)+Xt (F-1) 0) (by omega),w64 (by omega)]
    · simp only[if_neg e]
      rw[if_neg (by decide),w64 (by omega)]
  · have z1:¬ (-1:Int)=0:=by decide
    have z2:¬ (-1:Int)>0:=by decide
    have L:¬ (-1:Int)=1:=by decide
    simp only[if_neg z2,if_neg z1,if_neg L]
    by_cases e:(-1:Int)=J
    · simp only[if_pos e]
      rw[show(B-p) * (-1)=p-B by omega,w64 (n:=p-B) (by omega)]
      by_cases h:B≤p
      · rw[if_pos h,decide_eq_true (by omega),if_pos rfl]
      · rw[if_neg h,decide_eq_false (by omega),if_neg (by decide),w64 (n:=Xt p 0+Xt 0 (F-1)) (by omega),w64 (by omega)]
    · simp only[if_neg e]
      rw[if_neg (by decide),w64 (by omega)]
theorem Gx (F p d B J:Int) (hp:0≤p∧p<F) (hx:0≤B∧B<F):Xt p B≤J2 F p d B J∧J2 F p d B J≤3 * (F-1)∧(d=0→J2 F p d B J=Xt p B):=by
  refine⟨?_, ?_,fun h=>by unfold J2;rw[if_pos h]⟩
  · unfold J2 Xt
    repeat' split
    all_goals omega
  · unfold J2 Xt
    repeat' split
    all_goals omega
def Wg (g0 Y g2 g3 g6 g8 g9 c0 c1 c2 c3 c4 c5 c6 l7 n B J:Int):Int:=
  wrap64 (wrap64 (X3 g3 g6 g8 g9 c2 c3 c4 c5 c6+wrap64 (Y * J2 g0 (c0+c1) l7 B J))+wrap64 (wrap64 (wrap64 (wrap64 (g2+g3)+g8)+g6) * n))
theorem Wk {F c0 c1 c2 c3 c4 c5 c6:Int} (h:Gw F c0 c1 c2 c3 c4 c5 c6):(0≤c0+c1∧c0+c1<F)∧(c2≠1→c1=0):=by
  have h1:=h.1.2.1
  have L:=h.2
  unfold Xj at L
  omega
abbrev Kz (a b c:List Int):Int:=wrap64 (wrap64 ((a.length:Int)+(b.length:Int))+(c.length:Int))
theorem Nf {g0 Y g2 g3 g4 g5 g6 g7 g8 g9 c0 c1 c2 c3 c4 c5 c6 l7 B:Int} (J X:Int) (l8 l9:Bool) (a b c:List Int) (f:Nat) (hf:10<f) (h:G3 g0 Y g2 g3 g4 g5 g6 g7 g8 g9 c0 c1 c2 c3 c4 c5 c6 l7) (hx:0≤B∧B<g0):
    group_cost.f f g0 Y g2 g3 g4 g5 g6 g7 g8 g9 c0 c1 c2 c3 c4 c5 c6 l7 l8 l9 a b c B J X=some (Wg g0 Y g2 g3 g6 g8 g9 c0 c1 c2 c3 c4 c5 c6 l7 (Kz a b c) B J):=by
  unfold group_cost.f
  rw[Jz _ _ _ _ _ _ _ _ _ _ _ _ _ _ _ _ _ f hf,if_pos h.1,N0 J c2 c3 c4 c5 c6 X l8 l9 f (by omega) h.1.1.2.1 h.1.2.1.2.1 (Wk h.1.2).1 hx h.2]
  rfl
end Go.Proofs.Ytmfffemidlhcpaa.GrpPure
