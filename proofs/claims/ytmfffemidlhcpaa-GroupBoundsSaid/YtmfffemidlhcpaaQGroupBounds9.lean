/- Texts of this claim, one behind the other: what the law's functions come to, walked (printed by a program, with the words that the print uses), and what that is, in plain Lean. No conditions of their own. -/
import Derived.Test.YtmfffemidlhcpaaQGroupBounds8
namespace Go.Proofs.Ytmfffemidlhcpaa.C
open Go.RowKit Go.Proofs.YtmfffemidlhcpaaW.PrintWords Go.Proofs.YtmfffemidlhcpaaW.PrintLast Go.Proofs.YtmfffemidlhcpaaW.PrintMore
attribute [local go_sem] Z1 Zz Z9 Z8 Zq Zp Z0 Zy
set_option linter.unusedVariables false
set_option linter.unusedSimpArgs false
mutual
def call_View.l0:Nat→Int→List (S86)→Int→Int→List (S36)→List (S86)→List Int→Option (List Int×List Int×List Int×Int)
 |0,_,_,_,_,_,_,_=>none
 |k+1,X,L,Z,O,J,Y,B=>if O<Z then (if 0≤O then (if O<(L.length:Int) then (if ((Qv L O).f0)=X then (if B.length<17592186044416 then (call_View.l0 k X L Z (wrap64 (O+1)) J Y (B ++ [(Qv L O).f1])) else (none)) else (call_View.l0 k X L Z (wrap64 (O+1)) J Y B)) else (none)) else (none)) else (call_View.l1 k X J (J.length:Int) 0 B ([]:List Int) ([]:List Int))
def call_View.l1:Nat→Int→List (S36)→Int→Int→List Int→List Int→List Int→Option (List Int×List Int×List Int×Int)
 |0,_,_,_,_,_,_,_=>none
 |k+1,X,Y,Z,O,B,J,L=>if O<Z then (if 0≤O then (if O<(Y.length:Int) then (if ((Ql Y O).f2)=X then (if ((Ql Y O).f1)>0 then (if J.length<17592186044416 then (call_View.l1 k X Y Z (wrap64 (O+1)) B (J ++ [(Ql Y O).f0]) L) else (none)) else (if L.length<17592186044416 then (call_View.l1 k X Y Z (wrap64 (O+1)) B J (L ++ [(Ql Y O).f0])) else (none))) else (call_View.l1 k X Y Z (wrap64 (O+1)) B J L)) else (none)) else (none)) else (some (B,J,L,0))
end
def call_View.f (k:Nat) (J:Int) (B:Int) (Y:List (S36)) (γ:List (S86)) (a2:Int):Option (List Int×List Int×List Int×Int):=(call_Check.f k J B Y γ).bind fun ck=>(if ck=0 then ((call_within.f a2 0 (wrap64 (B-1))).bind fun dm=>(if dm=true then (call_View.l0 k a2 γ (γ.length:Int) 0 Y γ ([]:List Int)) else (some (([]:List Int),([]:List Int),([]:List Int),191)))) else (some (([]:List Int),([]:List Int),([]:List Int),ck)))
theorem call_View.Zs:∀ k,(∀ O Y L J X Z y6,LeO (call_View.l0 k O Y L J X Z y6) (call_View.l0 (k+1) O Y L J X Z y6))∧(∀ O Y L J X Z y6,LeO (call_View.l1 k O Y L J X Z y6) (call_View.l1 (k+1) O Y L J X Z y6))
 |0=>⟨fun _ _ _ _ _ _ _ r h=>by simp[call_View.l0] at h,fun _ _ _ _ _ _ _ r h=>by simp[call_View.l1] at h⟩
 |k+1=>by
  obtain⟨B,δ⟩:=call_View.Zs k
  refine⟨?_, ?_⟩
  ·intro O Y L J X Z y6
   unfold call_View.l0
   repeat' first
   |(with_reducible exact B _ _ _ _ _ _ _)
   |(with_reducible exact δ _ _ _ _ _ _ _)
   |(with_reducible exact call_Check.mono _ _ _ _ _)
   |(with_reducible exact LeO.refl _)
   |(with_reducible exact LeO.none _)
   |(with_reducible refine LeO.ite ?_ ?_)
   |(with_reducible refine LeO.bind ?_ (fun _=>?_))
   |exact B _ _ _ _ _ _ _
   |exact δ _ _ _ _ _ _ _
   |exact call_Check.mono _ _ _ _ _
   |exact LeO.none _
   |refine LeO.ite ?_ ?_
   |refine LeO.bind ?_ (fun _=>?_)
  ·intro O Y L J X Z y6
   unfold call_View.l1
   repeat' first
   |(with_reducible exact B _ _ _ _ _ _ _)
   |(with_reducible exact δ _ _ _ _ _ _ _)
   |(with_reducible exact call_Check.mono _ _ _ _ _)
   |(with_reducible exact LeO.refl _)
   |(with_reducible exact LeO.none _)
   |(with_reducible refine LeO.ite ?_ ?_)
   |(with_reducible refine LeO.bind ?_ (fun _=>?_))
   |exact B _ _ _ _ _ _ _
   |exact δ _ _ _ _ _ _ _
   |exact call_Check.mono _ _ _ _ _
   |exact LeO.none _
   |refine LeO.ite ?_ ?_
   |refine LeO.bind ?_ (fun _=>?_)
theorem call_View.mono:∀ J Z a2 a3 L k,LeO (call_View.f k J Z a2 a3 L) (call_View.f (k+1) J Z a2 a3 L):=by
 intro J Z a2 a3 L k
 obtain⟨B,δ⟩:=call_View.Zs k
 unfold call_View.f
 repeat' first
   |(with_reducible exact B _ _ _ _ _ _ _)
   |(with_reducible exact δ _ _ _ _ _ _ _)
   |(with_reducible exact call_Check.mono _ _ _ _ _)
   |(with_reducible exact LeO.refl _)
   |(with_reducible exact LeO.none _)
   |(with_reducible refine LeO.ite ?_ ?_)
   |(with_reducible refine LeO.bind ?_ (fun _=>?_))
   |exact B _ _ _ _ _ _ _
   |exact δ _ _ _ _ _ _ _
   |exact call_Check.mono _ _ _ _ _
   |exact LeO.none _
   |refine LeO.ite ?_ ?_
   |refine LeO.bind ?_ (fun _=>?_)
set_option maxHeartbeats 8000000 in
set_option maxRecDepth 100000 in
theorem call_View.calls (k:Nat) (J:Int) (B:Int) (μ :Option Addr) (η :Nat) (Y:List (S36)) (κ :Option Addr) (θ :Nat) (γ:List (S86)) (a2:Int) (r1:List Int) (r2:List Int) (r3:List Int) (r4:Int) (w:World) (bm:Kd.C k36 w μ Y.length Y) (bn:Y.length ≤ η) (bv:Kd.C k86 w κ γ.length γ) (bw:γ.length ≤ θ) (h:call_View.f k J B Y γ a2=some (r1,r2,r3,r4)):
  Calls Try.prog 24 #[.agg #[.int .i64 J,.int .i64 B],.agg #[.slice μ Y.length η,.slice κ γ.length θ],.int .i64 a2] w fun e w'=>∃ bk fj fy:Value,e = .returned (.tuple #[.agg #[bk,fj,fy],.int .i64 r4])∧Kd.R (Kd.int .i64) 3 w' w.heap.size (fun k_=>some k_≠(fj:Value).ownBlock∧some k_≠(fy:Value).ownBlock) bk r1∧Kd.R (Kd.int .i64) 3 w' w.heap.size (fun k_=>some k_≠(bk:Value).ownBlock∧some k_≠(fy:Value).ownBlock) fj r2∧Kd.R (Kd.int .i64) 3 w' w.heap.size (fun k_=>some k_≠(bk:Value).ownBlock∧some k_≠(fj:Value).ownBlock) fy r3∧Below w.heap.size w w':=by
 have eb:=Try.underlying59
 have fe:=Try.underlying50
 have ga:=Try.underlying34
 have ea:=Try.underlying86
 have da:=Try.underlying36
 have be:=Aside0.mk bm
 have bz:=Aside0.mk bn
 clear bm bn
 have bf:=Aside0.mk bv
 have ca:=Aside0.mk bw
 clear bv bw
 have HB:=Aside0.mk (Below.refl w.heap.size w)
 have H:((call_Check.f k J B Y γ).bind fun ck=>(if ck=0 then ((call_within.f a2 0 (wrap64 (B-1))).bind fun dm=>(if dm=true then (call_View.l0 k a2 γ (γ.length:Int) 0 Y γ ([]:List Int)) else (some (([]:List Int),([]:List Int),([]:List Int),191)))) else (some (([]:List Int),([]:List Int),([]:List Int),ck))))=some (r1,r2,r3,r4):=h
 clear h
 replace H:=Option.bind_eq_some_iff.mp H
 obtain⟨ck,br,H⟩:=H
 replace H:(if ck=0 then ((call_within.f a2 0 (wrap64 (B-1))).bind fun dm=>(if dm=true then (call_View.l0 k a2 γ (γ.length:Int) 0 Y γ ([]:List Int)) else (some (([]:List Int),([]:List Int),([]:List Int),191)))) else (some (([]:List Int),([]:List Int),([]:List Int),ck)))=some (r1,r2,r3,r4):=H
 have A4:=Aside0.mk br
 clear br
 by_cases c5:ck=0
 ·rw[if_pos c5] at H
  have c5b0:(ck==0)=true:=beq_iff_eq.mpr c5
  have c5b1:(ck != 0)=false:=bne_eq_false_iff_eq.mpr c5
  clear c5
  replace H:=Option.bind_eq_some_iff.mp H
  obtain⟨dm,bc,H⟩:=H
  replace H:(if dm=true then (call_View.l0 k a2 γ (γ.length:Int) 0 Y γ ([]:List Int)) else (some (([]:List Int),([]:List Int),([]:List Int),191)))=some (r1,r2,r3,r4):=H
  have A6:=Aside0.mk bc
  clear bc
  by_cases c7:dm=true
  ·subst c7
   have H1:(call_View.l0 k a2 γ (γ.length:Int) 0 Y γ ([]:List Int))=some (r1,r2,r3,r4):=by rw[if_pos rfl] at H;exact H
   clear H
   have H:=H1
   clear H1
   have H':=Aside0.mk H
   clear H
   go_enter Try.func24,Try.ntmps24
   go_wp2_with (first|((with_reducible refine Qr (N:=3) rfl ?_);refine Qq ?hg (N:=3) ?hd (cs:=#[.int .i64 J,.int .i64 B]) (t:=59) ?hr ?_;(case hd=>rfl);(case hg=>rfl);(case hr=>first|(go_simp;done)|(go_simp;rfl));intro ι hg w8 hbox hb;have L:=Aside0.mk (Qj (by repeat(first|(with_reducible first|exact HB.out|apply Qg|apply Qd|apply Qf)|exact HB.out)) hb);have O:=Aside0.mk (hbox);have X:=Aside0.mk ((by rw[hg];exact(Qi (by repeat(first|(with_reducible first|exact HB.out|apply Qg|apply Qd|apply Qf)|exact HB.out))):w.heap.size ≤ ι));have δ :=Aside0.mk ((by rw[hg];exact(Qi (by repeat(first|(with_reducible first|exact HB.out|apply Qg|apply Qd|apply Qf)|exact HB.out))):w.heap.size ≤ ι));clear HB;have HB:=L;have Z:=O;have g0:=X;have ψ := δ;clear L O X δ;clear hb hbox hg)|((with_reducible refine Qr (N:=4) rfl ?_);refine Qq ?hg (N:=4) ?hd (cs:=#[.slice μ Y.length η,.slice κ γ.length θ]) (t:=50) ?hr ?_;(case hd=>rfl);(case hg=>rfl);(case hr=>first|(go_simp;done)|(go_simp;rfl));intro τ hg w9 hbox hb;have L:=Aside0.mk (Qh (g:= ι) (o:=.cells #[.int .i64 J,.int .i64 B] 59 (0,0)) (by(with_reducible repeat first|apply Qb|apply Qe|apply Qc);exact Z.out) hb);have O:=Aside0.mk (Qj (by repeat(first|(with_reducible first|exact HB.out|apply Qg|apply Qd|apply Qf|refine Qa ?_ ψ.out)|exact HB.out)) hb);have X:=Aside0.mk (hbox);have δ :=Aside0.mk ((by rw[hg];exact(Qi (by repeat(first|(with_reducible first|exact HB.out|apply Qg|apply Qd|apply Qf|refine Qa ?_ ψ.out)|exact HB.out))):w.heap.size ≤ τ));have ξ :=Aside0.mk ((by rw[hg];exact(Qi (by repeat(first|(with_reducible first|exact HB.out|apply Qg|apply Qd|apply Qf|refine Qa ?_ ψ.out)|exact HB.out))):w.heap.size ≤ τ));have φ :=Aside0.mk ((by rw[hg];exact Nat.ne_of_lt (Qp (g:= ι) (o:=.cells #[.int .i64 J,.int .i64 B] 59 (0,0)) (by(with_reducible repeat first|apply Qb|apply Qe|apply Qc);exact Z.out)): ι ≠ τ));have ω :=Aside0.mk ((by rw[hg];exact Nat.ne_of_gt (Qp (g:= ι) (o:=.cells #[.int .i64 J,.int .i64 B] 59 (0,0)) (by(with_reducible repeat first|apply Qb|apply Qe|apply Qc);exact Z.out)): τ ≠ ι));clear Z;clear HB;have Z:=L;have HB:=O;have ζ :=X;have g1:= δ;have a0:= ξ;have cn:= φ;have cy:= ω;clear L O X δ ξ φ ω;clear hb hbox hg)|((with_reducible refine Qr (N:=6) rfl ?_);refine Qq ?hg (N:=6) ?hd (cs:=#[.slice none 0 0,.slice none 0 0,.slice none 0 0]) (t:=34) ?hr ?_;(case hd=>rfl);(case hg=>rfl);(case hr=>first|(go_simp;done)|(go_simp;rfl));intro σ hg ig hbox hb;have L:=Aside0.mk (Qh (g:= ι) (o:=.cells #[.int .i64 J,.int .i64 B] 59 (0,0)) (by(with_reducible repeat first|apply Qb|apply Qe|apply Qc);exact Z.out) hb);have O:=Aside0.mk (Qh (g:= τ) (o:=.cells #[.slice μ Y.length η,.slice κ γ.length θ] 50 (0,0)) (by(with_reducible repeat first|apply Qb|apply Qe|apply Qc);exact ζ.out) hb);have X:=Aside0.mk (Qj (by repeat(first|(with_reducible first|exact HB.out|apply Qg|apply Qd|apply Qf|refine Qa ?_ ψ.out|refine Qa ?_ a0.out)|exact HB.out)) hb);have δ :=Aside0.mk (hbox);have ξ :=Aside0.mk ((by rw[hg];exact(Qi (by repeat(first|(with_reducible first|exact HB.out|apply Qg|apply Qd|apply Qf|refine Qa ?_ ψ.out|refine Qa ?_ a0.out)|exact HB.out))):w.heap.size≤σ));have φ :=Aside0.mk ((by rw[hg];exact(Qi (by repeat(first|(with_reducible first|exact HB.out|apply Qg|apply Qd|apply Qf|refine Qa ?_ ψ.out|refine Qa ?_ a0.out)|exact HB.out))):w.heap.size≤σ));have ω :=Aside0.mk ((by rw[hg];exact Nat.ne_of_lt (Qp (g:= ι) (o:=.cells #[.int .i64 J,.int .i64 B] 59 (0,0)) (by(with_reducible repeat first|apply Qb|apply Qe|apply Qc);exact Z.out)): ι ≠ σ));have a6:=Aside0.mk ((by rw[hg];exact Nat.ne_of_gt (Qp (g:= ι) (o:=.cells #[.int .i64 J,.int .i64 B] 59 (0,0)) (by(with_reducible repeat first|apply Qb|apply Qe|apply Qc);exact Z.out)):σ ≠ ι));have a7:=Aside0.mk ((by rw[hg];exact Nat.ne_of_lt (Qp (g:= τ) (o:=.cells #[.slice μ Y.length η,.slice κ γ.length θ] 50 (0,0)) (by(with_reducible repeat first|apply Qb|apply Qe|apply Qc);exact ζ.out)): τ ≠ σ));have ag:=Aside0.mk ((by rw[hg];exact Nat.ne_of_gt (Qp (g:= τ) (o:=.cells #[.slice μ Y.length η,.slice κ γ.length θ] 50 (0,0)) (by(with_reducible repeat first|apply Qb|apply Qe|apply Qc);exact ζ.out)):σ ≠ τ));clear Z;clear ζ;clear HB;have Z:=L;have ζ :=O;have HB:=X;have ν := δ;have g4:= ξ;have a4:= φ;have cz:= ω;have d0:=a6;have bu:=a7;have cd:=ag;clear L O X δ ξ φ ω a6 a7 ag;clear hb hbox hg;have gs:=cn.out;have gx:=cy.out;have gb:=cz.out;have ge:=d0.out;obtain⟨bb,ci,bg,co⟩:=qD2 Z.out;have g8:=bu.out;have g9:=cd.out;obtain⟨cu,cv,cw,cx⟩:=qD2 ζ.out)|((with_reducible refine Qt (f:=40) rfl ?_);refine Q7 (some 16) rfl rfl Try.func40 kr rfl #[.agg #[.int .i64 J,.int .i64 B],.agg #[.slice μ Y.length η,.slice κ γ.length θ]] rfl (by(try simp only[List.map_toArray,List.map_cons,List.map_nil]);first|done|rfl|(simp only[List.length_drop,List.length_take];rfl)) ?_;(with_reducible refine(call_Check.calls k J B _ _ Y _ _ γ ck _ ?side1 ?side2 ?side3 ?side4 A4.out).mono ?_);(case side1=>repeat(first|exact(Kd.Q0 be.out HB.out)|(with_reducible refine Kd.Q3 ?_ _)|(with_reducible refine Kd.Q2 ?_ _)|(with_reducible refine Kd.Q9 ?_)));(case side2=>exact bz.out);(case side3=>repeat(first|exact(Kd.Q0 bf.out HB.out)|(with_reducible refine Kd.Q3 ?_ _)|(with_reducible refine Kd.Q2 ?_ _)|(with_reducible refine Kd.Q9 ?_)));(case side4=>exact ca.out);rintro e df ⟨rfl,hb⟩;refine⟨_,rfl, ?_⟩;have L:=Aside0.mk (Qh (g:= ι) (o:=.cells #[.int .i64 J,.int .i64 B] 59 (0,0)) (by(with_reducible repeat first|apply Qb|apply Qe|apply Qc);exact Z.out) hb);have O:=Aside0.mk (Qh (g:= τ) (o:=.cells #[.slice μ Y.length η,.slice κ γ.length θ] 50 (0,0)) (by(with_reducible repeat first|apply Qb|apply Qe|apply Qc);exact ζ.out) hb);have X:=Aside0.mk (Qh (g:=σ) (o:=.cells #[.slice none 0 0,.slice none 0 0,.slice none 0 0] 34 (0,0)) (by(with_reducible repeat first|apply Qb|apply Qe|apply Qc);exact ν.out) hb);have δ :=Aside0.mk (Qj (by repeat(first|(with_reducible first|exact HB.out|apply Qg|apply Qd|apply Qf|refine Qa ?_ ψ.out|refine Qa ?_ a0.out|refine Qa ?_ a4.out)|exact HB.out)) hb);clear Z;clear ζ;clear ν;clear HB;have Z:=L;have ζ :=O;have ν :=X;have HB:= δ;clear L O X δ;(try clear hb);(try clear ak);(try clear hk);(try clear hi);obtain⟨b6,b7,b8,b9⟩:=qD2 Z.out)|((with_reducible refine Qt (f:=44) rfl ?_);refine Q7 (some 25) rfl rfl Try.func44 kr rfl #[.int .i64 a2,.int .i64 0,.int .i64 (wrap64 (B-1))] rfl (by(try simp only[List.map_toArray,List.map_cons,List.map_nil]);first|done|rfl|(simp only[List.length_drop,List.length_take];rfl)) ?_;(with_reducible refine(call_within.calls a2 0 (wrap64 (B-1)) true _ A6.out).mono ?_);rintro e w' ⟨rfl,⟨nd,rfl⟩⟩;refine⟨_,rfl, ?_⟩;(try(rw[Yi df];generalize hq_:World.drewN df _=df;have L:Aside0 (df.heap[ι]?=some (.cells #[.int .i64 J,.int .i64 B] 59 (0,0))):=⟨by rw[← hq_];exact(by(with_reducible repeat first|apply Qb|apply Qe|apply Qc);exact Z.out)⟩;have O:Aside0 (df.heap[τ]?=some (.cells #[.slice μ Y.length η,.slice κ γ.length θ] 50 (0,0))):=⟨by rw[← hq_];exact(by(with_reducible repeat first|apply Qb|apply Qe|apply Qc);exact ζ.out)⟩;have X:Aside0 (df.heap[σ]?=some (.cells #[.slice none 0 0,.slice none 0 0,.slice none 0 0] 34 (0,0))):=⟨by rw[← hq_];exact(by(with_reducible repeat first|apply Qb|apply Qe|apply Qc);exact ν.out)⟩;have δ :Aside0 (Below w.heap.size w df):=⟨by rw[← hq_];exact(by repeat(first|(with_reducible first|exact HB.out|apply Qg|apply Qd|apply Qf|refine Qa ?_ ψ.out|refine Qa ?_ a0.out|refine Qa ?_ a4.out)|exact HB.out))⟩;clear Z ζ ν HB hq_;have Z:=L;have ζ :=O;have ν :=X;have HB:= δ;clear L O X δ));(try(have cp:df.cell? ⟨ι,0,none⟩=some (.int .i64 J):=(Qk Z.out 0).trans rfl));(try(have cq:df.cell? ⟨ι,1,none⟩=some (.int .i64 B):=(Qk Z.out 1).trans rfl));(try(have cr:=Qz Z.out 0));(try(have ct:=Qz Z.out 1)))|((with_reducible refine Qr (N:=9) rfl ?_);refine Qq ?hg (N:=9) ?hd (cs:=#[.slice none 0 0,.slice none 0 0,.slice none 0 0]) (t:=34) ?hr ?_;(case hd=>rfl);(case hg=>rfl);(case hr=>first|(go_simp;done)|(go_simp;rfl));intro a3 hg ba hbox hb;have L:=Aside0.mk (Qh (g:= ι) (o:=.cells #[.int .i64 J,.int .i64 B] 59 (0,0)) (by(with_reducible repeat first|apply Qb|apply Qe|apply Qc);exact Z.out) hb);have O:=Aside0.mk (Qh (g:= τ) (o:=.cells #[.slice μ Y.length η,.slice κ γ.length θ] 50 (0,0)) (by(with_reducible repeat first|apply Qb|apply Qe|apply Qc);exact ζ.out) hb);have X:=Aside0.mk (Qh (g:=σ) (o:=.cells #[.slice none 0 0,.slice none 0 0,.slice none 0 0] 34 (0,0)) (by(with_reducible repeat first|apply Qb|apply Qe|apply Qc);exact ν.out) hb);have δ :=Aside0.mk (Qj (by repeat(first|(with_reducible first|exact HB.out|apply Qg|apply Qd|apply Qf|refine Qa ?_ ψ.out|refine Qa ?_ a0.out|refine Qa ?_ a4.out)|exact HB.out)) hb);have ξ :=Aside0.mk (hbox);have φ :=Aside0.mk ((by rw[hg];exact(Qi (by repeat(first|(with_reducible first|exact HB.out|apply Qg|apply Qd|apply Qf|refine Qa ?_ ψ.out|refine Qa ?_ a0.out|refine Qa ?_ a4.out)|exact HB.out))):w.heap.size≤a3));have ω :=Aside0.mk ((by rw[hg];exact(Qi (by repeat(first|(with_reducible first|exact HB.out|apply Qg|apply Qd|apply Qf|refine Qa ?_ ψ.out|refine Qa ?_ a0.out|refine Qa ?_ a4.out)|exact HB.out))):w.heap.size≤a3));have a6:=Aside0.mk ((by rw[hg];exact Nat.ne_of_lt (Qp (g:= ι) (o:=.cells #[.int .i64 J,.int .i64 B] 59 (0,0)) (by(with_reducible repeat first|apply Qb|apply Qe|apply Qc);exact Z.out)): ι ≠ a3));have a7:=Aside0.mk ((by rw[hg];exact Nat.ne_of_gt (Qp (g:= ι) (o:=.cells #[.int .i64 J,.int .i64 B] 59 (0,0)) (by(with_reducible repeat first|apply Qb|apply Qe|apply Qc);exact Z.out)):a3 ≠ ι));have ag:=Aside0.mk ((by rw[hg];exact Nat.ne_of_lt (Qp (g:= τ) (o:=.cells #[.slice μ Y.length η,.slice κ γ.length θ] 50 (0,0)) (by(with_reducible repeat first|apply Qb|apply Qe|apply Qc);exact ζ.out)): τ ≠ a3));have ah:=Aside0.mk ((by rw[hg];exact Nat.ne_of_gt (Qp (g:= τ) (o:=.cells #[.slice μ Y.length η,.slice κ γ.length θ] 50 (0,0)) (by(with_reducible repeat first|apply Qb|apply Qe|apply Qc);exact ζ.out)):a3 ≠ τ));have ai:=Aside0.mk ((by rw[hg];exact Nat.ne_of_lt (Qp (g:=σ) (o:=.cells #[.slice none 0 0,.slice none 0 0,.slice none 0 0] 34 (0,0)) (by(with_reducible repeat first|apply Qb|apply Qe|apply Qc);exact ν.out)):σ≠a3));have aj:=Aside0.mk ((by rw[hg];exact Nat.ne_of_gt (Qp (g:=σ) (o:=.cells #[.slice none 0 0,.slice none 0 0,.slice none 0 0] 34 (0,0)) (by(with_reducible repeat first|apply Qb|apply Qe|apply Qc);exact ν.out)):a3≠σ));clear Z;clear ζ;clear ν;clear HB;have Z:=L;have ζ :=O;have ν :=X;have HB:= δ;have χ := ξ;have ni:= φ;have ab:= ω;have b2:=a6;have d6:=a7;have b0:=ag;have d1:=ah;have b3:=ai;have d7:=aj;clear L O X δ ξ φ ω a6 a7 ag ah ai aj;clear hb hbox hg;have gg:=d6.out;have j2:=b2.out;have j3:=d1.out;have jl:=b0.out;have g6:=d7.out;have gn:=b3.out;obtain⟨fb,fg,fh,fi,fk,fl⟩:=qD3 χ.out;obtain⟨bo,bp,bq,bs⟩:=qD2 ζ.out))
   go_loopg [32] k (fun kq mh w'=>∃ (a5:Int) (aa:List Int) (a1:Value),mh = .int .i64 a5∧Aside0 (call_View.l0 kq a2 γ (γ.length:Int) a5 Y γ aa=some (r1,r2,r3,r4))∧Aside0 (kq≤k)∧Aside0 (Kd.R (Kd.int .i64) 3 w' w.heap.size (fun _=>True) a1 aa)∧Aside0 (w'.heap[ι]?=some (.cells #[.int .i64 J,.int .i64 B] 59 (0,0)))∧Aside0 (w'.heap[τ]?=some (.cells #[(.slice μ Y.length η),(.slice κ γ.length θ)] 50 (0,0)))∧Aside0 (w'.heap[σ]?=some (.cells #[(.slice none 0 0),(.slice none 0 0),(.slice none 0 0)] 34 (0,0)))∧Aside0 (w'.heap[a3]?=some (.cells #[a1,(.slice none 0 0),(.slice none 0 0)] 34 (0,0)))∧Aside0 (Below w.heap.size w w'))
   case atStart=>exact⟨(0),(([]:List Int)),(.slice none 0 0),qR,H',⟨Nat.le_refl _⟩,⟨by first|exact Kd.Xw _ _ _ _ _|exact Kd.Yp _ _ _ _ _|exact Kd.Yl _ _ _ _ _|exact Kd.Yo _ _ _ _ _|exact Kd.Ym _ _ _ _ _⟩,⟨by(with_reducible repeat first|apply Qb|apply Qe|apply Qc);refine Qs ?_ b2.out _;(with_reducible repeat first|apply Qb|apply Qe|apply Qc);refine Qs ?_ b2.out _;(with_reducible repeat first|apply Qb|apply Qe|apply Qc);refine Qs ?_ b2.out _;(with_reducible repeat first|apply Qb|apply Qe|apply Qc);exact Z.out⟩,⟨by(with_reducible repeat first|apply Qb|apply Qe|apply Qc);refine Qs ?_ b0.out _;(with_reducible repeat first|apply Qb|apply Qe|apply Qc);refine Qs ?_ b0.out _;(with_reducible repeat first|apply Qb|apply Qe|apply Qc);refine Qs ?_ b0.out _;(with_reducible repeat first|apply Qb|apply Qe|apply Qc);exact ζ.out⟩,⟨by(with_reducible repeat first|apply Qb|apply Qe|apply Qc);refine Qs ?_ b3.out _;(with_reducible repeat first|apply Qb|apply Qe|apply Qc);refine Qs ?_ b3.out _;(with_reducible repeat first|apply Qb|apply Qe|apply Qc);refine Qs ?_ b3.out _;(with_reducible repeat first|apply Qb|apply Qe|apply Qc);exact ν.out⟩,⟨by(with_reducible repeat first|apply Qb|apply Qe|apply Qc);refine Qu (cs:=#[.slice none 0 0,.slice none 0 0,.slice none 0 0]) ?_ 2 _ rfl;(with_reducible repeat first|apply Qb|apply Qe|apply Qc);refine Qu (cs:=#[.slice none 0 0,.slice none 0 0,.slice none 0 0]) ?_ 1 _ rfl;(with_reducible repeat first|apply Qb|apply Qe|apply Qc);refine Qu (cs:=#[.slice none 0 0,.slice none 0 0,.slice none 0 0]) ?_ 0 _ rfl;(with_reducible repeat first|apply Qb|apply Qe|apply Qc);exact χ.out⟩,⟨by repeat(first|(with_reducible first|exact HB.out|apply Qg|apply Qd|apply Qf|refine Qa ?_ ψ.out|refine Qa ?_ a0.out|refine Qa ?_ a4.out|refine Qa ?_ ab.out)|exact HB.out)⟩⟩
   case round=>
    clear H'
    try clear c1
    try clear c2
    try clear p2
    try clear c4
    try clear c5
    try clear c5b0
    try clear c5b1
    try clear p6
    try clear c7
    try clear aw
    try clear b4
    try clear al
    try clear cb
    try clear av
    try clear fw
    try clear dw
    try clear bb
    try clear ci
    try clear cu
    try clear cv
    try clear b6
    try clear b7
    try clear cp
    try clear cq
    try clear fb
    try clear fg
    try clear fh
    try clear bo
    try clear bp
    try clear bg
    try clear co
    try clear cw
    try clear cx
    try clear b8
    try clear b9
    try clear cr
    try clear ct
    try clear fi
    try clear fk
    try clear fl
    try clear bq
    try clear bs
    obtain⟨a5,aa,a1,rfl,HA,az,HO_510000,Z,ζ,ν,χ,HB⟩:=hrel
    cases gk with
    |zero=>exact absurd HA.out (by simp[call_View.l0])
    |succ k1=>
     have H:=HA.out
     clear HA
     simp only[call_View.l0] at H
     by_cases b5:a5<(γ.length:Int)
     ·rw[if_pos b5] at H
      have c25b0:decide (a5<(γ.length:Int))=true:=decide_eq_true b5
      clear b5
      by_cases bh:0≤a5
      ·rw[if_pos bh] at H
       have c26b0:decide (0≤a5)=true:=decide_eq_true bh
       clear bh
       by_cases ev:a5<(γ.length:Int)
       ·rw[if_pos ev] at H
        have c27b0:decide (a5<(γ.length:Int))=true:=decide_eq_true ev
        clear ev
        by_cases dq:((Qv γ a5).f0)=a2
        ·rw[if_pos dq] at H
         have c28b0:(((Qv γ a5).f0)==a2)=true:=beq_iff_eq.mpr dq
         have c28b1:(((Qv γ a5).f0) != a2)=false:=bne_eq_false_iff_eq.mpr dq
         clear dq
         by_cases cm:aa.length<17592186044416
         ·rw[if_pos cm] at H
          have hu:=Aside0.mk cm
          clear cm
          obtain⟨fo,dy⟩:∃ y_:List Int,y_=(aa ++ [(Qv γ a5).f1]):=⟨_,rfl⟩
          replace H:(call_View.l0 k1 a2 γ (γ.length:Int) (wrap64 (a5+1)) Y γ fo)=some (r1,r2,r3,r4):=by first|(rw[dy];with_reducible exact H)|(have ax:=(Option.bind_some _ _).symm.trans H;rw[dy];with_reducible exact ax)|(have ax:=(Option.bind_some _ _).symm.trans H;with_reducible exact ax)|with_reducible exact H|(rw[dy];exact H)|exact H
          have hy:=Aside0.mk dy
          clear dy
          have H':=Aside0.mk H
          clear H
          have dp:0≤(a5:Int):=of_decide_eq_true (by first|(with_reducible assumption)|assumption)
          have dr:a5<(γ.length:Int):=of_decide_eq_true (by first|(with_reducible assumption)|assumption)
          obtain⟨dk,fv,d2,d3⟩:=Y6 bf.out a5 dp dr
          cases fv
          replace d2:=(HB.out.cell (World.block_lt_of_cell? w _ d2)).trans d2
          replace d3:=(HB.out.cell (World.block_lt_of_cell? w _ d3)).trans d3
          replace dp:=eq_true dp
          replace dr:=eq_true dr
          go_wp2_with (first|((with_reducible refine Qr (N:=11) rfl ?_);refine Qq ?hg (N:=11) ?hd (cs:=#[.int .i64 0,.int .i64 0]) (t:=86) ?hr ?_;(case hd=>rfl);(case hg=>rfl);(case hr=>first|(go_simp;done)|(go_simp;rfl));intro ac hg ep hbox hb;have L:=Aside0.mk (Kd.Za (by(with_reducible repeat first|apply Kd.Qx|apply Kd.Qw|apply Kd.Qy);exact HO_510000.out) hb);have O:=Aside0.mk (Qh (g:= ι) (o:=.cells #[.int .i64 J,.int .i64 B] 59 (0,0)) (by(with_reducible repeat first|apply Qb|apply Qe|apply Qc);exact Z.out) hb);have X:=Aside0.mk (Qh (g:= τ) (o:=.cells #[.slice μ Y.length η,.slice (some dk) γ.length θ] 50 (0,0)) (by(with_reducible repeat first|apply Qb|apply Qe|apply Qc);exact ζ.out) hb);have δ :=Aside0.mk (Qh (g:=σ) (o:=.cells #[.slice none 0 0,.slice none 0 0,.slice none 0 0] 34 (0,0)) (by(with_reducible repeat first|apply Qb|apply Qe|apply Qc);exact ν.out) hb);have ξ :=Aside0.mk (Qh (g:=a3) (o:=.cells #[a1,.slice none 0 0,.slice none 0 0] 34 (0,0)) (by(with_reducible repeat first|apply Qb|apply Qe|apply Qc);exact χ.out) hb);have φ :=Aside0.mk (Qj (by repeat(first|(with_reducible first|exact HB.out|apply Qg|apply Qd|apply Qf|refine Qa ?_ ψ.out|refine Qa ?_ a0.out|refine Qa ?_ a4.out|refine Qa ?_ ab.out)|exact HB.out)) hb);have ω :=Aside0.mk (hbox);have a6:=Aside0.mk ((by rw[hg];exact(Qi (by repeat(first|(with_reducible first|exact HB.out|apply Qg|apply Qd|apply Qf|refine Qa ?_ ψ.out|refine Qa ?_ a0.out|refine Qa ?_ a4.out|refine Qa ?_ ab.out)|exact HB.out))):w.heap.size≤ac));have a7:=Aside0.mk ((by rw[hg];exact(Qi (by repeat(first|(with_reducible first|exact HB.out|apply Qg|apply Qd|apply Qf|refine Qa ?_ ψ.out|refine Qa ?_ a0.out|refine Qa ?_ a4.out|refine Qa ?_ ab.out)|exact HB.out))):w.heap.size≤ac));have ag:=Aside0.mk ((by rw[hg];exact Nat.ne_of_lt (Qp (g:= ι) (o:=.cells #[.int .i64 J,.int .i64 B] 59 (0,0)) (by(with_reducible repeat first|apply Qb|apply Qe|apply Qc);exact Z.out)): ι ≠ ac));have ah:=Aside0.mk ((by rw[hg];exact Nat.ne_of_gt (Qp (g:= ι) (o:=.cells #[.int .i64 J,.int .i64 B] 59 (0,0)) (by(with_reducible repeat first|apply Qb|apply Qe|apply Qc);exact Z.out)):ac ≠ ι));have ai:=Aside0.mk ((by rw[hg];exact Nat.ne_of_lt (Qp (g:= τ) (o:=.cells #[.slice μ Y.length η,.slice (some dk) γ.length θ] 50 (0,0)) (by(with_reducible repeat first|apply Qb|apply Qe|apply Qc);exact ζ.out)): τ ≠ ac));have aj:=Aside0.mk ((by rw[hg];exact Nat.ne_of_gt (Qp (g:= τ) (o:=.cells #[.slice μ Y.length η,.slice (some dk) γ.length θ] 50 (0,0)) (by(with_reducible repeat first|apply Qb|apply Qe|apply Qc);exact ζ.out)):ac ≠ τ));have ay:=Aside0.mk ((by rw[hg];exact Nat.ne_of_lt (Qp (g:=σ) (o:=.cells #[.slice none 0 0,.slice none 0 0,.slice none 0 0] 34 (0,0)) (by(with_reducible repeat first|apply Qb|apply Qe|apply Qc);exact ν.out)):σ≠ac));have b1:=Aside0.mk ((by rw[hg];exact Nat.ne_of_gt (Qp (g:=σ) (o:=.cells #[.slice none 0 0,.slice none 0 0,.slice none 0 0] 34 (0,0)) (by(with_reducible repeat first|apply Qb|apply Qe|apply Qc);exact ν.out)):ac≠σ));have ao:=Aside0.mk ((by rw[hg];exact Nat.ne_of_lt (Qp (g:=a3) (o:=.cells #[a1,.slice none 0 0,.slice none 0 0] 34 (0,0)) (by(with_reducible repeat first|apply Qb|apply Qe|apply Qc);exact χ.out)):a3≠ac));have bd:=Aside0.mk ((by rw[hg];exact Nat.ne_of_gt (Qp (g:=a3) (o:=.cells #[a1,.slice none 0 0,.slice none 0 0] 34 (0,0)) (by(with_reducible repeat first|apply Qb|apply Qe|apply Qc);exact χ.out)):ac≠a3));clear HO_510000;clear Z;clear ζ;clear ν;clear χ;clear HB;have HO_510000:=L;have Z:=O;have ζ :=X;have ν := δ;have χ := ξ;have HB:= φ;have dd:= ω;have i0:=a6;have dz:=a7;have ce:=ag;have dt:=ah;have cf:=ai;have du:=aj;have cg:=ay;have dv:=b1;have ch:=ao;have dx:=bd;clear L O X δ ξ φ ω a6 a7 ag ah ai aj ay b1 ao bd;clear hb hbox hg;have h8:=dt.out;have h9:=ce.out;have g3:=du.out;have gt:=cf.out;have kj:=dv.out;have kk:=cg.out;have kv:=dx.out;have kw:=ch.out;obtain⟨eo,ey,ft,g2⟩:=qD2 dd.out;have kb:=d6.out;have kc:=b2.out;have nj:=d1.out;have nk:=b0.out;have i4:=d7.out;have i5:=b3.out;obtain⟨gm,gp,gq,gy,gz,h0⟩:=qD3 χ.out)|((with_reducible refine Xq (b:=.append) (xs:=#[.tmp 41,.tmp 44]) rfl ?_);at_builtin;refine Kd.Gn (Kd.int .i64) (w0:=w) w.heap.size rfl (.tmp 41) (.tmp 44) 32 3 (.int .i64 0) 8 rfl Try.underlying32 Wd rfl (by decide) (by omega) a1 aa ((Qv γ a5).f1) [.int .i64 ((Qv γ a5).f1)] (fun _=>True) (fun _=>False) rfl (by first|(go_simp;done)|(go_simp;rfl)) ?aP (fun _ hk=>hk.elim) ?aF ?aO ?aB ?aS ?aL ?_;(case aP=>exact rfl);(case aB=>exact(by repeat(first|(with_reducible first|exact HB.out|apply Qg|apply Qd|apply Qf|refine Qa ?_ ψ.out|refine Qa ?_ a0.out|refine Qa ?_ a4.out|refine Qa ?_ ab.out|refine Qa ?_ dz.out)|exact HB.out)));(case aF=>exact(fun _ _=>trivial));(case aO=>exact(by(with_reducible repeat first|apply Kd.Qx|apply Kd.Qw|apply Kd.Qy);exact Kd.Q5 (Kd.Q1 (p:=⟨ac,1,none⟩) (Kd.Q1 (p:=⟨ac,0,none⟩) (Kd.Zd HO_510000.out dd.out (by decide)) (fun _ hk=>hk.2) (.int .i64 ((Qv γ a5).f0))) (fun _ hk=>hk.2) (.int .i64 ((Qv γ a5).f1))) (fun _ hk=>trivial)));(case aS=>exact(Qi (by repeat(first|(with_reducible first|exact HB.out|apply Qg|apply Qd|apply Qf|refine Qa ?_ ψ.out|refine Qa ?_ a0.out|refine Qa ?_ a4.out|refine Qa ?_ ab.out|refine Qa ?_ dz.out)|exact HB.out))));(case aL=>have:=hu.out;omega);intro o5 kd ho hb hg hat;rw[← hy.out] at ho;have L:=Aside0.mk (Q8 (g:= ι) (o:=.cells #[.int .i64 J,.int .i64 B] 59 (0,0)) (by(with_reducible repeat first|apply Qb|apply Qe|apply Qc);refine Qs ?_ ce.out _;(with_reducible repeat first|apply Qb|apply Qe|apply Qc);refine Qs ?_ ce.out _;(with_reducible repeat first|apply Qb|apply Qe|apply Qc);exact Z.out) hg (Kd.Xg HO_510000.out Z.out (by decide)));have O:=Aside0.mk (Q8 (g:= τ) (o:=.cells #[.slice μ Y.length η,.slice (some dk) γ.length θ] 50 (0,0)) (by(with_reducible repeat first|apply Qb|apply Qe|apply Qc);refine Qs ?_ cf.out _;(with_reducible repeat first|apply Qb|apply Qe|apply Qc);refine Qs ?_ cf.out _;(with_reducible repeat first|apply Qb|apply Qe|apply Qc);exact ζ.out) hg (Kd.Xg HO_510000.out ζ.out (by decide)));have X:=Aside0.mk (Q8 (g:=σ) (o:=.cells #[.slice none 0 0,.slice none 0 0,.slice none 0 0] 34 (0,0)) (by(with_reducible repeat first|apply Qb|apply Qe|apply Qc);refine Qs ?_ cg.out _;(with_reducible repeat first|apply Qb|apply Qe|apply Qc);refine Qs ?_ cg.out _;(with_reducible repeat first|apply Qb|apply Qe|apply Qc);exact ν.out) hg (Kd.Xg HO_510000.out ν.out (by decide)));have δ :=Aside0.mk (Q8 (g:=a3) (o:=.cells #[a1,.slice none 0 0,.slice none 0 0] 34 (0,0)) (by(with_reducible repeat first|apply Qb|apply Qe|apply Qc);refine Qs ?_ ch.out _;(with_reducible repeat first|apply Qb|apply Qe|apply Qc);refine Qs ?_ ch.out _;(with_reducible repeat first|apply Qb|apply Qe|apply Qc);exact χ.out) hg (Kd.Xg HO_510000.out χ.out (by decide)));have ξ :=Aside0.mk (Q8 (g:=ac) (o:=.cells #[.int .i64 ((Qv γ a5).f0),.int .i64 ((Qv γ a5).f1)] 86 (0,0)) (by(with_reducible repeat first|apply Qb|apply Qe|apply Qc);refine Qu (cs:=#[.int .i64 ((Qv γ a5).f0),.int .i64 0]) ?_ 1 _ rfl;(with_reducible repeat first|apply Qb|apply Qe|apply Qc);refine Qu (cs:=#[.int .i64 0,.int .i64 0]) ?_ 0 _ rfl;(with_reducible repeat first|apply Qb|apply Qe|apply Qc);exact dd.out) hg (Kd.Xg HO_510000.out dd.out (by decide)));have φ :=Aside0.mk (hb);have ω :=Aside0.mk (ho);clear Z;clear ζ;clear ν;clear χ;clear dd;clear HB;clear HO_510000;have Z:=L;have ζ :=O;have ν :=X;have χ := δ;have dd:= ξ;have HB:= φ;have g5:= ω;clear L O X δ ξ φ ω;clear ho hb hg hat;obtain⟨gl,gr,ib⟩:=Kd.Ze g5.out;subst ib;obtain⟨ek,el,en,et,eu,fa⟩:=qD3 χ.out))
          go_roundg k1
          case measure=>have:=az.out;omega
          case rel=>exact⟨(wrap64 (a5+1)),(fo),(.slice gl fo.length gr),qR,H',⟨by have:=az.out;omega⟩,⟨by(with_reducible repeat first|apply Kd.Qx|apply Kd.Qw|apply Kd.Qy);exact Kd.Q5 (Kd.Q1 (p:=⟨a3,0,none⟩) (Kd.Zd g5.out χ.out (by decide)) (fun _ hk=>hk.2) (.slice gl fo.length gr)) (fun _ hk=>trivial)⟩,⟨by(with_reducible repeat first|apply Qb|apply Qe|apply Qc);refine Qs ?_ b2.out _;(with_reducible repeat first|apply Qb|apply Qe|apply Qc);exact Z.out⟩,⟨by(with_reducible repeat first|apply Qb|apply Qe|apply Qc);refine Qs ?_ b0.out _;(with_reducible repeat first|apply Qb|apply Qe|apply Qc);exact ζ.out⟩,⟨by(with_reducible repeat first|apply Qb|apply Qe|apply Qc);refine Qs ?_ b3.out _;(with_reducible repeat first|apply Qb|apply Qe|apply Qc);exact ν.out⟩,⟨by(with_reducible repeat first|apply Qb|apply Qe|apply Qc);refine Qu (cs:=#[a1,.slice none 0 0,.slice none 0 0]) ?_ 0 _ rfl;(with_reducible repeat first|apply Qb|apply Qe|apply Qc);exact χ.out⟩,⟨by repeat(first|(with_reducible first|exact HB.out|apply Qg|apply Qd|apply Qf|refine Qa ?_ ψ.out|refine Qa ?_ a0.out|refine Qa ?_ a4.out|refine Qa ?_ ab.out|refine Qa ?_ dz.out)|exact HB.out)⟩⟩
         ·rw[if_neg cm] at H
          exact absurd H (by simp)
        ·rw[if_neg dq] at H
         have c28b0:(((Qv γ a5).f0)==a2)=false:=beq_eq_false_iff_ne.mpr dq
         have c28b1:(((Qv γ a5).f0) != a2)=true:=bne_iff_ne.mpr dq
         have H':=Aside0.mk H
         clear H
         have dp:0≤(a5:Int):=of_decide_eq_true (by first|(with_reducible assumption)|assumption)
         have dr:a5<(γ.length:Int):=of_decide_eq_true (by first|(with_reducible assumption)|assumption)
         obtain⟨dk,fv,d2,d3⟩:=Y6 bf.out a5 dp dr
         cases fv
         replace d2:=(HB.out.cell (World.block_lt_of_cell? w _ d2)).trans d2
         replace d3:=(HB.out.cell (World.block_lt_of_cell? w _ d3)).trans d3
         replace dp:=eq_true dp
         replace dr:=eq_true dr
         go_wp2_with (first|((with_reducible refine Qr (N:=11) rfl ?_);refine Qq ?hg (N:=11) ?hd (cs:=#[.int .i64 0,.int .i64 0]) (t:=86) ?hr ?_;(case hd=>rfl);(case hg=>rfl);(case hr=>first|(go_simp;done)|(go_simp;rfl));intro ac hg ka hbox hb;have L:=Aside0.mk (Kd.Za (by(with_reducible repeat first|apply Kd.Qx|apply Kd.Qw|apply Kd.Qy);exact HO_510000.out) hb);have O:=Aside0.mk (Qh (g:= ι) (o:=.cells #[.int .i64 J,.int .i64 B] 59 (0,0)) (by(with_reducible repeat first|apply Qb|apply Qe|apply Qc);exact Z.out) hb);have X:=Aside0.mk (Qh (g:= τ) (o:=.cells #[.slice μ Y.length η,.slice (some dk) γ.length θ] 50 (0,0)) (by(with_reducible repeat first|apply Qb|apply Qe|apply Qc);exact ζ.out) hb);have δ :=Aside0.mk (Qh (g:=σ) (o:=.cells #[.slice none 0 0,.slice none 0 0,.slice none 0 0] 34 (0,0)) (by(with_reducible repeat first|apply Qb|apply Qe|apply Qc);exact ν.out) hb);have ξ :=Aside0.mk (Qh (g:=a3) (o:=.cells #[a1,.slice none 0 0,.slice none 0 0] 34 (0,0)) (by(with_reducible repeat first|apply Qb|apply Qe|apply Qc);exact χ.out) hb);have φ :=Aside0.mk (Qj (by repeat(first|(with_reducible first|exact HB.out|apply Qg|apply Qd|apply Qf|refine Qa ?_ ψ.out|refine Qa ?_ a0.out|refine Qa ?_ a4.out|refine Qa ?_ ab.out)|exact HB.out)) hb);have ω :=Aside0.mk (hbox);have a6:=Aside0.mk ((by rw[hg];exact(Qi (by repeat(first|(with_reducible first|exact HB.out|apply Qg|apply Qd|apply Qf|refine Qa ?_ ψ.out|refine Qa ?_ a0.out|refine Qa ?_ a4.out|refine Qa ?_ ab.out)|exact HB.out))):w.heap.size≤ac));have a7:=Aside0.mk ((by rw[hg];exact(Qi (by repeat(first|(with_reducible first|exact HB.out|apply Qg|apply Qd|apply Qf|refine Qa ?_ ψ.out|refine Qa ?_ a0.out|refine Qa ?_ a4.out|refine Qa ?_ ab.out)|exact HB.out))):w.heap.size≤ac));have ag:=Aside0.mk ((by rw[hg];exact Nat.ne_of_lt (Qp (g:= ι) (o:=.cells #[.int .i64 J,.int .i64 B] 59 (0,0)) (by(with_reducible repeat first|apply Qb|apply Qe|apply Qc);exact Z.out)): ι ≠ ac));have ah:=Aside0.mk ((by rw[hg];exact Nat.ne_of_gt (Qp (g:= ι) (o:=.cells #[.int .i64 J,.int .i64 B] 59 (0,0)) (by(with_reducible repeat first|apply Qb|apply Qe|apply Qc);exact Z.out)):ac ≠ ι));have ai:=Aside0.mk ((by rw[hg];exact Nat.ne_of_lt (Qp (g:= τ) (o:=.cells #[.slice μ Y.length η,.slice (some dk) γ.length θ] 50 (0,0)) (by(with_reducible repeat first|apply Qb|apply Qe|apply Qc);exact ζ.out)): τ ≠ ac));have aj:=Aside0.mk ((by rw[hg];exact Nat.ne_of_gt (Qp (g:= τ) (o:=.cells #[.slice μ Y.length η,.slice (some dk) γ.length θ] 50 (0,0)) (by(with_reducible repeat first|apply Qb|apply Qe|apply Qc);exact ζ.out)):ac ≠ τ));have ay:=Aside0.mk ((by rw[hg];exact Nat.ne_of_lt (Qp (g:=σ) (o:=.cells #[.slice none 0 0,.slice none 0 0,.slice none 0 0] 34 (0,0)) (by(with_reducible repeat first|apply Qb|apply Qe|apply Qc);exact ν.out)):σ≠ac));have b1:=Aside0.mk ((by rw[hg];exact Nat.ne_of_gt (Qp (g:=σ) (o:=.cells #[.slice none 0 0,.slice none 0 0,.slice none 0 0] 34 (0,0)) (by(with_reducible repeat first|apply Qb|apply Qe|apply Qc);exact ν.out)):ac≠σ));have ao:=Aside0.mk ((by rw[hg];exact Nat.ne_of_lt (Qp (g:=a3) (o:=.cells #[a1,.slice none 0 0,.slice none 0 0] 34 (0,0)) (by(with_reducible repeat first|apply Qb|apply Qe|apply Qc);exact χ.out)):a3≠ac));have bd:=Aside0.mk ((by rw[hg];exact Nat.ne_of_gt (Qp (g:=a3) (o:=.cells #[a1,.slice none 0 0,.slice none 0 0] 34 (0,0)) (by(with_reducible repeat first|apply Qb|apply Qe|apply Qc);exact χ.out)):ac≠a3));clear HO_510000;clear Z;clear ζ;clear ν;clear χ;clear HB;have HO_510000:=L;have Z:=O;have ζ :=X;have ν := δ;have χ := ξ;have HB:= φ;have dd:= ω;have i0:=a6;have dz:=a7;have ce:=ag;have dt:=ah;have cf:=ai;have du:=aj;have cg:=ay;have dv:=b1;have ch:=ao;have dx:=bd;clear L O X δ ξ φ ω a6 a7 ag ah ai aj ay b1 ao bd;clear hb hbox hg;have iv:=dt.out;have iw:=ce.out;have he:=du.out;have hh:=cf.out;have gw:=dv.out;have hj:=cg.out;have j4:=dx.out;have j5:=ch.out;obtain⟨ec,ed,ee,ef⟩:=qD2 dd.out))
         go_roundg k1
         case measure=>have:=az.out;omega
         case rel=>exact⟨(wrap64 (a5+1)),(aa),(a1),qR,H',⟨by have:=az.out;omega⟩,⟨by(with_reducible repeat first|apply Kd.Qx|apply Kd.Qw|apply Kd.Qy);exact Kd.Q5 (Kd.Q1 (p:=⟨ac,1,none⟩) (Kd.Q1 (p:=⟨ac,0,none⟩) (Kd.Zd HO_510000.out dd.out (by decide)) (fun _ hk=>hk.2) (.int .i64 ((Qv γ a5).f0))) (fun _ hk=>hk.2) (.int .i64 ((Qv γ a5).f1))) (fun _ hk=>trivial)⟩,⟨by(with_reducible repeat first|apply Qb|apply Qe|apply Qc);refine Qs ?_ ce.out _;(with_reducible repeat first|apply Qb|apply Qe|apply Qc);refine Qs ?_ ce.out _;(with_reducible repeat first|apply Qb|apply Qe|apply Qc);exact Z.out⟩,⟨by(with_reducible repeat first|apply Qb|apply Qe|apply Qc);refine Qs ?_ cf.out _;(with_reducible repeat first|apply Qb|apply Qe|apply Qc);refine Qs ?_ cf.out _;(with_reducible repeat first|apply Qb|apply Qe|apply Qc);exact ζ.out⟩,⟨by(with_reducible repeat first|apply Qb|apply Qe|apply Qc);refine Qs ?_ cg.out _;(with_reducible repeat first|apply Qb|apply Qe|apply Qc);refine Qs ?_ cg.out _;(with_reducible repeat first|apply Qb|apply Qe|apply Qc);exact ν.out⟩,⟨by(with_reducible repeat first|apply Qb|apply Qe|apply Qc);refine Qs ?_ ch.out _;(with_reducible repeat first|apply Qb|apply Qe|apply Qc);refine Qs ?_ ch.out _;(with_reducible repeat first|apply Qb|apply Qe|apply Qc);exact χ.out⟩,⟨by repeat(first|(with_reducible first|exact HB.out|apply Qg|apply Qd|apply Qf|refine Qa ?_ ψ.out|refine Qa ?_ a0.out|refine Qa ?_ a4.out|refine Qa ?_ ab.out|refine Qa ?_ dz.out)|exact HB.out)⟩⟩
       ·rw[if_neg ev] at H
        exact absurd H (by simp)
      ·rw[if_neg bh] at H
       exact absurd H (by simp)
     ·rw[if_neg b5] at H
      have c25b0:decide (a5<(γ.length:Int))=false:=decide_eq_false b5
      clear b5
      have H':=Aside0.mk H
      clear H
      have iz:=cy.out
      have jk:=cn.out
      have fx:=bu.out
      have fz:=cd.out
      have j6:=b0.out
      have j7:=d1.out
      obtain⟨e4,e5,e6,e7⟩:=qD2 ζ.out
      go_wp2
      go_loopg [51] k1 (fun kq mi w'=>∃ (ε :Int) (ae:List Int) (au:List Int) (a8:Value) (a9:Value),mi = .int .i64 ε ∧ Aside0 (call_View.l1 kq a2 Y (Y.length:Int) ε aa ae au=some (r1,r2,r3,r4))∧Aside0 (kq≤k1)∧Aside0 (Kd.R (Kd.int .i64) 3 w' w.heap.size (fun k_=>some k_≠(a8:Value).ownBlock∧some k_≠(a9:Value).ownBlock) a1 aa)∧Aside0 (Kd.R (Kd.int .i64) 3 w' w.heap.size (fun k_=>some k_≠(a1:Value).ownBlock∧some k_≠(a9:Value).ownBlock) a8 ae)∧Aside0 (Kd.R (Kd.int .i64) 3 w' w.heap.size (fun k_=>some k_≠(a1:Value).ownBlock∧some k_≠(a8:Value).ownBlock) a9 au)∧Aside0 (w'.heap[ι]?=some (.cells #[.int .i64 J,.int .i64 B] 59 (0,0)))∧Aside0 (w'.heap[τ]?=some (.cells #[(.slice μ Y.length η),(.slice κ γ.length θ)] 50 (0,0)))∧Aside0 (w'.heap[σ]?=some (.cells #[(.slice none 0 0),(.slice none 0 0),(.slice none 0 0)] 34 (0,0)))∧Aside0 (w'.heap[a3]?=some (.cells #[a1,a8,a9] 34 (0,0)))∧Aside0 (Below w.heap.size w w'))
      case atStart=>exact⟨(0),(([]:List Int)),(([]:List Int)),(.slice none 0 0),(.slice none 0 0),qR,H',⟨Nat.le_refl _⟩,⟨by(with_reducible repeat first|apply Kd.Qx|apply Kd.Qw|apply Kd.Qy);exact Kd.Q5 HO_510000.out (fun _ hk=>⟨(by simp[Value.ownBlock]),(by simp[Value.ownBlock])⟩)⟩,⟨by first|exact Kd.Xw _ _ _ _ _|exact Kd.Yp _ _ _ _ _|exact Kd.Yl _ _ _ _ _|exact Kd.Yo _ _ _ _ _|exact Kd.Ym _ _ _ _ _⟩,⟨by first|exact Kd.Xw _ _ _ _ _|exact Kd.Yp _ _ _ _ _|exact Kd.Yl _ _ _ _ _|exact Kd.Yo _ _ _ _ _|exact Kd.Ym _ _ _ _ _⟩,⟨by(with_reducible repeat first|apply Qb|apply Qe|apply Qc);exact Z.out⟩,⟨by(with_reducible repeat first|apply Qb|apply Qe|apply Qc);exact ζ.out⟩,⟨by(with_reducible repeat first|apply Qb|apply Qe|apply Qc);exact ν.out⟩,⟨by(with_reducible repeat first|apply Qb|apply Qe|apply Qc);exact χ.out⟩,⟨by repeat(first|(with_reducible first|exact HB.out|apply Qg|apply Qd|apply Qf|refine Qa ?_ ψ.out|refine Qa ?_ a0.out|refine Qa ?_ a4.out|refine Qa ?_ ab.out)|exact HB.out)⟩⟩
      case round=>
       clear H'
       try clear c1
       try clear c2
       try clear p2
       try clear c3
       try clear c4
       try clear c5
       try clear c5b0
       try clear c5b1
       try clear p5
       try clear q5
       try clear qg
       try clear p6
       try clear c7
       try clear aw
       try clear b4
       try clear al
       try clear cb
       try clear av
       try clear fw
       try clear dw
       try clear b5
       try clear c25b0
       try clear bh
       try clear c26b0
       try clear ev
       try clear c27b0
       try clear dq
       try clear c28b0
       try clear c28b1
       try clear cm
       try clear oh
       try clear oi
       try clear gu
       try clear gv
       try clear hx
       try clear dh
       try clear er
       try clear ei
       try clear qh
       try clear qi
       try clear nv
       try clear g7
       try clear ew
       try clear oj
       try clear jj
       try clear p51
       try clear ol
       try clear o6
       try clear bb
       try clear ci
       try clear cu
       try clear cv
       try clear b6
       try clear b7
       try clear cp
       try clear cq
       try clear fb
       try clear fg
       try clear fh
       try clear bo
       try clear bp
       try clear eo
       try clear ey
       try clear gm
       try clear gp
       try clear gq
       try clear ek
       try clear el
       try clear en
       try clear ec
       try clear ed
       try clear e4
       try clear e5
       try clear bg
       try clear co
       try clear cw
       try clear cx
       try clear b8
       try clear b9
       try clear cr
       try clear ct
       try clear fi
       try clear fk
       try clear fl
       try clear bq
       try clear bs
       try clear ft
       try clear g2
       try clear gy
       try clear gz
       try clear h0
       try clear et
       try clear eu
       try clear fa
       try clear ee
       try clear ef
       try clear e6
       try clear e7
       try clear d2
       try clear d3
       try clear p2
       try clear dp
       try clear p6
       try clear dr
       obtain⟨ε,ae,au,a8,a9,rfl,HA,eg,HO_510000,HO_510001,HO_510002,Z,ζ,ν,χ,HB⟩:=hrel
       cases gk with
       |zero=>exact absurd HA.out (by simp[call_View.l1])
       |succ k2=>
        have H:=HA.out
        clear HA
        simp only[call_View.l1] at H
        by_cases i3: ε < (Y.length:Int)
        ·rw[if_pos i3] at H
         have c53b0:decide (ε < (Y.length:Int))=true:=decide_eq_true i3
         clear i3
         by_cases jc:0 ≤ ε
         ·rw[if_pos jc] at H
          have c54b0:decide (0 ≤ ε)=true:=decide_eq_true jc
          clear jc
          by_cases gf: ε < (Y.length:Int)
          ·rw[if_pos gf] at H
           have c55b0:decide (ε < (Y.length:Int))=true:=decide_eq_true gf
           clear gf
           by_cases ff:((Ql Y ε).f2)=a2
           ·rw[if_pos ff] at H
            have c56b0:(((Ql Y ε).f2)==a2)=true:=beq_iff_eq.mpr ff
            have c56b1:(((Ql Y ε).f2) != a2)=false:=bne_eq_false_iff_eq.mpr ff
            clear ff
            by_cases fn:((Ql Y ε).f1)>0
            ·rw[if_pos fn] at H
             have c57b0:decide (0<((Ql Y ε).f1))=true:=decide_eq_true fn
             clear fn
             by_cases dn:ae.length<17592186044416
             ·rw[if_pos dn] at H
              have i1:=Aside0.mk dn
              clear dn
              obtain⟨eh,e0⟩:∃ y_:List Int,y_=(ae ++ [(Ql Y ε).f0]):=⟨_,rfl⟩
              replace H:(call_View.l1 k2 a2 Y (Y.length:Int) (wrap64 (ε + 1)) aa eh au)=some (r1,r2,r3,r4):=by first|(rw[e0];with_reducible exact H)|(have ax:=(Option.bind_some _ _).symm.trans H;rw[e0];with_reducible exact ax)|(have ax:=(Option.bind_some _ _).symm.trans H;with_reducible exact ax)|with_reducible exact H|(rw[e0];exact H)|exact H
              have i2:=Aside0.mk e0
              clear e0
              have H':=Aside0.mk H
              clear H
              have di:0≤(ε :Int):=of_decide_eq_true (by first|(with_reducible assumption)|assumption)
              have dj: ε < (Y.length:Int):=of_decide_eq_true (by first|(with_reducible assumption)|assumption)
              obtain⟨cj,fm,bi,bj,bl⟩:=Xz be.out ε di dj
              cases fm
              replace bi:=(HB.out.cell (World.block_lt_of_cell? w _ bi)).trans bi
              replace bj:=(HB.out.cell (World.block_lt_of_cell? w _ bj)).trans bj
              replace bl:=(HB.out.cell (World.block_lt_of_cell? w _ bl)).trans bl
              replace di:=eq_true di
              replace dj:=eq_true dj
              go_wp2_with (first|((with_reducible refine Qr (N:=13) rfl ?_);refine Qq ?hg (N:=13) ?hd (cs:=#[.int .i64 0,.int .i64 0,.int .i64 0]) (t:=36) ?hr ?_;(case hd=>rfl);(case hg=>rfl);(case hr=>first|(go_simp;done)|(go_simp;rfl));intro ρ hg om hbox hb;have L:=Aside0.mk (Kd.Za (by(with_reducible repeat first|apply Kd.Qx|apply Kd.Qw|apply Kd.Qy);exact HO_510000.out) hb);have O:=Aside0.mk (Kd.Za (by(with_reducible repeat first|apply Kd.Qx|apply Kd.Qw|apply Kd.Qy);exact HO_510001.out) hb);have X:=Aside0.mk (Kd.Za (by(with_reducible repeat first|apply Kd.Qx|apply Kd.Qw|apply Kd.Qy);exact HO_510002.out) hb);have δ :=Aside0.mk (Qh (g:= ι) (o:=.cells #[.int .i64 J,.int .i64 B] 59 (0,0)) (by(with_reducible repeat first|apply Qb|apply Qe|apply Qc);exact Z.out) hb);have ξ :=Aside0.mk (Qh (g:= τ) (o:=.cells #[.slice (some cj) Y.length η,.slice κ γ.length θ] 50 (0,0)) (by(with_reducible repeat first|apply Qb|apply Qe|apply Qc);exact ζ.out) hb);have φ :=Aside0.mk (Qh (g:=σ) (o:=.cells #[.slice none 0 0,.slice none 0 0,.slice none 0 0] 34 (0,0)) (by(with_reducible repeat first|apply Qb|apply Qe|apply Qc);exact ν.out) hb);have ω :=Aside0.mk (Qh (g:=a3) (o:=.cells #[a1,a8,a9] 34 (0,0)) (by(with_reducible repeat first|apply Qb|apply Qe|apply Qc);exact χ.out) hb);have a6:=Aside0.mk (Qj (by repeat(first|(with_reducible first|exact HB.out|apply Qg|apply Qd|apply Qf|refine Qa ?_ ψ.out|refine Qa ?_ a0.out|refine Qa ?_ a4.out|refine Qa ?_ ab.out)|exact HB.out)) hb);have a7:=Aside0.mk (hbox);have ag:=Aside0.mk ((by rw[hg];exact(Qi (by repeat(first|(with_reducible first|exact HB.out|apply Qg|apply Qd|apply Qf|refine Qa ?_ ψ.out|refine Qa ?_ a0.out|refine Qa ?_ a4.out|refine Qa ?_ ab.out)|exact HB.out))):w.heap.size≤ρ));have ah:=Aside0.mk ((by rw[hg];exact(Qi (by repeat(first|(with_reducible first|exact HB.out|apply Qg|apply Qd|apply Qf|refine Qa ?_ ψ.out|refine Qa ?_ a0.out|refine Qa ?_ a4.out|refine Qa ?_ ab.out)|exact HB.out))):w.heap.size≤ρ));have ai:=Aside0.mk ((by rw[hg];exact Nat.ne_of_lt (Qp (g:= ι) (o:=.cells #[.int .i64 J,.int .i64 B] 59 (0,0)) (by(with_reducible repeat first|apply Qb|apply Qe|apply Qc);exact Z.out)): ι ≠ ρ));have aj:=Aside0.mk ((by rw[hg];exact Nat.ne_of_gt (Qp (g:= ι) (o:=.cells #[.int .i64 J,.int .i64 B] 59 (0,0)) (by(with_reducible repeat first|apply Qb|apply Qe|apply Qc);exact Z.out)):ρ ≠ ι));have ay:=Aside0.mk ((by rw[hg];exact Nat.ne_of_lt (Qp (g:= τ) (o:=.cells #[.slice (some cj) Y.length η,.slice κ γ.length θ] 50 (0,0)) (by(with_reducible repeat first|apply Qb|apply Qe|apply Qc);exact ζ.out)): τ ≠ ρ));have b1:=Aside0.mk ((by rw[hg];exact Nat.ne_of_gt (Qp (g:= τ) (o:=.cells #[.slice (some cj) Y.length η,.slice κ γ.length θ] 50 (0,0)) (by(with_reducible repeat first|apply Qb|apply Qe|apply Qc);exact ζ.out)):ρ ≠ τ));have ao:=Aside0.mk ((by rw[hg];exact Nat.ne_of_lt (Qp (g:=σ) (o:=.cells #[.slice none 0 0,.slice none 0 0,.slice none 0 0] 34 (0,0)) (by(with_reducible repeat first|apply Qb|apply Qe|apply Qc);exact ν.out)):σ≠ρ));have bd:=Aside0.mk ((by rw[hg];exact Nat.ne_of_gt (Qp (g:=σ) (o:=.cells #[.slice none 0 0,.slice none 0 0,.slice none 0 0] 34 (0,0)) (by(with_reducible repeat first|apply Qb|apply Qe|apply Qc);exact ν.out)):ρ≠σ));have d4:=Aside0.mk ((by rw[hg];exact Nat.ne_of_lt (Qp (g:=a3) (o:=.cells #[a1,a8,a9] 34 (0,0)) (by(with_reducible repeat first|apply Qb|apply Qe|apply Qc);exact χ.out)):a3≠ρ));have d5:=Aside0.mk ((by rw[hg];exact Nat.ne_of_gt (Qp (g:=a3) (o:=.cells #[a1,a8,a9] 34 (0,0)) (by(with_reducible repeat first|apply Qb|apply Qe|apply Qc);exact χ.out)):ρ≠a3));clear HO_510000;clear HO_510001;clear HO_510002;clear Z;clear ζ;clear ν;clear χ;clear HB;have HO_510000:=L;have HO_510001:=O;have HO_510002:=X;have Z:= δ;have ζ := ξ;have ν := φ;have χ := ω;have HB:=a6;have af:=a7;have gh:=ag;have de:=ah;have am:=ai;have d8:=aj;have an:=ay;have d9:=b1;have ap:=ao;have db:=bd;have ar:=d4;have dc:=d5;clear L O X δ ξ φ ω a6 a7 ag ah ai aj ay b1 ao bd d4 d5;clear hb hbox hg;have jm:=d8.out;have jn:=am.out;have j8:=d9.out;have js:=an.out;have mz:=db.out;have n0:=ap.out;have jt:=dc.out;have ju:=ar.out;obtain⟨h4,h5,lp,h6,h7,lq⟩:=qD3 af.out;have ha:=d6.out;have hl:=b2.out;have nl:=d1.out;have nm:=b0.out;have n1:=d7.out;have n2:=b3.out;obtain⟨mo,mq,mr,ms,mt,mu⟩:=qD3 χ.out)|((with_reducible refine Xq (b:=.append) (xs:=#[.tmp 72,.tmp 75]) rfl ?_);at_builtin;refine Kd.Gn (Kd.int .i64) (w0:=w) w.heap.size rfl (.tmp 72) (.tmp 75) 32 3 (.int .i64 0) 8 rfl Try.underlying32 Wd rfl (by decide) (by omega) a8 ae ((Ql Y ε).f0) [.int .i64 ((Ql Y ε).f0)] (fun k_=>some k_≠(a1:Value).ownBlock∧some k_≠(a9:Value).ownBlock) (fun _=>False) rfl (by first|(go_simp;done)|(go_simp;rfl)) ?aP (fun _ hk=>hk.elim) ?aF ?aO ?aB ?aS ?aL ?_;(case aP=>exact rfl);(case aB=>exact(by repeat(first|(with_reducible first|exact HB.out|apply Qg|apply Qd|apply Qf|refine Qa ?_ ψ.out|refine Qa ?_ a0.out|refine Qa ?_ a4.out|refine Qa ?_ ab.out|refine Qa ?_ de.out)|exact HB.out)));(case aF=>exact(fun k_ hk=>⟨Kd.fresh' (Kd.Mh (by(with_reducible repeat first|apply Kd.Qx|apply Kd.Qw|apply Kd.Qy);exact(Kd.Q5 (Kd.Q1 (p:=⟨ρ,2,none⟩) (Kd.Q1 (p:=⟨ρ,1,none⟩) (Kd.Q1 (p:=⟨ρ,0,none⟩) (Kd.Zd HO_510000.out af.out (by decide)) (fun _ hk=>hk.2) (.int .i64 ((Ql Y ε).f0))) (fun _ hk=>hk.2) (.int .i64 ((Ql Y ε).f1))) (fun _ hk=>hk.2) (.int .i64 ((Ql Y ε).f2))) (fun _ h_=>h_.1)))) k_ hk,Kd.fresh' (Kd.Mh (by(with_reducible repeat first|apply Kd.Qx|apply Kd.Qw|apply Kd.Qy);exact(Kd.Q5 (Kd.Q1 (p:=⟨ρ,2,none⟩) (Kd.Q1 (p:=⟨ρ,1,none⟩) (Kd.Q1 (p:=⟨ρ,0,none⟩) (Kd.Zd HO_510002.out af.out (by decide)) (fun _ hk=>hk.2) (.int .i64 ((Ql Y ε).f0))) (fun _ hk=>hk.2) (.int .i64 ((Ql Y ε).f1))) (fun _ hk=>hk.2) (.int .i64 ((Ql Y ε).f2))) (fun _ h_=>h_.1)))) k_ hk⟩));(case aO=>exact(by(with_reducible repeat first|apply Kd.Qx|apply Kd.Qw|apply Kd.Qy);exact Kd.Q5 (Kd.Q1 (p:=⟨ρ,2,none⟩) (Kd.Q1 (p:=⟨ρ,1,none⟩) (Kd.Q1 (p:=⟨ρ,0,none⟩) (Kd.Zd HO_510001.out af.out (by decide)) (fun _ hk=>hk.2) (.int .i64 ((Ql Y ε).f0))) (fun _ hk=>hk.2) (.int .i64 ((Ql Y ε).f1))) (fun _ hk=>hk.2) (.int .i64 ((Ql Y ε).f2))) (fun _ hk=>⟨hk.1.1,hk.1.2⟩)));(case aS=>exact(Qi (by repeat(first|(with_reducible first|exact HB.out|apply Qg|apply Qd|apply Qf|refine Qa ?_ ψ.out|refine Qa ?_ a0.out|refine Qa ?_ a4.out|refine Qa ?_ ab.out|refine Qa ?_ de.out)|exact HB.out))));(case aL=>have:=i1.out;omega);intro o7 oo ho hb hg hat;rw[← i2.out] at ho;have L:=Aside0.mk (Kd.Kv (ok:=(fun k_=>some k_≠(a9:Value).ownBlock)) (by(with_reducible repeat first|apply Kd.Qx|apply Kd.Qw|apply Kd.Qy);exact Kd.Q5 (Kd.Q1 (p:=⟨ρ,2,none⟩) (Kd.Q1 (p:=⟨ρ,1,none⟩) (Kd.Q1 (p:=⟨ρ,0,none⟩) (Kd.Zd HO_510000.out af.out (by decide)) (fun _ hk=>hk.2) (.int .i64 ((Ql Y ε).f0))) (fun _ hk=>hk.2) (.int .i64 ((Ql Y ε).f1))) (fun _ hk=>hk.2) (.int .i64 ((Ql Y ε).f2))) (fun _ hk=>⟨hk.1.2,hk.1.1⟩)) hg hat);have O:=Aside0.mk (Kd.Kv (ok:=(fun k_=>some k_≠(a1:Value).ownBlock)) (by(with_reducible repeat first|apply Kd.Qx|apply Kd.Qw|apply Kd.Qy);exact Kd.Q5 (Kd.Q1 (p:=⟨ρ,2,none⟩) (Kd.Q1 (p:=⟨ρ,1,none⟩) (Kd.Q1 (p:=⟨ρ,0,none⟩) (Kd.Zd HO_510002.out af.out (by decide)) (fun _ hk=>hk.2) (.int .i64 ((Ql Y ε).f0))) (fun _ hk=>hk.2) (.int .i64 ((Ql Y ε).f1))) (fun _ hk=>hk.2) (.int .i64 ((Ql Y ε).f2))) (fun _ hk=>⟨hk.1.1,hk.1.2⟩)) hg hat);have X:=Aside0.mk (Q8 (g:= ι) (o:=.cells #[.int .i64 J,.int .i64 B] 59 (0,0)) (by(with_reducible repeat first|apply Qb|apply Qe|apply Qc);refine Qs ?_ am.out _;(with_reducible repeat first|apply Qb|apply Qe|apply Qc);refine Qs ?_ am.out _;(with_reducible repeat first|apply Qb|apply Qe|apply Qc);refine Qs ?_ am.out _;(with_reducible repeat first|apply Qb|apply Qe|apply Qc);exact Z.out) hg (Kd.Xg HO_510001.out Z.out (by decide)));have δ :=Aside0.mk (Q8 (g:= τ) (o:=.cells #[.slice (some cj) Y.length η,.slice κ γ.length θ] 50 (0,0)) (by(with_reducible repeat first|apply Qb|apply Qe|apply Qc);refine Qs ?_ an.out _;(with_reducible repeat first|apply Qb|apply Qe|apply Qc);refine Qs ?_ an.out _;(with_reducible repeat first|apply Qb|apply Qe|apply Qc);refine Qs ?_ an.out _;(with_reducible repeat first|apply Qb|apply Qe|apply Qc);exact ζ.out) hg (Kd.Xg HO_510001.out ζ.out (by decide)));have ξ :=Aside0.mk (Q8 (g:=σ) (o:=.cells #[.slice none 0 0,.slice none 0 0,.slice none 0 0] 34 (0,0)) (by(with_reducible repeat first|apply Qb|apply Qe|apply Qc);refine Qs ?_ ap.out _;(with_reducible repeat first|apply Qb|apply Qe|apply Qc);refine Qs ?_ ap.out _;(with_reducible repeat first|apply Qb|apply Qe|apply Qc);refine Qs ?_ ap.out _;(with_reducible repeat first|apply Qb|apply Qe|apply Qc);exact ν.out) hg (Kd.Xg HO_510001.out ν.out (by decide)));have φ :=Aside0.mk (Q8 (g:=a3) (o:=.cells #[a1,a8,a9] 34 (0,0)) (by(with_reducible repeat first|apply Qb|apply Qe|apply Qc);refine Qs ?_ ar.out _;(with_reducible repeat first|apply Qb|apply Qe|apply Qc);refine Qs ?_ ar.out _;(with_reducible repeat first|apply Qb|apply Qe|apply Qc);refine Qs ?_ ar.out _;(with_reducible repeat first|apply Qb|apply Qe|apply Qc);exact χ.out) hg (Kd.Xg HO_510001.out χ.out (by decide)));have ω :=Aside0.mk (Q8 (g:=ρ) (o:=.cells #[.int .i64 ((Ql Y ε).f0),.int .i64 ((Ql Y ε).f1),.int .i64 ((Ql Y ε).f2)] 36 (0,0)) (by(with_reducible repeat first|apply Qb|apply Qe|apply Qc);refine Qu (cs:=#[.int .i64 ((Ql Y ε).f0),.int .i64 ((Ql Y ε).f1),.int .i64 0]) ?_ 2 _ rfl;(with_reducible repeat first|apply Qb|apply Qe|apply Qc);refine Qu (cs:=#[.int .i64 ((Ql Y ε).f0),.int .i64 0,.int .i64 0]) ?_ 1 _ rfl;(with_reducible repeat first|apply Qb|apply Qe|apply Qc);refine Qu (cs:=#[.int .i64 0,.int .i64 0,.int .i64 0]) ?_ 0 _ rfl;(with_reducible repeat first|apply Qb|apply Qe|apply Qc);exact af.out) hg (Kd.Xg HO_510001.out af.out (by decide)));have a6:=Aside0.mk (hb);have a7:=Aside0.mk (ho);clear HO_510000;clear HO_510002;clear Z;clear ζ;clear ν;clear χ;clear af;clear HB;clear HO_510001;have HO_510000:=L;have HO_510002:=O;have Z:=X;have ζ := δ;have ν := ξ;have χ := φ;have af:= ω;have HB:=a6;have gi:=a7;clear L O X δ ξ φ ω a6 a7;clear ho hb hg hat;obtain⟨fp,fq,ic⟩:=Kd.Ze gi.out;subst ic;obtain⟨ih,ii,ij,ik,il,im⟩:=qD3 χ.out))
              go_roundg k2
              case measure=>have:=az.out;have:=eg.out;omega
              case rel=>exact⟨(wrap64 (ε + 1)),(eh),(au),(.slice fp eh.length fq),(a9),qR,H',⟨by have:=az.out;have:=eg.out;omega⟩,⟨by(with_reducible repeat first|apply Kd.Qx|apply Kd.Qw|apply Kd.Qy);exact Kd.Q5 (Kd.Q1 (p:=⟨a3,1,none⟩) (Kd.Zd HO_510000.out χ.out (by decide)) (fun _ hk=>hk.2) (.slice fp eh.length fq)) (fun _ hk=>⟨hk.1.2,hk.1.1⟩)⟩,⟨by(with_reducible repeat first|apply Kd.Qx|apply Kd.Qw|apply Kd.Qy);exact Kd.Q5 (Kd.Q1 (p:=⟨a3,1,none⟩) (Kd.Zd gi.out χ.out (by decide)) (fun _ hk=>hk.2) (.slice fp eh.length fq)) (fun _ hk=>⟨hk.1.1,hk.1.2⟩)⟩,⟨by(with_reducible repeat first|apply Kd.Qx|apply Kd.Qw|apply Kd.Qy);exact Kd.Q5 (Kd.Q1 (p:=⟨a3,1,none⟩) (Kd.Zd HO_510002.out χ.out (by decide)) (fun _ hk=>hk.2) (.slice fp eh.length fq)) (fun _ hk=>⟨hk.1.1,hk.1.2⟩)⟩,⟨by(with_reducible repeat first|apply Qb|apply Qe|apply Qc);refine Qs ?_ b2.out _;(with_reducible repeat first|apply Qb|apply Qe|apply Qc);exact Z.out⟩,⟨by(with_reducible repeat first|apply Qb|apply Qe|apply Qc);refine Qs ?_ b0.out _;(with_reducible repeat first|apply Qb|apply Qe|apply Qc);exact ζ.out⟩,⟨by(with_reducible repeat first|apply Qb|apply Qe|apply Qc);refine Qs ?_ b3.out _;(with_reducible repeat first|apply Qb|apply Qe|apply Qc);exact ν.out⟩,⟨by(with_reducible repeat first|apply Qb|apply Qe|apply Qc);refine Qu (cs:=#[a1,a8,a9]) ?_ 1 _ rfl;(with_reducible repeat first|apply Qb|apply Qe|apply Qc);exact χ.out⟩,⟨by repeat(first|(with_reducible first|exact HB.out|apply Qg|apply Qd|apply Qf|refine Qa ?_ ψ.out|refine Qa ?_ a0.out|refine Qa ?_ a4.out|refine Qa ?_ ab.out|refine Qa ?_ de.out)|exact HB.out)⟩⟩
             ·rw[if_neg dn] at H
              exact absurd H (by simp)
            ·rw[if_neg fn] at H
             have c57b0:decide (0<((Ql Y ε).f1))=false:=decide_eq_false fn
             clear fn
             by_cases jd:au.length<17592186044416
             ·rw[if_pos jd] at H
              have i6:=Aside0.mk jd
              clear jd
              obtain⟨ej,e3⟩:∃ y_:List Int,y_=(au ++ [(Ql Y ε).f0]):=⟨_,rfl⟩
              replace H:(call_View.l1 k2 a2 Y (Y.length:Int) (wrap64 (ε + 1)) aa ae ej)=some (r1,r2,r3,r4):=by first|(rw[e3];with_reducible exact H)|(have ax:=(Option.bind_some _ _).symm.trans H;rw[e3];with_reducible exact ax)|(have ax:=(Option.bind_some _ _).symm.trans H;with_reducible exact ax)|with_reducible exact H|(rw[e3];exact H)|exact H
              have i7:=Aside0.mk e3
              clear e3
              have H':=Aside0.mk H
              clear H
              have di:0≤(ε :Int):=of_decide_eq_true (by first|(with_reducible assumption)|assumption)
              have dj: ε < (Y.length:Int):=of_decide_eq_true (by first|(with_reducible assumption)|assumption)
              obtain⟨cj,fm,bi,bj,bl⟩:=Xz be.out ε di dj
              cases fm
              replace bi:=(HB.out.cell (World.block_lt_of_cell? w _ bi)).trans bi
              replace bj:=(HB.out.cell (World.block_lt_of_cell? w _ bj)).trans bj
              replace bl:=(HB.out.cell (World.block_lt_of_cell? w _ bl)).trans bl
              replace di:=eq_true di
              replace dj:=eq_true dj
              go_wp2_with (first|((with_reducible refine Qr (N:=13) rfl ?_);refine Qq ?hg (N:=13) ?hd (cs:=#[.int .i64 0,.int .i64 0,.int .i64 0]) (t:=36) ?hr ?_;(case hd=>rfl);(case hg=>rfl);(case hr=>first|(go_simp;done)|(go_simp;rfl));intro ρ hg qb hbox hb;have L:=Aside0.mk (Kd.Za (by(with_reducible repeat first|apply Kd.Qx|apply Kd.Qw|apply Kd.Qy);exact HO_510000.out) hb);have O:=Aside0.mk (Kd.Za (by(with_reducible repeat first|apply Kd.Qx|apply Kd.Qw|apply Kd.Qy);exact HO_510001.out) hb);have X:=Aside0.mk (Kd.Za (by(with_reducible repeat first|apply Kd.Qx|apply Kd.Qw|apply Kd.Qy);exact HO_510002.out) hb);have δ :=Aside0.mk (Qh (g:= ι) (o:=.cells #[.int .i64 J,.int .i64 B] 59 (0,0)) (by(with_reducible repeat first|apply Qb|apply Qe|apply Qc);exact Z.out) hb);have ξ :=Aside0.mk (Qh (g:= τ) (o:=.cells #[.slice (some cj) Y.length η,.slice κ γ.length θ] 50 (0,0)) (by(with_reducible repeat first|apply Qb|apply Qe|apply Qc);exact ζ.out) hb);have φ :=Aside0.mk (Qh (g:=σ) (o:=.cells #[.slice none 0 0,.slice none 0 0,.slice none 0 0] 34 (0,0)) (by(with_reducible repeat first|apply Qb|apply Qe|apply Qc);exact ν.out) hb);have ω :=Aside0.mk (Qh (g:=a3) (o:=.cells #[a1,a8,a9] 34 (0,0)) (by(with_reducible repeat first|apply Qb|apply Qe|apply Qc);exact χ.out) hb);have a6:=Aside0.mk (Qj (by repeat(first|(with_reducible first|exact HB.out|apply Qg|apply Qd|apply Qf|refine Qa ?_ ψ.out|refine Qa ?_ a0.out|refine Qa ?_ a4.out|refine Qa ?_ ab.out)|exact HB.out)) hb);have a7:=Aside0.mk (hbox);have ag:=Aside0.mk ((by rw[hg];exact(Qi (by repeat(first|(with_reducible first|exact HB.out|apply Qg|apply Qd|apply Qf|refine Qa ?_ ψ.out|refine Qa ?_ a0.out|refine Qa ?_ a4.out|refine Qa ?_ ab.out)|exact HB.out))):w.heap.size≤ρ));have ah:=Aside0.mk ((by rw[hg];exact(Qi (by repeat(first|(with_reducible first|exact HB.out|apply Qg|apply Qd|apply Qf|refine Qa ?_ ψ.out|refine Qa ?_ a0.out|refine Qa ?_ a4.out|refine Qa ?_ ab.out)|exact HB.out))):w.heap.size≤ρ));have ai:=Aside0.mk ((by rw[hg];exact Nat.ne_of_lt (Qp (g:= ι) (o:=.cells #[.int .i64 J,.int .i64 B] 59 (0,0)) (by(with_reducible repeat first|apply Qb|apply Qe|apply Qc);exact Z.out)): ι ≠ ρ));have aj:=Aside0.mk ((by rw[hg];exact Nat.ne_of_gt (Qp (g:= ι) (o:=.cells #[.int .i64 J,.int .i64 B] 59 (0,0)) (by(with_reducible repeat first|apply Qb|apply Qe|apply Qc);exact Z.out)):ρ ≠ ι));have ay:=Aside0.mk ((by rw[hg];exact Nat.ne_of_lt (Qp (g:= τ) (o:=.cells #[.slice (some cj) Y.length η,.slice κ γ.length θ] 50 (0,0)) (by(with_reducible repeat first|apply Qb|apply Qe|apply Qc);exact ζ.out)): τ ≠ ρ));have b1:=Aside0.mk ((by rw[hg];exact Nat.ne_of_gt (Qp (g:= τ) (o:=.cells #[.slice (some cj) Y.length η,.slice κ γ.length θ] 50 (0,0)) (by(with_reducible repeat first|apply Qb|apply Qe|apply Qc);exact ζ.out)):ρ ≠ τ));have ao:=Aside0.mk ((by rw[hg];exact Nat.ne_of_lt (Qp (g:=σ) (o:=.cells #[.slice none 0 0,.slice none 0 0,.slice none 0 0] 34 (0,0)) (by(with_reducible repeat first|apply Qb|apply Qe|apply Qc);exact ν.out)):σ≠ρ));have bd:=Aside0.mk ((by rw[hg];exact Nat.ne_of_gt (Qp (g:=σ) (o:=.cells #[.slice none 0 0,.slice none 0 0,.slice none 0 0] 34 (0,0)) (by(with_reducible repeat first|apply Qb|apply Qe|apply Qc);exact ν.out)):ρ≠σ));have d4:=Aside0.mk ((by rw[hg];exact Nat.ne_of_lt (Qp (g:=a3) (o:=.cells #[a1,a8,a9] 34 (0,0)) (by(with_reducible repeat first|apply Qb|apply Qe|apply Qc);exact χ.out)):a3≠ρ));have d5:=Aside0.mk ((by rw[hg];exact Nat.ne_of_gt (Qp (g:=a3) (o:=.cells #[a1,a8,a9] 34 (0,0)) (by(with_reducible repeat first|apply Qb|apply Qe|apply Qc);exact χ.out)):ρ≠a3));clear HO_510000;clear HO_510001;clear HO_510002;clear Z;clear ζ;clear ν;clear χ;clear HB;have HO_510000:=L;have HO_510001:=O;have HO_510002:=X;have Z:= δ;have ζ := ξ;have ν := φ;have χ := ω;have HB:=a6;have af:=a7;have gh:=ag;have de:=ah;have am:=ai;have d8:=aj;have an:=ay;have d9:=b1;have ap:=ao;have db:=bd;have ar:=d4;have dc:=d5;clear L O X δ ξ φ ω a6 a7 ag ah ai aj ay b1 ao bd d4 d5;clear hb hbox hg;have n3:=d8.out;have na:=am.out;have lg:=d9.out;have lh:=an.out;have ll:=db.out;have lm:=ap.out;have ln:=dc.out;have m6:=ar.out;obtain⟨jq,jr,jv,lb,lc,lf⟩:=qD3 af.out;have kp:=d6.out;have ks:=b2.out;have kt:=d1.out;have ku:=b0.out;have nb:=d7.out;have nc:=b3.out;obtain⟨io,ip,iq,ir,it,iu⟩:=qD3 χ.out)|((with_reducible refine Xq (b:=.append) (xs:=#[.tmp 56,.tmp 59]) rfl ?_);at_builtin;refine Kd.Gn (Kd.int .i64) (w0:=w) w.heap.size rfl (.tmp 56) (.tmp 59) 32 3 (.int .i64 0) 8 rfl Try.underlying32 Wd rfl (by decide) (by omega) a9 au ((Ql Y ε).f0) [.int .i64 ((Ql Y ε).f0)] (fun k_=>some k_≠(a1:Value).ownBlock∧some k_≠(a8:Value).ownBlock) (fun _=>False) rfl (by first|(go_simp;done)|(go_simp;rfl)) ?aP (fun _ hk=>hk.elim) ?aF ?aO ?aB ?aS ?aL ?_;(case aP=>exact rfl);(case aB=>exact(by repeat(first|(with_reducible first|exact HB.out|apply Qg|apply Qd|apply Qf|refine Qa ?_ ψ.out|refine Qa ?_ a0.out|refine Qa ?_ a4.out|refine Qa ?_ ab.out|refine Qa ?_ de.out)|exact HB.out)));(case aF=>exact(fun k_ hk=>⟨Kd.fresh' (Kd.Mh (by(with_reducible repeat first|apply Kd.Qx|apply Kd.Qw|apply Kd.Qy);exact(Kd.Q5 (Kd.Q1 (p:=⟨ρ,2,none⟩) (Kd.Q1 (p:=⟨ρ,1,none⟩) (Kd.Q1 (p:=⟨ρ,0,none⟩) (Kd.Zd HO_510000.out af.out (by decide)) (fun _ hk=>hk.2) (.int .i64 ((Ql Y ε).f0))) (fun _ hk=>hk.2) (.int .i64 ((Ql Y ε).f1))) (fun _ hk=>hk.2) (.int .i64 ((Ql Y ε).f2))) (fun _ h_=>h_.1)))) k_ hk,Kd.fresh' (Kd.Mh (by(with_reducible repeat first|apply Kd.Qx|apply Kd.Qw|apply Kd.Qy);exact(Kd.Q5 (Kd.Q1 (p:=⟨ρ,2,none⟩) (Kd.Q1 (p:=⟨ρ,1,none⟩) (Kd.Q1 (p:=⟨ρ,0,none⟩) (Kd.Zd HO_510001.out af.out (by decide)) (fun _ hk=>hk.2) (.int .i64 ((Ql Y ε).f0))) (fun _ hk=>hk.2) (.int .i64 ((Ql Y ε).f1))) (fun _ hk=>hk.2) (.int .i64 ((Ql Y ε).f2))) (fun _ h_=>h_.1)))) k_ hk⟩));(case aO=>exact(by(with_reducible repeat first|apply Kd.Qx|apply Kd.Qw|apply Kd.Qy);exact Kd.Q5 (Kd.Q1 (p:=⟨ρ,2,none⟩) (Kd.Q1 (p:=⟨ρ,1,none⟩) (Kd.Q1 (p:=⟨ρ,0,none⟩) (Kd.Zd HO_510002.out af.out (by decide)) (fun _ hk=>hk.2) (.int .i64 ((Ql Y ε).f0))) (fun _ hk=>hk.2) (.int .i64 ((Ql Y ε).f1))) (fun _ hk=>hk.2) (.int .i64 ((Ql Y ε).f2))) (fun _ hk=>⟨hk.1.1,hk.1.2⟩)));(case aS=>exact(Qi (by repeat(first|(with_reducible first|exact HB.out|apply Qg|apply Qd|apply Qf|refine Qa ?_ ψ.out|refine Qa ?_ a0.out|refine Qa ?_ a4.out|refine Qa ?_ ab.out|refine Qa ?_ de.out)|exact HB.out))));(case aL=>have:=i6.out;omega);intro o8 oq ho hb hg hat;rw[← i7.out] at ho;have L:=Aside0.mk (Kd.Kv (ok:=(fun k_=>some k_≠(a8:Value).ownBlock)) (by(with_reducible repeat first|apply Kd.Qx|apply Kd.Qw|apply Kd.Qy);exact Kd.Q5 (Kd.Q1 (p:=⟨ρ,2,none⟩) (Kd.Q1 (p:=⟨ρ,1,none⟩) (Kd.Q1 (p:=⟨ρ,0,none⟩) (Kd.Zd HO_510000.out af.out (by decide)) (fun _ hk=>hk.2) (.int .i64 ((Ql Y ε).f0))) (fun _ hk=>hk.2) (.int .i64 ((Ql Y ε).f1))) (fun _ hk=>hk.2) (.int .i64 ((Ql Y ε).f2))) (fun _ hk=>⟨hk.1.1,hk.1.2⟩)) hg hat);have O:=Aside0.mk (Kd.Kv (ok:=(fun k_=>some k_≠(a1:Value).ownBlock)) (by(with_reducible repeat first|apply Kd.Qx|apply Kd.Qw|apply Kd.Qy);exact Kd.Q5 (Kd.Q1 (p:=⟨ρ,2,none⟩) (Kd.Q1 (p:=⟨ρ,1,none⟩) (Kd.Q1 (p:=⟨ρ,0,none⟩) (Kd.Zd HO_510001.out af.out (by decide)) (fun _ hk=>hk.2) (.int .i64 ((Ql Y ε).f0))) (fun _ hk=>hk.2) (.int .i64 ((Ql Y ε).f1))) (fun _ hk=>hk.2) (.int .i64 ((Ql Y ε).f2))) (fun _ hk=>⟨hk.1.1,hk.1.2⟩)) hg hat);have X:=Aside0.mk (Q8 (g:= ι) (o:=.cells #[.int .i64 J,.int .i64 B] 59 (0,0)) (by(with_reducible repeat first|apply Qb|apply Qe|apply Qc);refine Qs ?_ am.out _;(with_reducible repeat first|apply Qb|apply Qe|apply Qc);refine Qs ?_ am.out _;(with_reducible repeat first|apply Qb|apply Qe|apply Qc);refine Qs ?_ am.out _;(with_reducible repeat first|apply Qb|apply Qe|apply Qc);exact Z.out) hg (Kd.Xg HO_510002.out Z.out (by decide)));have δ :=Aside0.mk (Q8 (g:= τ) (o:=.cells #[.slice (some cj) Y.length η,.slice κ γ.length θ] 50 (0,0)) (by(with_reducible repeat first|apply Qb|apply Qe|apply Qc);refine Qs ?_ an.out _;(with_reducible repeat first|apply Qb|apply Qe|apply Qc);refine Qs ?_ an.out _;(with_reducible repeat first|apply Qb|apply Qe|apply Qc);refine Qs ?_ an.out _;(with_reducible repeat first|apply Qb|apply Qe|apply Qc);exact ζ.out) hg (Kd.Xg HO_510002.out ζ.out (by decide)));have ξ :=Aside0.mk (Q8 (g:=σ) (o:=.cells #[.slice none 0 0,.slice none 0 0,.slice none 0 0] 34 (0,0)) (by(with_reducible repeat first|apply Qb|apply Qe|apply Qc);refine Qs ?_ ap.out _;(with_reducible repeat first|apply Qb|apply Qe|apply Qc);refine Qs ?_ ap.out _;(with_reducible repeat first|apply Qb|apply Qe|apply Qc);refine Qs ?_ ap.out _;(with_reducible repeat first|apply Qb|apply Qe|apply Qc);exact ν.out) hg (Kd.Xg HO_510002.out ν.out (by decide)));have φ :=Aside0.mk (Q8 (g:=a3) (o:=.cells #[a1,a8,a9] 34 (0,0)) (by(with_reducible repeat first|apply Qb|apply Qe|apply Qc);refine Qs ?_ ar.out _;(with_reducible repeat first|apply Qb|apply Qe|apply Qc);refine Qs ?_ ar.out _;(with_reducible repeat first|apply Qb|apply Qe|apply Qc);refine Qs ?_ ar.out _;(with_reducible repeat first|apply Qb|apply Qe|apply Qc);exact χ.out) hg (Kd.Xg HO_510002.out χ.out (by decide)));have ω :=Aside0.mk (Q8 (g:=ρ) (o:=.cells #[.int .i64 ((Ql Y ε).f0),.int .i64 ((Ql Y ε).f1),.int .i64 ((Ql Y ε).f2)] 36 (0,0)) (by(with_reducible repeat first|apply Qb|apply Qe|apply Qc);refine Qu (cs:=#[.int .i64 ((Ql Y ε).f0),.int .i64 ((Ql Y ε).f1),.int .i64 0]) ?_ 2 _ rfl;(with_reducible repeat first|apply Qb|apply Qe|apply Qc);refine Qu (cs:=#[.int .i64 ((Ql Y ε).f0),.int .i64 0,.int .i64 0]) ?_ 1 _ rfl;(with_reducible repeat first|apply Qb|apply Qe|apply Qc);refine Qu (cs:=#[.int .i64 0,.int .i64 0,.int .i64 0]) ?_ 0 _ rfl;(with_reducible repeat first|apply Qb|apply Qe|apply Qc);exact af.out) hg (Kd.Xg HO_510002.out af.out (by decide)));have a6:=Aside0.mk (hb);have a7:=Aside0.mk (ho);clear HO_510000;clear HO_510001;clear Z;clear ζ;clear ν;clear χ;clear af;clear HB;clear HO_510002;have HO_510000:=L;have HO_510001:=O;have Z:=X;have ζ := δ;have ν := ξ;have χ := φ;have af:= ω;have HB:=a6;have gj:=a7;clear L O X δ ξ φ ω a6 a7;clear ho hb hg hat;obtain⟨fr,fu,ie⟩:=Kd.Ze gj.out;subst ie;obtain⟨l3,l4,l5,l6,l7,l8⟩:=qD3 χ.out))
              go_roundg k2
              case measure=>have:=az.out;have:=eg.out;omega
              case rel=>exact⟨(wrap64 (ε + 1)),(ae),(ej),(a8),(.slice fr ej.length fu),qR,H',⟨by have:=az.out;have:=eg.out;omega⟩,⟨by(with_reducible repeat first|apply Kd.Qx|apply Kd.Qw|apply Kd.Qy);exact Kd.Q5 (Kd.Q1 (p:=⟨a3,2,none⟩) (Kd.Zd HO_510000.out χ.out (by decide)) (fun _ hk=>hk.2) (.slice fr ej.length fu)) (fun _ hk=>⟨hk.1.1,hk.1.2⟩)⟩,⟨by(with_reducible repeat first|apply Kd.Qx|apply Kd.Qw|apply Kd.Qy);exact Kd.Q5 (Kd.Q1 (p:=⟨a3,2,none⟩) (Kd.Zd HO_510001.out χ.out (by decide)) (fun _ hk=>hk.2) (.slice fr ej.length fu)) (fun _ hk=>⟨hk.1.1,hk.1.2⟩)⟩,⟨by(with_reducible repeat first|apply Kd.Qx|apply Kd.Qw|apply Kd.Qy);exact Kd.Q5 (Kd.Q1 (p:=⟨a3,2,none⟩) (Kd.Zd gj.out χ.out (by decide)) (fun _ hk=>hk.2) (.slice fr ej.length fu)) (fun _ hk=>⟨hk.1.1,hk.1.2⟩)⟩,⟨by(with_reducible repeat first|apply Qb|apply Qe|apply Qc);refine Qs ?_ b2.out _;(with_reducible repeat first|apply Qb|apply Qe|apply Qc);exact Z.out⟩,⟨by(with_reducible repeat first|apply Qb|apply Qe|apply Qc);refine Qs ?_ b0.out _;(with_reducible repeat first|apply Qb|apply Qe|apply Qc);exact ζ.out⟩,⟨by(with_reducible repeat first|apply Qb|apply Qe|apply Qc);refine Qs ?_ b3.out _;(with_reducible repeat first|apply Qb|apply Qe|apply Qc);exact ν.out⟩,⟨by(with_reducible repeat first|apply Qb|apply Qe|apply Qc);refine Qu (cs:=#[a1,a8,a9]) ?_ 2 _ rfl;(with_reducible repeat first|apply Qb|apply Qe|apply Qc);exact χ.out⟩,⟨by repeat(first|(with_reducible first|exact HB.out|apply Qg|apply Qd|apply Qf|refine Qa ?_ ψ.out|refine Qa ?_ a0.out|refine Qa ?_ a4.out|refine Qa ?_ ab.out|refine Qa ?_ de.out)|exact HB.out)⟩⟩
             ·rw[if_neg jd] at H
              exact absurd H (by simp)
           ·rw[if_neg ff] at H
            have c56b0:(((Ql Y ε).f2)==a2)=false:=beq_eq_false_iff_ne.mpr ff
            have c56b1:(((Ql Y ε).f2) != a2)=true:=bne_iff_ne.mpr ff
            have H':=Aside0.mk H
            clear H
            have di:0≤(ε :Int):=of_decide_eq_true (by first|(with_reducible assumption)|assumption)
            have dj: ε < (Y.length:Int):=of_decide_eq_true (by first|(with_reducible assumption)|assumption)
            obtain⟨cj,fm,bi,bj,bl⟩:=Xz be.out ε di dj
            cases fm
            replace bi:=(HB.out.cell (World.block_lt_of_cell? w _ bi)).trans bi
            replace bj:=(HB.out.cell (World.block_lt_of_cell? w _ bj)).trans bj
            replace bl:=(HB.out.cell (World.block_lt_of_cell? w _ bl)).trans bl
            replace di:=eq_true di
            replace dj:=eq_true dj
            go_wp2_with (first|((with_reducible refine Qr (N:=13) rfl ?_);refine Qq ?hg (N:=13) ?hd (cs:=#[.int .i64 0,.int .i64 0,.int .i64 0]) (t:=36) ?hr ?_;(case hd=>rfl);(case hg=>rfl);(case hr=>first|(go_simp;done)|(go_simp;rfl));intro ρ hg ot hbox hb;have L:=Aside0.mk (Kd.Za (by(with_reducible repeat first|apply Kd.Qx|apply Kd.Qw|apply Kd.Qy);exact HO_510000.out) hb);have O:=Aside0.mk (Kd.Za (by(with_reducible repeat first|apply Kd.Qx|apply Kd.Qw|apply Kd.Qy);exact HO_510001.out) hb);have X:=Aside0.mk (Kd.Za (by(with_reducible repeat first|apply Kd.Qx|apply Kd.Qw|apply Kd.Qy);exact HO_510002.out) hb);have δ :=Aside0.mk (Qh (g:= ι) (o:=.cells #[.int .i64 J,.int .i64 B] 59 (0,0)) (by(with_reducible repeat first|apply Qb|apply Qe|apply Qc);exact Z.out) hb);have ξ :=Aside0.mk (Qh (g:= τ) (o:=.cells #[.slice (some cj) Y.length η,.slice κ γ.length θ] 50 (0,0)) (by(with_reducible repeat first|apply Qb|apply Qe|apply Qc);exact ζ.out) hb);have φ :=Aside0.mk (Qh (g:=σ) (o:=.cells #[.slice none 0 0,.slice none 0 0,.slice none 0 0] 34 (0,0)) (by(with_reducible repeat first|apply Qb|apply Qe|apply Qc);exact ν.out) hb);have ω :=Aside0.mk (Qh (g:=a3) (o:=.cells #[a1,a8,a9] 34 (0,0)) (by(with_reducible repeat first|apply Qb|apply Qe|apply Qc);exact χ.out) hb);have a6:=Aside0.mk (Qj (by repeat(first|(with_reducible first|exact HB.out|apply Qg|apply Qd|apply Qf|refine Qa ?_ ψ.out|refine Qa ?_ a0.out|refine Qa ?_ a4.out|refine Qa ?_ ab.out)|exact HB.out)) hb);have a7:=Aside0.mk (hbox);have ag:=Aside0.mk ((by rw[hg];exact(Qi (by repeat(first|(with_reducible first|exact HB.out|apply Qg|apply Qd|apply Qf|refine Qa ?_ ψ.out|refine Qa ?_ a0.out|refine Qa ?_ a4.out|refine Qa ?_ ab.out)|exact HB.out))):w.heap.size≤ρ));have ah:=Aside0.mk ((by rw[hg];exact(Qi (by repeat(first|(with_reducible first|exact HB.out|apply Qg|apply Qd|apply Qf|refine Qa ?_ ψ.out|refine Qa ?_ a0.out|refine Qa ?_ a4.out|refine Qa ?_ ab.out)|exact HB.out))):w.heap.size≤ρ));have ai:=Aside0.mk ((by rw[hg];exact Nat.ne_of_lt (Qp (g:= ι) (o:=.cells #[.int .i64 J,.int .i64 B] 59 (0,0)) (by(with_reducible repeat first|apply Qb|apply Qe|apply Qc);exact Z.out)): ι ≠ ρ));have aj:=Aside0.mk ((by rw[hg];exact Nat.ne_of_gt (Qp (g:= ι) (o:=.cells #[.int .i64 J,.int .i64 B] 59 (0,0)) (by(with_reducible repeat first|apply Qb|apply Qe|apply Qc);exact Z.out)):ρ ≠ ι));have ay:=Aside0.mk ((by rw[hg];exact Nat.ne_of_lt (Qp (g:= τ) (o:=.cells #[.slice (some cj) Y.length η,.slice κ γ.length θ] 50 (0,0)) (by(with_reducible repeat first|apply Qb|apply Qe|apply Qc);exact ζ.out)): τ ≠ ρ));have b1:=Aside0.mk ((by rw[hg];exact Nat.ne_of_gt (Qp (g:= τ) (o:=.cells #[.slice (some cj) Y.length η,.slice κ γ.length θ] 50 (0,0)) (by(with_reducible repeat first|apply Qb|apply Qe|apply Qc);exact ζ.out)):ρ ≠ τ));have ao:=Aside0.mk ((by rw[hg];exact Nat.ne_of_lt (Qp (g:=σ) (o:=.cells #[.slice none 0 0,.slice none 0 0,.slice none 0 0] 34 (0,0)) (by(with_reducible repeat first|apply Qb|apply Qe|apply Qc);exact ν.out)):σ≠ρ));have bd:=Aside0.mk ((by rw[hg];exact Nat.ne_of_gt (Qp (g:=σ) (o:=.cells #[.slice none 0 0,.slice none 0 0,.slice none 0 0] 34 (0,0)) (by(with_reducible repeat first|apply Qb|apply Qe|apply Qc);exact ν.out)):ρ≠σ));have d4:=Aside0.mk ((by rw[hg];exact Nat.ne_of_lt (Qp (g:=a3) (o:=.cells #[a1,a8,a9] 34 (0,0)) (by(with_reducible repeat first|apply Qb|apply Qe|apply Qc);exact χ.out)):a3≠ρ));have d5:=Aside0.mk ((by rw[hg];exact Nat.ne_of_gt (Qp (g:=a3) (o:=.cells #[a1,a8,a9] 34 (0,0)) (by(with_reducible repeat first|apply Qb|apply Qe|apply Qc);exact χ.out)):ρ≠a3));clear HO_510000;clear HO_510001;clear HO_510002;clear Z;clear ζ;clear ν;clear χ;clear HB;have HO_510000:=L;have HO_510001:=O;have HO_510002:=X;have Z:= δ;have ζ := ξ;have ν := φ;have χ := ω;have HB:=a6;have af:=a7;have gh:=ag;have de:=ah;have am:=ai;have d8:=aj;have an:=ay;have d9:=b1;have ap:=ao;have db:=bd;have ar:=d4;have dc:=d5;clear L O X δ ξ φ ω a6 a7 ag ah ai aj ay b1 ao bd d4 d5;clear hb hbox hg;have nn:=d8.out;have no:=am.out;have np:=d9.out;have nq:=an.out;have nr:=db.out;have ns:=ap.out;have nt:=dc.out;have nu:=ar.out;obtain⟨l9,lr,ls,lu,lv,m2⟩:=qD3 af.out))
            go_roundg k2
            case measure=>have:=az.out;have:=eg.out;omega
            case rel=>exact⟨(wrap64 (ε + 1)),(ae),(au),(a8),(a9),qR,H',⟨by have:=az.out;have:=eg.out;omega⟩,⟨by(with_reducible repeat first|apply Kd.Qx|apply Kd.Qw|apply Kd.Qy);exact Kd.Q5 (Kd.Q1 (p:=⟨ρ,2,none⟩) (Kd.Q1 (p:=⟨ρ,1,none⟩) (Kd.Q1 (p:=⟨ρ,0,none⟩) (Kd.Zd HO_510000.out af.out (by decide)) (fun _ hk=>hk.2) (.int .i64 ((Ql Y ε).f0))) (fun _ hk=>hk.2) (.int .i64 ((Ql Y ε).f1))) (fun _ hk=>hk.2) (.int .i64 ((Ql Y ε).f2))) (fun _ hk=>⟨hk.1.1,hk.1.2⟩)⟩,⟨by(with_reducible repeat first|apply Kd.Qx|apply Kd.Qw|apply Kd.Qy);exact Kd.Q5 (Kd.Q1 (p:=⟨ρ,2,none⟩) (Kd.Q1 (p:=⟨ρ,1,none⟩) (Kd.Q1 (p:=⟨ρ,0,none⟩) (Kd.Zd HO_510001.out af.out (by decide)) (fun _ hk=>hk.2) (.int .i64 ((Ql Y ε).f0))) (fun _ hk=>hk.2) (.int .i64 ((Ql Y ε).f1))) (fun _ hk=>hk.2) (.int .i64 ((Ql Y ε).f2))) (fun _ hk=>⟨hk.1.1,hk.1.2⟩)⟩,⟨by(with_reducible repeat first|apply Kd.Qx|apply Kd.Qw|apply Kd.Qy);exact Kd.Q5 (Kd.Q1 (p:=⟨ρ,2,none⟩) (Kd.Q1 (p:=⟨ρ,1,none⟩) (Kd.Q1 (p:=⟨ρ,0,none⟩) (Kd.Zd HO_510002.out af.out (by decide)) (fun _ hk=>hk.2) (.int .i64 ((Ql Y ε).f0))) (fun _ hk=>hk.2) (.int .i64 ((Ql Y ε).f1))) (fun _ hk=>hk.2) (.int .i64 ((Ql Y ε).f2))) (fun _ hk=>⟨hk.1.1,hk.1.2⟩)⟩,⟨by(with_reducible repeat first|apply Qb|apply Qe|apply Qc);refine Qs ?_ am.out _;(with_reducible repeat first|apply Qb|apply Qe|apply Qc);refine Qs ?_ am.out _;(with_reducible repeat first|apply Qb|apply Qe|apply Qc);refine Qs ?_ am.out _;(with_reducible repeat first|apply Qb|apply Qe|apply Qc);exact Z.out⟩,⟨by(with_reducible repeat first|apply Qb|apply Qe|apply Qc);refine Qs ?_ an.out _;(with_reducible repeat first|apply Qb|apply Qe|apply Qc);refine Qs ?_ an.out _;(with_reducible repeat first|apply Qb|apply Qe|apply Qc);refine Qs ?_ an.out _;(with_reducible repeat first|apply Qb|apply Qe|apply Qc);exact ζ.out⟩,⟨by(with_reducible repeat first|apply Qb|apply Qe|apply Qc);refine Qs ?_ ap.out _;(with_reducible repeat first|apply Qb|apply Qe|apply Qc);refine Qs ?_ ap.out _;(with_reducible repeat first|apply Qb|apply Qe|apply Qc);refine Qs ?_ ap.out _;(with_reducible repeat first|apply Qb|apply Qe|apply Qc);exact ν.out⟩,⟨by(with_reducible repeat first|apply Qb|apply Qe|apply Qc);refine Qs ?_ ar.out _;(with_reducible repeat first|apply Qb|apply Qe|apply Qc);refine Qs ?_ ar.out _;(with_reducible repeat first|apply Qb|apply Qe|apply Qc);refine Qs ?_ ar.out _;(with_reducible repeat first|apply Qb|apply Qe|apply Qc);exact χ.out⟩,⟨by repeat(first|(with_reducible first|exact HB.out|apply Qg|apply Qd|apply Qf|refine Qa ?_ ψ.out|refine Qa ?_ a0.out|refine Qa ?_ a4.out|refine Qa ?_ ab.out|refine Qa ?_ de.out)|exact HB.out)⟩⟩
          ·rw[if_neg gf] at H
           exact absurd H (by simp)
         ·rw[if_neg jc] at H
          exact absurd H (by simp)
        ·rw[if_neg i3] at H
         have c53b0:decide (ε < (Y.length:Int))=false:=decide_eq_false i3
         clear i3
         simp only[Option.some.injEq,Prod.mk.injEq] at H
         obtain⟨rfl,rfl,rfl,rfl⟩:=H
         have nx:=d6.out
         have ny:=b2.out
         have nz:=d1.out
         have o0:=b0.out
         have nf:=d7.out
         have ng:=b3.out
         obtain⟨m3,m4,m5,m7,m8,m9⟩:=qD3 χ.out
         obtain⟨em,ez,ix⟩:=Kd.Ze HO_510000.out
         subst ix
         have o1:=d0.out
         have o2:=cz.out
         have o3:=cd.out
         have o4:=bu.out
         obtain⟨ma,mb,mc,me,mf,mg⟩:=qD3 ν.out
         obtain⟨e8,e9,i9⟩:=Kd.Ze HO_510001.out
         subst i9
         obtain⟨f8,fc,ia⟩:=Kd.Ze HO_510002.out
         subst ia
         go_wp2
         refine bodyPost_ret (Xb rfl _ _ σ 34 #[.slice em aa.length ez,.slice e8 ae.length e9,.slice f8 au.length fc] (0,0) _ rfl (by(with_reducible repeat first|apply Qb|apply Qe|apply Qc);refine Qu (cs:=#[.slice em aa.length ez,.slice e8 ae.length e9,.slice none 0 0]) ?_ 2 _ rfl;(with_reducible repeat first|apply Qb|apply Qe|apply Qc);refine Qu (cs:=#[.slice em aa.length ez,.slice none 0 0,.slice none 0 0]) ?_ 1 _ rfl;(with_reducible repeat first|apply Qb|apply Qe|apply Qc);refine Qu (cs:=#[.slice none 0 0,.slice none 0 0,.slice none 0 0]) ?_ 0 _ rfl;(with_reducible repeat first|apply Qb|apply Qe|apply Qc);exact ν.out) Try.underlying34 rfl kr) rfl ?_
         exact⟨_,_,_,by first|rfl|(simp[Qo,Qn] <;> rfl)|(simp[*,Qo,Qn] <;> rfl),by(with_reducible repeat first|apply Kd.Qx|apply Kd.Qw|apply Kd.Qy);exact Kd.Q5 (Kd.Q1 (p:=⟨σ,2,none⟩) (Kd.Q1 (p:=⟨σ,1,none⟩) (Kd.Q1 (p:=⟨σ,0,none⟩) (Kd.Zd HO_510000.out ν.out (by decide)) (fun _ hk=>hk.2) (.slice em aa.length ez)) (fun _ hk=>hk.2) (.slice e8 ae.length e9)) (fun _ hk=>hk.2) (.slice f8 au.length fc)) (fun _ hk=>⟨hk.1.1,hk.1.2⟩),by(with_reducible repeat first|apply Kd.Qx|apply Kd.Qw|apply Kd.Qy);exact Kd.Q5 (Kd.Q1 (p:=⟨σ,2,none⟩) (Kd.Q1 (p:=⟨σ,1,none⟩) (Kd.Q1 (p:=⟨σ,0,none⟩) (Kd.Zd HO_510001.out ν.out (by decide)) (fun _ hk=>hk.2) (.slice em aa.length ez)) (fun _ hk=>hk.2) (.slice e8 ae.length e9)) (fun _ hk=>hk.2) (.slice f8 au.length fc)) (fun _ hk=>⟨hk.1.1,hk.1.2⟩),by(with_reducible repeat first|apply Kd.Qx|apply Kd.Qw|apply Kd.Qy);exact Kd.Q5 (Kd.Q1 (p:=⟨σ,2,none⟩) (Kd.Q1 (p:=⟨σ,1,none⟩) (Kd.Q1 (p:=⟨σ,0,none⟩) (Kd.Zd HO_510002.out ν.out (by decide)) (fun _ hk=>hk.2) (.slice em aa.length ez)) (fun _ hk=>hk.2) (.slice e8 ae.length e9)) (fun _ hk=>hk.2) (.slice f8 au.length fc)) (fun _ hk=>⟨hk.1.1,hk.1.2⟩),by repeat(first|(with_reducible first|exact HB.out|apply Qg|apply Qd|apply Qf|refine Qa ?_ ψ.out|refine Qa ?_ a0.out|refine Qa ?_ a4.out|refine Qa ?_ ab.out)|exact HB.out)⟩
  ·replace c7:=Bool.eq_false_iff.mpr c7
   subst c7
   have H1:(some (([]:List Int),([]:List Int),([]:List Int),191))=some (r1,r2,r3,r4):=by rw[if_neg (show ¬ (false=true) by decide)] at H;exact H
   clear H
   have H:=H1
   clear H1
   simp only[Option.some.injEq,Prod.mk.injEq] at H
   obtain⟨rfl,rfl,rfl,rfl⟩:=H
   go_enter Try.func24,Try.ntmps24
   go_wp2_with (first|((with_reducible refine Qr (N:=3) rfl ?_);refine Qq ?hg (N:=3) ?hd (cs:=#[.int .i64 J,.int .i64 B]) (t:=59) ?hr ?_;(case hd=>rfl);(case hg=>rfl);(case hr=>first|(go_simp;done)|(go_simp;rfl));intro ι hg o9 hbox hb;have L:=Aside0.mk (Qj (by repeat(first|(with_reducible first|exact HB.out|apply Qg|apply Qd|apply Qf)|exact HB.out)) hb);have O:=Aside0.mk (hbox);have X:=Aside0.mk ((by rw[hg];exact(Qi (by repeat(first|(with_reducible first|exact HB.out|apply Qg|apply Qd|apply Qf)|exact HB.out))):w.heap.size ≤ ι));have δ :=Aside0.mk ((by rw[hg];exact(Qi (by repeat(first|(with_reducible first|exact HB.out|apply Qg|apply Qd|apply Qf)|exact HB.out))):w.heap.size ≤ ι));clear HB;have HB:=L;have Z:=O;have g0:=X;have ψ := δ;clear L O X δ;clear hb hbox hg)|((with_reducible refine Qr (N:=4) rfl ?_);refine Qq ?hg (N:=4) ?hd (cs:=#[.slice μ Y.length η,.slice κ γ.length θ]) (t:=50) ?hr ?_;(case hd=>rfl);(case hg=>rfl);(case hr=>first|(go_simp;done)|(go_simp;rfl));intro τ hg oa hbox hb;have L:=Aside0.mk (Qh (g:= ι) (o:=.cells #[.int .i64 J,.int .i64 B] 59 (0,0)) (by(with_reducible repeat first|apply Qb|apply Qe|apply Qc);exact Z.out) hb);have O:=Aside0.mk (Qj (by repeat(first|(with_reducible first|exact HB.out|apply Qg|apply Qd|apply Qf|refine Qa ?_ ψ.out)|exact HB.out)) hb);have X:=Aside0.mk (hbox);have δ :=Aside0.mk ((by rw[hg];exact(Qi (by repeat(first|(with_reducible first|exact HB.out|apply Qg|apply Qd|apply Qf|refine Qa ?_ ψ.out)|exact HB.out))):w.heap.size ≤ τ));have ξ :=Aside0.mk ((by rw[hg];exact(Qi (by repeat(first|(with_reducible first|exact HB.out|apply Qg|apply Qd|apply Qf|refine Qa ?_ ψ.out)|exact HB.out))):w.heap.size ≤ τ));have φ :=Aside0.mk ((by rw[hg];exact Nat.ne_of_lt (Qp (g:= ι) (o:=.cells #[.int .i64 J,.int .i64 B] 59 (0,0)) (by(with_reducible repeat first|apply Qb|apply Qe|apply Qc);exact Z.out)): ι ≠ τ));have ω :=Aside0.mk ((by rw[hg];exact Nat.ne_of_gt (Qp (g:= ι) (o:=.cells #[.int .i64 J,.int .i64 B] 59 (0,0)) (by(with_reducible repeat first|apply Qb|apply Qe|apply Qc);exact Z.out)): τ ≠ ι));clear Z;clear HB;have Z:=L;have HB:=O;have ζ :=X;have g1:= δ;have a0:= ξ;have cn:= φ;have cy:= ω;clear L O X δ ξ φ ω;clear hb hbox hg)|((with_reducible refine Qr (N:=6) rfl ?_);refine Qq ?hg (N:=6) ?hd (cs:=#[.slice none 0 0,.slice none 0 0,.slice none 0 0]) (t:=34) ?hr ?_;(case hd=>rfl);(case hg=>rfl);(case hr=>first|(go_simp;done)|(go_simp;rfl));intro σ hg ob hbox hb;have L:=Aside0.mk (Qh (g:= ι) (o:=.cells #[.int .i64 J,.int .i64 B] 59 (0,0)) (by(with_reducible repeat first|apply Qb|apply Qe|apply Qc);exact Z.out) hb);have O:=Aside0.mk (Qh (g:= τ) (o:=.cells #[.slice μ Y.length η,.slice κ γ.length θ] 50 (0,0)) (by(with_reducible repeat first|apply Qb|apply Qe|apply Qc);exact ζ.out) hb);have X:=Aside0.mk (Qj (by repeat(first|(with_reducible first|exact HB.out|apply Qg|apply Qd|apply Qf|refine Qa ?_ ψ.out|refine Qa ?_ a0.out)|exact HB.out)) hb);have δ :=Aside0.mk (hbox);have ξ :=Aside0.mk ((by rw[hg];exact(Qi (by repeat(first|(with_reducible first|exact HB.out|apply Qg|apply Qd|apply Qf|refine Qa ?_ ψ.out|refine Qa ?_ a0.out)|exact HB.out))):w.heap.size≤σ));have φ :=Aside0.mk ((by rw[hg];exact(Qi (by repeat(first|(with_reducible first|exact HB.out|apply Qg|apply Qd|apply Qf|refine Qa ?_ ψ.out|refine Qa ?_ a0.out)|exact HB.out))):w.heap.size≤σ));have ω :=Aside0.mk ((by rw[hg];exact Nat.ne_of_lt (Qp (g:= ι) (o:=.cells #[.int .i64 J,.int .i64 B] 59 (0,0)) (by(with_reducible repeat first|apply Qb|apply Qe|apply Qc);exact Z.out)): ι ≠ σ));have a6:=Aside0.mk ((by rw[hg];exact Nat.ne_of_gt (Qp (g:= ι) (o:=.cells #[.int .i64 J,.int .i64 B] 59 (0,0)) (by(with_reducible repeat first|apply Qb|apply Qe|apply Qc);exact Z.out)):σ ≠ ι));have a7:=Aside0.mk ((by rw[hg];exact Nat.ne_of_lt (Qp (g:= τ) (o:=.cells #[.slice μ Y.length η,.slice κ γ.length θ] 50 (0,0)) (by(with_reducible repeat first|apply Qb|apply Qe|apply Qc);exact ζ.out)): τ ≠ σ));have ag:=Aside0.mk ((by rw[hg];exact Nat.ne_of_gt (Qp (g:= τ) (o:=.cells #[.slice μ Y.length η,.slice κ γ.length θ] 50 (0,0)) (by(with_reducible repeat first|apply Qb|apply Qe|apply Qc);exact ζ.out)):σ ≠ τ));clear Z;clear ζ;clear HB;have Z:=L;have ζ :=O;have HB:=X;have ν := δ;have g4:= ξ;have a4:= φ;have cz:= ω;have d0:=a6;have bu:=a7;have cd:=ag;clear L O X δ ξ φ ω a6 a7 ag;clear hb hbox hg;have mj:=cn.out;have ml:=cy.out;have mm:=cz.out;have mw:=d0.out;obtain⟨iy,j9,ja,jb⟩:=qD2 Z.out;have my:=bu.out;have nh:=cd.out;obtain⟨je,jf,jg,jh⟩:=qD2 ζ.out)|((with_reducible refine Qt (f:=40) rfl ?_);refine Q7 (some 16) rfl rfl Try.func40 kr rfl #[.agg #[.int .i64 J,.int .i64 B],.agg #[.slice μ Y.length η,.slice κ γ.length θ]] rfl (by(try simp only[List.map_toArray,List.map_cons,List.map_nil]);first|done|rfl|(simp only[List.length_drop,List.length_take];rfl)) ?_;(with_reducible refine(call_Check.calls k J B _ _ Y _ _ γ ck _ ?side1 ?side2 ?side3 ?side4 A4.out).mono ?_);(case side1=>repeat(first|exact(Kd.Q0 be.out HB.out)|(with_reducible refine Kd.Q3 ?_ _)|(with_reducible refine Kd.Q2 ?_ _)|(with_reducible refine Kd.Q9 ?_)));(case side2=>exact bz.out);(case side3=>repeat(first|exact(Kd.Q0 bf.out HB.out)|(with_reducible refine Kd.Q3 ?_ _)|(with_reducible refine Kd.Q2 ?_ _)|(with_reducible refine Kd.Q9 ?_)));(case side4=>exact ca.out);rintro e dl ⟨rfl,hb⟩;refine⟨_,rfl, ?_⟩;have L:=Aside0.mk (Qh (g:= ι) (o:=.cells #[.int .i64 J,.int .i64 B] 59 (0,0)) (by(with_reducible repeat first|apply Qb|apply Qe|apply Qc);exact Z.out) hb);have O:=Aside0.mk (Qh (g:= τ) (o:=.cells #[.slice μ Y.length η,.slice κ γ.length θ] 50 (0,0)) (by(with_reducible repeat first|apply Qb|apply Qe|apply Qc);exact ζ.out) hb);have X:=Aside0.mk (Qh (g:=σ) (o:=.cells #[.slice none 0 0,.slice none 0 0,.slice none 0 0] 34 (0,0)) (by(with_reducible repeat first|apply Qb|apply Qe|apply Qc);exact ν.out) hb);have δ :=Aside0.mk (Qj (by repeat(first|(with_reducible first|exact HB.out|apply Qg|apply Qd|apply Qf|refine Qa ?_ ψ.out|refine Qa ?_ a0.out|refine Qa ?_ a4.out)|exact HB.out)) hb);clear Z;clear ζ;clear ν;clear HB;have Z:=L;have ζ :=O;have ν :=X;have HB:= δ;clear L O X δ;(try clear hb);(try clear ak);(try clear hk);(try clear hi);obtain⟨ji,jo,jp,ke⟩:=qD2 Z.out)|((with_reducible refine Qt (f:=44) rfl ?_);refine Q7 (some 25) rfl rfl Try.func44 kr rfl #[.int .i64 a2,.int .i64 0,.int .i64 (wrap64 (B-1))] rfl (by(try simp only[List.map_toArray,List.map_cons,List.map_nil]);first|done|rfl|(simp only[List.length_drop,List.length_take];rfl)) ?_;(with_reducible refine(call_within.calls a2 0 (wrap64 (B-1)) false _ A6.out).mono ?_);rintro e w' ⟨rfl,⟨nd,rfl⟩⟩;refine⟨_,rfl, ?_⟩;(try(rw[Yi dl];generalize hq_:World.drewN dl _=dl;have L:Aside0 (dl.heap[ι]?=some (.cells #[.int .i64 J,.int .i64 B] 59 (0,0))):=⟨by rw[← hq_];exact(by(with_reducible repeat first|apply Qb|apply Qe|apply Qc);exact Z.out)⟩;have O:Aside0 (dl.heap[τ]?=some (.cells #[.slice μ Y.length η,.slice κ γ.length θ] 50 (0,0))):=⟨by rw[← hq_];exact(by(with_reducible repeat first|apply Qb|apply Qe|apply Qc);exact ζ.out)⟩;have X:Aside0 (dl.heap[σ]?=some (.cells #[.slice none 0 0,.slice none 0 0,.slice none 0 0] 34 (0,0))):=⟨by rw[← hq_];exact(by(with_reducible repeat first|apply Qb|apply Qe|apply Qc);exact ν.out)⟩;have δ :Aside0 (Below w.heap.size w dl):=⟨by rw[← hq_];exact(by repeat(first|(with_reducible first|exact HB.out|apply Qg|apply Qd|apply Qf|refine Qa ?_ ψ.out|refine Qa ?_ a0.out|refine Qa ?_ a4.out)|exact HB.out))⟩;clear Z ζ ν HB hq_;have Z:=L;have ζ :=O;have ν :=X;have HB:= δ;clear L O X δ));(try(have jw:dl.cell? ⟨ι,0,none⟩=some (.int .i64 J):=(Qk Z.out 0).trans rfl));(try(have jx:dl.cell? ⟨ι,1,none⟩=some (.int .i64 B):=(Qk Z.out 1).trans rfl));(try(have jy:=Qz Z.out 0));(try(have jz:=Qz Z.out 1));obtain⟨kf,kg,kh,ki,kl,km⟩:=qD3 ν.out))
   refine bodyPost_ret (Xb rfl _ _ σ 34 #[.slice none 0 0,.slice none 0 0,.slice none 0 0] (0,0) _ rfl (by(with_reducible repeat first|apply Qb|apply Qe|apply Qc);refine Qu (cs:=#[.slice none 0 0,.slice none 0 0,.slice none 0 0]) ?_ 2 _ rfl;(with_reducible repeat first|apply Qb|apply Qe|apply Qc);refine Qu (cs:=#[.slice none 0 0,.slice none 0 0,.slice none 0 0]) ?_ 1 _ rfl;(with_reducible repeat first|apply Qb|apply Qe|apply Qc);refine Qu (cs:=#[.slice none 0 0,.slice none 0 0,.slice none 0 0]) ?_ 0 _ rfl;(with_reducible repeat first|apply Qb|apply Qe|apply Qc);exact ν.out) Try.underlying34 rfl kr) rfl ?_
   exact⟨_,_,_,by first|rfl|(simp[Qo,Qn] <;> rfl)|(simp[*,Qo,Qn] <;> rfl),by first|exact Kd.Xw _ _ _ _ _|exact Kd.Yp _ _ _ _ _|exact Kd.Yl _ _ _ _ _|exact Kd.Yo _ _ _ _ _|exact Kd.Ym _ _ _ _ _,by first|exact Kd.Xw _ _ _ _ _|exact Kd.Yp _ _ _ _ _|exact Kd.Yl _ _ _ _ _|exact Kd.Yo _ _ _ _ _|exact Kd.Ym _ _ _ _ _,by first|exact Kd.Xw _ _ _ _ _|exact Kd.Yp _ _ _ _ _|exact Kd.Yl _ _ _ _ _|exact Kd.Yo _ _ _ _ _|exact Kd.Ym _ _ _ _ _,by repeat(first|(with_reducible first|exact HB.out|apply Qg|apply Qd|apply Qf|refine Qa ?_ ψ.out|refine Qa ?_ a0.out|refine Qa ?_ a4.out)|exact HB.out)⟩
 ·rw[if_neg c5] at H
  have c5b0:(ck==0)=false:=beq_eq_false_iff_ne.mpr c5
  have c5b1:(ck != 0)=true:=bne_iff_ne.mpr c5
  simp only[Option.some.injEq,Prod.mk.injEq] at H
  obtain⟨rfl,rfl,rfl,rfl⟩:=H
  go_enter Try.func24,Try.ntmps24
  go_wp2_with (first|((with_reducible refine Qr (N:=3) rfl ?_);refine Qq ?hg (N:=3) ?hd (cs:=#[.int .i64 J,.int .i64 B]) (t:=59) ?hr ?_;(case hd=>rfl);(case hg=>rfl);(case hr=>first|(go_simp;done)|(go_simp;rfl));intro ι hg nw hbox hb;have L:=Aside0.mk (Qj (by repeat(first|(with_reducible first|exact HB.out|apply Qg|apply Qd|apply Qf)|exact HB.out)) hb);have O:=Aside0.mk (hbox);have X:=Aside0.mk ((by rw[hg];exact(Qi (by repeat(first|(with_reducible first|exact HB.out|apply Qg|apply Qd|apply Qf)|exact HB.out))):w.heap.size ≤ ι));have δ :=Aside0.mk ((by rw[hg];exact(Qi (by repeat(first|(with_reducible first|exact HB.out|apply Qg|apply Qd|apply Qf)|exact HB.out))):w.heap.size ≤ ι));clear HB;have HB:=L;have Z:=O;have g0:=X;have ψ := δ;clear L O X δ;clear hb hbox hg)|((with_reducible refine Qr (N:=4) rfl ?_);refine Qq ?hg (N:=4) ?hd (cs:=#[.slice μ Y.length η,.slice κ γ.length θ]) (t:=50) ?hr ?_;(case hd=>rfl);(case hg=>rfl);(case hr=>first|(go_simp;done)|(go_simp;rfl));intro τ hg oc hbox hb;have L:=Aside0.mk (Qh (g:= ι) (o:=.cells #[.int .i64 J,.int .i64 B] 59 (0,0)) (by(with_reducible repeat first|apply Qb|apply Qe|apply Qc);exact Z.out) hb);have O:=Aside0.mk (Qj (by repeat(first|(with_reducible first|exact HB.out|apply Qg|apply Qd|apply Qf|refine Qa ?_ ψ.out)|exact HB.out)) hb);have X:=Aside0.mk (hbox);have δ :=Aside0.mk ((by rw[hg];exact(Qi (by repeat(first|(with_reducible first|exact HB.out|apply Qg|apply Qd|apply Qf|refine Qa ?_ ψ.out)|exact HB.out))):w.heap.size ≤ τ));have ξ :=Aside0.mk ((by rw[hg];exact(Qi (by repeat(first|(with_reducible first|exact HB.out|apply Qg|apply Qd|apply Qf|refine Qa ?_ ψ.out)|exact HB.out))):w.heap.size ≤ τ));have φ :=Aside0.mk ((by rw[hg];exact Nat.ne_of_lt (Qp (g:= ι) (o:=.cells #[.int .i64 J,.int .i64 B] 59 (0,0)) (by(with_reducible repeat first|apply Qb|apply Qe|apply Qc);exact Z.out)): ι ≠ τ));have ω :=Aside0.mk ((by rw[hg];exact Nat.ne_of_gt (Qp (g:= ι) (o:=.cells #[.int .i64 J,.int .i64 B] 59 (0,0)) (by(with_reducible repeat first|apply Qb|apply Qe|apply Qc);exact Z.out)): τ ≠ ι));clear Z;clear HB;have Z:=L;have HB:=O;have ζ :=X;have g1:= δ;have a0:= ξ;have cn:= φ;have cy:= ω;clear L O X δ ξ φ ω;clear hb hbox hg)|((with_reducible refine Qr (N:=6) rfl ?_);refine Qq ?hg (N:=6) ?hd (cs:=#[.slice none 0 0,.slice none 0 0,.slice none 0 0]) (t:=34) ?hr ?_;(case hd=>rfl);(case hg=>rfl);(case hr=>first|(go_simp;done)|(go_simp;rfl));intro σ hg od hbox hb;have L:=Aside0.mk (Qh (g:= ι) (o:=.cells #[.int .i64 J,.int .i64 B] 59 (0,0)) (by(with_reducible repeat first|apply Qb|apply Qe|apply Qc);exact Z.out) hb);have O:=Aside0.mk (Qh (g:= τ) (o:=.cells #[.slice μ Y.length η,.slice κ γ.length θ] 50 (0,0)) (by(with_reducible repeat first|apply Qb|apply Qe|apply Qc);exact ζ.out) hb);have X:=Aside0.mk (Qj (by repeat(first|(with_reducible first|exact HB.out|apply Qg|apply Qd|apply Qf|refine Qa ?_ ψ.out|refine Qa ?_ a0.out)|exact HB.out)) hb);have δ :=Aside0.mk (hbox);have ξ :=Aside0.mk ((by rw[hg];exact(Qi (by repeat(first|(with_reducible first|exact HB.out|apply Qg|apply Qd|apply Qf|refine Qa ?_ ψ.out|refine Qa ?_ a0.out)|exact HB.out))):w.heap.size≤σ));have φ :=Aside0.mk ((by rw[hg];exact(Qi (by repeat(first|(with_reducible first|exact HB.out|apply Qg|apply Qd|apply Qf|refine Qa ?_ ψ.out|refine Qa ?_ a0.out)|exact HB.out))):w.heap.size≤σ));have ω :=Aside0.mk ((by rw[hg];exact Nat.ne_of_lt (Qp (g:= ι) (o:=.cells #[.int .i64 J,.int .i64 B] 59 (0,0)) (by(with_reducible repeat first|apply Qb|apply Qe|apply Qc);exact Z.out)): ι ≠ σ));have a6:=Aside0.mk ((by rw[hg];exact Nat.ne_of_gt (Qp (g:= ι) (o:=.cells #[.int .i64 J,.int .i64 B] 59 (0,0)) (by(with_reducible repeat first|apply Qb|apply Qe|apply Qc);exact Z.out)):σ ≠ ι));have a7:=Aside0.mk ((by rw[hg];exact Nat.ne_of_lt (Qp (g:= τ) (o:=.cells #[.slice μ Y.length η,.slice κ γ.length θ] 50 (0,0)) (by(with_reducible repeat first|apply Qb|apply Qe|apply Qc);exact ζ.out)): τ ≠ σ));have ag:=Aside0.mk ((by rw[hg];exact Nat.ne_of_gt (Qp (g:= τ) (o:=.cells #[.slice μ Y.length η,.slice κ γ.length θ] 50 (0,0)) (by(with_reducible repeat first|apply Qb|apply Qe|apply Qc);exact ζ.out)):σ ≠ τ));clear Z;clear ζ;clear HB;have Z:=L;have ζ :=O;have HB:=X;have ν := δ;have g4:= ξ;have a4:= φ;have cz:= ω;have d0:=a6;have bu:=a7;have cd:=ag;clear L O X δ ξ φ ω a6 a7 ag;clear hb hbox hg;have lw:=cn.out;have lx:=cy.out;have ly:=cz.out;have lz:=d0.out;obtain⟨k0,k3,k4,k5⟩:=qD2 Z.out;have m0:=bu.out;have m1:=cd.out;obtain⟨kn,ko,kx,ky⟩:=qD2 ζ.out)|((with_reducible refine Qt (f:=40) rfl ?_);refine Q7 (some 16) rfl rfl Try.func40 kr rfl #[.agg #[.int .i64 J,.int .i64 B],.agg #[.slice μ Y.length η,.slice κ γ.length θ]] rfl (by(try simp only[List.map_toArray,List.map_cons,List.map_nil]);first|done|rfl|(simp only[List.length_drop,List.length_take];rfl)) ?_;(with_reducible refine(call_Check.calls k J B _ _ Y _ _ γ ck _ ?side1 ?side2 ?side3 ?side4 A4.out).mono ?_);(case side1=>repeat(first|exact(Kd.Q0 be.out HB.out)|(with_reducible refine Kd.Q3 ?_ _)|(with_reducible refine Kd.Q2 ?_ _)|(with_reducible refine Kd.Q9 ?_)));(case side2=>exact bz.out);(case side3=>repeat(first|exact(Kd.Q0 bf.out HB.out)|(with_reducible refine Kd.Q3 ?_ _)|(with_reducible refine Kd.Q2 ?_ _)|(with_reducible refine Kd.Q9 ?_)));(case side4=>exact ca.out);rintro e oe ⟨rfl,hb⟩;refine⟨_,rfl, ?_⟩;have L:=Aside0.mk (Qh (g:= ι) (o:=.cells #[.int .i64 J,.int .i64 B] 59 (0,0)) (by(with_reducible repeat first|apply Qb|apply Qe|apply Qc);exact Z.out) hb);have O:=Aside0.mk (Qh (g:= τ) (o:=.cells #[.slice μ Y.length η,.slice κ γ.length θ] 50 (0,0)) (by(with_reducible repeat first|apply Qb|apply Qe|apply Qc);exact ζ.out) hb);have X:=Aside0.mk (Qh (g:=σ) (o:=.cells #[.slice none 0 0,.slice none 0 0,.slice none 0 0] 34 (0,0)) (by(with_reducible repeat first|apply Qb|apply Qe|apply Qc);exact ν.out) hb);have δ :=Aside0.mk (Qj (by repeat(first|(with_reducible first|exact HB.out|apply Qg|apply Qd|apply Qf|refine Qa ?_ ψ.out|refine Qa ?_ a0.out|refine Qa ?_ a4.out)|exact HB.out)) hb);clear Z;clear ζ;clear ν;clear HB;have Z:=L;have ζ :=O;have ν :=X;have HB:= δ;clear L O X δ;(try clear hb);(try clear ak);(try clear hk);(try clear hi);obtain⟨k6,k7,kz,k8,k9,l2⟩:=qD3 ν.out))
  refine bodyPost_ret (Xb rfl _ _ σ 34 #[.slice none 0 0,.slice none 0 0,.slice none 0 0] (0,0) _ rfl (by(with_reducible repeat first|apply Qb|apply Qe|apply Qc);refine Qu (cs:=#[.slice none 0 0,.slice none 0 0,.slice none 0 0]) ?_ 2 _ rfl;(with_reducible repeat first|apply Qb|apply Qe|apply Qc);refine Qu (cs:=#[.slice none 0 0,.slice none 0 0,.slice none 0 0]) ?_ 1 _ rfl;(with_reducible repeat first|apply Qb|apply Qe|apply Qc);refine Qu (cs:=#[.slice none 0 0,.slice none 0 0,.slice none 0 0]) ?_ 0 _ rfl;(with_reducible repeat first|apply Qb|apply Qe|apply Qc);exact ν.out) Try.underlying34 rfl kr) rfl ?_
  exact⟨_,_,_,by first|rfl|(simp[Qo,Qn] <;> rfl)|(simp[*,Qo,Qn] <;> rfl),by first|exact Kd.Xw _ _ _ _ _|exact Kd.Yp _ _ _ _ _|exact Kd.Yl _ _ _ _ _|exact Kd.Yo _ _ _ _ _|exact Kd.Ym _ _ _ _ _,by first|exact Kd.Xw _ _ _ _ _|exact Kd.Yp _ _ _ _ _|exact Kd.Yl _ _ _ _ _|exact Kd.Yo _ _ _ _ _|exact Kd.Ym _ _ _ _ _,by first|exact Kd.Xw _ _ _ _ _|exact Kd.Yp _ _ _ _ _|exact Kd.Yl _ _ _ _ _|exact Kd.Yo _ _ _ _ _|exact Kd.Ym _ _ _ _ _,by repeat(first|(with_reducible first|exact HB.out|apply Qg|apply Qd|apply Qf|refine Qa ?_ ψ.out|refine Qa ?_ a0.out|refine Qa ?_ a4.out)|exact HB.out)⟩
def group_pick_1.f (k:Nat) (J:Int) (μ :Int) (η :Int) (ν :Int) (τ :Int) (ρ:Int) (χ :Int) (ψ :Int) (a1:Int) (a2:Int) (a5:Int) (l2:List (S31)) (a4:List (S36)) (a3:List (S86)) (ac:Int) (ae:Int) (af:Int):Option (Int):=(group_house.f μ η ν τ ρ χ ψ a1 a2 a5 l2).bind fun dz=>((call_View.f k dz.1 dz.2 a4 a3 J).bind fun cj=>(if 0≤J then (if J<(l2.length:Int) then ((group_cost.f k μ η ν τ ρ χ ψ a1 a2 a5 ((Qm l2 J).f0.f0) ((Qm l2 J).f0.f1) ((Qm l2 J).f0.f2) ((Qm l2 J).f0.f3) ((Qm l2 J).f0.f4.f0) ((Qm l2 J).f0.f4.f1) ((Qm l2 J).f0.f4.f2) ((Qm l2 J).f1) ((Qm l2 J).f2) ((Qm l2 J).f3) cj.1 cj.2.1 cj.2.2.1 ac ae af).bind fun ck=>(some ck)) else (none)) else (none)))
theorem group_pick_1.mono:∀ J Z a2 a3 L a5 O a7 a8 a9 X Y γ ε δ ζ η k,LeO (group_pick_1.f k J Z a2 a3 L a5 O a7 a8 a9 X Y γ ε δ ζ η) (group_pick_1.f (k+1) J Z a2 a3 L a5 O a7 a8 a9 X Y γ ε δ ζ η):=by
 intro J Z a2 a3 L a5 O a7 a8 a9 X Y γ ε δ ζ η k
 unfold group_pick_1.f
 repeat' first
   |(with_reducible exact call_View.mono _ _ _ _ _ _)
   |(with_reducible exact group_cost.mono _ _ _ _ _ _ _ _ _ _ _ _ _ _ _ _ _ _ _ _ _ _ _ _ _ _ _)
   |(with_reducible exact LeO.refl _)
   |(with_reducible exact LeO.none _)
   |(with_reducible refine LeO.ite ?_ ?_)
   |(with_reducible refine LeO.bind ?_ (fun _=>?_))
   |exact call_View.mono _ _ _ _ _ _
   |exact group_cost.mono _ _ _ _ _ _ _ _ _ _ _ _ _ _ _ _ _ _ _ _ _ _ _ _ _ _ _
   |exact LeO.none _
   |refine LeO.ite ?_ ?_
   |refine LeO.bind ?_ (fun _=>?_)
def group_pick_1.T1:Bool×List (List Nat×List Nat):=(true,[([],[]),([],[]),([0,1],[0,1]),([],[]),([],[]),([2,3,4,2],[2,3,4]),([5],[5]),([6],[6]),([6],[6]),([],[]),([9,7,5,0,1,2,3,4,5,6,7,9],[7,9]),([8,10,0,1,2,3,4,5,6,7,8,9,10],[8])])
def group_pick_1.B1:List Nat:=[0,0,3,0,0,31,63,127,127,0,767,2047]
theorem group_pick_1.Kq:rtab .any (opsOf Try.f58 1)=group_pick_1.T1:=by kernel_rfl
theorem group_pick_1.Y9:Z3 group_pick_1.T1.2 group_pick_1.B1=true:=by kernel_rfl
def group_pick_1.T2:Bool×List (List Nat×List Nat):=(true,[([],[]),([],[]),([],[]),([1,2],[1,2]),([3],[3]),([],[]),([],[]),([0,4,5,6],[0,4,5,6]),([7,7,0,1,2,3,4,5,6,7],[7])])
def group_pick_1.B2:List Nat:=[0,0,0,6,14,0,0,127,255]
theorem group_pick_1.tab2:rtab .any (opsOf Try.f58 2)=group_pick_1.T2:=by kernel_rfl
theorem group_pick_1.bits2:Z3 group_pick_1.T2.2 group_pick_1.B2=true:=by kernel_rfl
set_option maxHeartbeats 8000000 in
set_option maxRecDepth 100000 in
theorem group_pick_1.calls (k:Nat) (J:Int) (μ :Int) (η :Int) (ν :Int) (τ :Int) (ρ:Int) (χ :Int) (ψ :Int) (a1:Int) (a2:Int) (a5:Int) (A2:Option Addr) (c2:Nat) (l2:List (S31)) (a8:Option Addr) (a9:Nat) (a4:List (S36)) (aa:Option Addr) (ab:Nat) (a3:List (S86)) (ac:Int) (ae:Int) (af:Int) (r:Int) (w:World) (el:Kd.C k31 w A2 l2.length l2) (eb:l2.length≤c2) (dp:Kd.C k36 w a8 a4.length a4) (dq:a4.length≤a9) (dr:Kd.C k86 w aa a3.length a3) (dt:a3.length≤ab) (h:group_pick_1.f k J μ η ν τ ρ χ ψ a1 a2 a5 l2 a4 a3 ac ae af=some r) (γ:Nat) (al:Nat) (κ :Nat) (an:Nat) (e5:w.heap[γ]?=some (.cells #[.int .i64 μ,.int .i64 η,.int .i64 ν,.int .i64 τ,.int .i64 ρ,.int .i64 χ,.int .i64 ψ,.int .i64 a1,.int .i64 a2,.int .i64 a5] 25 (0,0))) (e6:w.heap[al]?=some (.cells #[.slice A2 l2.length c2] 46 (0,0))) (e7:w.heap[κ]?=some (.cells #[.slice a8 a4.length a9,.slice aa a3.length ab] 50 (0,0))) (e8:w.heap[an]?=some (.cells #[.int .i64 ac,.int .i64 ae,.int .i64 af] 36 (0,0))):
  Calls Try.prog 58 #[.int .i64 J,.pointer (some ⟨γ,0,none⟩),.pointer (some ⟨al,0,none⟩),.pointer (some ⟨κ,0,none⟩),.pointer (some ⟨an,0,none⟩)] w fun e w'=>e = .returned (.int .i64 r)∧Below w.heap.size w w':=by
 have B:=Aside0.mk e5
 clear e5
 have ζ :=Aside0.mk e6
 clear e6
 have ε :=Aside0.mk e7
 clear e7
 have θ :=Aside0.mk e8
 clear e8
 have dc:=Try.underlying25
 have fe:=Try.underlying50
 have da:=Try.underlying36
 have ga:=Try.underlying34
 have fv:=Try.underlying31
 have ec:=Aside0.mk el
 have e4:=Aside0.mk eb
 clear el eb
 have br:=Aside0.mk dp
 have cg:=Aside0.mk dq
 clear dp dq
 have ce:=Aside0.mk dr
 have ch:=Aside0.mk dt
 clear dr dt
 have HB:=Aside0.mk (Below.refl w.heap.size w)
 have H:((group_house.f μ η ν τ ρ χ ψ a1 a2 a5 l2).bind fun dz=>((call_View.f k dz.1 dz.2 a4 a3 J).bind fun cj=>(if 0≤J then (if J<(l2.length:Int) then ((group_cost.f k μ η ν τ ρ χ ψ a1 a2 a5 ((Qm l2 J).f0.f0) ((Qm l2 J).f0.f1) ((Qm l2 J).f0.f2) ((Qm l2 J).f0.f3) ((Qm l2 J).f0.f4.f0) ((Qm l2 J).f0.f4.f1) ((Qm l2 J).f0.f4.f2) ((Qm l2 J).f1) ((Qm l2 J).f2) ((Qm l2 J).f3) cj.1 cj.2.1 cj.2.2.1 ac ae af).bind fun ck=>(some ck)) else (none)) else (none))))=some r:=h
 clear h
 replace H:=Option.bind_eq_some_iff.mp H
 obtain⟨⟨cm,cn⟩,bc,H⟩:=H
 replace H:((call_View.f k cm cn a4 a3 J).bind fun cj=>(if 0≤J then (if J<(l2.length:Int) then ((group_cost.f k μ η ν τ ρ χ ψ a1 a2 a5 ((Qm l2 J).f0.f0) ((Qm l2 J).f0.f1) ((Qm l2 J).f0.f2) ((Qm l2 J).f0.f3) ((Qm l2 J).f0.f4.f0) ((Qm l2 J).f0.f4.f1) ((Qm l2 J).f0.f4.f2) ((Qm l2 J).f1) ((Qm l2 J).f2) ((Qm l2 J).f3) cj.1 cj.2.1 cj.2.2.1 ac ae af).bind fun ck=>(some ck)) else (none)) else (none)))=some r:=H
 have A6:=Aside0.mk bc
 clear bc
 replace H:=Option.bind_eq_some_iff.mp H
 obtain⟨⟨ax,az,b2,e0⟩,dd,H⟩:=H
 replace H:(if 0≤J then (if J<(l2.length:Int) then ((group_cost.f k μ η ν τ ρ χ ψ a1 a2 a5 ((Qm l2 J).f0.f0) ((Qm l2 J).f0.f1) ((Qm l2 J).f0.f2) ((Qm l2 J).f0.f3) ((Qm l2 J).f0.f4.f0) ((Qm l2 J).f0.f4.f1) ((Qm l2 J).f0.f4.f2) ((Qm l2 J).f1) ((Qm l2 J).f2) ((Qm l2 J).f3) ax az b2 ac ae af).bind fun ck=>(some ck)) else (none)) else (none))=some r:=H
 have A7:=Aside0.mk dd
 clear dd
 by_cases c8:0≤J
 ·rw[if_pos c8] at H
  have c8b0:decide (0≤J)=true:=decide_eq_true c8
  clear c8
  by_cases c9:J<(l2.length:Int)
  ·rw[if_pos c9] at H
   have c9b0:decide (J<(l2.length:Int))=true:=decide_eq_true c9
   clear c9
   replace H:=Option.bind_eq_some_iff.mp H
   obtain⟨ck,db,H⟩:=H
   replace H:(some ck)=some r:=H
   have e3:=Aside0.mk db
   clear db
   obtain rfl:=Option.some.inj H
   go_enter Try.func58,Try.ntmps58
   try go_wp2
   have L:=Aside0.mk (Qe B.out)
   have O:=Aside0.mk (Qe ζ.out)
   have X:=Aside0.mk (Qe ε.out)
   have δ :=Aside0.mk (Qe θ.out)
   have ξ :=Aside0.mk (Qf HB.out)
   clear B
   clear ζ
   clear ε
   clear θ
   clear HB
   have B:=L
   have ζ :=O
   have ε :=X
   have θ := δ
   have HB:= ξ
   clear L O X δ ξ
   refine Zv (n:=12) (S:=fun w'=>w'.cell? ⟨γ,0,none⟩=some (.int .i64 μ)∧w'.cell? ⟨γ,1,none⟩=some (.int .i64 η)∧w'.cell? ⟨γ,2,none⟩=some (.int .i64 ν)∧w'.cell? ⟨γ,3,none⟩=some (.int .i64 τ)∧w'.cell? ⟨γ,4,none⟩=some (.int .i64 ρ)∧w'.cell? ⟨γ,5,none⟩=some (.int .i64 χ)∧w'.cell? ⟨γ,6,none⟩=some (.int .i64 ψ)∧w'.cell? ⟨γ,7,none⟩=some (.int .i64 a1)∧w'.cell? ⟨γ,8,none⟩=some (.int .i64 a2)∧w'.cell? ⟨γ,9,none⟩=some (.int .i64 a5)∧w'.cell? ⟨al,0,none⟩=some (.slice A2 l2.length c2)∧w'.cell? ⟨κ,0,none⟩=some (.slice a8 a4.length a9)∧w'.cell? ⟨κ,1,none⟩=some (.slice aa a3.length ab)) (ds:=[]) #[false,false,false,false,false,false,false,false,false,false,false,false] kr rfl rfl ⟨(Qk B.out 0).trans rfl,(Qk B.out 1).trans rfl,(Qk B.out 2).trans rfl,(Qk B.out 3).trans rfl,(Qk B.out 4).trans rfl,(Qk B.out 5).trans rfl,(Qk B.out 6).trans rfl,(Qk B.out 7).trans rfl,(Qk B.out 8).trans rfl,(Qk B.out 9).trans rfl,(Qk ζ.out 0).trans rfl,(Qk ε.out 0).trans rfl,(Qk ε.out 1).trans rfl⟩ (fun hHeld=>?_);refine Zf group_pick_1.Kq group_pick_1.Y9 (fun HT_ HW_=>?_)
   generalize w.drew=gf at B ζ ε θ HB hHeld ⊢
   refine qP 4 (some 14) (qB 12 16) HT_ ?_
   refine qT 0 (some 10) (qB 12 17) HT_ HW_ hHeld ?_
   refine qT 1 (some 11) (qB 12 19) HT_ HW_ hHeld ?_
   refine qT 3 (some 13) (qB 12 27) HT_ HW_ hHeld ?_
   refine Yv (σ:=Value×Value×Value×Nat) 2 #[true,true,true,true,true,true,true,true,true,true,false,false] (fun s_=>[(12,.agg #[.int .i64 cm,.int .i64 cn]),(15,.tuple #[.agg #[s_.1,s_.2.1,s_.2.2.1],.int .i64 e0]),(7,.pointer (some ⟨s_.2.2.2,0,none⟩)),(9,.tuple #[.agg #[s_.1,s_.2.1,s_.2.2.1],.int .i64 e0]),(16,.agg #[s_.1,s_.2.1,s_.2.2.1]),(17,.int .i64 e0)]) (fun s_ w'=>(w'.cell? ⟨γ,0,none⟩=some (.int .i64 μ)∧w'.cell? ⟨γ,1,none⟩=some (.int .i64 η)∧w'.cell? ⟨γ,2,none⟩=some (.int .i64 ν)∧w'.cell? ⟨γ,3,none⟩=some (.int .i64 τ)∧w'.cell? ⟨γ,4,none⟩=some (.int .i64 ρ)∧w'.cell? ⟨γ,5,none⟩=some (.int .i64 χ)∧w'.cell? ⟨γ,6,none⟩=some (.int .i64 ψ)∧w'.cell? ⟨γ,7,none⟩=some (.int .i64 a1)∧w'.cell? ⟨γ,8,none⟩=some (.int .i64 a2)∧w'.cell? ⟨γ,9,none⟩=some (.int .i64 a5)∧w'.cell? ⟨al,0,none⟩=some (.slice A2 l2.length c2)∧w'.cell? ⟨κ,0,none⟩=some (.slice a8 a4.length a9)∧w'.cell? ⟨κ,1,none⟩=some (.slice aa a3.length ab))∧(Kd.R (Kd.int .i64) 3 w' w.heap.size (fun k_=>some k_≠(s_.2.1:Value).ownBlock∧some k_≠(s_.2.2.1:Value).ownBlock) s_.1 ax)∧(Kd.R (Kd.int .i64) 3 w' w.heap.size (fun k_=>some k_≠(s_.1:Value).ownBlock∧some k_≠(s_.2.2.1:Value).ownBlock) s_.2.1 az)∧(Kd.R (Kd.int .i64) 3 w' w.heap.size (fun k_=>some k_≠(s_.1:Value).ownBlock∧some k_≠(s_.2.1:Value).ownBlock) s_.2.2.1 b2)∧(w'.heap[γ]?=some (.cells #[.int .i64 μ,.int .i64 η,.int .i64 ν,.int .i64 τ,.int .i64 ρ,.int .i64 χ,.int .i64 ψ,.int .i64 a1,.int .i64 a2,.int .i64 a5] 25 (0,0)))∧(w'.heap[al]?=some (.cells #[.slice A2 l2.length c2] 46 (0,0)))∧(w'.heap[κ]?=some (.cells #[.slice a8 a4.length a9,.slice aa a3.length ab] 50 (0,0)))∧(w'.heap[an]?=some (.cells #[.int .i64 ac,.int .i64 ae,.int .i64 af] 36 (0,0)))∧(w'.heap[s_.2.2.2]?=some (.cells #[.slice none 0 0,.slice none 0 0,.slice none 0 0] 34 (0,0)))∧(w.heap.size≤s_.2.2.2)∧(w.heap.size≤s_.2.2.2)∧(γ≠s_.2.2.2)∧(s_.2.2.2≠γ)∧(al≠s_.2.2.2)∧(s_.2.2.2≠al)∧(κ ≠ s_.2.2.2)∧(s_.2.2.2 ≠ κ)∧(an≠s_.2.2.2)∧(s_.2.2.2≠an)∧(Below w.heap.size w w')) ?_ ?_
   rotate_left
   ·intro hCont
    refine Vz (i:=2) (j:=9) (Ni:=some 12) (Nj:=some 7) #[true,true,true,true,true,false,false,false,false,false,false,false] #[true,true,false,true,true,false,false,false,false,true,false,false] rfl rfl rfl rfl (Ja HT_.out kr) (by decide) (by decide) (fun K hK=>?_) (fun K hK=>?_)
    ·skip
     refine Zm Try.func37 kr rfl #[.agg #[.int .i64 μ,.int .i64 η,.int .i64 ν,.int .i64 τ,.int .i64 ρ,.int .i64 χ,.int .i64 ψ,.int .i64 a1,.int .i64 a2,.int .i64 a5],.slice A2 l2.length c2] (by rfl) rfl rfl (by(try simp only[List.map_toArray,List.map_cons,List.map_nil]);first|done|rfl|(simp only[List.length_drop,List.length_take];rfl)) ?_
     with_reducible refine(group_house.calls μ η ν τ ρ χ ψ a1 a2 a5 _ _ l2 cm cn _ ?side1 ?side2 A6.out).mono ?_
     (case side1=>repeat(first|exact(Kd.Q0 ec.out HB.out)|(with_reducible refine Kd.Q3 ?_ _)|(with_reducible refine Kd.Q2 ?_ _)|(with_reducible refine Kd.Q9 ?_)))
     (case side2=>exact e4.out)
     rintro e df ⟨rfl,hb⟩
     refine⟨_,rfl, ?_⟩
     have L:=Aside0.mk (Qh (g:=γ) (o:=.cells #[.int .i64 μ,.int .i64 η,.int .i64 ν,.int .i64 τ,.int .i64 ρ,.int .i64 χ,.int .i64 ψ,.int .i64 a1,.int .i64 a2,.int .i64 a5] 25 (0,0)) (by(with_reducible repeat first|apply Qb|apply Qe|apply Qc);exact B.out) hb)
     have O:=Aside0.mk (Qh (g:=al) (o:=.cells #[.slice A2 l2.length c2] 46 (0,0)) (by(with_reducible repeat first|apply Qb|apply Qe|apply Qc);exact ζ.out) hb)
     have X:=Aside0.mk (Qh (g:= κ) (o:=.cells #[.slice a8 a4.length a9,.slice aa a3.length ab] 50 (0,0)) (by(with_reducible repeat first|apply Qb|apply Qe|apply Qc);exact ε.out) hb)
     have δ :=Aside0.mk (Qh (g:=an) (o:=.cells #[.int .i64 ac,.int .i64 ae,.int .i64 af] 36 (0,0)) (by(with_reducible repeat first|apply Qb|apply Qe|apply Qc);exact θ.out) hb)
     have ξ :=Aside0.mk (Qj (by repeat(first|(with_reducible first|exact HB.out|apply Qg|apply Qd|apply Qf|refine Qa ?_ ap.out|refine Qa ?_ ar.out|refine Qa ?_ au.out|refine Qa ?_ av.out)|exact HB.out)) hb)
     clear B
     clear ζ
     clear ε
     clear θ
     clear HB
     have B:=L
     have ζ :=O
     have ε :=X
     have θ := δ
     have HB:= ξ
     clear L O X δ ξ
     (try clear hb)
     (try clear ak)
     (try clear hk)
     (try clear hi)
     refine hK.out _ _ ⟨qc B,qc B,qc B,qc B,qc B,qc B,qc B,qc B,qc B,qc B,qc ζ,qc ε,qc ε⟩ (fun hHeld=>?_)
     clear hK K
     refine qN (some 12) ?_
     refine Vz (i:=5) (j:=9) (Ni:=some 15) (Nj:=some 7) #[true,true,true,true,true,true,false,false,false,false,false,false] #[true,true,true,true,true,false,false,false,false,true,false,false] rfl rfl rfl rfl (Ja HT_.out kr) (by decide) (by decide) (fun K hK=>?_) (fun K hK=>?_)
     ·skip
      refine Zm Try.func24 kr rfl #[.agg #[.int .i64 cm,.int .i64 cn],.agg #[.slice a8 a4.length a9,.slice aa a3.length ab],.int .i64 J] (by rfl) rfl rfl (by(try simp only[List.map_toArray,List.map_cons,List.map_nil]);first|done|rfl|(simp only[List.length_drop,List.length_take];rfl)) ?_
      with_reducible refine(call_View.calls k cm cn _ _ a4 _ _ a3 J ax az b2 e0 _ ?side1 ?side2 ?side3 ?side4 A7.out).mono ?_
      (case side1=>repeat(first|exact(Kd.Q0 br.out HB.out)|(with_reducible refine Kd.Q3 ?_ _)|(with_reducible refine Kd.Q2 ?_ _)|(with_reducible refine Kd.Q9 ?_)))
      (case side2=>exact cg.out)
      (case side3=>repeat(first|exact(Kd.Q0 ce.out HB.out)|(with_reducible refine Kd.Q3 ?_ _)|(with_reducible refine Kd.Q2 ?_ _)|(with_reducible refine Kd.Q9 ?_)))
      (case side4=>exact ch.out)
      rintro e dv ⟨d6,d7,d8,rfl,bb,ci,d9,hb⟩
      refine⟨_,rfl, ?_⟩
      have L:=Aside0.mk (Kd.Zg bb (Qi (by repeat(first|(with_reducible first|exact HB.out|apply Qg|apply Qd|apply Qf|refine Qa ?_ ap.out|refine Qa ?_ ar.out|refine Qa ?_ au.out|refine Qa ?_ av.out)|exact HB.out))))
      have O:=Aside0.mk (Kd.Zg ci (Qi (by repeat(first|(with_reducible first|exact HB.out|apply Qg|apply Qd|apply Qf|refine Qa ?_ ap.out|refine Qa ?_ ar.out|refine Qa ?_ au.out|refine Qa ?_ av.out)|exact HB.out))))
      have X:=Aside0.mk (Kd.Zg d9 (Qi (by repeat(first|(with_reducible first|exact HB.out|apply Qg|apply Qd|apply Qf|refine Qa ?_ ap.out|refine Qa ?_ ar.out|refine Qa ?_ au.out|refine Qa ?_ av.out)|exact HB.out))))
      have δ :=Aside0.mk (Qh (g:=γ) (o:=.cells #[.int .i64 μ,.int .i64 η,.int .i64 ν,.int .i64 τ,.int .i64 ρ,.int .i64 χ,.int .i64 ψ,.int .i64 a1,.int .i64 a2,.int .i64 a5] 25 (0,0)) (by(with_reducible repeat first|apply Qb|apply Qe|apply Qc);exact B.out) hb)
      have ξ :=Aside0.mk (Qh (g:=al) (o:=.cells #[.slice A2 l2.length c2] 46 (0,0)) (by(with_reducible repeat first|apply Qb|apply Qe|apply Qc);exact ζ.out) hb)
      have φ :=Aside0.mk (Qh (g:= κ) (o:=.cells #[.slice a8 a4.length a9,.slice aa a3.length ab] 50 (0,0)) (by(with_reducible repeat first|apply Qb|apply Qe|apply Qc);exact ε.out) hb)
      have ω :=Aside0.mk (Qh (g:=an) (o:=.cells #[.int .i64 ac,.int .i64 ae,.int .i64 af] 36 (0,0)) (by(with_reducible repeat first|apply Qb|apply Qe|apply Qc);exact θ.out) hb)
      have a6:=Aside0.mk (Qj (by repeat(first|(with_reducible first|exact HB.out|apply Qg|apply Qd|apply Qf|refine Qa ?_ ap.out|refine Qa ?_ ar.out|refine Qa ?_ au.out|refine Qa ?_ av.out)|exact HB.out)) hb)
      clear B
      clear ζ
      clear ε
      clear θ
      clear HB
      have b3:=L
      have b4:=O
      have b7:=X
      have B:= δ
      have ζ := ξ
      have ε := φ
      have θ := ω
      have HB:=a6
      clear L O X δ ξ φ ω a6
      (try clear hb)
      (try clear ak)
      (try clear hk)
      (try clear hi)
      (try clear bb)
      (try clear ci)
      (try clear d9)
      refine hK.out _ _ ⟨qc B,qc B,qc B,qc B,qc B,qc B,qc B,qc B,qc B,qc B,qc ζ,qc ε,qc ε⟩ (fun hHeld=>?_)
      clear hK K
      refine qN (some 15) ?_
      refine qP 6 (some 9) (qB 12 127) HT_ ?_
      refine qP 7 (some 16) (qB 12 255) HT_ ?_
      refine qP 8 (some 17) (qB 12 511) HT_ ?_
      refine Zn (i:=9) (N:=some 7) #[true,true,true,true,true,true,true,true,true,true,false,false] rfl rfl (Zc HT_.out kr) (by decide) (fun K hK=>?_)
      refine Xv ?hg (N:=7) ?hd (cs:=#[.slice none 0 0,.slice none 0 0,.slice none 0 0]) (t:=34) ?hr ?_;(case hd=>rfl);(case hg=>rfl);(case hr=>first|(go_simp;done)|(go_simp;rfl))
      intro Y hg gt hbox hb
      have L:=Aside0.mk (Kd.Za (by(with_reducible repeat first|apply Kd.Qx|apply Kd.Qw|apply Kd.Qy);exact b3.out) hb)
      have O:=Aside0.mk (Kd.Za (by(with_reducible repeat first|apply Kd.Qx|apply Kd.Qw|apply Kd.Qy);exact b4.out) hb)
      have X:=Aside0.mk (Kd.Za (by(with_reducible repeat first|apply Kd.Qx|apply Kd.Qw|apply Kd.Qy);exact b7.out) hb)
      have δ :=Aside0.mk (Qh (g:=γ) (o:=.cells #[.int .i64 μ,.int .i64 η,.int .i64 ν,.int .i64 τ,.int .i64 ρ,.int .i64 χ,.int .i64 ψ,.int .i64 a1,.int .i64 a2,.int .i64 a5] 25 (0,0)) (by(with_reducible repeat first|apply Qb|apply Qe|apply Qc);exact B.out) hb)
      have ξ :=Aside0.mk (Qh (g:=al) (o:=.cells #[.slice A2 l2.length c2] 46 (0,0)) (by(with_reducible repeat first|apply Qb|apply Qe|apply Qc);exact ζ.out) hb)
      have φ :=Aside0.mk (Qh (g:= κ) (o:=.cells #[.slice a8 a4.length a9,.slice aa a3.length ab] 50 (0,0)) (by(with_reducible repeat first|apply Qb|apply Qe|apply Qc);exact ε.out) hb)
      have ω :=Aside0.mk (Qh (g:=an) (o:=.cells #[.int .i64 ac,.int .i64 ae,.int .i64 af] 36 (0,0)) (by(with_reducible repeat first|apply Qb|apply Qe|apply Qc);exact θ.out) hb)
      have a6:=Aside0.mk (Qj (by repeat(first|(with_reducible first|exact HB.out|apply Qg|apply Qd|apply Qf|refine Qa ?_ ap.out|refine Qa ?_ ar.out|refine Qa ?_ au.out|refine Qa ?_ av.out)|exact HB.out)) hb)
      have a7:=Aside0.mk (hbox)
      have ag:=Aside0.mk ((by rw[hg];exact(Qi (by repeat(first|(with_reducible first|exact HB.out|apply Qg|apply Qd|apply Qf|refine Qa ?_ ap.out|refine Qa ?_ ar.out|refine Qa ?_ au.out|refine Qa ?_ av.out)|exact HB.out))):w.heap.size≤Y))
      have ah:=Aside0.mk ((by rw[hg];exact(Qi (by repeat(first|(with_reducible first|exact HB.out|apply Qg|apply Qd|apply Qf|refine Qa ?_ ap.out|refine Qa ?_ ar.out|refine Qa ?_ au.out|refine Qa ?_ av.out)|exact HB.out))):w.heap.size≤Y))
      have ai:=Aside0.mk ((by rw[hg];exact Nat.ne_of_lt (Qp (g:=γ) (o:=.cells #[.int .i64 μ,.int .i64 η,.int .i64 ν,.int .i64 τ,.int .i64 ρ,.int .i64 χ,.int .i64 ψ,.int .i64 a1,.int .i64 a2,.int .i64 a5] 25 (0,0)) (by(with_reducible repeat first|apply Qb|apply Qe|apply Qc);exact B.out)):γ≠Y))
      have aj:=Aside0.mk ((by rw[hg];exact Nat.ne_of_gt (Qp (g:=γ) (o:=.cells #[.int .i64 μ,.int .i64 η,.int .i64 ν,.int .i64 τ,.int .i64 ρ,.int .i64 χ,.int .i64 ψ,.int .i64 a1,.int .i64 a2,.int .i64 a5] 25 (0,0)) (by(with_reducible repeat first|apply Qb|apply Qe|apply Qc);exact B.out)):Y≠γ))
      have ay:=Aside0.mk ((by rw[hg];exact Nat.ne_of_lt (Qp (g:=al) (o:=.cells #[.slice A2 l2.length c2] 46 (0,0)) (by(with_reducible repeat first|apply Qb|apply Qe|apply Qc);exact ζ.out)):al≠Y))
      have b1:=Aside0.mk ((by rw[hg];exact Nat.ne_of_gt (Qp (g:=al) (o:=.cells #[.slice A2 l2.length c2] 46 (0,0)) (by(with_reducible repeat first|apply Qb|apply Qe|apply Qc);exact ζ.out)):Y≠al))
      have ao:=Aside0.mk ((by rw[hg];exact Nat.ne_of_lt (Qp (g:= κ) (o:=.cells #[.slice a8 a4.length a9,.slice aa a3.length ab] 50 (0,0)) (by(with_reducible repeat first|apply Qb|apply Qe|apply Qc);exact ε.out)): κ ≠ Y))
      have bd:=Aside0.mk ((by rw[hg];exact Nat.ne_of_gt (Qp (g:= κ) (o:=.cells #[.slice a8 a4.length a9,.slice aa a3.length ab] 50 (0,0)) (by(with_reducible repeat first|apply Qb|apply Qe|apply Qc);exact ε.out)):Y ≠ κ))
      have d4:=Aside0.mk ((by rw[hg];exact Nat.ne_of_lt (Qp (g:=an) (o:=.cells #[.int .i64 ac,.int .i64 ae,.int .i64 af] 36 (0,0)) (by(with_reducible repeat first|apply Qb|apply Qe|apply Qc);exact θ.out)):an≠Y))
      have d5:=Aside0.mk ((by rw[hg];exact Nat.ne_of_gt (Qp (g:=an) (o:=.cells #[.int .i64 ac,.int .i64 ae,.int .i64 af] 36 (0,0)) (by(with_reducible repeat first|apply Qb|apply Qe|apply Qc);exact θ.out)):Y≠an))
      clear b3
      clear b4
      clear b7
      clear B
      clear ζ
      clear ε
      clear θ
      clear HB
      have b3:=L
      have b4:=O
      have b7:=X
      have B:= δ
      have ζ := ξ
      have ε := φ
      have θ := ω
      have HB:=a6
      have ι :=a7
      have de:=ag
      have b8:=ah
      have Z:=ai
      have bl:=aj
      have aw:=ay
      have bm:=b1
      have am:=ao
      have bn:=bd
      have b0:=d4
      have bs:=d5
      clear L O X δ ξ φ ω a6 a7 ag ah ai aj ay b1 ao bd d4 d5
      clear hb hbox hg
      refine hK.out _ _ ⟨qc B,qc B,qc B,qc B,qc B,qc B,qc B,qc B,qc B,qc B,qc ζ,qc ε,qc ε⟩ (fun hHeld=>?_)
      clear hK K
      refine qN (some 7) ?_
      exact Zx (by simp only[Zb,Act.put,qS]) (hCont (d6,d7,d8,Y) _ ⟨hHeld,(by(with_reducible repeat first|apply Kd.Qx|apply Kd.Qw|apply Kd.Qy);exact b3.out),(by(with_reducible repeat first|apply Kd.Qx|apply Kd.Qw|apply Kd.Qy);exact b4.out),(by(with_reducible repeat first|apply Kd.Qx|apply Kd.Qw|apply Kd.Qy);exact b7.out),(by(with_reducible repeat first|apply Qb|apply Qe|apply Qc);exact B.out),(by(with_reducible repeat first|apply Qb|apply Qe|apply Qc);exact ζ.out),(by(with_reducible repeat first|apply Qb|apply Qe|apply Qc);exact ε.out),(by(with_reducible repeat first|apply Qb|apply Qe|apply Qc);exact θ.out),(by(with_reducible repeat first|apply Qb|apply Qe|apply Qc);exact ι.out),de.out,b8.out,Z.out,bl.out,aw.out,bm.out,am.out,bn.out,b0.out,bs.out,(by repeat(first|(with_reducible first|exact HB.out|apply Qg|apply Qd|apply Qf|refine Qa ?_ ap.out|refine Qa ?_ ar.out|refine Qa ?_ au.out|refine Qa ?_ av.out|refine Qa ?_ b8.out)|exact HB.out))⟩)
     ·skip
      refine Xv ?hg (N:=7) ?hd (cs:=#[.slice none 0 0,.slice none 0 0,.slice none 0 0]) (t:=34) ?hr ?_;(case hd=>rfl);(case hg=>rfl);(case hr=>first|(go_simp;done)|(go_simp;rfl))
      intro Y hg dv hbox hb
      have L:=Aside0.mk (Qh (g:=γ) (o:=.cells #[.int .i64 μ,.int .i64 η,.int .i64 ν,.int .i64 τ,.int .i64 ρ,.int .i64 χ,.int .i64 ψ,.int .i64 a1,.int .i64 a2,.int .i64 a5] 25 (0,0)) (by(with_reducible repeat first|apply Qb|apply Qe|apply Qc);exact B.out) hb)
      have O:=Aside0.mk (Qh (g:=al) (o:=.cells #[.slice A2 l2.length c2] 46 (0,0)) (by(with_reducible repeat first|apply Qb|apply Qe|apply Qc);exact ζ.out) hb)
      have X:=Aside0.mk (Qh (g:= κ) (o:=.cells #[.slice a8 a4.length a9,.slice aa a3.length ab] 50 (0,0)) (by(with_reducible repeat first|apply Qb|apply Qe|apply Qc);exact ε.out) hb)
      have δ :=Aside0.mk (Qh (g:=an) (o:=.cells #[.int .i64 ac,.int .i64 ae,.int .i64 af] 36 (0,0)) (by(with_reducible repeat first|apply Qb|apply Qe|apply Qc);exact θ.out) hb)
      have ξ :=Aside0.mk (Qj (by repeat(first|(with_reducible first|exact HB.out|apply Qg|apply Qd|apply Qf|refine Qa ?_ ap.out|refine Qa ?_ ar.out|refine Qa ?_ au.out|refine Qa ?_ av.out)|exact HB.out)) hb)
      have φ :=Aside0.mk (hbox)
      have ω :=Aside0.mk ((by rw[hg];exact(Qi (by repeat(first|(with_reducible first|exact HB.out|apply Qg|apply Qd|apply Qf|refine Qa ?_ ap.out|refine Qa ?_ ar.out|refine Qa ?_ au.out|refine Qa ?_ av.out)|exact HB.out))):w.heap.size≤Y))
      have a6:=Aside0.mk ((by rw[hg];exact(Qi (by repeat(first|(with_reducible first|exact HB.out|apply Qg|apply Qd|apply Qf|refine Qa ?_ ap.out|refine Qa ?_ ar.out|refine Qa ?_ au.out|refine Qa ?_ av.out)|exact HB.out))):w.heap.size≤Y))
      have a7:=Aside0.mk ((by rw[hg];exact Nat.ne_of_lt (Qp (g:=γ) (o:=.cells #[.int .i64 μ,.int .i64 η,.int .i64 ν,.int .i64 τ,.int .i64 ρ,.int .i64 χ,.int .i64 ψ,.int .i64 a1,.int .i64 a2,.int .i64 a5] 25 (0,0)) (by(with_reducible repeat first|apply Qb|apply Qe|apply Qc);exact B.out)):γ≠Y))
      have ag:=Aside0.mk ((by rw[hg];exact Nat.ne_of_gt (Qp (g:=γ) (o:=.cells #[.int .i64 μ,.int .i64 η,.int .i64 ν,.int .i64 τ,.int .i64 ρ,.int .i64 χ,.int .i64 ψ,.int .i64 a1,.int .i64 a2,.int .i64 a5] 25 (0,0)) (by(with_reducible repeat first|apply Qb|apply Qe|apply Qc);exact B.out)):Y≠γ))
      have ah:=Aside0.mk ((by rw[hg];exact Nat.ne_of_lt (Qp (g:=al) (o:=.cells #[.slice A2 l2.length c2] 46 (0,0)) (by(with_reducible repeat first|apply Qb|apply Qe|apply Qc);exact ζ.out)):al≠Y))
      have ai:=Aside0.mk ((by rw[hg];exact Nat.ne_of_gt (Qp (g:=al) (o:=.cells #[.slice A2 l2.length c2] 46 (0,0)) (by(with_reducible repeat first|apply Qb|apply Qe|apply Qc);exact ζ.out)):Y≠al))
      have aj:=Aside0.mk ((by rw[hg];exact Nat.ne_of_lt (Qp (g:= κ) (o:=.cells #[.slice a8 a4.length a9,.slice aa a3.length ab] 50 (0,0)) (by(with_reducible repeat first|apply Qb|apply Qe|apply Qc);exact ε.out)): κ ≠ Y))
      have ay:=Aside0.mk ((by rw[hg];exact Nat.ne_of_gt (Qp (g:= κ) (o:=.cells #[.slice a8 a4.length a9,.slice aa a3.length ab] 50 (0,0)) (by(with_reducible repeat first|apply Qb|apply Qe|apply Qc);exact ε.out)):Y ≠ κ))
      have b1:=Aside0.mk ((by rw[hg];exact Nat.ne_of_lt (Qp (g:=an) (o:=.cells #[.int .i64 ac,.int .i64 ae,.int .i64 af] 36 (0,0)) (by(with_reducible repeat first|apply Qb|apply Qe|apply Qc);exact θ.out)):an≠Y))
      have ao:=Aside0.mk ((by rw[hg];exact Nat.ne_of_gt (Qp (g:=an) (o:=.cells #[.int .i64 ac,.int .i64 ae,.int .i64 af] 36 (0,0)) (by(with_reducible repeat first|apply Qb|apply Qe|apply Qc);exact θ.out)):Y≠an))
      clear B
      clear ζ
      clear ε
      clear θ
      clear HB
      have B:=L
      have ζ :=O
      have ε :=X
      have θ := δ
      have HB:= ξ
      have ι := φ
      have de:= ω
      have b8:=a6
      have Z:=a7
      have bl:=ag
      have aw:=ah
      have bm:=ai
      have am:=aj
      have bn:=ay
      have b0:=b1
      have bs:=ao
      clear L O X δ ξ φ ω a6 a7 ag ah ai aj ay b1 ao
      clear hb hbox hg
      refine hK.out _ _ ⟨qc B,qc B,qc B,qc B,qc B,qc B,qc B,qc B,qc B,qc B,qc ζ,qc ε,qc ε⟩ (fun hHeld=>?_)
      clear hK K
      refine qN (some 7) ?_
      refine Zn (i:=5) (N:=some 15) #[true,true,true,true,true,true,false,false,false,true,false,false] rfl rfl (Zc HT_.out kr) (by decide) (fun K hK=>?_)
      refine Zm Try.func24 kr rfl #[.agg #[.int .i64 cm,.int .i64 cn],.agg #[.slice a8 a4.length a9,.slice aa a3.length ab],.int .i64 J] (by rfl) rfl rfl (by(try simp only[List.map_toArray,List.map_cons,List.map_nil]);first|done|rfl|(simp only[List.length_drop,List.length_take];rfl)) ?_
      with_reducible refine(call_View.calls k cm cn _ _ a4 _ _ a3 J ax az b2 e0 _ ?side1 ?side2 ?side3 ?side4 A7.out).mono ?_
      (case side1=>repeat(first|exact(Kd.Q0 br.out HB.out)|(with_reducible refine Kd.Q3 ?_ _)|(with_reducible refine Kd.Q2 ?_ _)|(with_reducible refine Kd.Q9 ?_)))
      (case side2=>exact cg.out)
      (case side3=>repeat(first|exact(Kd.Q0 ce.out HB.out)|(with_reducible refine Kd.Q3 ?_ _)|(with_reducible refine Kd.Q2 ?_ _)|(with_reducible refine Kd.Q9 ?_)))
      (case side4=>exact ch.out)
      rintro e gt ⟨d6,d7,d8,rfl,bb,ci,d9,hb⟩
      refine⟨_,rfl, ?_⟩
      have L:=Aside0.mk (Kd.Zg bb (Qi (by repeat(first|(with_reducible first|exact HB.out|apply Qg|apply Qd|apply Qf|refine Qa ?_ ap.out|refine Qa ?_ ar.out|refine Qa ?_ au.out|refine Qa ?_ av.out|refine Qa ?_ b8.out)|exact HB.out))))
      have O:=Aside0.mk (Kd.Zg ci (Qi (by repeat(first|(with_reducible first|exact HB.out|apply Qg|apply Qd|apply Qf|refine Qa ?_ ap.out|refine Qa ?_ ar.out|refine Qa ?_ au.out|refine Qa ?_ av.out|refine Qa ?_ b8.out)|exact HB.out))))
      have X:=Aside0.mk (Kd.Zg d9 (Qi (by repeat(first|(with_reducible first|exact HB.out|apply Qg|apply Qd|apply Qf|refine Qa ?_ ap.out|refine Qa ?_ ar.out|refine Qa ?_ au.out|refine Qa ?_ av.out|refine Qa ?_ b8.out)|exact HB.out))))
      have δ :=Aside0.mk (Qh (g:=γ) (o:=.cells #[.int .i64 μ,.int .i64 η,.int .i64 ν,.int .i64 τ,.int .i64 ρ,.int .i64 χ,.int .i64 ψ,.int .i64 a1,.int .i64 a2,.int .i64 a5] 25 (0,0)) (by(with_reducible repeat first|apply Qb|apply Qe|apply Qc);exact B.out) hb)
      have ξ :=Aside0.mk (Qh (g:=al) (o:=.cells #[.slice A2 l2.length c2] 46 (0,0)) (by(with_reducible repeat first|apply Qb|apply Qe|apply Qc);exact ζ.out) hb)
      have φ :=Aside0.mk (Qh (g:= κ) (o:=.cells #[.slice a8 a4.length a9,.slice aa a3.length ab] 50 (0,0)) (by(with_reducible repeat first|apply Qb|apply Qe|apply Qc);exact ε.out) hb)
      have ω :=Aside0.mk (Qh (g:=an) (o:=.cells #[.int .i64 ac,.int .i64 ae,.int .i64 af] 36 (0,0)) (by(with_reducible repeat first|apply Qb|apply Qe|apply Qc);exact θ.out) hb)
      have a6:=Aside0.mk (Qh (g:=Y) (o:=.cells #[.slice none 0 0,.slice none 0 0,.slice none 0 0] 34 (0,0)) (by(with_reducible repeat first|apply Qb|apply Qe|apply Qc);exact ι.out) hb)
      have a7:=Aside0.mk (Qj (by repeat(first|(with_reducible first|exact HB.out|apply Qg|apply Qd|apply Qf|refine Qa ?_ ap.out|refine Qa ?_ ar.out|refine Qa ?_ au.out|refine Qa ?_ av.out|refine Qa ?_ b8.out)|exact HB.out)) hb)
      clear B
      clear ζ
      clear ε
      clear θ
      clear ι
      clear HB
      have b3:=L
      have b4:=O
      have b7:=X
      have B:= δ
      have ζ := ξ
      have ε := φ
      have θ := ω
      have ι :=a6
      have HB:=a7
      clear L O X δ ξ φ ω a6 a7
      (try clear hb)
      (try clear ak)
      (try clear hk)
      (try clear hi)
      (try clear bb)
      (try clear ci)
      (try clear d9)
      refine hK.out _ _ ⟨qc B,qc B,qc B,qc B,qc B,qc B,qc B,qc B,qc B,qc B,qc ζ,qc ε,qc ε⟩ (fun hHeld=>?_)
      clear hK K
      refine qN (some 15) ?_
      refine qP 6 (some 9) (qB 12 639) HT_ ?_
      refine qP 7 (some 16) (qB 12 767) HT_ ?_
      refine qP 8 (some 17) (qB 12 1023) HT_ ?_
      exact Zx (by simp only[Zb,Act.put,qS]) (hCont (d6,d7,d8,Y) _ ⟨hHeld,(by(with_reducible repeat first|apply Kd.Qx|apply Kd.Qw|apply Kd.Qy);exact b3.out),(by(with_reducible repeat first|apply Kd.Qx|apply Kd.Qw|apply Kd.Qy);exact b4.out),(by(with_reducible repeat first|apply Kd.Qx|apply Kd.Qw|apply Kd.Qy);exact b7.out),(by(with_reducible repeat first|apply Qb|apply Qe|apply Qc);exact B.out),(by(with_reducible repeat first|apply Qb|apply Qe|apply Qc);exact ζ.out),(by(with_reducible repeat first|apply Qb|apply Qe|apply Qc);exact ε.out),(by(with_reducible repeat first|apply Qb|apply Qe|apply Qc);exact θ.out),(by(with_reducible repeat first|apply Qb|apply Qe|apply Qc);exact ι.out),de.out,b8.out,Z.out,bl.out,aw.out,bm.out,am.out,bn.out,b0.out,bs.out,(by repeat(first|(with_reducible first|exact HB.out|apply Qg|apply Qd|apply Qf|refine Qa ?_ ap.out|refine Qa ?_ ar.out|refine Qa ?_ au.out|refine Qa ?_ av.out|refine Qa ?_ b8.out)|exact HB.out))⟩)
    ·skip
     refine Xv ?hg (N:=7) ?hd (cs:=#[.slice none 0 0,.slice none 0 0,.slice none 0 0]) (t:=34) ?hr ?_;(case hd=>rfl);(case hg=>rfl);(case hr=>first|(go_simp;done)|(go_simp;rfl))
     intro Y hg df hbox hb
     have L:=Aside0.mk (Qh (g:=γ) (o:=.cells #[.int .i64 μ,.int .i64 η,.int .i64 ν,.int .i64 τ,.int .i64 ρ,.int .i64 χ,.int .i64 ψ,.int .i64 a1,.int .i64 a2,.int .i64 a5] 25 (0,0)) (by(with_reducible repeat first|apply Qb|apply Qe|apply Qc);exact B.out) hb)
     have O:=Aside0.mk (Qh (g:=al) (o:=.cells #[.slice A2 l2.length c2] 46 (0,0)) (by(with_reducible repeat first|apply Qb|apply Qe|apply Qc);exact ζ.out) hb)
     have X:=Aside0.mk (Qh (g:= κ) (o:=.cells #[.slice a8 a4.length a9,.slice aa a3.length ab] 50 (0,0)) (by(with_reducible repeat first|apply Qb|apply Qe|apply Qc);exact ε.out) hb)
     have δ :=Aside0.mk (Qh (g:=an) (o:=.cells #[.int .i64 ac,.int .i64 ae,.int .i64 af] 36 (0,0)) (by(with_reducible repeat first|apply Qb|apply Qe|apply Qc);exact θ.out) hb)
     have ξ :=Aside0.mk (Qj (by repeat(first|(with_reducible first|exact HB.out|apply Qg|apply Qd|apply Qf|refine Qa ?_ ap.out|refine Qa ?_ ar.out|refine Qa ?_ au.out|refine Qa ?_ av.out)|exact HB.out)) hb)
     have φ :=Aside0.mk (hbox)
     have ω :=Aside0.mk ((by rw[hg];exact(Qi (by repeat(first|(with_reducible first|exact HB.out|apply Qg|apply Qd|apply Qf|refine Qa ?_ ap.out|refine Qa ?_ ar.out|refine Qa ?_ au.out|refine Qa ?_ av.out)|exact HB.out))):w.heap.size≤Y))
     have a6:=Aside0.mk ((by rw[hg];exact(Qi (by repeat(first|(with_reducible first|exact HB.out|apply Qg|apply Qd|apply Qf|refine Qa ?_ ap.out|refine Qa ?_ ar.out|refine Qa ?_ au.out|refine Qa ?_ av.out)|exact HB.out))):w.heap.size≤Y))
     have a7:=Aside0.mk ((by rw[hg];exact Nat.ne_of_lt (Qp (g:=γ) (o:=.cells #[.int .i64 μ,.int .i64 η,.int .i64 ν,.int .i64 τ,.int .i64 ρ,.int .i64 χ,.int .i64 ψ,.int .i64 a1,.int .i64 a2,.int .i64 a5] 25 (0,0)) (by(with_reducible repeat first|apply Qb|apply Qe|apply Qc);exact B.out)):γ≠Y))
     have ag:=Aside0.mk ((by rw[hg];exact Nat.ne_of_gt (Qp (g:=γ) (o:=.cells #[.int .i64 μ,.int .i64 η,.int .i64 ν,.int .i64 τ,.int .i64 ρ,.int .i64 χ,.int .i64 ψ,.int .i64 a1,.int .i64 a2,.int .i64 a5] 25 (0,0)) (by(with_reducible repeat first|apply Qb|apply Qe|apply Qc);exact B.out)):Y≠γ))
     have ah:=Aside0.mk ((by rw[hg];exact Nat.ne_of_lt (Qp (g:=al) (o:=.cells #[.slice A2 l2.length c2] 46 (0,0)) (by(with_reducible repeat first|apply Qb|apply Qe|apply Qc);exact ζ.out)):al≠Y))
     have ai:=Aside0.mk ((by rw[hg];exact Nat.ne_of_gt (Qp (g:=al) (o:=.cells #[.slice A2 l2.length c2] 46 (0,0)) (by(with_reducible repeat first|apply Qb|apply Qe|apply Qc);exact ζ.out)):Y≠al))
     have aj:=Aside0.mk ((by rw[hg];exact Nat.ne_of_lt (Qp (g:= κ) (o:=.cells #[.slice a8 a4.length a9,.slice aa a3.length ab] 50 (0,0)) (by(with_reducible repeat first|apply Qb|apply Qe|apply Qc);exact ε.out)): κ ≠ Y))
     have ay:=Aside0.mk ((by rw[hg];exact Nat.ne_of_gt (Qp (g:= κ) (o:=.cells #[.slice a8 a4.length a9,.slice aa a3.length ab] 50 (0,0)) (by(with_reducible repeat first|apply Qb|apply Qe|apply Qc);exact ε.out)):Y ≠ κ))
     have b1:=Aside0.mk ((by rw[hg];exact Nat.ne_of_lt (Qp (g:=an) (o:=.cells #[.int .i64 ac,.int .i64 ae,.int .i64 af] 36 (0,0)) (by(with_reducible repeat first|apply Qb|apply Qe|apply Qc);exact θ.out)):an≠Y))
     have ao:=Aside0.mk ((by rw[hg];exact Nat.ne_of_gt (Qp (g:=an) (o:=.cells #[.int .i64 ac,.int .i64 ae,.int .i64 af] 36 (0,0)) (by(with_reducible repeat first|apply Qb|apply Qe|apply Qc);exact θ.out)):Y≠an))
     clear B
     clear ζ
     clear ε
     clear θ
     clear HB
     have B:=L
     have ζ :=O
     have ε :=X
     have θ := δ
     have HB:= ξ
     have ι := φ
     have de:= ω
     have b8:=a6
     have Z:=a7
     have bl:=ag
     have aw:=ah
     have bm:=ai
     have am:=aj
     have bn:=ay
     have b0:=b1
     have bs:=ao
     clear L O X δ ξ φ ω a6 a7 ag ah ai aj ay b1 ao
     clear hb hbox hg
     refine hK.out _ _ ⟨qc B,qc B,qc B,qc B,qc B,qc B,qc B,qc B,qc B,qc B,qc ζ,qc ε,qc ε⟩ (fun hHeld=>?_)
     clear hK K
     refine qN (some 7) ?_
     refine Zn (i:=2) (N:=some 12) #[true,true,true,true,true,false,false,false,false,true,false,false] rfl rfl (Zc HT_.out kr) (by decide) (fun K hK=>?_)
     refine Zm Try.func37 kr rfl #[.agg #[.int .i64 μ,.int .i64 η,.int .i64 ν,.int .i64 τ,.int .i64 ρ,.int .i64 χ,.int .i64 ψ,.int .i64 a1,.int .i64 a2,.int .i64 a5],.slice A2 l2.length c2] (by rfl) rfl rfl (by(try simp only[List.map_toArray,List.map_cons,List.map_nil]);first|done|rfl|(simp only[List.length_drop,List.length_take];rfl)) ?_
     with_reducible refine(group_house.calls μ η ν τ ρ χ ψ a1 a2 a5 _ _ l2 cm cn _ ?side1 ?side2 A6.out).mono ?_
     (case side1=>repeat(first|exact(Kd.Q0 ec.out HB.out)|(with_reducible refine Kd.Q3 ?_ _)|(with_reducible refine Kd.Q2 ?_ _)|(with_reducible refine Kd.Q9 ?_)))
     (case side2=>exact e4.out)
     rintro e dv ⟨rfl,hb⟩
     refine⟨_,rfl, ?_⟩
     have L:=Aside0.mk (Qh (g:=γ) (o:=.cells #[.int .i64 μ,.int .i64 η,.int .i64 ν,.int .i64 τ,.int .i64 ρ,.int .i64 χ,.int .i64 ψ,.int .i64 a1,.int .i64 a2,.int .i64 a5] 25 (0,0)) (by(with_reducible repeat first|apply Qb|apply Qe|apply Qc);exact B.out) hb)
     have O:=Aside0.mk (Qh (g:=al) (o:=.cells #[.slice A2 l2.length c2] 46 (0,0)) (by(with_reducible repeat first|apply Qb|apply Qe|apply Qc);exact ζ.out) hb)
     have X:=Aside0.mk (Qh (g:= κ) (o:=.cells #[.slice a8 a4.length a9,.slice aa a3.length ab] 50 (0,0)) (by(with_reducible repeat first|apply Qb|apply Qe|apply Qc);exact ε.out) hb)
     have δ :=Aside0.mk (Qh (g:=an) (o:=.cells #[.int .i64 ac,.int .i64 ae,.int .i64 af] 36 (0,0)) (by(with_reducible repeat first|apply Qb|apply Qe|apply Qc);exact θ.out) hb)
     have ξ :=Aside0.mk (Qh (g:=Y) (o:=.cells #[.slice none 0 0,.slice none 0 0,.slice none 0 0] 34 (0,0)) (by(with_reducible repeat first|apply Qb|apply Qe|apply Qc);exact ι.out) hb)
     have φ :=Aside0.mk (Qj (by repeat(first|(with_reducible first|exact HB.out|apply Qg|apply Qd|apply Qf|refine Qa ?_ ap.out|refine Qa ?_ ar.out|refine Qa ?_ au.out|refine Qa ?_ av.out|refine Qa ?_ b8.out)|exact HB.out)) hb)
     clear B
     clear ζ
     clear ε
     clear θ
     clear ι
     clear HB
     have B:=L
     have ζ :=O
     have ε :=X
     have θ := δ
     have ι := ξ
     have HB:= φ
     clear L O X δ ξ φ
     (try clear hb)
     (try clear ak)
     (try clear hk)
     (try clear hi)
     refine hK.out _ _ ⟨qc B,qc B,qc B,qc B,qc B,qc B,qc B,qc B,qc B,qc B,qc ζ,qc ε,qc ε⟩ (fun hHeld=>?_)
     clear hK K
     refine qN (some 12) ?_
     refine Zn (i:=5) (N:=some 15) #[true,true,true,true,true,true,false,false,false,true,false,false] rfl rfl (Zc HT_.out kr) (by decide) (fun K hK=>?_)
     refine Zm Try.func24 kr rfl #[.agg #[.int .i64 cm,.int .i64 cn],.agg #[.slice a8 a4.length a9,.slice aa a3.length ab],.int .i64 J] (by rfl) rfl rfl (by(try simp only[List.map_toArray,List.map_cons,List.map_nil]);first|done|rfl|(simp only[List.length_drop,List.length_take];rfl)) ?_
     with_reducible refine(call_View.calls k cm cn _ _ a4 _ _ a3 J ax az b2 e0 _ ?side1 ?side2 ?side3 ?side4 A7.out).mono ?_
     (case side1=>repeat(first|exact(Kd.Q0 br.out HB.out)|(with_reducible refine Kd.Q3 ?_ _)|(with_reducible refine Kd.Q2 ?_ _)|(with_reducible refine Kd.Q9 ?_)))
     (case side2=>exact cg.out)
     (case side3=>repeat(first|exact(Kd.Q0 ce.out HB.out)|(with_reducible refine Kd.Q3 ?_ _)|(with_reducible refine Kd.Q2 ?_ _)|(with_reducible refine Kd.Q9 ?_)))
     (case side4=>exact ch.out)
     rintro e gt ⟨d6,d7,d8,rfl,bb,ci,d9,hb⟩
     refine⟨_,rfl, ?_⟩
     have L:=Aside0.mk (Kd.Zg bb (Qi (by repeat(first|(with_reducible first|exact HB.out|apply Qg|apply Qd|apply Qf|refine Qa ?_ ap.out|refine Qa ?_ ar.out|refine Qa ?_ au.out|refine Qa ?_ av.out|refine Qa ?_ b8.out)|exact HB.out))))
     have O:=Aside0.mk (Kd.Zg ci (Qi (by repeat(first|(with_reducible first|exact HB.out|apply Qg|apply Qd|apply Qf|refine Qa ?_ ap.out|refine Qa ?_ ar.out|refine Qa ?_ au.out|refine Qa ?_ av.out|refine Qa ?_ b8.out)|exact HB.out))))
     have X:=Aside0.mk (Kd.Zg d9 (Qi (by repeat(first|(with_reducible first|exact HB.out|apply Qg|apply Qd|apply Qf|refine Qa ?_ ap.out|refine Qa ?_ ar.out|refine Qa ?_ au.out|refine Qa ?_ av.out|refine Qa ?_ b8.out)|exact HB.out))))
     have δ :=Aside0.mk (Qh (g:=γ) (o:=.cells #[.int .i64 μ,.int .i64 η,.int .i64 ν,.int .i64 τ,.int .i64 ρ,.int .i64 χ,.int .i64 ψ,.int .i64 a1,.int .i64 a2,.int .i64 a5] 25 (0,0)) (by(with_reducible repeat first|apply Qb|apply Qe|apply Qc);exact B.out) hb)
     have ξ :=Aside0.mk (Qh (g:=al) (o:=.cells #[.slice A2 l2.length c2] 46 (0,0)) (by(with_reducible repeat first|apply Qb|apply Qe|apply Qc);exact ζ.out) hb)
     have φ :=Aside0.mk (Qh (g:= κ) (o:=.cells #[.slice a8 a4.length a9,.slice aa a3.length ab] 50 (0,0)) (by(with_reducible repeat first|apply Qb|apply Qe|apply Qc);exact ε.out) hb)
     have ω :=Aside0.mk (Qh (g:=an) (o:=.cells #[.int .i64 ac,.int .i64 ae,.int .i64 af] 36 (0,0)) (by(with_reducible repeat first|apply Qb|apply Qe|apply Qc);exact θ.out) hb)
     have a6:=Aside0.mk (Qh (g:=Y) (o:=.cells #[.slice none 0 0,.slice none 0 0,.slice none 0 0] 34 (0,0)) (by(with_reducible repeat first|apply Qb|apply Qe|apply Qc);exact ι.out) hb)
     have a7:=Aside0.mk (Qj (by repeat(first|(with_reducible first|exact HB.out|apply Qg|apply Qd|apply Qf|refine Qa ?_ ap.out|refine Qa ?_ ar.out|refine Qa ?_ au.out|refine Qa ?_ av.out|refine Qa ?_ b8.out)|exact HB.out)) hb)
     clear B
     clear ζ
     clear ε
     clear θ
     clear ι
     clear HB
     have b3:=L
     have b4:=O
     have b7:=X
     have B:= δ
     have ζ := ξ
     have ε := φ
     have θ := ω
     have ι :=a6
     have HB:=a7
     clear L O X δ ξ φ ω a6 a7
     (try clear hb)
     (try clear ak)
     (try clear hk)
     (try clear hi)
     (try clear bb)
     (try clear ci)
     (try clear d9)
     refine hK.out _ _ ⟨qc B,qc B,qc B,qc B,qc B,qc B,qc B,qc B,qc B,qc B,qc ζ,qc ε,qc ε⟩ (fun hHeld=>?_)
     clear hK K
     refine qN (some 15) ?_
     refine qP 6 (some 9) (qB 12 639) HT_ ?_
     refine qP 7 (some 16) (qB 12 767) HT_ ?_
     refine qP 8 (some 17) (qB 12 1023) HT_ ?_
     exact Zx (by simp only[Zb,Act.put,qS]) (hCont (d6,d7,d8,Y) _ ⟨hHeld,(by(with_reducible repeat first|apply Kd.Qx|apply Kd.Qw|apply Kd.Qy);exact b3.out),(by(with_reducible repeat first|apply Kd.Qx|apply Kd.Qw|apply Kd.Qy);exact b4.out),(by(with_reducible repeat first|apply Kd.Qx|apply Kd.Qw|apply Kd.Qy);exact b7.out),(by(with_reducible repeat first|apply Qb|apply Qe|apply Qc);exact B.out),(by(with_reducible repeat first|apply Qb|apply Qe|apply Qc);exact ζ.out),(by(with_reducible repeat first|apply Qb|apply Qe|apply Qc);exact ε.out),(by(with_reducible repeat first|apply Qb|apply Qe|apply Qc);exact θ.out),(by(with_reducible repeat first|apply Qb|apply Qe|apply Qc);exact ι.out),de.out,b8.out,Z.out,bl.out,aw.out,bm.out,am.out,bn.out,b0.out,bs.out,(by repeat(first|(with_reducible first|exact HB.out|apply Qg|apply Qd|apply Qf|refine Qa ?_ ap.out|refine Qa ?_ ar.out|refine Qa ?_ au.out|refine Qa ?_ av.out|refine Qa ?_ b8.out)|exact HB.out))⟩)
   rintro⟨d6,d7,d8,Y⟩ ba ⟨hS_,bf,bg,bh,bi,bj,bw,cr,ct,cu,cv,bz,ca,cb,co,et,ed,ee,ef,eg⟩
   have L:Aside0 (Kd.R (Kd.int .i64) 3 ba w.heap.size (fun k_=>some k_≠(d7:Value).ownBlock∧some k_≠(d8:Value).ownBlock) d6 ax):=⟨bf⟩
   have O:Aside0 (Kd.R (Kd.int .i64) 3 ba w.heap.size (fun k_=>some k_≠(d6:Value).ownBlock∧some k_≠(d8:Value).ownBlock) d7 az):=⟨bg⟩
   have X:Aside0 (Kd.R (Kd.int .i64) 3 ba w.heap.size (fun k_=>some k_≠(d6:Value).ownBlock∧some k_≠(d7:Value).ownBlock) d8 b2):=⟨bh⟩
   have δ :Aside0 (ba.heap[γ]?=some (.cells #[.int .i64 μ,.int .i64 η,.int .i64 ν,.int .i64 τ,.int .i64 ρ,.int .i64 χ,.int .i64 ψ,.int .i64 a1,.int .i64 a2,.int .i64 a5] 25 (0,0))):=⟨bi⟩
   have ξ :Aside0 (ba.heap[al]?=some (.cells #[.slice A2 l2.length c2] 46 (0,0))):=⟨bj⟩
   have φ :Aside0 (ba.heap[κ]?=some (.cells #[.slice a8 a4.length a9,.slice aa a3.length ab] 50 (0,0))):=⟨bw⟩
   have ω :Aside0 (ba.heap[an]?=some (.cells #[.int .i64 ac,.int .i64 ae,.int .i64 af] 36 (0,0))):=⟨cr⟩
   have a6:Aside0 (ba.heap[Y]?=some (.cells #[.slice none 0 0,.slice none 0 0,.slice none 0 0] 34 (0,0))):=⟨ct⟩
   have a7:Aside0 (w.heap.size≤Y):=⟨cu⟩
   have ag:Aside0 (w.heap.size≤Y):=⟨cv⟩
   have ah:Aside0 (γ≠Y):=⟨bz⟩
   have ai:Aside0 (Y≠γ):=⟨ca⟩
   have aj:Aside0 (al≠Y):=⟨cb⟩
   have ay:Aside0 (Y≠al):=⟨co⟩
   have b1:Aside0 (κ ≠ Y):=⟨et⟩
   have ao:Aside0 (Y ≠ κ):=⟨ed⟩
   have bd:Aside0 (an≠Y):=⟨ee⟩
   have d4:Aside0 (Y≠an):=⟨ef⟩
   have d5:Aside0 (Below w.heap.size w ba):=⟨eg⟩
   clear B
   clear ζ
   clear ε
   clear θ
   clear HB
   clear bf bg bh bi bj bw cr ct cu cv bz ca cb co et ed ee ef eg
   have b3:=L
   have b4:=O
   have b7:=X
   have B:= δ
   have ζ := ξ
   have ε := φ
   have θ := ω
   have ι :=a6
   have de:=a7
   have b8:=ag
   have Z:=ah
   have bl:=ai
   have aw:=aj
   have bm:=ay
   have am:=b1
   have bn:=ao
   have b0:=bd
   have bs:=d4
   have HB:=d5
   clear L O X δ ξ φ ω a6 a7 ag ah ai aj ay b1 ao bd d4 d5
   have hHeld:ba.cell? ⟨γ,0,none⟩=some (.int .i64 μ)∧ba.cell? ⟨γ,1,none⟩=some (.int .i64 η)∧ba.cell? ⟨γ,2,none⟩=some (.int .i64 ν)∧ba.cell? ⟨γ,3,none⟩=some (.int .i64 τ)∧ba.cell? ⟨γ,4,none⟩=some (.int .i64 ρ)∧ba.cell? ⟨γ,5,none⟩=some (.int .i64 χ)∧ba.cell? ⟨γ,6,none⟩=some (.int .i64 ψ)∧ba.cell? ⟨γ,7,none⟩=some (.int .i64 a1)∧ba.cell? ⟨γ,8,none⟩=some (.int .i64 a2)∧ba.cell? ⟨γ,9,none⟩=some (.int .i64 a5)∧ba.cell? ⟨al,0,none⟩=some (.slice A2 l2.length c2)∧ba.cell? ⟨κ,0,none⟩=some (.slice a8 a4.length a9)∧ba.cell? ⟨κ,1,none⟩=some (.slice aa a3.length ab):=hS_
   obtain⟨be,bk,ei⟩:=Kd.Ze b3.out
   (first|subst ei|(injection ei with b5 bo b6;have bp:=b5.symm;have bq:=b6.symm;clear b5 bo b6;subst bp;subst bq))
   obtain⟨bu,bv,ej⟩:=Kd.Ze b4.out
   (first|subst ej|(injection ej with b5 bo b6;have bp:=b5.symm;have bq:=b6.symm;clear b5 bo b6;subst bp;subst bq))
   obtain⟨cd,cf,ek⟩:=Kd.Ze b7.out
   (first|subst ek|(injection ek with b5 bo b6;have bp:=b5.symm;have bq:=b6.symm;clear b5 bo b6;subst bp;subst bq))
   refine Zx (a':=?_) ?_ ?_
   rotate_left
   ·simp only[Zb,Act.put,qS]
    rfl
   refine Zn (i:=10) (N:=none) #[true,true,true,true,true,true,true,true,true,true,true,false] rfl rfl (Zc HT_.out kr) (by decide) (fun K hK=>?_)
   have fu:ba.cell? ⟨Y,0,none⟩=some (.slice none 0 0):=(Qk ι.out 0).trans rfl
   have fq:=Qz ι.out 0
   have en:=Z.out
   have eo:=aw.out
   have ep:=am.out
   have er:=b0.out
   have eu:=bl.out
   have ev:=bm.out
   have ew:=bn.out
   have ey:=bs.out
   have fw:ba.cell? ⟨Y,1,none⟩=some (.slice none 0 0):=(Qk ι.out 1).trans rfl
   have fr:=Qz ι.out 1
   have ez:=Z.out
   have f8:=aw.out
   have fa:=am.out
   have fb:=b0.out
   have fc:=bl.out
   have ff:=bm.out
   have fg:=bn.out
   have fh:=bs.out
   have fx:ba.cell? ⟨Y,2,none⟩=some (.slice none 0 0):=(Qk ι.out 2).trans rfl
   have ft:=Qz ι.out 2
   have fi:=Z.out
   have fj:=aw.out
   have fk:=am.out
   have fl:=b0.out
   have fm:=bl.out
   have fn:=bm.out
   have fo:=bn.out
   have fp:=bs.out
   refine V2 (w1:=?_) (by rfl) rfl ?_ ?_
   rotate_left
   ·go_simp
    rfl
   refine hK.out _ _ ⟨((cell_far (p:=⟨Y,_,none⟩) Z.out _).trans (((cell_far (p:=⟨Y,_,none⟩) Z.out _).trans (((cell_far (p:=⟨Y,_,none⟩) Z.out _).trans (hHeld.1)))))),((cell_far (p:=⟨Y,_,none⟩) Z.out _).trans (((cell_far (p:=⟨Y,_,none⟩) Z.out _).trans (((cell_far (p:=⟨Y,_,none⟩) Z.out _).trans (hHeld.2.1)))))),((cell_far (p:=⟨Y,_,none⟩) Z.out _).trans (((cell_far (p:=⟨Y,_,none⟩) Z.out _).trans (((cell_far (p:=⟨Y,_,none⟩) Z.out _).trans (hHeld.2.2.1)))))),((cell_far (p:=⟨Y,_,none⟩) Z.out _).trans (((cell_far (p:=⟨Y,_,none⟩) Z.out _).trans (((cell_far (p:=⟨Y,_,none⟩) Z.out _).trans (hHeld.2.2.2.1)))))),((cell_far (p:=⟨Y,_,none⟩) Z.out _).trans (((cell_far (p:=⟨Y,_,none⟩) Z.out _).trans (((cell_far (p:=⟨Y,_,none⟩) Z.out _).trans (hHeld.2.2.2.2.1)))))),((cell_far (p:=⟨Y,_,none⟩) Z.out _).trans (((cell_far (p:=⟨Y,_,none⟩) Z.out _).trans (((cell_far (p:=⟨Y,_,none⟩) Z.out _).trans (hHeld.2.2.2.2.2.1)))))),((cell_far (p:=⟨Y,_,none⟩) Z.out _).trans (((cell_far (p:=⟨Y,_,none⟩) Z.out _).trans (((cell_far (p:=⟨Y,_,none⟩) Z.out _).trans (hHeld.2.2.2.2.2.2.1)))))),((cell_far (p:=⟨Y,_,none⟩) Z.out _).trans (((cell_far (p:=⟨Y,_,none⟩) Z.out _).trans (((cell_far (p:=⟨Y,_,none⟩) Z.out _).trans (hHeld.2.2.2.2.2.2.2.1)))))),((cell_far (p:=⟨Y,_,none⟩) Z.out _).trans (((cell_far (p:=⟨Y,_,none⟩) Z.out _).trans (((cell_far (p:=⟨Y,_,none⟩) Z.out _).trans (hHeld.2.2.2.2.2.2.2.2.1)))))),((cell_far (p:=⟨Y,_,none⟩) Z.out _).trans (((cell_far (p:=⟨Y,_,none⟩) Z.out _).trans (((cell_far (p:=⟨Y,_,none⟩) Z.out _).trans (hHeld.2.2.2.2.2.2.2.2.2.1)))))),((cell_far (p:=⟨Y,_,none⟩) aw.out _).trans (((cell_far (p:=⟨Y,_,none⟩) aw.out _).trans (((cell_far (p:=⟨Y,_,none⟩) aw.out _).trans (hHeld.2.2.2.2.2.2.2.2.2.2.1)))))),((cell_far (p:=⟨Y,_,none⟩) am.out _).trans (((cell_far (p:=⟨Y,_,none⟩) am.out _).trans (((cell_far (p:=⟨Y,_,none⟩) am.out _).trans (hHeld.2.2.2.2.2.2.2.2.2.2.2.1)))))),((cell_far (p:=⟨Y,_,none⟩) am.out _).trans (((cell_far (p:=⟨Y,_,none⟩) am.out _).trans (((cell_far (p:=⟨Y,_,none⟩) am.out _).trans (hHeld.2.2.2.2.2.2.2.2.2.2.2.2))))))⟩ (fun hHeld=>?_)
   clear hK K
   refine qP 11 (some 8) (qB 12 4095) HT_ ?_
   refine Xd (Zu HT_.out kr) ?_
   try go_wp2
   have L:Aside0 (Kd.R (Kd.int .i64) 3 (((ba.setCell ⟨Y,0,none⟩ (.slice be ax.length bk)).setCell ⟨Y,1,none⟩ (.slice bu az.length bv)).setCell ⟨Y,2,none⟩ (.slice cd b2.length cf)) w.heap.size (fun k_=>some k_≠(.slice bu az.length bv:Value).ownBlock∧some k_≠(.slice cd b2.length cf:Value).ownBlock) (.slice be ax.length bk) ax):=⟨by(with_reducible repeat first|apply Kd.Qx|apply Kd.Qw|apply Kd.Qy);exact Kd.Q5 (Kd.Q1 (p:=⟨Y,2,none⟩) (Kd.Q1 (p:=⟨Y,1,none⟩) (Kd.Q1 (p:=⟨Y,0,none⟩) (Kd.Zd b3.out ι.out (by decide)) (fun _ hk=>hk.2) (.slice be ax.length bk)) (fun _ hk=>hk.2) (.slice bu az.length bv)) (fun _ hk=>hk.2) (.slice cd b2.length cf)) (fun _ hk=>⟨hk.1.1,hk.1.2⟩)⟩
   have O:Aside0 (Kd.R (Kd.int .i64) 3 (((ba.setCell ⟨Y,0,none⟩ (.slice be ax.length bk)).setCell ⟨Y,1,none⟩ (.slice bu az.length bv)).setCell ⟨Y,2,none⟩ (.slice cd b2.length cf)) w.heap.size (fun k_=>some k_≠(.slice be ax.length bk:Value).ownBlock∧some k_≠(.slice cd b2.length cf:Value).ownBlock) (.slice bu az.length bv) az):=⟨by(with_reducible repeat first|apply Kd.Qx|apply Kd.Qw|apply Kd.Qy);exact Kd.Q5 (Kd.Q1 (p:=⟨Y,2,none⟩) (Kd.Q1 (p:=⟨Y,1,none⟩) (Kd.Q1 (p:=⟨Y,0,none⟩) (Kd.Zd b4.out ι.out (by decide)) (fun _ hk=>hk.2) (.slice be ax.length bk)) (fun _ hk=>hk.2) (.slice bu az.length bv)) (fun _ hk=>hk.2) (.slice cd b2.length cf)) (fun _ hk=>⟨hk.1.1,hk.1.2⟩)⟩
   have X:Aside0 (Kd.R (Kd.int .i64) 3 (((ba.setCell ⟨Y,0,none⟩ (.slice be ax.length bk)).setCell ⟨Y,1,none⟩ (.slice bu az.length bv)).setCell ⟨Y,2,none⟩ (.slice cd b2.length cf)) w.heap.size (fun k_=>some k_≠(.slice be ax.length bk:Value).ownBlock∧some k_≠(.slice bu az.length bv:Value).ownBlock) (.slice cd b2.length cf) b2):=⟨by(with_reducible repeat first|apply Kd.Qx|apply Kd.Qw|apply Kd.Qy);exact Kd.Q5 (Kd.Q1 (p:=⟨Y,2,none⟩) (Kd.Q1 (p:=⟨Y,1,none⟩) (Kd.Q1 (p:=⟨Y,0,none⟩) (Kd.Zd b7.out ι.out (by decide)) (fun _ hk=>hk.2) (.slice be ax.length bk)) (fun _ hk=>hk.2) (.slice bu az.length bv)) (fun _ hk=>hk.2) (.slice cd b2.length cf)) (fun _ hk=>⟨hk.1.1,hk.1.2⟩)⟩
   have δ :Aside0 ((((ba.setCell ⟨Y,0,none⟩ (.slice be ax.length bk)).setCell ⟨Y,1,none⟩ (.slice bu az.length bv)).setCell ⟨Y,2,none⟩ (.slice cd b2.length cf)).heap[γ]?=some (.cells #[.int .i64 μ,.int .i64 η,.int .i64 ν,.int .i64 τ,.int .i64 ρ,.int .i64 χ,.int .i64 ψ,.int .i64 a1,.int .i64 a2,.int .i64 a5] 25 (0,0))):=⟨by(with_reducible repeat first|apply Qb|apply Qe|apply Qc);refine Qs ?_ Z.out _;(with_reducible repeat first|apply Qb|apply Qe|apply Qc);refine Qs ?_ Z.out _;(with_reducible repeat first|apply Qb|apply Qe|apply Qc);refine Qs ?_ Z.out _;(with_reducible repeat first|apply Qb|apply Qe|apply Qc);exact B.out⟩
   have ξ :Aside0 ((((ba.setCell ⟨Y,0,none⟩ (.slice be ax.length bk)).setCell ⟨Y,1,none⟩ (.slice bu az.length bv)).setCell ⟨Y,2,none⟩ (.slice cd b2.length cf)).heap[al]?=some (.cells #[.slice A2 l2.length c2] 46 (0,0))):=⟨by(with_reducible repeat first|apply Qb|apply Qe|apply Qc);refine Qs ?_ aw.out _;(with_reducible repeat first|apply Qb|apply Qe|apply Qc);refine Qs ?_ aw.out _;(with_reducible repeat first|apply Qb|apply Qe|apply Qc);refine Qs ?_ aw.out _;(with_reducible repeat first|apply Qb|apply Qe|apply Qc);exact ζ.out⟩
   have φ :Aside0 ((((ba.setCell ⟨Y,0,none⟩ (.slice be ax.length bk)).setCell ⟨Y,1,none⟩ (.slice bu az.length bv)).setCell ⟨Y,2,none⟩ (.slice cd b2.length cf)).heap[κ]?=some (.cells #[.slice a8 a4.length a9,.slice aa a3.length ab] 50 (0,0))):=⟨by(with_reducible repeat first|apply Qb|apply Qe|apply Qc);refine Qs ?_ am.out _;(with_reducible repeat first|apply Qb|apply Qe|apply Qc);refine Qs ?_ am.out _;(with_reducible repeat first|apply Qb|apply Qe|apply Qc);refine Qs ?_ am.out _;(with_reducible repeat first|apply Qb|apply Qe|apply Qc);exact ε.out⟩
   have ω :Aside0 ((((ba.setCell ⟨Y,0,none⟩ (.slice be ax.length bk)).setCell ⟨Y,1,none⟩ (.slice bu az.length bv)).setCell ⟨Y,2,none⟩ (.slice cd b2.length cf)).heap[an]?=some (.cells #[.int .i64 ac,.int .i64 ae,.int .i64 af] 36 (0,0))):=⟨by(with_reducible repeat first|apply Qb|apply Qe|apply Qc);refine Qs ?_ b0.out _;(with_reducible repeat first|apply Qb|apply Qe|apply Qc);refine Qs ?_ b0.out _;(with_reducible repeat first|apply Qb|apply Qe|apply Qc);refine Qs ?_ b0.out _;(with_reducible repeat first|apply Qb|apply Qe|apply Qc);exact θ.out⟩
   have a6:Aside0 ((((ba.setCell ⟨Y,0,none⟩ (.slice be ax.length bk)).setCell ⟨Y,1,none⟩ (.slice bu az.length bv)).setCell ⟨Y,2,none⟩ (.slice cd b2.length cf)).heap[Y]?=some (.cells #[.slice be ax.length bk,.slice bu az.length bv,.slice cd b2.length cf] 34 (0,0))):=⟨by(with_reducible repeat first|apply Qb|apply Qe|apply Qc);refine Qu (cs:=#[.slice be ax.length bk,.slice bu az.length bv,.slice none 0 0]) ?_ 2 _ rfl;(with_reducible repeat first|apply Qb|apply Qe|apply Qc);refine Qu (cs:=#[.slice be ax.length bk,.slice none 0 0,.slice none 0 0]) ?_ 1 _ rfl;(with_reducible repeat first|apply Qb|apply Qe|apply Qc);refine Qu (cs:=#[.slice none 0 0,.slice none 0 0,.slice none 0 0]) ?_ 0 _ rfl;(with_reducible repeat first|apply Qb|apply Qe|apply Qc);exact ι.out⟩
   have a7:Aside0 (Below w.heap.size w (((ba.setCell ⟨Y,0,none⟩ (.slice be ax.length bk)).setCell ⟨Y,1,none⟩ (.slice bu az.length bv)).setCell ⟨Y,2,none⟩ (.slice cd b2.length cf))):=⟨by repeat(first|(with_reducible first|exact HB.out|apply Qg|apply Qd|apply Qf|refine Qa ?_ ap.out|refine Qa ?_ ar.out|refine Qa ?_ au.out|refine Qa ?_ av.out|refine Qa ?_ b8.out)|exact HB.out)⟩
   (try clear b3)
   (try clear b4)
   (try clear b7)
   (try clear B)
   (try clear ζ)
   (try clear ε)
   (try clear θ)
   (try clear ι)
   (try clear HB)
   generalize(((ba.setCell ⟨Y,0,none⟩ (.slice be ax.length bk)).setCell ⟨Y,1,none⟩ (.slice bu az.length bv)).setCell ⟨Y,2,none⟩ (.slice cd b2.length cf))=i2 at L O X δ ξ φ ω a6 a7 ⊢
   have b3:=L
   have b4:=O
   have b7:=X
   have B:= δ
   have ζ := ξ
   have ε := φ
   have θ := ω
   have ι :=a6
   have HB:=a7
   clear L O X δ ξ φ ω a6 a7
   have L:=Aside0.mk (Kd.Qy b3.out)
   have O:=Aside0.mk (Kd.Qy b4.out)
   have X:=Aside0.mk (Kd.Qy b7.out)
   have δ :=Aside0.mk (Qe B.out)
   have ξ :=Aside0.mk (Qe ζ.out)
   have φ :=Aside0.mk (Qe ε.out)
   have ω :=Aside0.mk (Qe θ.out)
   have a6:=Aside0.mk (Qe ι.out)
   have a7:=Aside0.mk (Qf HB.out)
   clear b3
   clear b4
   clear b7
   clear B
   clear ζ
   clear ε
   clear θ
   clear ι
   clear HB
   have b3:=L
   have b4:=O
   have b7:=X
   have B:= δ
   have ζ := ξ
   have ε := φ
   have θ := ω
   have ι :=a6
   have HB:=a7
   clear L O X δ ξ φ ω a6 a7
   have e9:0≤(J:Int):=of_decide_eq_true (by first|(with_reducible assumption)|assumption)
   have ea:J<(l2.length:Int):=of_decide_eq_true (by first|(with_reducible assumption)|assumption)
   obtain⟨b9,em,cp,cq,cw,cx,cy,cz,d0,d1,d2,d3⟩:=Gh ec.out J e9 ea
   have dh:=d3
   have di:=d2
   have dj:=d1
   have dk:=d0
   have dl:=cz
   have dm:=cy
   have du:=cx
   have dw:=cw
   have dx:=cq
   have dy:=cp
   cases em
   replace cp:=(HB.out.cell (World.block_lt_of_cell? w _ cp)).trans cp
   replace cq:=(HB.out.cell (World.block_lt_of_cell? w _ cq)).trans cq
   replace cw:=(HB.out.cell (World.block_lt_of_cell? w _ cw)).trans cw
   replace cx:=(HB.out.cell (World.block_lt_of_cell? w _ cx)).trans cx
   replace cy:=(HB.out.cell (World.block_lt_of_cell? w _ cy)).trans cy
   replace cz:=(HB.out.cell (World.block_lt_of_cell? w _ cz)).trans cz
   replace d0:=(HB.out.cell (World.block_lt_of_cell? w _ d0)).trans d0
   replace d1:=(HB.out.cell (World.block_lt_of_cell? w _ d1)).trans d1
   replace d2:=(HB.out.cell (World.block_lt_of_cell? w _ d2)).trans d2
   replace d3:=(HB.out.cell (World.block_lt_of_cell? w _ d3)).trans d3
   replace e9:=eq_true e9
   replace ea:=eq_true ea
   refine Zv (n:=9) (S:=fun w'=>w'.cell? ⟨γ,0,none⟩=some (.int .i64 μ)∧w'.cell? ⟨γ,1,none⟩=some (.int .i64 η)∧w'.cell? ⟨γ,2,none⟩=some (.int .i64 ν)∧w'.cell? ⟨γ,3,none⟩=some (.int .i64 τ)∧w'.cell? ⟨γ,4,none⟩=some (.int .i64 ρ)∧w'.cell? ⟨γ,5,none⟩=some (.int .i64 χ)∧w'.cell? ⟨γ,6,none⟩=some (.int .i64 ψ)∧w'.cell? ⟨γ,7,none⟩=some (.int .i64 a1)∧w'.cell? ⟨γ,8,none⟩=some (.int .i64 a2)∧w'.cell? ⟨γ,9,none⟩=some (.int .i64 a5)∧w'.cell? ⟨al,0,none⟩=some (.slice (some b9) l2.length c2)∧w'.cell? ⟨Y,0,none⟩=some (.slice be ax.length bk)∧w'.cell? ⟨Y,1,none⟩=some (.slice bu az.length bv)∧w'.cell? ⟨Y,2,none⟩=some (.slice cd b2.length cf)∧w'.cell? ⟨an,0,none⟩=some (.int .i64 ac)∧w'.cell? ⟨an,1,none⟩=some (.int .i64 ae)∧w'.cell? ⟨an,2,none⟩=some (.int .i64 af)∧w'.cell? (b9.add ((J).toNat * 10))=some (.int .i64 ((Qm l2 J).f0.f0))∧w'.cell? ⟨(b9.add ((J).toNat * 10)).block,(b9.add ((J).toNat * 10)).off+1,none⟩=some (.int .i64 ((Qm l2 J).f0.f1))∧w'.cell? ⟨(b9.add ((J).toNat * 10)).block,(b9.add ((J).toNat * 10)).off+2,none⟩=some (.int .i64 ((Qm l2 J).f0.f2))∧w'.cell? ⟨(b9.add ((J).toNat * 10)).block,(b9.add ((J).toNat * 10)).off+3,none⟩=some (.int .i64 ((Qm l2 J).f0.f3))∧w'.cell? ⟨(b9.add ((J).toNat * 10)).block,(b9.add ((J).toNat * 10)).off+4,none⟩=some (.int .i64 ((Qm l2 J).f0.f4.f0))∧w'.cell? ⟨(b9.add ((J).toNat * 10)).block,(b9.add ((J).toNat * 10)).off+5,none⟩=some (.int .i64 ((Qm l2 J).f0.f4.f1))∧w'.cell? ⟨(b9.add ((J).toNat * 10)).block,(b9.add ((J).toNat * 10)).off+6,none⟩=some (.int .i64 ((Qm l2 J).f0.f4.f2))∧w'.cell? ⟨(b9.add ((J).toNat * 10)).block,(b9.add ((J).toNat * 10)).off+7,none⟩=some (.int .i64 ((Qm l2 J).f1))∧w'.cell? ⟨(b9.add ((J).toNat * 10)).block,(b9.add ((J).toNat * 10)).off+8,none⟩=some (.bool ((Qm l2 J).f2))∧w'.cell? ⟨(b9.add ((J).toNat * 10)).block,(b9.add ((J).toNat * 10)).off+9,none⟩=some (.bool ((Qm l2 J).f3))) (ds:=[]) #[false,false,false,false,false,false,false,false,false] kr rfl rfl ⟨(Qk B.out 0).trans rfl,(Qk B.out 1).trans rfl,(Qk B.out 2).trans rfl,(Qk B.out 3).trans rfl,(Qk B.out 4).trans rfl,(Qk B.out 5).trans rfl,(Qk B.out 6).trans rfl,(Qk B.out 7).trans rfl,(Qk B.out 8).trans rfl,(Qk B.out 9).trans rfl,(Qk ζ.out 0).trans rfl,(Qk ι.out 0).trans rfl,(Qk ι.out 1).trans rfl,(Qk ι.out 2).trans rfl,(Qk θ.out 0).trans rfl,(Qk θ.out 1).trans rfl,(Qk θ.out 2).trans rfl,((HB.out.cell (World.block_lt_of_cell? w _ dy)).trans dy),((HB.out.cell (World.block_lt_of_cell? w _ dx)).trans dx),((HB.out.cell (World.block_lt_of_cell? w _ dw)).trans dw),((HB.out.cell (World.block_lt_of_cell? w _ du)).trans du),((HB.out.cell (World.block_lt_of_cell? w _ dm)).trans dm),((HB.out.cell (World.block_lt_of_cell? w _ dl)).trans dl),((HB.out.cell (World.block_lt_of_cell? w _ dk)).trans dk),((HB.out.cell (World.block_lt_of_cell? w _ dj)).trans dj),((HB.out.cell (World.block_lt_of_cell? w _ di)).trans di),((HB.out.cell (World.block_lt_of_cell? w _ dh)).trans dh)⟩ (fun hHeld=>?_);refine Zf group_pick_1.tab2 group_pick_1.bits2 (fun HT_ HW_=>?_)
   generalize i2.drew=dn at b3 b4 b7 B ζ ε θ ι HB cp cq cw cx cy cz d0 d1 d2 d3 hHeld ⊢
   refine qP 2 (some 20) (qB 9 4) HT_ ?_
   refine qT 0 (some 18) (qB 9 5) HT_ HW_ hHeld ?_
   refine qT 1 (some 19) (qB 9 7) HT_ HW_ hHeld ?_
   refine qP 3 (some 21) (qB 9 15) HT_ ?_
   refine qT 4 (some 22) (qB 9 31) HT_ HW_ hHeld ?_
   refine qT 5 (some 23) (qB 9 63) HT_ HW_ hHeld ?_
   refine qT 6 (some 24) (qB 9 127) HT_ HW_ hHeld ?_
   refine Zn (i:=7) (N:=some 25) #[true,true,true,true,true,true,true,true,false] rfl rfl (Zc HT_.out kr) (by decide) (fun K hK=>?_)
   refine Zm Try.func31 kr rfl #[.agg #[.int .i64 μ,.int .i64 η,.int .i64 ν,.int .i64 τ,.int .i64 ρ,.int .i64 χ,.int .i64 ψ,.int .i64 a1,.int .i64 a2,.int .i64 a5],.agg #[.int .i64 ((Qm l2 J).f0.f0),.int .i64 ((Qm l2 J).f0.f1),.int .i64 ((Qm l2 J).f0.f2),.int .i64 ((Qm l2 J).f0.f3),.int .i64 ((Qm l2 J).f0.f4.f0),.int .i64 ((Qm l2 J).f0.f4.f1),.int .i64 ((Qm l2 J).f0.f4.f2),.int .i64 ((Qm l2 J).f1),.bool ((Qm l2 J).f2),.bool ((Qm l2 J).f3)],.agg #[.slice be ax.length bk,.slice bu az.length bv,.slice cd b2.length cf],.agg #[.int .i64 ac,.int .i64 ae,.int .i64 af]] (by rfl) rfl rfl (by(try simp only[List.map_toArray,List.map_cons,List.map_nil]);first|done|rfl|(simp only[List.length_drop,List.length_take];rfl)) ?_
   with_reducible refine(group_cost.calls k μ η ν τ ρ χ ψ a1 a2 a5 ((Qm l2 J).f0.f0) ((Qm l2 J).f0.f1) ((Qm l2 J).f0.f2) ((Qm l2 J).f0.f3) ((Qm l2 J).f0.f4.f0) ((Qm l2 J).f0.f4.f1) ((Qm l2 J).f0.f4.f2) ((Qm l2 J).f1) ((Qm l2 J).f2) ((Qm l2 J).f3) _ _ ax _ _ az _ _ b2 ac ae af ck _ ?side1 ?side2 ?side3 ?side4 ?side5 ?side6 e3.out).mono ?_
   (case side1=>repeat(first|exact(Kd.Q4 b3.out).2.2|(with_reducible refine Kd.Q3 ?_ _)|(with_reducible refine Kd.Q2 ?_ _)|(with_reducible refine Kd.Q9 ?_)))
   (case side2=>exact(Kd.Q4 b3.out).2.1)
   (case side3=>repeat(first|exact(Kd.Q4 b4.out).2.2|(with_reducible refine Kd.Q3 ?_ _)|(with_reducible refine Kd.Q2 ?_ _)|(with_reducible refine Kd.Q9 ?_)))
   (case side4=>exact(Kd.Q4 b4.out).2.1)
   (case side5=>repeat(first|exact(Kd.Q4 b7.out).2.2|(with_reducible refine Kd.Q3 ?_ _)|(with_reducible refine Kd.Q2 ?_ _)|(with_reducible refine Kd.Q9 ?_)))
   (case side6=>exact(Kd.Q4 b7.out).2.1)
   rintro e eh ⟨rfl,hb⟩
   refine⟨_,rfl, ?_⟩
   have L:=Aside0.mk (Kd.Za (by(with_reducible repeat first|apply Kd.Qx|apply Kd.Qw|apply Kd.Qy);exact b3.out) hb)
   have O:=Aside0.mk (Kd.Za (by(with_reducible repeat first|apply Kd.Qx|apply Kd.Qw|apply Kd.Qy);exact b4.out) hb)
   have X:=Aside0.mk (Kd.Za (by(with_reducible repeat first|apply Kd.Qx|apply Kd.Qw|apply Kd.Qy);exact b7.out) hb)
   have δ :=Aside0.mk (Qh (g:=γ) (o:=.cells #[.int .i64 μ,.int .i64 η,.int .i64 ν,.int .i64 τ,.int .i64 ρ,.int .i64 χ,.int .i64 ψ,.int .i64 a1,.int .i64 a2,.int .i64 a5] 25 (0,0)) (by(with_reducible repeat first|apply Qb|apply Qe|apply Qc);exact B.out) hb)
   have ξ :=Aside0.mk (Qh (g:=al) (o:=.cells #[.slice (some b9) l2.length c2] 46 (0,0)) (by(with_reducible repeat first|apply Qb|apply Qe|apply Qc);exact ζ.out) hb)
   have φ :=Aside0.mk (Qh (g:= κ) (o:=.cells #[.slice a8 a4.length a9,.slice aa a3.length ab] 50 (0,0)) (by(with_reducible repeat first|apply Qb|apply Qe|apply Qc);exact ε.out) hb)
   have ω :=Aside0.mk (Qh (g:=an) (o:=.cells #[.int .i64 ac,.int .i64 ae,.int .i64 af] 36 (0,0)) (by(with_reducible repeat first|apply Qb|apply Qe|apply Qc);exact θ.out) hb)
   have a6:=Aside0.mk (Qh (g:=Y) (o:=.cells #[.slice be ax.length bk,.slice bu az.length bv,.slice cd b2.length cf] 34 (0,0)) (by(with_reducible repeat first|apply Qb|apply Qe|apply Qc);exact ι.out) hb)
   have a7:=Aside0.mk (Qj (by repeat(first|(with_reducible first|exact HB.out|apply Qg|apply Qd|apply Qf|refine Qa ?_ ap.out|refine Qa ?_ ar.out|refine Qa ?_ au.out|refine Qa ?_ av.out|refine Qa ?_ b8.out)|exact HB.out)) hb)
   clear b3
   clear b4
   clear b7
   clear B
   clear ζ
   clear ε
   clear θ
   clear ι
   clear HB
   have b3:=L
   have b4:=O
   have b7:=X
   have B:= δ
   have ζ := ξ
   have ε := φ
   have θ := ω
   have ι :=a6
   have HB:=a7
   clear L O X δ ξ φ ω a6 a7
   (try clear hb)
   (try clear ak)
   (try clear hk)
   (try clear hi)
   refine hK.out _ _ ⟨qc B,qc B,qc B,qc B,qc B,qc B,qc B,qc B,qc B,qc B,qc ζ,qc ι,qc ι,qc ι,qc θ,qc θ,qc θ,((HB.out.cell (World.block_lt_of_cell? w _ dy)).trans dy),((HB.out.cell (World.block_lt_of_cell? w _ dx)).trans dx),((HB.out.cell (World.block_lt_of_cell? w _ dw)).trans dw),((HB.out.cell (World.block_lt_of_cell? w _ du)).trans du),((HB.out.cell (World.block_lt_of_cell? w _ dm)).trans dm),((HB.out.cell (World.block_lt_of_cell? w _ dl)).trans dl),((HB.out.cell (World.block_lt_of_cell? w _ dk)).trans dk),((HB.out.cell (World.block_lt_of_cell? w _ dj)).trans dj),((HB.out.cell (World.block_lt_of_cell? w _ di)).trans di),((HB.out.cell (World.block_lt_of_cell? w _ dh)).trans dh)⟩ (fun hHeld=>?_)
   clear hK K
   refine qN (some 25) ?_
   refine qP 8 (some 6) (qB 9 511) HT_ ?_
   refine Xd (Zu HT_.out kr) ?_
   try go_wp2
   go_ret
   exact⟨by first|rfl|(simp[Qo,Qn] <;> rfl)|(simp[*,Qo,Qn] <;> rfl),by repeat(first|(with_reducible first|exact HB.out|apply Qg|apply Qd|apply Qf|refine Qa ?_ ap.out|refine Qa ?_ ar.out|refine Qa ?_ au.out|refine Qa ?_ av.out|refine Qa ?_ b8.out)|exact HB.out)⟩
  ·rw[if_neg c9] at H
   exact absurd H (by simp)
 ·rw[if_neg c8] at H
  exact absurd H (by simp)
end Go.Proofs.Ytmfffemidlhcpaa.C
