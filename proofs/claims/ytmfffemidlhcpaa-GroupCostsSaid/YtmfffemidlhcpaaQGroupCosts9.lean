/- Texts of this claim, one behind the other: what the law's functions come to, walked (printed by a program, with the words that the print uses), and what that is, in plain Lean. No conditions of their own. -/
import Derived.Test.YtmfffemidlhcpaaQGroupCosts8
namespace Go.Proofs.Ytmfffemidlhcpaa.C
open Go.RowKit Go.Proofs.YtmfffemidlhcpaaW.PrintWords Go.Proofs.YtmfffemidlhcpaaW.PrintLast Go.Proofs.YtmfffemidlhcpaaW.PrintMore
attribute [local go_sem] Zz Zx Z9 Z8 Zq Zp Zy Zw
set_option linter.unusedVariables false
set_option linter.unusedSimpArgs false
mutual
def call_View.l0:Nat→Int→List (S86)→Int→Int→List (S36)→List (S86)→List Int→Option (List Int×List Int×List Int×Int)
 |0,_,_,_,_,_,_,_=>none
 |k+1,O,L,Z,X,J,Y,B=>if X<Z then (if 0≤X then (if X<(L.length:Int) then (if ((Qo L X).f0)=O then (if B.length<17592186044416 then (call_View.l0 k O L Z (wrap64 (X+1)) J Y (B ++ [(Qo L X).f1])) else (none)) else (call_View.l0 k O L Z (wrap64 (X+1)) J Y B)) else (none)) else (none)) else (call_View.l1 k O J (J.length:Int) 0 B ([]:List Int) ([]:List Int))
def call_View.l1:Nat→Int→List (S36)→Int→Int→List Int→List Int→List Int→Option (List Int×List Int×List Int×Int)
 |0,_,_,_,_,_,_,_=>none
 |k+1,O,Y,Z,X,B,J,L=>if X<Z then (if 0≤X then (if X<(Y.length:Int) then (if ((Qc Y X).f2)=O then (if ((Qc Y X).f1)>0 then (if J.length<17592186044416 then (call_View.l1 k O Y Z (wrap64 (X+1)) B (J ++ [(Qc Y X).f0]) L) else (none)) else (if L.length<17592186044416 then (call_View.l1 k O Y Z (wrap64 (X+1)) B J (L ++ [(Qc Y X).f0])) else (none))) else (call_View.l1 k O Y Z (wrap64 (X+1)) B J L)) else (none)) else (none)) else (some (B,J,L,0))
end
def call_View.f (k:Nat) (B:Int) (J:Int) (L:List (S36)) (O:List (S86)) (a2:Int):Option (List Int×List Int×List Int×Int):=(call_Check.f k B J L O).bind fun ap=>(if ap=0 then ((call_within.f a2 0 (wrap64 (J-1))).bind fun ct=>(if ct=true then (call_View.l0 k a2 O (O.length:Int) 0 L O ([]:List Int)) else (some (([]:List Int),([]:List Int),([]:List Int),191)))) else (some (([]:List Int),([]:List Int),([]:List Int),ap)))
theorem call_View.Zn:∀ k,(∀ L X Y B O Z y6,LeO (call_View.l0 k L X Y B O Z y6) (call_View.l0 (k+1) L X Y B O Z y6))∧(∀ L X Y B O Z y6,LeO (call_View.l1 k L X Y B O Z y6) (call_View.l1 (k+1) L X Y B O Z y6))
 |0=>⟨fun _ _ _ _ _ _ _ r h=>by simp[call_View.l0] at h,fun _ _ _ _ _ _ _ r h=>by simp[call_View.l1] at h⟩
 |k+1=>by
  obtain⟨J,δ⟩:=call_View.Zn k
  refine⟨?_, ?_⟩
  ·intro L X Y B O Z y6
   unfold call_View.l0
   repeat' first
   |(with_reducible exact J _ _ _ _ _ _ _)
   |(with_reducible exact δ _ _ _ _ _ _ _)
   |(with_reducible exact call_Check.mono _ _ _ _ _)
   |(with_reducible exact LeO.refl _)
   |(with_reducible exact LeO.none _)
   |(with_reducible refine LeO.ite ?_ ?_)
   |(with_reducible refine LeO.bind ?_ (fun _=>?_))
   |exact J _ _ _ _ _ _ _
   |exact δ _ _ _ _ _ _ _
   |exact call_Check.mono _ _ _ _ _
   |exact LeO.none _
   |refine LeO.ite ?_ ?_
   |refine LeO.bind ?_ (fun _=>?_)
  ·intro L X Y B O Z y6
   unfold call_View.l1
   repeat' first
   |(with_reducible exact J _ _ _ _ _ _ _)
   |(with_reducible exact δ _ _ _ _ _ _ _)
   |(with_reducible exact call_Check.mono _ _ _ _ _)
   |(with_reducible exact LeO.refl _)
   |(with_reducible exact LeO.none _)
   |(with_reducible refine LeO.ite ?_ ?_)
   |(with_reducible refine LeO.bind ?_ (fun _=>?_))
   |exact J _ _ _ _ _ _ _
   |exact δ _ _ _ _ _ _ _
   |exact call_Check.mono _ _ _ _ _
   |exact LeO.none _
   |refine LeO.ite ?_ ?_
   |refine LeO.bind ?_ (fun _=>?_)
theorem call_View.mono:∀ B O a2 a3 L k,LeO (call_View.f k B O a2 a3 L) (call_View.f (k+1) B O a2 a3 L):=by
 intro B O a2 a3 L k
 obtain⟨J,δ⟩:=call_View.Zn k
 unfold call_View.f
 repeat' first
   |(with_reducible exact J _ _ _ _ _ _ _)
   |(with_reducible exact δ _ _ _ _ _ _ _)
   |(with_reducible exact call_Check.mono _ _ _ _ _)
   |(with_reducible exact LeO.refl _)
   |(with_reducible exact LeO.none _)
   |(with_reducible refine LeO.ite ?_ ?_)
   |(with_reducible refine LeO.bind ?_ (fun _=>?_))
   |exact J _ _ _ _ _ _ _
   |exact δ _ _ _ _ _ _ _
   |exact call_Check.mono _ _ _ _ _
   |exact LeO.none _
   |refine LeO.ite ?_ ?_
   |refine LeO.bind ?_ (fun _=>?_)
set_option maxHeartbeats 8000000 in
set_option maxRecDepth 100000 in
theorem call_View.calls (k:Nat) (B:Int) (J:Int) (θ :Option Addr) (δ :Nat) (L:List (S36)) (ι :Option Addr) (η :Nat) (O:List (S86)) (a2:Int) (r1:List Int) (r2:List Int) (r3:List Int) (r4:Int) (w:World) (ac:Kd.C k36 w θ L.length L) (ar:L.length ≤ δ) (au:Kd.C k86 w ι O.length O) (av:O.length ≤ η) (h:call_View.f k B J L O a2=some (r1,r2,r3,r4)):
  Calls Try.prog 24 #[.agg #[.int .i64 B,.int .i64 J],.agg #[.slice θ L.length δ,.slice ι O.length η],.int .i64 a2] w fun e w'=>∃ bd fb e9:Value,e = .returned (.tuple #[.agg #[bd,fb,e9],.int .i64 r4])∧Kd.R (Kd.int .i64) 3 w' w.heap.size (fun k_=>some k_≠(fb:Value).ownBlock∧some k_≠(e9:Value).ownBlock) bd r1∧Kd.R (Kd.int .i64) 3 w' w.heap.size (fun k_=>some k_≠(bd:Value).ownBlock∧some k_≠(e9:Value).ownBlock) fb r2∧Kd.R (Kd.int .i64) 3 w' w.heap.size (fun k_=>some k_≠(bd:Value).ownBlock∧some k_≠(fb:Value).ownBlock) e9 r3∧Below w.heap.size w w':=by
 have d0:=Try.underlying59
 have f8:=Try.underlying50
 have f7:=Try.underlying34
 have dp:=Try.underlying86
 have dh:=Try.underlying36
 have τ :=Aside0.mk ac
 have a1:=Aside0.mk ar
 clear ac ar
 have φ :=Aside0.mk au
 have a7:=Aside0.mk av
 clear au av
 have HB:=Aside0.mk (Below.refl w.heap.size w)
 have H:((call_Check.f k B J L O).bind fun ap=>(if ap=0 then ((call_within.f a2 0 (wrap64 (J-1))).bind fun ct=>(if ct=true then (call_View.l0 k a2 O (O.length:Int) 0 L O ([]:List Int)) else (some (([]:List Int),([]:List Int),([]:List Int),191)))) else (some (([]:List Int),([]:List Int),([]:List Int),ap))))=some (r1,r2,r3,r4):=h
 clear h
 replace H:=Option.bind_eq_some_iff.mp H
 obtain⟨ap,cg,H⟩:=H
 replace H:(if ap=0 then ((call_within.f a2 0 (wrap64 (J-1))).bind fun ct=>(if ct=true then (call_View.l0 k a2 O (O.length:Int) 0 L O ([]:List Int)) else (some (([]:List Int),([]:List Int),([]:List Int),191)))) else (some (([]:List Int),([]:List Int),([]:List Int),ap)))=some (r1,r2,r3,r4):=H
 have A4:=Aside0.mk cg
 clear cg
 by_cases c5:ap=0
 ·rw[if_pos c5] at H
  have c5b0:(ap==0)=true:=beq_iff_eq.mpr c5
  have c5b1:(ap != 0)=false:=bne_eq_false_iff_eq.mpr c5
  clear c5
  replace H:=Option.bind_eq_some_iff.mp H
  obtain⟨ct,az,H⟩:=H
  replace H:(if ct=true then (call_View.l0 k a2 O (O.length:Int) 0 L O ([]:List Int)) else (some (([]:List Int),([]:List Int),([]:List Int),191)))=some (r1,r2,r3,r4):=H
  have A6:=Aside0.mk az
  clear az
  by_cases c7:ct=true
  ·subst c7
   have H1:(call_View.l0 k a2 O (O.length:Int) 0 L O ([]:List Int))=some (r1,r2,r3,r4):=by rw[if_pos rfl] at H;exact H
   clear H
   have H:=H1
   clear H1
   have H':=Aside0.mk H
   clear H
   go_enter Try.func24,Try.ntmps24
   go_wp2_with (first|((with_reducible refine Qe (N:=3) rfl ?_);refine qE 3 #[.int .i64 B,.int .i64 J] 59 ?_;intro ao hg w8 hbox hb;have X:=Aside0.mk hbox;have ea:=sGe hg;have eb:=sGe hg;replace HB:=sHb hb;clear hb hbox hg)|((with_reducible refine Qe (N:=4) rfl ?_);refine qE 4 #[.slice θ L.length δ,.slice ι O.length η] 50 ?_;intro cm hg w9 hbox hb;have Z:=Aside0.mk hbox;have ec:=sGe hg;have ee:=sGe hg;have ax:=sNl X hg;have b0:=sNg X hg;replace X:=sBk X hb;replace HB:=sHb hb;clear hb hbox hg)|((with_reducible refine Qe (N:=6) rfl ?_);refine qE 6 #[.slice none 0 0,.slice none 0 0,.slice none 0 0] 34 ?_;intro aw hg fg hbox hb;have γ:=Aside0.mk hbox;have ef:=sGe hg;have eg:=sGe hg;have b5:=sNl X hg;have b6:=sNg X hg;have ah:=sNl Z hg;have ak:=sNg Z hg;replace X:=sBk X hb;replace Z:=sBk Z hb;replace HB:=sHb hb;clear hb hbox hg;have ga:=ax.out;have gb:=b0.out;have fe:=b5.out;have ff:=b6.out;obtain⟨ai,a6,aj,ab⟩:=qD2 X.out;have h7:=ah.out;have h8:=ak.out;obtain⟨b1,b2,b3,b4⟩:=qD2 Z.out)|((with_reducible refine Qd (f:=40) rfl ?_);refine Qn (some 16) rfl rfl Try.func40 kr rfl #[.agg #[.int .i64 B,.int .i64 J],.agg #[.slice θ L.length δ,.slice ι O.length η]] rfl qM ?_;(with_reducible refine(call_Check.calls k B J _ _ L _ _ O ap _ ?side1 ?side2 ?side3 ?side4 A4.out).mono ?_);(case side1=>exact(Kd.Qp τ.out HB.out));(case side2=>exact a1.out);(case side3=>exact(Kd.Qp φ.out HB.out));(case side4=>exact a7.out);rintro e dj ⟨rfl,hb⟩;refine⟨_,rfl, ?_⟩;replace X:=sBk X hb;replace Z:=sBk Z hb;replace γ:=sBk γ hb;replace HB:=sHb hb;(try clear hb);(try clear a4);(try clear hk);(try clear hi);obtain⟨af,cd,ce,cf⟩:=qD2 X.out)|((with_reducible refine Qd (f:=44) rfl ?_);refine Qn (some 25) rfl rfl Try.func44 kr rfl #[.int .i64 a2,.int .i64 0,.int .i64 (wrap64 (J-1))] rfl qM ?_;(with_reducible refine(call_within.calls a2 0 (wrap64 (J-1)) true _ A6.out).mono ?_);rintro e w' ⟨rfl,⟨nd,rfl⟩⟩;refine⟨_,rfl, ?_⟩;(try(rw[Yl dj];generalize hq_:World.drewN dj _=dj;have ρ:Aside0 (dj.heap[ao]?=some (.cells #[.int .i64 B,.int .i64 J] 59 (0,0))):=⟨by rw[← hq_];exact X.out⟩;have χ :Aside0 (dj.heap[cm]?=some (.cells #[.slice θ L.length δ,.slice ι O.length η] 50 (0,0))):=⟨by rw[← hq_];exact Z.out⟩;have a3:Aside0 (dj.heap[aw]?=some (.cells #[.slice none 0 0,.slice none 0 0,.slice none 0 0] 34 (0,0))):=⟨by rw[← hq_];exact γ.out⟩;have a8:Aside0 (Below w.heap.size w dj):=⟨by rw[← hq_];exact HB.out⟩;clear X Z γ HB hq_;have X:=ρ;have Z:= χ;have γ:=a3;have HB:=a8;clear ρ χ a3 a8));(try(have br:dj.cell? ⟨ao,0,none⟩=some (.int .i64 B):=(Qa X.out 0).trans rfl));(try(have bs:dj.cell? ⟨ao,1,none⟩=some (.int .i64 J):=(Qa X.out 1).trans rfl));(try(have bu:=Qr X.out 0));(try(have bv:=Qr X.out 1)))|((with_reducible refine Qe (N:=9) rfl ?_);refine qE 9 #[.slice none 0 0,.slice none 0 0,.slice none 0 0] 34 ?_;intro dk hg ay hbox hb;have ε :=Aside0.mk hbox;have mg:=sGe hg;have mh:=sGe hg;have bh:=sNl X hg;have bi:=sNg X hg;have b7:=sNl Z hg;have b8:=sNg Z hg;have bj:=sNl γ hg;have bk:=sNg γ hg;replace X:=sBk X hb;replace Z:=sBk Z hb;replace γ:=sBk γ hb;replace HB:=sHb hb;clear hb hbox hg;have ft:=bi.out;have fu:=bh.out;have fh:=b8.out;have fr:=b7.out;have g9:=bk.out;have gt:=bj.out;obtain⟨cy,cz,di,e3,e4,e5⟩:=qD3 ε.out;obtain⟨b9,ba,bb,bf⟩:=qD2 Z.out))
   go_loopg [32] k (fun kq m5 w'=>∃ (ζ :Int) (μ :List Int) (κ :Value),m5 = .int .i64 ζ ∧ Aside0 (call_View.l0 kq a2 O (O.length:Int) ζ L O μ = some (r1,r2,r3,r4))∧Aside0 (kq≤k)∧Aside0 (Kd.R (Kd.int .i64) 3 w' w.heap.size (fun _=>True) κ μ)∧Aside0 (w'.heap[ao]?=some (.cells #[.int .i64 B,.int .i64 J] 59 (0,0)))∧Aside0 (w'.heap[cm]?=some (.cells #[(.slice θ L.length δ),(.slice ι O.length η)] 50 (0,0)))∧Aside0 (w'.heap[aw]?=some (.cells #[(.slice none 0 0),(.slice none 0 0),(.slice none 0 0)] 34 (0,0)))∧Aside0 (w'.heap[dk]?=some (.cells #[κ,(.slice none 0 0),(.slice none 0 0)] 34 (0,0)))∧Aside0 (Below w.heap.size w w'))
   case atStart=>exact⟨(0),(([]:List Int)),(.slice none 0 0),qR,H',⟨Nat.le_refl _⟩,⟨by first|exact Kd.Xw _ _ _ _ _|exact Kd.Yr _ _ _ _ _|exact Kd.Yn _ _ _ _ _|exact Kd.Yq _ _ _ _ _|exact Kd.Yo _ _ _ _ _⟩,⟨bka X⟩,⟨bka Z⟩,⟨bka γ⟩,⟨by(with_reducible repeat first|refine Qk ?_ _|refine Qf ?_|refine Ql ?_ _);refine Qm (cs:=#[.slice none 0 0,.slice none 0 0,.slice none 0 0]) ?_ 2 _ rfl;(with_reducible repeat first|refine Qk ?_ _|refine Qf ?_|refine Ql ?_ _);refine Qm (cs:=#[.slice none 0 0,.slice none 0 0,.slice none 0 0]) ?_ 1 _ rfl;(with_reducible repeat first|refine Qk ?_ _|refine Qf ?_|refine Ql ?_ _);refine Qm (cs:=#[.slice none 0 0,.slice none 0 0,.slice none 0 0]) ?_ 0 _ rfl;(with_reducible repeat first|refine Qk ?_ _|refine Qf ?_|refine Ql ?_ _);exact ε.out⟩,⟨bel⟩⟩
   case round=>
    clear H'
    try clear c1
    try clear c2
    try clear p2
    try clear c4
    try clear c5
    try clear c5b0
    try clear c5b1
    try clear p6
    try clear c7
    try clear al
    try clear ae
    try clear ag
    try clear bc
    try clear σ
    try clear cx
    try clear bo
    try clear ai
    try clear a6
    try clear b1
    try clear b2
    try clear af
    try clear cd
    try clear br
    try clear bs
    try clear cy
    try clear cz
    try clear di
    try clear b9
    try clear ba
    try clear aj
    try clear ab
    try clear b3
    try clear b4
    try clear ce
    try clear cf
    try clear bu
    try clear bv
    try clear e3
    try clear e4
    try clear e5
    try clear bb
    try clear bf
    obtain⟨ζ,μ,κ,rfl,HA,an,HO_510000,X,Z,γ,ε,HB⟩:=hrel
    cases gk with
    |zero=>exact absurd HA.out (by simp[call_View.l0])
    |succ k1=>
     have H:=HA.out
     clear HA
     simp only[call_View.l0] at H
     by_cases bn: ζ < (O.length:Int)
     ·rw[if_pos bn] at H
      have c25b0:decide (ζ < (O.length:Int))=true:=decide_eq_true bn
      clear bn
      by_cases bp:0 ≤ ζ
      ·rw[if_pos bp] at H
       have c26b0:decide (0 ≤ ζ)=true:=decide_eq_true bp
       clear bp
       by_cases ey: ζ < (O.length:Int)
       ·rw[if_pos ey] at H
        have c27b0:decide (ζ < (O.length:Int))=true:=decide_eq_true ey
        clear ey
        by_cases bz:((Qo O ζ).f0)=a2
        ·rw[if_pos bz] at H
         have c28b0:(((Qo O ζ).f0)==a2)=true:=beq_iff_eq.mpr bz
         have c28b1:(((Qo O ζ).f0) != a2)=false:=bne_eq_false_iff_eq.mpr bz
         clear bz
         by_cases ca: μ.length<17592186044416
         ·rw[if_pos ca] at H
          have fm:=Aside0.mk ca
          clear ca
          obtain⟨dw,dl⟩:∃ y_:List Int,y_=(μ ++ [(Qo O ζ).f1]):=⟨_,rfl⟩
          replace H:(call_View.l0 k1 a2 O (O.length:Int) (wrap64 (ζ + 1)) L O dw)=some (r1,r2,r3,r4):=by first|(rw[dl];with_reducible exact H)|(have am:=(Option.bind_some _ _).symm.trans H;rw[dl];with_reducible exact am)|(have am:=(Option.bind_some _ _).symm.trans H;with_reducible exact am)|with_reducible exact H|(rw[dl];exact H)|exact H
          have fn:=Aside0.mk dl
          clear dl
          have H':=Aside0.mk H
          clear H
          have cu:0≤(ζ :Int):=of_decide_eq_true (by assumption)
          have cv: ζ < (O.length:Int):=of_decide_eq_true (by assumption)
          obtain⟨ei,dy,be,bg⟩:=Y9 φ.out ζ cu cv
          cases dy
          replace be:=(HB.out.cell (World.block_lt_of_cell? w _ be)).trans be
          replace bg:=(HB.out.cell (World.block_lt_of_cell? w _ bg)).trans bg
          replace cu:=eq_true cu
          replace cv:=eq_true cv
          go_wp2_with (first|((with_reducible refine Qe (N:=11) rfl ?_);refine qE 11 #[.int .i64 0,.int .i64 0] 86 ?_;intro eo hg ej hbox hb;have cq:=Aside0.mk hbox;have fz:=sGe hg;have g0:=sGe hg;have cw:=sNl X hg;have d8:=sNg X hg;have d9:=sNl Z hg;have da:=sNg Z hg;have db:=sNl γ hg;have dc:=sNg γ hg;have dd:=sNl ε hg;have df:=sNg ε hg;replace HO_510000:=sRb HO_510000 hb;replace X:=sBk X hb;replace Z:=sBk Z hb;replace γ:=sBk γ hb;replace ε :=sBk ε hb;replace HB:=sHb hb;clear hb hbox hg;have fo:=d8.out;have fp:=cw.out;have dv:=da.out;have gf:=d9.out;have ij:=dc.out;have ik:=db.out;have jr:=df.out;have jt:=dd.out;obtain⟨d1,d2,d3,d4⟩:=qD2 cq.out;have hy:=bi.out;have i0:=bh.out;have ii:=b8.out;have ju:=b7.out;have ja:=bk.out;have k3:=bj.out;obtain⟨gz,h0,h9,io,ip,iq⟩:=qD3 ε.out)|((with_reducible refine Xs (b:=.append) (xs:=#[.tmp 41,.tmp 44]) rfl ?_);at_builtin;refine Kd.Gw (Kd.int .i64) (w0:=w) w.heap.size rfl (.tmp 41) (.tmp 44) 32 3 (.int .i64 0) 8 rfl Try.underlying32 Wq rfl (by decide) (by omega) κ μ ((Qo O ζ).f1) [.int .i64 ((Qo O ζ).f1)] (fun _=>True) (fun _=>False) rfl (by first|(go_simp;done)|(go_simp;rfl)) ?aP (fun _ hk=>hk.elim) ?aF ?aO ?aB ?aS ?aL ?_;(case aP=>exact rfl);(case aB=>exact bel);(case aF=>exact(fun _ _=>trivial));(case aO=>exact(by(with_reducible repeat first|apply Kd.Qx|apply Kd.Qw|apply Kd.Q2);exact Kd.Q0 (Kd.Qv (Kd.Qv (Kd.Q7 HO_510000.out cq.out (by decide)) (fun _ hk=>hk.2) (.int .i64 ((Qo O ζ).f0))) (fun _ hk=>hk.2) (.int .i64 ((Qo O ζ).f1))) (fun _ hk=>trivial)));(case aS=>exact(Qu bel));(case aL=>have:=fm.out;omega);intro nq mc ho hb hg hat;rw[← fn.out] at ho;have ep:=Aside0.mk ho;replace X:=Aside0.mk (Q3 (g:=ao) (o:=.cells #[.int .i64 B,.int .i64 J] 59 (0,0)) (bka X) hg (Kd.Xc HO_510000.out X.out (by decide)));replace Z:=Aside0.mk (Q3 (g:=cm) (o:=.cells #[.slice θ L.length δ,.slice (some ei) O.length η] 50 (0,0)) (bka Z) hg (Kd.Xc HO_510000.out Z.out (by decide)));replace γ:=Aside0.mk (Q3 (g:=aw) (o:=.cells #[.slice none 0 0,.slice none 0 0,.slice none 0 0] 34 (0,0)) (bka γ) hg (Kd.Xc HO_510000.out γ.out (by decide)));replace ε :=Aside0.mk (Q3 (g:=dk) (o:=.cells #[κ,.slice none 0 0,.slice none 0 0] 34 (0,0)) (bka ε) hg (Kd.Xc HO_510000.out ε.out (by decide)));replace cq:=Aside0.mk (Q3 (g:=eo) (o:=.cells #[.int .i64 ((Qo O ζ).f0),.int .i64 ((Qo O ζ).f1)] 86 (0,0)) (by(with_reducible repeat first|refine Qk ?_ _|refine Qf ?_|refine Ql ?_ _);refine Qm (cs:=#[.int .i64 ((Qo O ζ).f0),.int .i64 0]) ?_ 1 _ rfl;(with_reducible repeat first|refine Qk ?_ _|refine Qf ?_|refine Ql ?_ _);refine Qm (cs:=#[.int .i64 0,.int .i64 0]) ?_ 0 _ rfl;(with_reducible repeat first|refine Qk ?_ _|refine Qf ?_|refine Ql ?_ _);exact cq.out) hg (Kd.Xc HO_510000.out cq.out (by decide)));replace HB:=Aside0.mk hb;clear HO_510000;clear ho hb hg hat;obtain⟨gn,gp,gq⟩:=Kd.Q9 ep.out;subst gq;obtain⟨dz,i6,i7,i9,ia,ib⟩:=qD3 ε.out))
          go_roundg k1
          case measure=>have:=an.out;omega
          case rel=>exact⟨(wrap64 (ζ + 1)),(dw),(.slice gn dw.length gp),qR,H',⟨by have:=an.out;omega⟩,⟨by(with_reducible repeat first|apply Kd.Qx|apply Kd.Qw|apply Kd.Q2);exact Kd.Q0 (Kd.Qv (Kd.Q7 ep.out ε.out (by decide)) (fun _ hk=>hk.2) _) (fun _ hk=>trivial)⟩,⟨bka X⟩,⟨bka Z⟩,⟨bka γ⟩,⟨by(with_reducible repeat first|refine Qk ?_ _|refine Qf ?_|refine Ql ?_ _);refine Qm (cs:=#[κ,.slice none 0 0,.slice none 0 0]) ?_ 0 _ rfl;(with_reducible repeat first|refine Qk ?_ _|refine Qf ?_|refine Ql ?_ _);exact ε.out⟩,⟨bel⟩⟩
         ·rw[if_neg ca] at H
          exact absurd H (by simp)
        ·rw[if_neg bz] at H
         have c28b0:(((Qo O ζ).f0)==a2)=false:=beq_eq_false_iff_ne.mpr bz
         have c28b1:(((Qo O ζ).f0) != a2)=true:=bne_iff_ne.mpr bz
         have H':=Aside0.mk H
         clear H
         have cu:0≤(ζ :Int):=of_decide_eq_true (by assumption)
         have cv: ζ < (O.length:Int):=of_decide_eq_true (by assumption)
         obtain⟨ei,dy,be,bg⟩:=Y9 φ.out ζ cu cv
         cases dy
         replace be:=(HB.out.cell (World.block_lt_of_cell? w _ be)).trans be
         replace bg:=(HB.out.cell (World.block_lt_of_cell? w _ bg)).trans bg
         replace cu:=eq_true cu
         replace cv:=eq_true cv
         go_wp2_with (first|((with_reducible refine Qe (N:=11) rfl ?_);refine qE 11 #[.int .i64 0,.int .i64 0] 86 ?_;intro eo hg l3 hbox hb;have cq:=Aside0.mk hbox;have fz:=sGe hg;have g0:=sGe hg;have cw:=sNl X hg;have d8:=sNg X hg;have d9:=sNl Z hg;have da:=sNg Z hg;have db:=sNl γ hg;have dc:=sNg γ hg;have dd:=sNl ε hg;have df:=sNg ε hg;replace HO_510000:=sRb HO_510000 hb;replace X:=sBk X hb;replace Z:=sBk Z hb;replace γ:=sBk γ hb;replace ε :=sBk ε hb;replace HB:=sHb hb;clear hb hbox hg;have ge:=d8.out;have ha:=cw.out;have i5:=da.out;have ky:=d9.out;have jf:=dc.out;have jg:=db.out;have kl:=df.out;have km:=dd.out;obtain⟨ek,el,em,en⟩:=qD2 cq.out))
         go_roundg k1
         case measure=>have:=an.out;omega
         case rel=>exact⟨(wrap64 (ζ + 1)),(μ),(κ),qR,H',⟨by have:=an.out;omega⟩,⟨by(with_reducible repeat first|apply Kd.Qx|apply Kd.Qw|apply Kd.Q2);exact Kd.Q0 (Kd.Qv (Kd.Qv (Kd.Q7 HO_510000.out cq.out (by decide)) (fun _ hk=>hk.2) (.int .i64 ((Qo O ζ).f0))) (fun _ hk=>hk.2) (.int .i64 ((Qo O ζ).f1))) (fun _ hk=>trivial)⟩,⟨bka X⟩,⟨bka Z⟩,⟨bka γ⟩,⟨bka ε⟩,⟨bel⟩⟩
       ·rw[if_neg ey] at H
        exact absurd H (by simp)
      ·rw[if_neg bp] at H
       exact absurd H (by simp)
     ·rw[if_neg bn] at H
      have c25b0:decide (ζ < (O.length:Int))=false:=decide_eq_false bn
      clear bn
      have H':=Aside0.mk H
      clear H
      have g6:=b0.out
      have g7:=ax.out
      have mz:=ah.out
      have n0:=ak.out
      have jj:=b7.out
      have jk:=b8.out
      obtain⟨d5,d6,d7,ez⟩:=qD2 Z.out
      go_wp2
      go_loopg [51] k1 (fun kq m6 w'=>∃ (Y:Int) (ξ :List Int) (a0:List Int) (ψ :Value) (ω :Value),m6 = .int .i64 Y∧Aside0 (call_View.l1 kq a2 L (L.length:Int) Y μ ξ a0=some (r1,r2,r3,r4))∧Aside0 (kq≤k1)∧Aside0 (Kd.R (Kd.int .i64) 3 w' w.heap.size (fun k_=>some k_≠(ψ :Value).ownBlock∧some k_≠(ω :Value).ownBlock) κ μ)∧Aside0 (Kd.R (Kd.int .i64) 3 w' w.heap.size (fun k_=>some k_≠(κ :Value).ownBlock∧some k_≠(ω :Value).ownBlock) ψ ξ)∧Aside0 (Kd.R (Kd.int .i64) 3 w' w.heap.size (fun k_=>some k_≠(κ :Value).ownBlock∧some k_≠(ψ :Value).ownBlock) ω a0)∧Aside0 (w'.heap[ao]?=some (.cells #[.int .i64 B,.int .i64 J] 59 (0,0)))∧Aside0 (w'.heap[cm]?=some (.cells #[(.slice θ L.length δ),(.slice ι O.length η)] 50 (0,0)))∧Aside0 (w'.heap[aw]?=some (.cells #[(.slice none 0 0),(.slice none 0 0),(.slice none 0 0)] 34 (0,0)))∧Aside0 (w'.heap[dk]?=some (.cells #[κ,ψ,ω] 34 (0,0)))∧Aside0 (Below w.heap.size w w'))
      case atStart=>exact⟨(0),(([]:List Int)),(([]:List Int)),(.slice none 0 0),(.slice none 0 0),rfl,H',⟨Nat.le_refl _⟩,⟨by(with_reducible repeat first|apply Kd.Qx|apply Kd.Qw|apply Kd.Q2);exact Kd.Q0 HO_510000.out (fun _ hk=>⟨(by simp[Value.ownBlock]),(by simp[Value.ownBlock])⟩)⟩,⟨by first|exact Kd.Xw _ _ _ _ _|exact Kd.Yr _ _ _ _ _|exact Kd.Yn _ _ _ _ _|exact Kd.Yq _ _ _ _ _|exact Kd.Yo _ _ _ _ _⟩,⟨by first|exact Kd.Xw _ _ _ _ _|exact Kd.Yr _ _ _ _ _|exact Kd.Yn _ _ _ _ _|exact Kd.Yq _ _ _ _ _|exact Kd.Yo _ _ _ _ _⟩,X,Z,γ,ε,HB⟩
      case round=>
       clear H'
       try clear c1
       try clear c2
       try clear p2
       try clear c3
       try clear c4
       try clear c5
       try clear c5b0
       try clear c5b1
       try clear p5
       try clear q5
       try clear qq
       try clear p6
       try clear c7
       try clear al
       try clear ae
       try clear ag
       try clear bc
       try clear σ
       try clear cx
       try clear bo
       try clear bn
       try clear c25b0
       try clear bp
       try clear c26b0
       try clear ey
       try clear c27b0
       try clear bz
       try clear c28b0
       try clear c28b1
       try clear ca
       try clear eh
       try clear o1
       try clear o5
       try clear gu
       try clear o2
       try clear g5
       try clear fc
       try clear de
       try clear gv
       try clear gw
       try clear j4
       try clear ih
       try clear dx
       try clear o9
       try clear i3
       try clear p51
       try clear o3
       try clear nr
       try clear ai
       try clear a6
       try clear b1
       try clear b2
       try clear af
       try clear cd
       try clear br
       try clear bs
       try clear cy
       try clear cz
       try clear di
       try clear b9
       try clear ba
       try clear d1
       try clear d2
       try clear gz
       try clear h0
       try clear h9
       try clear dz
       try clear i6
       try clear i7
       try clear ek
       try clear el
       try clear d5
       try clear d6
       try clear aj
       try clear ab
       try clear b3
       try clear b4
       try clear ce
       try clear cf
       try clear bu
       try clear bv
       try clear e3
       try clear e4
       try clear e5
       try clear bb
       try clear bf
       try clear d3
       try clear d4
       try clear io
       try clear ip
       try clear iq
       try clear i9
       try clear ia
       try clear ib
       try clear em
       try clear en
       try clear d7
       try clear ez
       try clear be
       try clear bg
       try clear p2
       try clear cu
       try clear p6
       try clear cv
       obtain⟨Y,ξ,a0,ψ,ω,rfl,HA,ed,HO_510000,HO_510001,HO_510002,X,Z,γ,ε,HB⟩:=hrel
       cases gk with
       |zero=>exact absurd HA.out (by simp[call_View.l1])
       |succ k2=>
        have H:=HA.out
        clear HA
        simp only[call_View.l1] at H
        by_cases fa:Y<(L.length:Int)
        ·rw[if_pos fa] at H
         have c53b0:decide (Y<(L.length:Int))=true:=decide_eq_true fa
         clear fa
         by_cases jm:0≤Y
         ·rw[if_pos jm] at H
          have c54b0:decide (0≤Y)=true:=decide_eq_true jm
          clear jm
          by_cases er:Y<(L.length:Int)
          ·rw[if_pos er] at H
           have c55b0:decide (Y<(L.length:Int))=true:=decide_eq_true er
           clear er
           by_cases dt:((Qc L Y).f2)=a2
           ·rw[if_pos dt] at H
            have c56b0:(((Qc L Y).f2)==a2)=true:=beq_iff_eq.mpr dt
            have c56b1:(((Qc L Y).f2) != a2)=false:=bne_eq_false_iff_eq.mpr dt
            clear dt
            by_cases cp:((Qc L Y).f1)>0
            ·rw[if_pos cp] at H
             have c57b0:decide (0<((Qc L Y).f1))=true:=decide_eq_true cp
             clear cp
             by_cases bw: ξ.length<17592186044416
             ·rw[if_pos bw] at H
              have g1:=Aside0.mk bw
              clear bw
              obtain⟨e0,dm⟩:∃ y_:List Int,y_=(ξ ++ [(Qc L Y).f0]):=⟨_,rfl⟩
              replace H:(call_View.l1 k2 a2 L (L.length:Int) (wrap64 (Y+1)) μ e0 a0)=some (r1,r2,r3,r4):=by first|(rw[dm];with_reducible exact H)|(have am:=(Option.bind_some _ _).symm.trans H;rw[dm];with_reducible exact am)|(have am:=(Option.bind_some _ _).symm.trans H;with_reducible exact am)|with_reducible exact H|(rw[dm];exact H)|exact H
              have g4:=Aside0.mk dm
              clear dm
              have H':=Aside0.mk H
              clear H
              have cn:0≤(Y:Int):=of_decide_eq_true (by assumption)
              have co:Y<(L.length:Int):=of_decide_eq_true (by assumption)
              obtain⟨dq,du,a5,a9,aa⟩:=Xy τ.out Y cn co
              cases du
              replace a5:=(HB.out.cell (World.block_lt_of_cell? w _ a5)).trans a5
              replace a9:=(HB.out.cell (World.block_lt_of_cell? w _ a9)).trans a9
              replace aa:=(HB.out.cell (World.block_lt_of_cell? w _ aa)).trans aa
              replace cn:=eq_true cn
              replace co:=eq_true co
              go_wp2_with (first|((with_reducible refine Qe (N:=13) rfl ?_);refine qE 13 #[.int .i64 0,.int .i64 0,.int .i64 0] 36 ?_;intro dr hg me hbox hb;have ν :=Aside0.mk hbox;have et:=sGe hg;have eu:=sGe hg;have bl:=sNl X hg;have bm:=sNg X hg;have bq:=sNl Z hg;have cb:=sNg Z hg;have ch:=sNl γ hg;have ci:=sNg γ hg;have cj:=sNl ε hg;have ck:=sNg ε hg;replace HO_510000:=sRb HO_510000 hb;replace HO_510001:=sRb HO_510001 hb;replace HO_510002:=sRb HO_510002 hb;replace X:=sBk X hb;replace Z:=sBk Z hb;replace γ:=sBk γ hb;replace ε :=sBk ε hb;replace HB:=sHb hb;clear hb hbox hg;have fv:=bm.out;have fw:=bl.out;have hu:=cb.out;have hx:=bq.out;have nb:=ci.out;have nc:=ch.out;have k8:=ck.out;have k9:=cj.out;obtain⟨h4,h5,il,ie,ig,m3⟩:=qD3 ν.out;have fk:=bi.out;have fl:=bh.out;have mi:=b8.out;have mj:=b7.out;have nf:=bk.out;have ni:=bj.out;obtain⟨g2,g3,lh,ll,nh,nx⟩:=qD3 ε.out)|((with_reducible refine Xs (b:=.append) (xs:=#[.tmp 72,.tmp 75]) rfl ?_);at_builtin;refine Kd.Gw (Kd.int .i64) (w0:=w) w.heap.size rfl (.tmp 72) (.tmp 75) 32 3 (.int .i64 0) 8 rfl Try.underlying32 Wq rfl (by decide) (by omega) ψ ξ ((Qc L Y).f0) [.int .i64 ((Qc L Y).f0)] (fun k_=>some k_≠(κ :Value).ownBlock∧some k_≠(ω :Value).ownBlock) (fun _=>False) rfl (by first|(go_simp;done)|(go_simp;rfl)) ?aP (fun _ hk=>hk.elim) ?aF ?aO ?aB ?aS ?aL ?_;(case aP=>exact rfl);(case aB=>exact bel);(case aF=>exact(fun k_ hk=>⟨Kd.fresh' (Kd.M1 (by(with_reducible repeat first|apply Kd.Qx|apply Kd.Qw|apply Kd.Q2);exact(Kd.Q0 (Kd.Qv (Kd.Qv (Kd.Qv (Kd.Q7 HO_510000.out ν.out (by decide)) (fun _ hk=>hk.2) (.int .i64 ((Qc L Y).f0))) (fun _ hk=>hk.2) (.int .i64 ((Qc L Y).f1))) (fun _ hk=>hk.2) (.int .i64 ((Qc L Y).f2))) (fun _ h_=>h_.1)))) k_ hk,Kd.fresh' (Kd.M1 (by(with_reducible repeat first|apply Kd.Qx|apply Kd.Qw|apply Kd.Q2);exact(Kd.Q0 (Kd.Qv (Kd.Qv (Kd.Qv (Kd.Q7 HO_510002.out ν.out (by decide)) (fun _ hk=>hk.2) (.int .i64 ((Qc L Y).f0))) (fun _ hk=>hk.2) (.int .i64 ((Qc L Y).f1))) (fun _ hk=>hk.2) (.int .i64 ((Qc L Y).f2))) (fun _ h_=>h_.1)))) k_ hk⟩));(case aO=>exact(by(with_reducible repeat first|apply Kd.Qx|apply Kd.Qw|apply Kd.Q2);exact Kd.Q0 (Kd.Qv (Kd.Qv (Kd.Qv (Kd.Q7 HO_510001.out ν.out (by decide)) (fun _ hk=>hk.2) (.int .i64 ((Qc L Y).f0))) (fun _ hk=>hk.2) (.int .i64 ((Qc L Y).f1))) (fun _ hk=>hk.2) (.int .i64 ((Qc L Y).f2))) (fun _ hk=>⟨hk.1.1,hk.1.2⟩)));(case aS=>exact(Qu bel));(case aL=>have:=g1.out;omega);intro ns o4 ho hb hg hat;rw[← g4.out] at ho;have ev:=Aside0.mk ho;replace HO_510000:=Aside0.mk (Kd.K3 (ok:=(fun k_=>some k_≠(ω :Value).ownBlock)) (by(with_reducible repeat first|apply Kd.Qx|apply Kd.Qw|apply Kd.Q2);exact Kd.Q0 (Kd.Qv (Kd.Qv (Kd.Qv (Kd.Q7 HO_510000.out ν.out (by decide)) (fun _ hk=>hk.2) (.int .i64 ((Qc L Y).f0))) (fun _ hk=>hk.2) (.int .i64 ((Qc L Y).f1))) (fun _ hk=>hk.2) (.int .i64 ((Qc L Y).f2))) (fun _ hk=>⟨hk.1.2,hk.1.1⟩)) hg hat);replace HO_510002:=Aside0.mk (Kd.K3 (ok:=(fun k_=>some k_≠(κ :Value).ownBlock)) (by(with_reducible repeat first|apply Kd.Qx|apply Kd.Qw|apply Kd.Q2);exact Kd.Q0 (Kd.Qv (Kd.Qv (Kd.Qv (Kd.Q7 HO_510002.out ν.out (by decide)) (fun _ hk=>hk.2) (.int .i64 ((Qc L Y).f0))) (fun _ hk=>hk.2) (.int .i64 ((Qc L Y).f1))) (fun _ hk=>hk.2) (.int .i64 ((Qc L Y).f2))) (fun _ hk=>⟨hk.1.1,hk.1.2⟩)) hg hat);replace X:=Aside0.mk (Q3 (g:=ao) (o:=.cells #[.int .i64 B,.int .i64 J] 59 (0,0)) (bka X) hg (Kd.Xc HO_510001.out X.out (by decide)));replace Z:=Aside0.mk (Q3 (g:=cm) (o:=.cells #[.slice (some dq) L.length δ,.slice ι O.length η] 50 (0,0)) (bka Z) hg (Kd.Xc HO_510001.out Z.out (by decide)));replace γ:=Aside0.mk (Q3 (g:=aw) (o:=.cells #[.slice none 0 0,.slice none 0 0,.slice none 0 0] 34 (0,0)) (bka γ) hg (Kd.Xc HO_510001.out γ.out (by decide)));replace ε :=Aside0.mk (Q3 (g:=dk) (o:=.cells #[κ,ψ,ω] 34 (0,0)) (bka ε) hg (Kd.Xc HO_510001.out ε.out (by decide)));replace ν :=Aside0.mk (Q3 (g:=dr) (o:=.cells #[.int .i64 ((Qc L Y).f0),.int .i64 ((Qc L Y).f1),.int .i64 ((Qc L Y).f2)] 36 (0,0)) (by(with_reducible repeat first|refine Qk ?_ _|refine Qf ?_|refine Ql ?_ _);refine Qm (cs:=#[.int .i64 ((Qc L Y).f0),.int .i64 ((Qc L Y).f1),.int .i64 0]) ?_ 2 _ rfl;(with_reducible repeat first|refine Qk ?_ _|refine Qf ?_|refine Ql ?_ _);refine Qm (cs:=#[.int .i64 ((Qc L Y).f0),.int .i64 0,.int .i64 0]) ?_ 1 _ rfl;(with_reducible repeat first|refine Qk ?_ _|refine Qf ?_|refine Ql ?_ _);refine Qm (cs:=#[.int .i64 0,.int .i64 0,.int .i64 0]) ?_ 0 _ rfl;(with_reducible repeat first|refine Qk ?_ _|refine Qf ?_|refine Ql ?_ _);exact ν.out) hg (Kd.Xc HO_510001.out ν.out (by decide)));replace HB:=Aside0.mk hb;clear HO_510001;clear ho hb hg hat;obtain⟨gr,gs,gx⟩:=Kd.Q9 ev.out;subst gx;obtain⟨im,iv,iw,ix,iy,iz⟩:=qD3 ε.out))
              go_roundg k2
              case measure=>have:=an.out;have:=ed.out;omega
              case rel=>exact⟨(wrap64 (Y+1)),(e0),(a0),(.slice gr e0.length gs),(ω),qR,H',⟨by have:=an.out;have:=ed.out;omega⟩,⟨by(with_reducible repeat first|apply Kd.Qx|apply Kd.Qw|apply Kd.Q2);exact Kd.Q0 (Kd.Qv (Kd.Q7 HO_510000.out ε.out (by decide)) (fun _ hk=>hk.2) _) (fun _ hk=>⟨hk.1.2,hk.1.1⟩)⟩,⟨by(with_reducible repeat first|apply Kd.Qx|apply Kd.Qw|apply Kd.Q2);exact Kd.Q0 (Kd.Qv (Kd.Q7 ev.out ε.out (by decide)) (fun _ hk=>hk.2) _) (fun _ hk=>⟨hk.1.1,hk.1.2⟩)⟩,⟨by(with_reducible repeat first|apply Kd.Qx|apply Kd.Qw|apply Kd.Q2);exact Kd.Q0 (Kd.Qv (Kd.Q7 HO_510002.out ε.out (by decide)) (fun _ hk=>hk.2) _) (fun _ hk=>⟨hk.1.1,hk.1.2⟩)⟩,⟨bka X⟩,⟨bka Z⟩,⟨bka γ⟩,⟨by(with_reducible repeat first|refine Qk ?_ _|refine Qf ?_|refine Ql ?_ _);refine Qm (cs:=#[κ,ψ,ω]) ?_ 1 _ rfl;(with_reducible repeat first|refine Qk ?_ _|refine Qf ?_|refine Ql ?_ _);exact ε.out⟩,⟨bel⟩⟩
             ·rw[if_neg bw] at H
              exact absurd H (by simp)
            ·rw[if_neg cp] at H
             have c57b0:decide (0<((Qc L Y).f1))=false:=decide_eq_false cp
             clear cp
             by_cases jn:a0.length<17592186044416
             ·rw[if_pos jn] at H
              have gg:=Aside0.mk jn
              clear jn
              obtain⟨e6,dn⟩:∃ y_:List Int,y_=(a0 ++ [(Qc L Y).f0]):=⟨_,rfl⟩
              replace H:(call_View.l1 k2 a2 L (L.length:Int) (wrap64 (Y+1)) μ ξ e6)=some (r1,r2,r3,r4):=by first|(rw[dn];with_reducible exact H)|(have am:=(Option.bind_some _ _).symm.trans H;rw[dn];with_reducible exact am)|(have am:=(Option.bind_some _ _).symm.trans H;with_reducible exact am)|with_reducible exact H|(rw[dn];exact H)|exact H
              have gh:=Aside0.mk dn
              clear dn
              have H':=Aside0.mk H
              clear H
              have cn:0≤(Y:Int):=of_decide_eq_true (by assumption)
              have co:Y<(L.length:Int):=of_decide_eq_true (by assumption)
              obtain⟨dq,du,a5,a9,aa⟩:=Xy τ.out Y cn co
              cases du
              replace a5:=(HB.out.cell (World.block_lt_of_cell? w _ a5)).trans a5
              replace a9:=(HB.out.cell (World.block_lt_of_cell? w _ a9)).trans a9
              replace aa:=(HB.out.cell (World.block_lt_of_cell? w _ aa)).trans aa
              replace cn:=eq_true cn
              replace co:=eq_true co
              go_wp2_with (first|((with_reducible refine Qe (N:=13) rfl ?_);refine qE 13 #[.int .i64 0,.int .i64 0,.int .i64 0] 36 ?_;intro dr hg q6 hbox hb;have ν :=Aside0.mk hbox;have et:=sGe hg;have eu:=sGe hg;have bl:=sNl X hg;have bm:=sNg X hg;have bq:=sNl Z hg;have cb:=sNg Z hg;have ch:=sNl γ hg;have ci:=sNg γ hg;have cj:=sNl ε hg;have ck:=sNg ε hg;replace HO_510000:=sRb HO_510000 hb;replace HO_510001:=sRb HO_510001 hb;replace HO_510002:=sRb HO_510002 hb;replace X:=sBk X hb;replace Z:=sBk Z hb;replace γ:=sBk γ hb;replace ε :=sBk ε hb;replace HB:=sHb hb;clear hb hbox hg;have nj:=bm.out;have nl:=bl.out;have kh:=cb.out;have ki:=bq.out;have kj:=ci.out;have kv:=ch.out;have kw:=ck.out;have kx:=cj.out;obtain⟨fq,fx,fy,g8,kd,ke⟩:=qD3 ν.out;have kp:=bi.out;have lx:=bh.out;have ly:=b8.out;have lz:=b7.out;have nm:=bk.out;have nn:=bj.out;obtain⟨j3,j5,j6,j7,j8,j9⟩:=qD3 ε.out)|((with_reducible refine Xs (b:=.append) (xs:=#[.tmp 56,.tmp 59]) rfl ?_);at_builtin;refine Kd.Gw (Kd.int .i64) (w0:=w) w.heap.size rfl (.tmp 56) (.tmp 59) 32 3 (.int .i64 0) 8 rfl Try.underlying32 Wq rfl (by decide) (by omega) ω a0 ((Qc L Y).f0) [.int .i64 ((Qc L Y).f0)] (fun k_=>some k_≠(κ :Value).ownBlock∧some k_≠(ψ :Value).ownBlock) (fun _=>False) rfl (by first|(go_simp;done)|(go_simp;rfl)) ?aP (fun _ hk=>hk.elim) ?aF ?aO ?aB ?aS ?aL ?_;(case aP=>exact rfl);(case aB=>exact bel);(case aF=>exact(fun k_ hk=>⟨Kd.fresh' (Kd.M1 (by(with_reducible repeat first|apply Kd.Qx|apply Kd.Qw|apply Kd.Q2);exact(Kd.Q0 (Kd.Qv (Kd.Qv (Kd.Qv (Kd.Q7 HO_510000.out ν.out (by decide)) (fun _ hk=>hk.2) (.int .i64 ((Qc L Y).f0))) (fun _ hk=>hk.2) (.int .i64 ((Qc L Y).f1))) (fun _ hk=>hk.2) (.int .i64 ((Qc L Y).f2))) (fun _ h_=>h_.1)))) k_ hk,Kd.fresh' (Kd.M1 (by(with_reducible repeat first|apply Kd.Qx|apply Kd.Qw|apply Kd.Q2);exact(Kd.Q0 (Kd.Qv (Kd.Qv (Kd.Qv (Kd.Q7 HO_510001.out ν.out (by decide)) (fun _ hk=>hk.2) (.int .i64 ((Qc L Y).f0))) (fun _ hk=>hk.2) (.int .i64 ((Qc L Y).f1))) (fun _ hk=>hk.2) (.int .i64 ((Qc L Y).f2))) (fun _ h_=>h_.1)))) k_ hk⟩));(case aO=>exact(by(with_reducible repeat first|apply Kd.Qx|apply Kd.Qw|apply Kd.Q2);exact Kd.Q0 (Kd.Qv (Kd.Qv (Kd.Qv (Kd.Q7 HO_510002.out ν.out (by decide)) (fun _ hk=>hk.2) (.int .i64 ((Qc L Y).f0))) (fun _ hk=>hk.2) (.int .i64 ((Qc L Y).f1))) (fun _ hk=>hk.2) (.int .i64 ((Qc L Y).f2))) (fun _ hk=>⟨hk.1.1,hk.1.2⟩)));(case aS=>exact(Qu bel));(case aL=>have:=gg.out;omega);intro nt o6 ho hb hg hat;rw[← gh.out] at ho;have ew:=Aside0.mk ho;replace HO_510000:=Aside0.mk (Kd.K3 (ok:=(fun k_=>some k_≠(ψ :Value).ownBlock)) (by(with_reducible repeat first|apply Kd.Qx|apply Kd.Qw|apply Kd.Q2);exact Kd.Q0 (Kd.Qv (Kd.Qv (Kd.Qv (Kd.Q7 HO_510000.out ν.out (by decide)) (fun _ hk=>hk.2) (.int .i64 ((Qc L Y).f0))) (fun _ hk=>hk.2) (.int .i64 ((Qc L Y).f1))) (fun _ hk=>hk.2) (.int .i64 ((Qc L Y).f2))) (fun _ hk=>⟨hk.1.1,hk.1.2⟩)) hg hat);replace HO_510001:=Aside0.mk (Kd.K3 (ok:=(fun k_=>some k_≠(κ :Value).ownBlock)) (by(with_reducible repeat first|apply Kd.Qx|apply Kd.Qw|apply Kd.Q2);exact Kd.Q0 (Kd.Qv (Kd.Qv (Kd.Qv (Kd.Q7 HO_510001.out ν.out (by decide)) (fun _ hk=>hk.2) (.int .i64 ((Qc L Y).f0))) (fun _ hk=>hk.2) (.int .i64 ((Qc L Y).f1))) (fun _ hk=>hk.2) (.int .i64 ((Qc L Y).f2))) (fun _ hk=>⟨hk.1.1,hk.1.2⟩)) hg hat);replace X:=Aside0.mk (Q3 (g:=ao) (o:=.cells #[.int .i64 B,.int .i64 J] 59 (0,0)) (bka X) hg (Kd.Xc HO_510002.out X.out (by decide)));replace Z:=Aside0.mk (Q3 (g:=cm) (o:=.cells #[.slice (some dq) L.length δ,.slice ι O.length η] 50 (0,0)) (bka Z) hg (Kd.Xc HO_510002.out Z.out (by decide)));replace γ:=Aside0.mk (Q3 (g:=aw) (o:=.cells #[.slice none 0 0,.slice none 0 0,.slice none 0 0] 34 (0,0)) (bka γ) hg (Kd.Xc HO_510002.out γ.out (by decide)));replace ε :=Aside0.mk (Q3 (g:=dk) (o:=.cells #[κ,ψ,ω] 34 (0,0)) (bka ε) hg (Kd.Xc HO_510002.out ε.out (by decide)));replace ν :=Aside0.mk (Q3 (g:=dr) (o:=.cells #[.int .i64 ((Qc L Y).f0),.int .i64 ((Qc L Y).f1),.int .i64 ((Qc L Y).f2)] 36 (0,0)) (by(with_reducible repeat first|refine Qk ?_ _|refine Qf ?_|refine Ql ?_ _);refine Qm (cs:=#[.int .i64 ((Qc L Y).f0),.int .i64 ((Qc L Y).f1),.int .i64 0]) ?_ 2 _ rfl;(with_reducible repeat first|refine Qk ?_ _|refine Qf ?_|refine Ql ?_ _);refine Qm (cs:=#[.int .i64 ((Qc L Y).f0),.int .i64 0,.int .i64 0]) ?_ 1 _ rfl;(with_reducible repeat first|refine Qk ?_ _|refine Qf ?_|refine Ql ?_ _);refine Qm (cs:=#[.int .i64 0,.int .i64 0,.int .i64 0]) ?_ 0 _ rfl;(with_reducible repeat first|refine Qk ?_ _|refine Qf ?_|refine Ql ?_ _);exact ν.out) hg (Kd.Xc HO_510002.out ν.out (by decide)));replace HB:=Aside0.mk hb;clear HO_510002;clear ho hb hg hat;obtain⟨gy,h6,he⟩:=Kd.Q9 ew.out;subst he;obtain⟨kn,ko,ks,kt,ku,kz⟩:=qD3 ε.out))
              go_roundg k2
              case measure=>have:=an.out;have:=ed.out;omega
              case rel=>exact⟨(wrap64 (Y+1)),(ξ),(e6),(ψ),(.slice gy e6.length h6),qR,H',⟨by have:=an.out;have:=ed.out;omega⟩,⟨by(with_reducible repeat first|apply Kd.Qx|apply Kd.Qw|apply Kd.Q2);exact Kd.Q0 (Kd.Qv (Kd.Q7 HO_510000.out ε.out (by decide)) (fun _ hk=>hk.2) _) (fun _ hk=>⟨hk.1.1,hk.1.2⟩)⟩,⟨by(with_reducible repeat first|apply Kd.Qx|apply Kd.Qw|apply Kd.Q2);exact Kd.Q0 (Kd.Qv (Kd.Q7 HO_510001.out ε.out (by decide)) (fun _ hk=>hk.2) _) (fun _ hk=>⟨hk.1.1,hk.1.2⟩)⟩,⟨by(with_reducible repeat first|apply Kd.Qx|apply Kd.Qw|apply Kd.Q2);exact Kd.Q0 (Kd.Qv (Kd.Q7 ew.out ε.out (by decide)) (fun _ hk=>hk.2) _) (fun _ hk=>⟨hk.1.1,hk.1.2⟩)⟩,⟨bka X⟩,⟨bka Z⟩,⟨bka γ⟩,⟨by(with_reducible repeat first|refine Qk ?_ _|refine Qf ?_|refine Ql ?_ _);refine Qm (cs:=#[κ,ψ,ω]) ?_ 2 _ rfl;(with_reducible repeat first|refine Qk ?_ _|refine Qf ?_|refine Ql ?_ _);exact ε.out⟩,⟨bel⟩⟩
             ·rw[if_neg jn] at H
              exact absurd H (by simp)
           ·rw[if_neg dt] at H
            have c56b0:(((Qc L Y).f2)==a2)=false:=beq_eq_false_iff_ne.mpr dt
            have c56b1:(((Qc L Y).f2) != a2)=true:=bne_iff_ne.mpr dt
            have H':=Aside0.mk H
            clear H
            have cn:0≤(Y:Int):=of_decide_eq_true (by assumption)
            have co:Y<(L.length:Int):=of_decide_eq_true (by assumption)
            obtain⟨dq,du,a5,a9,aa⟩:=Xy τ.out Y cn co
            cases du
            replace a5:=(HB.out.cell (World.block_lt_of_cell? w _ a5)).trans a5
            replace a9:=(HB.out.cell (World.block_lt_of_cell? w _ a9)).trans a9
            replace aa:=(HB.out.cell (World.block_lt_of_cell? w _ aa)).trans aa
            replace cn:=eq_true cn
            replace co:=eq_true co
            go_wp2_with (first|((with_reducible refine Qe (N:=13) rfl ?_);refine qE 13 #[.int .i64 0,.int .i64 0,.int .i64 0] 36 ?_;intro dr hg o7 hbox hb;have ν :=Aside0.mk hbox;have et:=sGe hg;have eu:=sGe hg;have bl:=sNl X hg;have bm:=sNg X hg;have bq:=sNl Z hg;have cb:=sNg Z hg;have ch:=sNl γ hg;have ci:=sNg γ hg;have cj:=sNl ε hg;have ck:=sNg ε hg;replace HO_510000:=sRb HO_510000 hb;replace HO_510001:=sRb HO_510001 hb;replace HO_510002:=sRb HO_510002 hb;replace X:=sBk X hb;replace Z:=sBk Z hb;replace γ:=sBk γ hb;replace ε :=sBk ε hb;replace HB:=sHb hb;clear hb hbox hg;have ml:=bm.out;have mm:=bl.out;have mo:=cb.out;have mq:=bq.out;have mr:=ci.out;have ms:=ch.out;have mt:=ck.out;have mu:=cj.out;obtain⟨l2,l4,l5,l6,l7,l8⟩:=qD3 ν.out))
            go_roundg k2
            case measure=>have:=an.out;have:=ed.out;omega
            case rel=>exact⟨(wrap64 (Y+1)),(ξ),(a0),(ψ),(ω),qR,H',⟨by have:=an.out;have:=ed.out;omega⟩,⟨by(with_reducible repeat first|apply Kd.Qx|apply Kd.Qw|apply Kd.Q2);exact Kd.Q0 (Kd.Qv (Kd.Qv (Kd.Qv (Kd.Q7 HO_510000.out ν.out (by decide)) (fun _ hk=>hk.2) (.int .i64 ((Qc L Y).f0))) (fun _ hk=>hk.2) (.int .i64 ((Qc L Y).f1))) (fun _ hk=>hk.2) (.int .i64 ((Qc L Y).f2))) (fun _ hk=>⟨hk.1.1,hk.1.2⟩)⟩,⟨by(with_reducible repeat first|apply Kd.Qx|apply Kd.Qw|apply Kd.Q2);exact Kd.Q0 (Kd.Qv (Kd.Qv (Kd.Qv (Kd.Q7 HO_510001.out ν.out (by decide)) (fun _ hk=>hk.2) (.int .i64 ((Qc L Y).f0))) (fun _ hk=>hk.2) (.int .i64 ((Qc L Y).f1))) (fun _ hk=>hk.2) (.int .i64 ((Qc L Y).f2))) (fun _ hk=>⟨hk.1.1,hk.1.2⟩)⟩,⟨by(with_reducible repeat first|apply Kd.Qx|apply Kd.Qw|apply Kd.Q2);exact Kd.Q0 (Kd.Qv (Kd.Qv (Kd.Qv (Kd.Q7 HO_510002.out ν.out (by decide)) (fun _ hk=>hk.2) (.int .i64 ((Qc L Y).f0))) (fun _ hk=>hk.2) (.int .i64 ((Qc L Y).f1))) (fun _ hk=>hk.2) (.int .i64 ((Qc L Y).f2))) (fun _ hk=>⟨hk.1.1,hk.1.2⟩)⟩,⟨bka X⟩,⟨bka Z⟩,⟨bka γ⟩,⟨bka ε⟩,⟨bel⟩⟩
          ·rw[if_neg er] at H
           exact absurd H (by simp)
         ·rw[if_neg jm] at H
          exact absurd H (by simp)
        ·rw[if_neg fa] at H
         have c53b0:decide (Y<(L.length:Int))=false:=decide_eq_false fa
         clear fa
         simp only[Option.some.injEq,Prod.mk.injEq] at H
         obtain⟨rfl,rfl,rfl,rfl⟩:=H
         have mw:=bi.out
         have my:=bh.out
         have n1:=b8.out
         have n2:=b7.out
         have no:=bk.out
         have np:=bj.out
         obtain⟨l9,lb,lc,lf,lg,lm⟩:=qD3 ε.out
         obtain⟨e7,e8,hh⟩:=Kd.Q9 HO_510000.out
         subst hh
         have n3:=b6.out
         have na:=b5.out
         have ng:=ak.out
         have nk:=ah.out
         obtain⟨ln,lp,lq,lr,ls,m4⟩:=qD3 γ.out
         obtain⟨fi,fj,gi⟩:=Kd.Q9 HO_510001.out
         subst gi
         obtain⟨gj,gl,gm⟩:=Kd.Q9 HO_510002.out
         subst gm
         go_wp2
         refine bodyPost_ret (Z5 rfl _ _ aw 34 #[.slice e7 μ.length e8,.slice fi ξ.length fj,.slice gj a0.length gl] (0,0) _ rfl (by refine Qm (cs:=#[.slice e7 μ.length e8,.slice fi ξ.length fj,.slice none 0 0]) ?_ 2 _ rfl;refine Qm (cs:=#[.slice e7 μ.length e8,.slice none 0 0,.slice none 0 0]) ?_ 1 _ rfl;refine Qm (cs:=#[.slice none 0 0,.slice none 0 0,.slice none 0 0]) ?_ 0 _ rfl;exact γ.out) Try.underlying34 rfl kr) rfl ?_
         exact⟨_,_,_,by first|rfl|(simp[Qh,Qg] <;> rfl)|(simp[*,Qh,Qg] <;> rfl),by(with_reducible repeat first|apply Kd.Qx|apply Kd.Qw|apply Kd.Q2);exact Kd.Q0 (Kd.Qv (Kd.Qv (Kd.Qv (Kd.Q7 HO_510000.out γ.out (by decide)) (fun _ hk=>hk.2) _) (fun _ hk=>hk.2) _) (fun _ hk=>hk.2) _) (fun _ hk=>⟨hk.1.1,hk.1.2⟩),by(with_reducible repeat first|apply Kd.Qx|apply Kd.Qw|apply Kd.Q2);exact Kd.Q0 (Kd.Qv (Kd.Qv (Kd.Qv (Kd.Q7 HO_510001.out γ.out (by decide)) (fun _ hk=>hk.2) _) (fun _ hk=>hk.2) _) (fun _ hk=>hk.2) _) (fun _ hk=>⟨hk.1.1,hk.1.2⟩),by(with_reducible repeat first|apply Kd.Qx|apply Kd.Qw|apply Kd.Q2);exact Kd.Q0 (Kd.Qv (Kd.Qv (Kd.Qv (Kd.Q7 HO_510002.out γ.out (by decide)) (fun _ hk=>hk.2) _) (fun _ hk=>hk.2) _) (fun _ hk=>hk.2) _) (fun _ hk=>⟨hk.1.1,hk.1.2⟩),bel⟩
  ·replace c7:=Bool.eq_false_iff.mpr c7
   subst c7
   have H1:(some (([]:List Int),([]:List Int),([]:List Int),191))=some (r1,r2,r3,r4):=by rw[if_neg (show ¬ (false=true) by decide)] at H;exact H
   clear H
   have H:=H1
   clear H1
   simp only[Option.some.injEq,Prod.mk.injEq] at H
   obtain⟨rfl,rfl,rfl,rfl⟩:=H
   go_enter Try.func24,Try.ntmps24
   go_wp2_with (first|((with_reducible refine Qe (N:=3) rfl ?_);refine qE 3 #[.int .i64 B,.int .i64 J] 59 ?_;intro ao hg nu hbox hb;have X:=Aside0.mk hbox;have ea:=sGe hg;have eb:=sGe hg;replace HB:=sHb hb;clear hb hbox hg)|((with_reducible refine Qe (N:=4) rfl ?_);refine qE 4 #[.slice θ L.length δ,.slice ι O.length η] 50 ?_;intro cm hg nv hbox hb;have Z:=Aside0.mk hbox;have ec:=sGe hg;have ee:=sGe hg;have ax:=sNl X hg;have b0:=sNg X hg;replace X:=sBk X hb;replace HB:=sHb hb;clear hb hbox hg)|((with_reducible refine Qe (N:=6) rfl ?_);refine qE 6 #[.slice none 0 0,.slice none 0 0,.slice none 0 0] 34 ?_;intro aw hg nw hbox hb;have γ:=Aside0.mk hbox;have ef:=sGe hg;have eg:=sGe hg;have b5:=sNl X hg;have b6:=sNg X hg;have ah:=sNl Z hg;have ak:=sNg Z hg;replace X:=sBk X hb;replace Z:=sBk Z hb;replace HB:=sHb hb;clear hb hbox hg;have m7:=ax.out;have m8:=b0.out;have m9:=b5.out;have ma:=b6.out;obtain⟨hj,hl,i1,i2⟩:=qD2 X.out;have mb:=ah.out;have mf:=ak.out;obtain⟨i4,ic,ir,it⟩:=qD2 Z.out)|((with_reducible refine Qd (f:=40) rfl ?_);refine Qn (some 16) rfl rfl Try.func40 kr rfl #[.agg #[.int .i64 B,.int .i64 J],.agg #[.slice θ L.length δ,.slice ι O.length η]] rfl qM ?_;(with_reducible refine(call_Check.calls k B J _ _ L _ _ O ap _ ?side1 ?side2 ?side3 ?side4 A4.out).mono ?_);(case side1=>exact(Kd.Qp τ.out HB.out));(case side2=>exact a1.out);(case side3=>exact(Kd.Qp φ.out HB.out));(case side4=>exact a7.out);rintro e cr ⟨rfl,hb⟩;refine⟨_,rfl, ?_⟩;replace X:=sBk X hb;replace Z:=sBk Z hb;replace γ:=sBk γ hb;replace HB:=sHb hb;(try clear hb);(try clear a4);(try clear hk);(try clear hi);obtain⟨iu,jb,jc,jd⟩:=qD2 X.out)|((with_reducible refine Qd (f:=44) rfl ?_);refine Qn (some 25) rfl rfl Try.func44 kr rfl #[.int .i64 a2,.int .i64 0,.int .i64 (wrap64 (J-1))] rfl qM ?_;(with_reducible refine(call_within.calls a2 0 (wrap64 (J-1)) false _ A6.out).mono ?_);rintro e w' ⟨rfl,⟨nd,rfl⟩⟩;refine⟨_,rfl, ?_⟩;(try(rw[Yl cr];generalize hq_:World.drewN cr _=cr;have ρ:Aside0 (cr.heap[ao]?=some (.cells #[.int .i64 B,.int .i64 J] 59 (0,0))):=⟨by rw[← hq_];exact X.out⟩;have χ :Aside0 (cr.heap[cm]?=some (.cells #[.slice θ L.length δ,.slice ι O.length η] 50 (0,0))):=⟨by rw[← hq_];exact Z.out⟩;have a3:Aside0 (cr.heap[aw]?=some (.cells #[.slice none 0 0,.slice none 0 0,.slice none 0 0] 34 (0,0))):=⟨by rw[← hq_];exact γ.out⟩;have a8:Aside0 (Below w.heap.size w cr):=⟨by rw[← hq_];exact HB.out⟩;clear X Z γ HB hq_;have X:=ρ;have Z:= χ;have γ:=a3;have HB:=a8;clear ρ χ a3 a8));(try(have jv:cr.cell? ⟨ao,0,none⟩=some (.int .i64 B):=(Qa X.out 0).trans rfl));(try(have jx:cr.cell? ⟨ao,1,none⟩=some (.int .i64 J):=(Qa X.out 1).trans rfl));(try(have jy:=Qr X.out 0));(try(have jz:=Qr X.out 1));obtain⟨je,jh,ji,jl,jo,jp⟩:=qD3 γ.out))
   refine bodyPost_ret (Z5 rfl _ _ aw 34 #[.slice none 0 0,.slice none 0 0,.slice none 0 0] (0,0) _ rfl (by refine Qm (cs:=#[.slice none 0 0,.slice none 0 0,.slice none 0 0]) ?_ 2 _ rfl;refine Qm (cs:=#[.slice none 0 0,.slice none 0 0,.slice none 0 0]) ?_ 1 _ rfl;refine Qm (cs:=#[.slice none 0 0,.slice none 0 0,.slice none 0 0]) ?_ 0 _ rfl;exact γ.out) Try.underlying34 rfl kr) rfl ?_
   exact⟨_,_,_,by first|rfl|(simp[Qh,Qg] <;> rfl)|(simp[*,Qh,Qg] <;> rfl),by first|exact Kd.Xw _ _ _ _ _|exact Kd.Yr _ _ _ _ _|exact Kd.Yn _ _ _ _ _|exact Kd.Yq _ _ _ _ _|exact Kd.Yo _ _ _ _ _,by first|exact Kd.Xw _ _ _ _ _|exact Kd.Yr _ _ _ _ _|exact Kd.Yn _ _ _ _ _|exact Kd.Yq _ _ _ _ _|exact Kd.Yo _ _ _ _ _,by first|exact Kd.Xw _ _ _ _ _|exact Kd.Yr _ _ _ _ _|exact Kd.Yn _ _ _ _ _|exact Kd.Yq _ _ _ _ _|exact Kd.Yo _ _ _ _ _,bel⟩
 ·rw[if_neg c5] at H
  have c5b0:(ap==0)=false:=beq_eq_false_iff_ne.mpr c5
  have c5b1:(ap != 0)=true:=bne_iff_ne.mpr c5
  simp only[Option.some.injEq,Prod.mk.injEq] at H
  obtain⟨rfl,rfl,rfl,rfl⟩:=H
  go_enter Try.func24,Try.ntmps24
  go_wp2_with (first|((with_reducible refine Qe (N:=3) rfl ?_);refine qE 3 #[.int .i64 B,.int .i64 J] 59 ?_;intro ao hg o8 hbox hb;have X:=Aside0.mk hbox;have ea:=sGe hg;have eb:=sGe hg;replace HB:=sHb hb;clear hb hbox hg)|((with_reducible refine Qe (N:=4) rfl ?_);refine qE 4 #[.slice θ L.length δ,.slice ι O.length η] 50 ?_;intro cm hg ny hbox hb;have Z:=Aside0.mk hbox;have ec:=sGe hg;have ee:=sGe hg;have ax:=sNl X hg;have b0:=sNg X hg;replace X:=sBk X hb;replace HB:=sHb hb;clear hb hbox hg)|((with_reducible refine Qe (N:=6) rfl ?_);refine qE 6 #[.slice none 0 0,.slice none 0 0,.slice none 0 0] 34 ?_;intro aw hg nz hbox hb;have γ:=Aside0.mk hbox;have ef:=sGe hg;have eg:=sGe hg;have b5:=sNl X hg;have b6:=sNg X hg;have ah:=sNl Z hg;have ak:=sNg Z hg;replace X:=sBk X hb;replace Z:=sBk Z hb;replace HB:=sHb hb;clear hb hbox hg;have lu:=ax.out;have lv:=b0.out;have lw:=b5.out;have m0:=b6.out;obtain⟨k0,k4,k5,k6⟩:=qD2 X.out;have m1:=ah.out;have m2:=ak.out;obtain⟨jq,js,jw,kf⟩:=qD2 Z.out)|((with_reducible refine Qd (f:=40) rfl ?_);refine Qn (some 16) rfl rfl Try.func40 kr rfl #[.agg #[.int .i64 B,.int .i64 J],.agg #[.slice θ L.length δ,.slice ι O.length η]] rfl qM ?_;(with_reducible refine(call_Check.calls k B J _ _ L _ _ O ap _ ?side1 ?side2 ?side3 ?side4 A4.out).mono ?_);(case side1=>exact(Kd.Qp τ.out HB.out));(case side2=>exact a1.out);(case side3=>exact(Kd.Qp φ.out HB.out));(case side4=>exact a7.out);rintro e o0 ⟨rfl,hb⟩;refine⟨_,rfl, ?_⟩;replace X:=sBk X hb;replace Z:=sBk Z hb;replace γ:=sBk γ hb;replace HB:=sHb hb;(try clear hb);(try clear a4);(try clear hk);(try clear hi);obtain⟨k7,ka,kg,kb,kc,kk⟩:=qD3 γ.out))
  refine bodyPost_ret (Z5 rfl _ _ aw 34 #[.slice none 0 0,.slice none 0 0,.slice none 0 0] (0,0) _ rfl (by refine Qm (cs:=#[.slice none 0 0,.slice none 0 0,.slice none 0 0]) ?_ 2 _ rfl;refine Qm (cs:=#[.slice none 0 0,.slice none 0 0,.slice none 0 0]) ?_ 1 _ rfl;refine Qm (cs:=#[.slice none 0 0,.slice none 0 0,.slice none 0 0]) ?_ 0 _ rfl;exact γ.out) Try.underlying34 rfl kr) rfl ?_
  exact⟨_,_,_,by first|rfl|(simp[Qh,Qg] <;> rfl)|(simp[*,Qh,Qg] <;> rfl),by first|exact Kd.Xw _ _ _ _ _|exact Kd.Yr _ _ _ _ _|exact Kd.Yn _ _ _ _ _|exact Kd.Yq _ _ _ _ _|exact Kd.Yo _ _ _ _ _,by first|exact Kd.Xw _ _ _ _ _|exact Kd.Yr _ _ _ _ _|exact Kd.Yn _ _ _ _ _|exact Kd.Yq _ _ _ _ _|exact Kd.Yo _ _ _ _ _,by first|exact Kd.Xw _ _ _ _ _|exact Kd.Yr _ _ _ _ _|exact Kd.Yn _ _ _ _ _|exact Kd.Yq _ _ _ _ _|exact Kd.Yo _ _ _ _ _,bel⟩
def group_pick_1.f (k:Nat) (B:Int) (O:Int) (X:Int) (δ :Int) (κ :Int) (ι :Int) (μ :Int) (ν :Int) (ξ :Int) (ψ :Int) (ω :Int) (l2:List (S31)) (φ :List (S36)) (τ :List (S86)) (a9:Int) (aa:Int) (ab:Int):Option (Int):=(group_house.f O X δ κ ι μ ν ξ ψ ω l2).bind fun df=>((call_View.f k df.1 df.2 φ τ B).bind fun bf=>(if 0≤B then (if B<(l2.length:Int) then ((group_cost.f k O X δ κ ι μ ν ξ ψ ω ((Qb l2 B).f0.f0) ((Qb l2 B).f0.f1) ((Qb l2 B).f0.f2) ((Qb l2 B).f0.f3) ((Qb l2 B).f0.f4.f0) ((Qb l2 B).f0.f4.f1) ((Qb l2 B).f0.f4.f2) ((Qb l2 B).f1) ((Qb l2 B).f2) ((Qb l2 B).f3) bf.1 bf.2.1 bf.2.2.1 a9 aa ab).bind fun bg=>(some bg)) else (none)) else (none)))
theorem group_pick_1.mono:∀ B O a2 a3 L a5 X a7 a8 a9 Y Z γ ε δ ζ η k,LeO (group_pick_1.f k B O a2 a3 L a5 X a7 a8 a9 Y Z γ ε δ ζ η) (group_pick_1.f (k+1) B O a2 a3 L a5 X a7 a8 a9 Y Z γ ε δ ζ η):=by
 intro B O a2 a3 L a5 X a7 a8 a9 Y Z γ ε δ ζ η k
 unfold group_pick_1.f
 repeat' first
   |(with_reducible exact call_View.mono _ _ _ _ _ _)
   |(with_reducible exact group_cost.mono _ _ _ _ _ _ _ _ _ _ _ _ _ _ _ _ _ _ _ _ _ _ _ _ _ _ _)
   |(with_reducible exact LeO.refl _)
   |(with_reducible exact LeO.none _)
   |(with_reducible refine LeO.ite ?_ ?_)
   |(with_reducible refine LeO.bind ?_ (fun _=>?_))
   |exact call_View.mono _ _ _ _ _ _
   |exact group_cost.mono _ _ _ _ _ _ _ _ _ _ _ _ _ _ _ _ _ _ _ _ _ _ _ _ _ _ _
   |exact LeO.none _
   |refine LeO.ite ?_ ?_
   |refine LeO.bind ?_ (fun _=>?_)
def group_pick_1.T1:Bool×List (List Nat×List Nat):=(true,[([],[]),([],[]),([0,1],[0,1]),([],[]),([],[]),([2,3,4,2],[2,3,4]),([5],[5]),([6],[6]),([6],[6]),([],[]),([9,7,5,0,1,2,3,4,5,6,7,9],[7,9]),([8,10,0,1,2,3,4,5,6,7,8,9,10],[8])])
def group_pick_1.B1:List Nat:=[0,0,3,0,0,31,63,127,127,0,767,2047]
theorem group_pick_1.Kv:rtab .any (opsOf Try.f58 1)=group_pick_1.T1:=by kernel_rfl
theorem group_pick_1.Jc:Zr group_pick_1.T1.2 group_pick_1.B1=true:=by kernel_rfl
def group_pick_1.T2:Bool×List (List Nat×List Nat):=(true,[([],[]),([],[]),([],[]),([1,2],[1,2]),([3],[3]),([],[]),([],[]),([0,4,5,6],[0,4,5,6]),([7,7,0,1,2,3,4,5,6,7],[7])])
def group_pick_1.B2:List Nat:=[0,0,0,6,14,0,0,127,255]
theorem group_pick_1.Es:rtab .any (opsOf Try.f58 2)=group_pick_1.T2:=by kernel_rfl
theorem group_pick_1.Mx:Zr group_pick_1.T2.2 group_pick_1.B2=true:=by kernel_rfl
set_option maxHeartbeats 8000000 in
set_option maxRecDepth 100000 in
theorem group_pick_1.calls (k:Nat) (B:Int) (O:Int) (X:Int) (δ :Int) (κ :Int) (ι :Int) (μ :Int) (ν :Int) (ξ :Int) (ψ :Int) (ω :Int) (A2:Option Addr) (c2:Nat) (l2:List (S31)) (a1:Option Addr) (a5:Nat) (φ :List (S36)) (a6:Option Addr) (a7:Nat) (τ :List (S86)) (a9:Int) (aa:Int) (ab:Int) (r:Int) (w:World) (ef:Kd.C k31 w A2 l2.length l2) (dk:l2.length≤c2) (dq:Kd.C k36 w a1 φ.length φ) (dr: φ.length≤a5) (dt:Kd.C k86 w a6 τ.length τ) (du: τ.length≤a7) (h:group_pick_1.f k B O X δ κ ι μ ν ξ ψ ω l2 φ τ a9 aa ab=some r) (γ:Nat) (b6:Nat) (av:Nat) (be:Nat) (dl:w.heap[γ]?=some (.cells #[.int .i64 O,.int .i64 X,.int .i64 δ,.int .i64 κ,.int .i64 ι,.int .i64 μ,.int .i64 ν,.int .i64 ξ,.int .i64 ψ,.int .i64 ω] 25 (0,0))) (dm:w.heap[b6]?=some (.cells #[.slice A2 l2.length c2] 46 (0,0))) (dn:w.heap[av]?=some (.cells #[.slice a1 φ.length a5,.slice a6 τ.length a7] 50 (0,0))) (dv:w.heap[be]?=some (.cells #[.int .i64 a9,.int .i64 aa,.int .i64 ab] 36 (0,0))):
  Calls Try.prog 58 #[.int .i64 B,.pointer (some ⟨γ,0,none⟩),.pointer (some ⟨b6,0,none⟩),.pointer (some ⟨av,0,none⟩),.pointer (some ⟨be,0,none⟩)] w fun e w'=>e = .returned (.int .i64 r)∧Below w.heap.size w w':=by
 have J:=Aside0.mk dl
 clear dl
 have ε :=Aside0.mk dm
 clear dm
 have Z:=Aside0.mk dn
 clear dn
 have ζ :=Aside0.mk dv
 clear dv
 have cx:=Try.underlying25
 have f8:=Try.underlying50
 have dh:=Try.underlying36
 have f7:=Try.underlying34
 have i4:=Try.underlying31
 have dy:=Aside0.mk ef
 have dp:=Aside0.mk dk
 clear ef dk
 have br:=Aside0.mk dq
 have cn:=Aside0.mk dr
 clear dq dr
 have ck:=Aside0.mk dt
 have co:=Aside0.mk du
 clear dt du
 have HB:=Aside0.mk (Below.refl w.heap.size w)
 have H:((group_house.f O X δ κ ι μ ν ξ ψ ω l2).bind fun df=>((call_View.f k df.1 df.2 φ τ B).bind fun bf=>(if 0≤B then (if B<(l2.length:Int) then ((group_cost.f k O X δ κ ι μ ν ξ ψ ω ((Qb l2 B).f0.f0) ((Qb l2 B).f0.f1) ((Qb l2 B).f0.f2) ((Qb l2 B).f0.f3) ((Qb l2 B).f0.f4.f0) ((Qb l2 B).f0.f4.f1) ((Qb l2 B).f0.f4.f2) ((Qb l2 B).f1) ((Qb l2 B).f2) ((Qb l2 B).f3) bf.1 bf.2.1 bf.2.2.1 a9 aa ab).bind fun bg=>(some bg)) else (none)) else (none))))=some r:=h
 clear h
 replace H:=Option.bind_eq_some_iff.mp H
 obtain⟨⟨bh,bi⟩,az,H⟩:=H
 replace H:((call_View.f k bh bi φ τ B).bind fun bf=>(if 0≤B then (if B<(l2.length:Int) then ((group_cost.f k O X δ κ ι μ ν ξ ψ ω ((Qb l2 B).f0.f0) ((Qb l2 B).f0.f1) ((Qb l2 B).f0.f2) ((Qb l2 B).f0.f3) ((Qb l2 B).f0.f4.f0) ((Qb l2 B).f0.f4.f1) ((Qb l2 B).f0.f4.f2) ((Qb l2 B).f1) ((Qb l2 B).f2) ((Qb l2 B).f3) bf.1 bf.2.1 bf.2.2.1 a9 aa ab).bind fun bg=>(some bg)) else (none)) else (none)))=some r:=H
 have A6:=Aside0.mk az
 clear az
 replace H:=Option.bind_eq_some_iff.mp H
 obtain⟨⟨ac,af,ag,di⟩,eg,H⟩:=H
 replace H:(if 0≤B then (if B<(l2.length:Int) then ((group_cost.f k O X δ κ ι μ ν ξ ψ ω ((Qb l2 B).f0.f0) ((Qb l2 B).f0.f1) ((Qb l2 B).f0.f2) ((Qb l2 B).f0.f3) ((Qb l2 B).f0.f4.f0) ((Qb l2 B).f0.f4.f1) ((Qb l2 B).f0.f4.f2) ((Qb l2 B).f1) ((Qb l2 B).f2) ((Qb l2 B).f3) ac af ag a9 aa ab).bind fun bg=>(some bg)) else (none)) else (none))=some r:=H
 have A7:=Aside0.mk eg
 clear eg
 by_cases c8:0≤B
 ·rw[if_pos c8] at H
  have c8b0:decide (0≤B)=true:=decide_eq_true c8
  clear c8
  by_cases c9:B<(l2.length:Int)
  ·rw[if_pos c9] at H
   have c9b0:decide (B<(l2.length:Int))=true:=decide_eq_true c9
   clear c9
   replace H:=Option.bind_eq_some_iff.mp H
   obtain⟨bg,cv,H⟩:=H
   replace H:(some bg)=some r:=H
   have de:=Aside0.mk cv
   clear cv
   obtain rfl:=Option.some.inj H
   go_enter Try.func58,Try.ntmps58
   try go_wp2
   replace J:=Aside0.mk (Qf J.out)
   replace ε :=Aside0.mk (Qf ε.out)
   replace Z:=Aside0.mk (Qf Z.out)
   replace ζ :=Aside0.mk (Qf ζ.out)
   replace HB:=Aside0.mk (Qi HB.out)
   refine Zl (n:=12) (S:=fun w'=>w'.cell? ⟨γ,0,none⟩=some (.int .i64 O)∧w'.cell? ⟨γ,1,none⟩=some (.int .i64 X)∧w'.cell? ⟨γ,2,none⟩=some (.int .i64 δ)∧w'.cell? ⟨γ,3,none⟩=some (.int .i64 κ)∧w'.cell? ⟨γ,4,none⟩=some (.int .i64 ι)∧w'.cell? ⟨γ,5,none⟩=some (.int .i64 μ)∧w'.cell? ⟨γ,6,none⟩=some (.int .i64 ν)∧w'.cell? ⟨γ,7,none⟩=some (.int .i64 ξ)∧w'.cell? ⟨γ,8,none⟩=some (.int .i64 ψ)∧w'.cell? ⟨γ,9,none⟩=some (.int .i64 ω)∧w'.cell? ⟨b6,0,none⟩=some (.slice A2 l2.length c2)∧w'.cell? ⟨av,0,none⟩=some (.slice a1 φ.length a5)∧w'.cell? ⟨av,1,none⟩=some (.slice a6 τ.length a7)) (ds:=[]) #[false,false,false,false,false,false,false,false,false,false,false,false] kr rfl rfl ⟨(Qa J.out 0).trans rfl,(Qa J.out 1).trans rfl,(Qa J.out 2).trans rfl,(Qa J.out 3).trans rfl,(Qa J.out 4).trans rfl,(Qa J.out 5).trans rfl,(Qa J.out 6).trans rfl,(Qa J.out 7).trans rfl,(Qa J.out 8).trans rfl,(Qa J.out 9).trans rfl,(Qa ε.out 0).trans rfl,(Qa Z.out 0).trans rfl,(Qa Z.out 1).trans rfl⟩ (fun hHeld=>?_);refine Q8 group_pick_1.Kv group_pick_1.Jc (fun HT_ HW_=>?_)
   generalize w.drew=g9 at J ε Z ζ HB hHeld ⊢
   refine qP 4 (some 14) (bN 12 16) HT_ ?_
   refine qT 0 (some 10) (bN 12 17) HT_ HW_ hHeld ?_
   refine qT 1 (some 11) (bN 12 19) HT_ HW_ hHeld ?_
   refine qT 3 (some 13) (bN 12 27) HT_ HW_ hHeld ?_
   refine Yw (σ:=Value×Value×Value×Nat) 2 (bN 12 1023) (fun s_=>[(12,.agg #[.int .i64 bh,.int .i64 bi]),(15,.tuple #[.agg #[s_.1,s_.2.1,s_.2.2.1],.int .i64 di]),(7,.pointer (some ⟨s_.2.2.2,0,none⟩)),(9,.tuple #[.agg #[s_.1,s_.2.1,s_.2.2.1],.int .i64 di]),(16,.agg #[s_.1,s_.2.1,s_.2.2.1]),(17,.int .i64 di)]) (fun s_ w'=>(w'.cell? ⟨γ,0,none⟩=some (.int .i64 O)∧w'.cell? ⟨γ,1,none⟩=some (.int .i64 X)∧w'.cell? ⟨γ,2,none⟩=some (.int .i64 δ)∧w'.cell? ⟨γ,3,none⟩=some (.int .i64 κ)∧w'.cell? ⟨γ,4,none⟩=some (.int .i64 ι)∧w'.cell? ⟨γ,5,none⟩=some (.int .i64 μ)∧w'.cell? ⟨γ,6,none⟩=some (.int .i64 ν)∧w'.cell? ⟨γ,7,none⟩=some (.int .i64 ξ)∧w'.cell? ⟨γ,8,none⟩=some (.int .i64 ψ)∧w'.cell? ⟨γ,9,none⟩=some (.int .i64 ω)∧w'.cell? ⟨b6,0,none⟩=some (.slice A2 l2.length c2)∧w'.cell? ⟨av,0,none⟩=some (.slice a1 φ.length a5)∧w'.cell? ⟨av,1,none⟩=some (.slice a6 τ.length a7))∧(Kd.R (Kd.int .i64) 3 w' w.heap.size (fun k_=>some k_≠(s_.2.1:Value).ownBlock∧some k_≠(s_.2.2.1:Value).ownBlock) s_.1 ac)∧(Kd.R (Kd.int .i64) 3 w' w.heap.size (fun k_=>some k_≠(s_.1:Value).ownBlock∧some k_≠(s_.2.2.1:Value).ownBlock) s_.2.1 af)∧(Kd.R (Kd.int .i64) 3 w' w.heap.size (fun k_=>some k_≠(s_.1:Value).ownBlock∧some k_≠(s_.2.1:Value).ownBlock) s_.2.2.1 ag)∧(w'.heap[γ]?=some (.cells #[.int .i64 O,.int .i64 X,.int .i64 δ,.int .i64 κ,.int .i64 ι,.int .i64 μ,.int .i64 ν,.int .i64 ξ,.int .i64 ψ,.int .i64 ω] 25 (0,0)))∧(w'.heap[b6]?=some (.cells #[.slice A2 l2.length c2] 46 (0,0)))∧(w'.heap[av]?=some (.cells #[.slice a1 φ.length a5,.slice a6 τ.length a7] 50 (0,0)))∧(w'.heap[be]?=some (.cells #[.int .i64 a9,.int .i64 aa,.int .i64 ab] 36 (0,0)))∧(w'.heap[s_.2.2.2]?=some (.cells #[.slice none 0 0,.slice none 0 0,.slice none 0 0] 34 (0,0)))∧(w.heap.size≤s_.2.2.2)∧(w.heap.size≤s_.2.2.2)∧(γ≠s_.2.2.2)∧(s_.2.2.2≠γ)∧(b6≠s_.2.2.2)∧(s_.2.2.2≠b6)∧(av≠s_.2.2.2)∧(s_.2.2.2≠av)∧(be≠s_.2.2.2)∧(s_.2.2.2≠be)∧(Below w.heap.size w w')) ?_ ?_
   rotate_left
   ·intro hCont
    refine V4 (i:=2) (j:=9) (Ni:=some 12) (Nj:=some 7) (bN 12 31) (bN 12 539) rfl rfl rfl rfl (Jf HT_.out kr) (by decide) (by decide) (fun K hK=>?_) (fun K hK=>?_)
    ·skip
     refine Zf Try.func37 kr rfl #[.agg #[.int .i64 O,.int .i64 X,.int .i64 δ,.int .i64 κ,.int .i64 ι,.int .i64 μ,.int .i64 ν,.int .i64 ξ,.int .i64 ψ,.int .i64 ω],.slice A2 l2.length c2] (by rfl) rfl rfl qM ?_
     with_reducible refine(group_house.calls O X δ κ ι μ ν ξ ψ ω _ _ l2 bh bi _ ?side1 ?side2 A6.out).mono ?_
     (case side1=>exact(Kd.Qp dy.out HB.out))
     (case side2=>exact dp.out)
     rintro e dj ⟨rfl,hb⟩
     refine⟨_,rfl, ?_⟩
     replace J:=sBk J hb
     replace ε :=sBk ε hb
     replace Z:=sBk Z hb
     replace ζ :=sBk ζ hb
     replace HB:=sHb hb
     (try clear hb)
     (try clear a4)
     (try clear hk)
     (try clear hi)
     refine hK.out _ _ ⟨qc J,qc J,qc J,qc J,qc J,qc J,qc J,qc J,qc J,qc J,qc ε,qc Z,qc Z⟩ (fun hHeld=>?_)
     clear hK K
     refine qN (some 12) ?_
     refine V4 (i:=5) (j:=9) (Ni:=some 15) (Nj:=some 7) (bN 12 63) (bN 12 543) rfl rfl rfl rfl (Jf HT_.out kr) (by decide) (by decide) (fun K hK=>?_) (fun K hK=>?_)
     ·skip
      refine Zf Try.func24 kr rfl #[.agg #[.int .i64 bh,.int .i64 bi],.agg #[.slice a1 φ.length a5,.slice a6 τ.length a7],.int .i64 B] (by rfl) rfl rfl qM ?_
      with_reducible refine(call_View.calls k bh bi _ _ φ _ _ τ B ac af ag di _ ?side1 ?side2 ?side3 ?side4 A7.out).mono ?_
      (case side1=>exact(Kd.Qp br.out HB.out))
      (case side2=>exact cn.out)
      (case side3=>exact(Kd.Qp ck.out HB.out))
      (case side4=>exact co.out)
      rintro e e6 ⟨cj,cp,cq,rfl,ai,b4,cu,hb⟩
      refine⟨_,rfl, ?_⟩
      have aj:=Aside0.mk (Kd.Zc ai (Qu HB.out))
      have ak:=Aside0.mk (Kd.Zc b4 (Qu HB.out))
      have al:=Aside0.mk (Kd.Zc cu (Qu HB.out))
      replace J:=sBk J hb
      replace ε :=sBk ε hb
      replace Z:=sBk Z hb
      replace ζ :=sBk ζ hb
      replace HB:=sHb hb
      (try clear hb)
      (try clear a4)
      (try clear hk)
      (try clear hi)
      (try clear ai)
      (try clear b4)
      (try clear cu)
      refine hK.out _ _ ⟨qc J,qc J,qc J,qc J,qc J,qc J,qc J,qc J,qc J,qc J,qc ε,qc Z,qc Z⟩ (fun hHeld=>?_)
      clear hK K
      refine qN (some 15) ?_
      refine qP 6 (some 9) (bN 12 127) HT_ ?_
      refine qP 7 (some 16) (bN 12 255) HT_ ?_
      refine qP 8 (some 17) (bN 12 511) HT_ ?_
      refine Zg (i:=9) (N:=some 7) (bN 12 1023) rfl rfl (Q4 HT_.out kr) (by decide) (fun K hK=>?_)
      refine Xv ?hg (N:=7) ?hd (cs:=#[.slice none 0 0,.slice none 0 0,.slice none 0 0]) (t:=34) ?hr ?_;(case hd=>rfl);(case hg=>rfl);(case hr=>go_simp <;> rfl)
      intro L hg ha hbox hb
      have η :=Aside0.mk hbox
      have d0:=sGe hg
      have d1:=sGe hg
      have Y:=sNl J hg
      have am:=sNg J hg
      have a2:=sNl ε hg
      have an:=sNg ε hg
      have θ :=sNl Z hg
      have ao:=sNg Z hg
      have ap:=sNl ζ hg
      have au:=sNg ζ hg
      replace aj:=sRb aj hb
      replace ak:=sRb ak hb
      replace al:=sRb al hb
      replace J:=sBk J hb
      replace ε :=sBk ε hb
      replace Z:=sBk Z hb
      replace ζ :=sBk ζ hb
      replace HB:=sHb hb
      clear hb hbox hg
      refine hK.out _ _ ⟨qc J,qc J,qc J,qc J,qc J,qc J,qc J,qc J,qc J,qc J,qc ε,qc Z,qc Z⟩ (fun hHeld=>?_)
      clear hK K
      refine qN (some 7) ?_
      exact Zs (by simp only[Q6,Act.put,qS]) (hCont (cj,cp,cq,L) _ ⟨hHeld,aj.out,ak.out,al.out,J.out,ε.out,Z.out,ζ.out,η.out,d0.out,d1.out,Y.out,am.out,a2.out,an.out,θ.out,ao.out,ap.out,au.out,HB.out⟩)
     ·skip
      refine Xv ?hg (N:=7) ?hd (cs:=#[.slice none 0 0,.slice none 0 0,.slice none 0 0]) (t:=34) ?hr ?_;(case hd=>rfl);(case hg=>rfl);(case hr=>go_simp <;> rfl)
      intro L hg e6 hbox hb
      have η :=Aside0.mk hbox
      have d0:=sGe hg
      have d1:=sGe hg
      have Y:=sNl J hg
      have am:=sNg J hg
      have a2:=sNl ε hg
      have an:=sNg ε hg
      have θ :=sNl Z hg
      have ao:=sNg Z hg
      have ap:=sNl ζ hg
      have au:=sNg ζ hg
      replace J:=sBk J hb
      replace ε :=sBk ε hb
      replace Z:=sBk Z hb
      replace ζ :=sBk ζ hb
      replace HB:=sHb hb
      clear hb hbox hg
      refine hK.out _ _ ⟨qc J,qc J,qc J,qc J,qc J,qc J,qc J,qc J,qc J,qc J,qc ε,qc Z,qc Z⟩ (fun hHeld=>?_)
      clear hK K
      refine qN (some 7) ?_
      refine Zg (i:=5) (N:=some 15) (bN 12 575) rfl rfl (Q4 HT_.out kr) (by decide) (fun K hK=>?_)
      refine Zf Try.func24 kr rfl #[.agg #[.int .i64 bh,.int .i64 bi],.agg #[.slice a1 φ.length a5,.slice a6 τ.length a7],.int .i64 B] (by rfl) rfl rfl qM ?_
      with_reducible refine(call_View.calls k bh bi _ _ φ _ _ τ B ac af ag di _ ?side1 ?side2 ?side3 ?side4 A7.out).mono ?_
      (case side1=>exact(Kd.Qp br.out HB.out))
      (case side2=>exact cn.out)
      (case side3=>exact(Kd.Qp ck.out HB.out))
      (case side4=>exact co.out)
      rintro e ha ⟨cj,cp,cq,rfl,ai,b4,cu,hb⟩
      refine⟨_,rfl, ?_⟩
      have aj:=Aside0.mk (Kd.Zc ai (Qu HB.out))
      have ak:=Aside0.mk (Kd.Zc b4 (Qu HB.out))
      have al:=Aside0.mk (Kd.Zc cu (Qu HB.out))
      replace J:=sBk J hb
      replace ε :=sBk ε hb
      replace Z:=sBk Z hb
      replace ζ :=sBk ζ hb
      replace η :=sBk η hb
      replace HB:=sHb hb
      (try clear hb)
      (try clear a4)
      (try clear hk)
      (try clear hi)
      (try clear ai)
      (try clear b4)
      (try clear cu)
      refine hK.out _ _ ⟨qc J,qc J,qc J,qc J,qc J,qc J,qc J,qc J,qc J,qc J,qc ε,qc Z,qc Z⟩ (fun hHeld=>?_)
      clear hK K
      refine qN (some 15) ?_
      refine qP 6 (some 9) (bN 12 639) HT_ ?_
      refine qP 7 (some 16) (bN 12 767) HT_ ?_
      refine qP 8 (some 17) (bN 12 1023) HT_ ?_
      exact Zs (by simp only[Q6,Act.put,qS]) (hCont (cj,cp,cq,L) _ ⟨hHeld,aj.out,ak.out,al.out,J.out,ε.out,Z.out,ζ.out,η.out,d0.out,d1.out,Y.out,am.out,a2.out,an.out,θ.out,ao.out,ap.out,au.out,HB.out⟩)
    ·skip
     refine Xv ?hg (N:=7) ?hd (cs:=#[.slice none 0 0,.slice none 0 0,.slice none 0 0]) (t:=34) ?hr ?_;(case hd=>rfl);(case hg=>rfl);(case hr=>go_simp <;> rfl)
     intro L hg dj hbox hb
     have η :=Aside0.mk hbox
     have d0:=sGe hg
     have d1:=sGe hg
     have Y:=sNl J hg
     have am:=sNg J hg
     have a2:=sNl ε hg
     have an:=sNg ε hg
     have θ :=sNl Z hg
     have ao:=sNg Z hg
     have ap:=sNl ζ hg
     have au:=sNg ζ hg
     replace J:=sBk J hb
     replace ε :=sBk ε hb
     replace Z:=sBk Z hb
     replace ζ :=sBk ζ hb
     replace HB:=sHb hb
     clear hb hbox hg
     refine hK.out _ _ ⟨qc J,qc J,qc J,qc J,qc J,qc J,qc J,qc J,qc J,qc J,qc ε,qc Z,qc Z⟩ (fun hHeld=>?_)
     clear hK K
     refine qN (some 7) ?_
     refine Zg (i:=2) (N:=some 12) (bN 12 543) rfl rfl (Q4 HT_.out kr) (by decide) (fun K hK=>?_)
     refine Zf Try.func37 kr rfl #[.agg #[.int .i64 O,.int .i64 X,.int .i64 δ,.int .i64 κ,.int .i64 ι,.int .i64 μ,.int .i64 ν,.int .i64 ξ,.int .i64 ψ,.int .i64 ω],.slice A2 l2.length c2] (by rfl) rfl rfl qM ?_
     with_reducible refine(group_house.calls O X δ κ ι μ ν ξ ψ ω _ _ l2 bh bi _ ?side1 ?side2 A6.out).mono ?_
     (case side1=>exact(Kd.Qp dy.out HB.out))
     (case side2=>exact dp.out)
     rintro e e6 ⟨rfl,hb⟩
     refine⟨_,rfl, ?_⟩
     replace J:=sBk J hb
     replace ε :=sBk ε hb
     replace Z:=sBk Z hb
     replace ζ :=sBk ζ hb
     replace η :=sBk η hb
     replace HB:=sHb hb
     (try clear hb)
     (try clear a4)
     (try clear hk)
     (try clear hi)
     refine hK.out _ _ ⟨qc J,qc J,qc J,qc J,qc J,qc J,qc J,qc J,qc J,qc J,qc ε,qc Z,qc Z⟩ (fun hHeld=>?_)
     clear hK K
     refine qN (some 12) ?_
     refine Zg (i:=5) (N:=some 15) (bN 12 575) rfl rfl (Q4 HT_.out kr) (by decide) (fun K hK=>?_)
     refine Zf Try.func24 kr rfl #[.agg #[.int .i64 bh,.int .i64 bi],.agg #[.slice a1 φ.length a5,.slice a6 τ.length a7],.int .i64 B] (by rfl) rfl rfl qM ?_
     with_reducible refine(call_View.calls k bh bi _ _ φ _ _ τ B ac af ag di _ ?side1 ?side2 ?side3 ?side4 A7.out).mono ?_
     (case side1=>exact(Kd.Qp br.out HB.out))
     (case side2=>exact cn.out)
     (case side3=>exact(Kd.Qp ck.out HB.out))
     (case side4=>exact co.out)
     rintro e ha ⟨cj,cp,cq,rfl,ai,b4,cu,hb⟩
     refine⟨_,rfl, ?_⟩
     have aj:=Aside0.mk (Kd.Zc ai (Qu HB.out))
     have ak:=Aside0.mk (Kd.Zc b4 (Qu HB.out))
     have al:=Aside0.mk (Kd.Zc cu (Qu HB.out))
     replace J:=sBk J hb
     replace ε :=sBk ε hb
     replace Z:=sBk Z hb
     replace ζ :=sBk ζ hb
     replace η :=sBk η hb
     replace HB:=sHb hb
     (try clear hb)
     (try clear a4)
     (try clear hk)
     (try clear hi)
     (try clear ai)
     (try clear b4)
     (try clear cu)
     refine hK.out _ _ ⟨qc J,qc J,qc J,qc J,qc J,qc J,qc J,qc J,qc J,qc J,qc ε,qc Z,qc Z⟩ (fun hHeld=>?_)
     clear hK K
     refine qN (some 15) ?_
     refine qP 6 (some 9) (bN 12 639) HT_ ?_
     refine qP 7 (some 16) (bN 12 767) HT_ ?_
     refine qP 8 (some 17) (bN 12 1023) HT_ ?_
     exact Zs (by simp only[Q6,Act.put,qS]) (hCont (cj,cp,cq,L) _ ⟨hHeld,aj.out,ak.out,al.out,J.out,ε.out,Z.out,ζ.out,η.out,d0.out,d1.out,Y.out,am.out,a2.out,an.out,θ.out,ao.out,ap.out,au.out,HB.out⟩)
   rintro⟨cj,cp,cq,L⟩ ay ⟨hS_,b7,b8,b9,ba,bb,bv,cw,cy,cz,d8,cd,ce,cf,cr,eb,dz,e0,e3,e4⟩
   have ρ:Aside0 (Kd.R (Kd.int .i64) 3 ay w.heap.size (fun k_=>some k_≠(cp:Value).ownBlock∧some k_≠(cq:Value).ownBlock) cj ac):=⟨b7⟩
   have χ :Aside0 (Kd.R (Kd.int .i64) 3 ay w.heap.size (fun k_=>some k_≠(cj:Value).ownBlock∧some k_≠(cq:Value).ownBlock) cp af):=⟨b8⟩
   have a3:Aside0 (Kd.R (Kd.int .i64) 3 ay w.heap.size (fun k_=>some k_≠(cj:Value).ownBlock∧some k_≠(cp:Value).ownBlock) cq ag):=⟨b9⟩
   have a8:Aside0 (ay.heap[γ]?=some (.cells #[.int .i64 O,.int .i64 X,.int .i64 δ,.int .i64 κ,.int .i64 ι,.int .i64 μ,.int .i64 ν,.int .i64 ξ,.int .i64 ψ,.int .i64 ω] 25 (0,0))):=⟨ba⟩
   have ah:Aside0 (ay.heap[b6]?=some (.cells #[.slice A2 l2.length c2] 46 (0,0))):=⟨bb⟩
   have ar:Aside0 (ay.heap[av]?=some (.cells #[.slice a1 φ.length a5,.slice a6 τ.length a7] 50 (0,0))):=⟨bv⟩
   have b2:Aside0 (ay.heap[be]?=some (.cells #[.int .i64 a9,.int .i64 aa,.int .i64 ab] 36 (0,0))):=⟨cw⟩
   have bl:Aside0 (ay.heap[L]?=some (.cells #[.slice none 0 0,.slice none 0 0,.slice none 0 0] 34 (0,0))):=⟨cy⟩
   have cm:Aside0 (w.heap.size≤L):=⟨cz⟩
   have d9:Aside0 (w.heap.size≤L):=⟨d8⟩
   have cg:Aside0 (γ≠L):=⟨cd⟩
   have ch:Aside0 (L≠γ):=⟨ce⟩
   have ci:Aside0 (b6≠L):=⟨cf⟩
   have ct:Aside0 (L≠b6):=⟨cr⟩
   have ec:Aside0 (av≠L):=⟨eb⟩
   have e5:Aside0 (L≠av):=⟨dz⟩
   have e7:Aside0 (be≠L):=⟨e0⟩
   have e8:Aside0 (L≠be):=⟨e3⟩
   have e9:Aside0 (Below w.heap.size w ay):=⟨e4⟩
   clear J
   clear ε
   clear Z
   clear ζ
   clear HB
   clear b7 b8 b9 ba bb bv cw cy cz d8 cd ce cf cr eb dz e0 e3 e4
   have aj:=ρ
   have ak:= χ
   have al:=a3
   have J:=a8
   have ε :=ah
   have Z:=ar
   have ζ :=b2
   have η :=bl
   have d0:=cm
   have d1:=d9
   have Y:=cg
   have am:=ch
   have a2:=ci
   have an:=ct
   have θ :=ec
   have ao:=e5
   have ap:=e7
   have au:=e8
   have HB:=e9
   clear ρ χ a3 a8 ah ar b2 bl cm d9 cg ch ci ct ec e5 e7 e8 e9
   have hHeld:ay.cell? ⟨γ,0,none⟩=some (.int .i64 O)∧ay.cell? ⟨γ,1,none⟩=some (.int .i64 X)∧ay.cell? ⟨γ,2,none⟩=some (.int .i64 δ)∧ay.cell? ⟨γ,3,none⟩=some (.int .i64 κ)∧ay.cell? ⟨γ,4,none⟩=some (.int .i64 ι)∧ay.cell? ⟨γ,5,none⟩=some (.int .i64 μ)∧ay.cell? ⟨γ,6,none⟩=some (.int .i64 ν)∧ay.cell? ⟨γ,7,none⟩=some (.int .i64 ξ)∧ay.cell? ⟨γ,8,none⟩=some (.int .i64 ψ)∧ay.cell? ⟨γ,9,none⟩=some (.int .i64 ω)∧ay.cell? ⟨b6,0,none⟩=some (.slice A2 l2.length c2)∧ay.cell? ⟨av,0,none⟩=some (.slice a1 φ.length a5)∧ay.cell? ⟨av,1,none⟩=some (.slice a6 τ.length a7):=hS_
   obtain⟨b0,b1,ea⟩:=Kd.Q9 aj.out
   (first|subst ea|(injection ea with aw bm ax;have bn:=aw.symm;have bo:=ax.symm;clear aw bm ax;subst bn;subst bo))
   obtain⟨b3,b5,ed⟩:=Kd.Q9 ak.out
   (first|subst ed|(injection ed with aw bm ax;have bn:=aw.symm;have bo:=ax.symm;clear aw bm ax;subst bn;subst bo))
   obtain⟨bc,bd,ee⟩:=Kd.Q9 al.out
   (first|subst ee|(injection ee with aw bm ax;have bn:=aw.symm;have bo:=ax.symm;clear aw bm ax;subst bn;subst bo))
   refine Zs (a':=?_) ?_ ?_
   rotate_left
   ·simp only[Q6,Act.put,qS]
    rfl
   refine Zg (i:=10) (N:=none) (bN 12 2047) rfl rfl (Q4 HT_.out kr) (by decide) (fun K hK=>?_)
   have fp:ay.cell? ⟨L,0,none⟩=some (.slice none 0 0):=(Qa η.out 0).trans rfl
   have fm:=Qr η.out 0
   have ej:=Y.out
   have ek:=a2.out
   have el:= θ.out
   have em:=ap.out
   have en:=am.out
   have eo:=an.out
   have ep:=ao.out
   have er:=au.out
   have fq:ay.cell? ⟨L,1,none⟩=some (.slice none 0 0):=(Qa η.out 1).trans rfl
   have fn:=Qr η.out 1
   have et:=Y.out
   have eu:=a2.out
   have ev:= θ.out
   have ew:=ap.out
   have ez:=am.out
   have fa:=an.out
   have fb:=ao.out
   have fc:=au.out
   have fr:ay.cell? ⟨L,2,none⟩=some (.slice none 0 0):=(Qa η.out 2).trans rfl
   have fo:=Qr η.out 2
   have fe:=Y.out
   have ff:=a2.out
   have fg:= θ.out
   have fh:=ap.out
   have fi:=am.out
   have fj:=an.out
   have fk:=ao.out
   have fl:=au.out
   refine V7 (w1:=?_) (by rfl) rfl ?_ ?_
   rotate_left
   ·go_simp
    rfl
   refine hK.out _ _ ⟨((cell_far (p:=⟨L,_,none⟩) Y.out _).trans (((cell_far (p:=⟨L,_,none⟩) Y.out _).trans (((cell_far (p:=⟨L,_,none⟩) Y.out _).trans (hHeld.1)))))),((cell_far (p:=⟨L,_,none⟩) Y.out _).trans (((cell_far (p:=⟨L,_,none⟩) Y.out _).trans (((cell_far (p:=⟨L,_,none⟩) Y.out _).trans (hHeld.2.1)))))),((cell_far (p:=⟨L,_,none⟩) Y.out _).trans (((cell_far (p:=⟨L,_,none⟩) Y.out _).trans (((cell_far (p:=⟨L,_,none⟩) Y.out _).trans (hHeld.2.2.1)))))),((cell_far (p:=⟨L,_,none⟩) Y.out _).trans (((cell_far (p:=⟨L,_,none⟩) Y.out _).trans (((cell_far (p:=⟨L,_,none⟩) Y.out _).trans (hHeld.2.2.2.1)))))),((cell_far (p:=⟨L,_,none⟩) Y.out _).trans (((cell_far (p:=⟨L,_,none⟩) Y.out _).trans (((cell_far (p:=⟨L,_,none⟩) Y.out _).trans (hHeld.2.2.2.2.1)))))),((cell_far (p:=⟨L,_,none⟩) Y.out _).trans (((cell_far (p:=⟨L,_,none⟩) Y.out _).trans (((cell_far (p:=⟨L,_,none⟩) Y.out _).trans (hHeld.2.2.2.2.2.1)))))),((cell_far (p:=⟨L,_,none⟩) Y.out _).trans (((cell_far (p:=⟨L,_,none⟩) Y.out _).trans (((cell_far (p:=⟨L,_,none⟩) Y.out _).trans (hHeld.2.2.2.2.2.2.1)))))),((cell_far (p:=⟨L,_,none⟩) Y.out _).trans (((cell_far (p:=⟨L,_,none⟩) Y.out _).trans (((cell_far (p:=⟨L,_,none⟩) Y.out _).trans (hHeld.2.2.2.2.2.2.2.1)))))),((cell_far (p:=⟨L,_,none⟩) Y.out _).trans (((cell_far (p:=⟨L,_,none⟩) Y.out _).trans (((cell_far (p:=⟨L,_,none⟩) Y.out _).trans (hHeld.2.2.2.2.2.2.2.2.1)))))),((cell_far (p:=⟨L,_,none⟩) Y.out _).trans (((cell_far (p:=⟨L,_,none⟩) Y.out _).trans (((cell_far (p:=⟨L,_,none⟩) Y.out _).trans (hHeld.2.2.2.2.2.2.2.2.2.1)))))),((cell_far (p:=⟨L,_,none⟩) a2.out _).trans (((cell_far (p:=⟨L,_,none⟩) a2.out _).trans (((cell_far (p:=⟨L,_,none⟩) a2.out _).trans (hHeld.2.2.2.2.2.2.2.2.2.2.1)))))),((cell_far (p:=⟨L,_,none⟩) θ.out _).trans (((cell_far (p:=⟨L,_,none⟩) θ.out _).trans (((cell_far (p:=⟨L,_,none⟩) θ.out _).trans (hHeld.2.2.2.2.2.2.2.2.2.2.2.1)))))),((cell_far (p:=⟨L,_,none⟩) θ.out _).trans (((cell_far (p:=⟨L,_,none⟩) θ.out _).trans (((cell_far (p:=⟨L,_,none⟩) θ.out _).trans (hHeld.2.2.2.2.2.2.2.2.2.2.2.2))))))⟩ (fun hHeld=>?_)
   clear hK K
   refine qP 11 (some 8) (bN 12 4095) HT_ ?_
   refine Z2 (Zh HT_.out kr) ?_
   try go_wp2
   have ρ:Aside0 (Kd.R (Kd.int .i64) 3 (((ay.setCell ⟨L,0,none⟩ (.slice b0 ac.length b1)).setCell ⟨L,1,none⟩ (.slice b3 af.length b5)).setCell ⟨L,2,none⟩ (.slice bc ag.length bd)) w.heap.size (fun k_=>some k_≠(.slice b3 af.length b5:Value).ownBlock∧some k_≠(.slice bc ag.length bd:Value).ownBlock) (.slice b0 ac.length b1) ac):=⟨by(with_reducible repeat first|apply Kd.Qx|apply Kd.Qw|apply Kd.Q2);exact Kd.Q0 (Kd.Qv (Kd.Qv (Kd.Qv (Kd.Q7 aj.out η.out (by decide)) (fun _ hk=>hk.2) _) (fun _ hk=>hk.2) _) (fun _ hk=>hk.2) _) (fun _ hk=>⟨hk.1.1,hk.1.2⟩)⟩
   have χ :Aside0 (Kd.R (Kd.int .i64) 3 (((ay.setCell ⟨L,0,none⟩ (.slice b0 ac.length b1)).setCell ⟨L,1,none⟩ (.slice b3 af.length b5)).setCell ⟨L,2,none⟩ (.slice bc ag.length bd)) w.heap.size (fun k_=>some k_≠(.slice b0 ac.length b1:Value).ownBlock∧some k_≠(.slice bc ag.length bd:Value).ownBlock) (.slice b3 af.length b5) af):=⟨by(with_reducible repeat first|apply Kd.Qx|apply Kd.Qw|apply Kd.Q2);exact Kd.Q0 (Kd.Qv (Kd.Qv (Kd.Qv (Kd.Q7 ak.out η.out (by decide)) (fun _ hk=>hk.2) _) (fun _ hk=>hk.2) _) (fun _ hk=>hk.2) _) (fun _ hk=>⟨hk.1.1,hk.1.2⟩)⟩
   have a3:Aside0 (Kd.R (Kd.int .i64) 3 (((ay.setCell ⟨L,0,none⟩ (.slice b0 ac.length b1)).setCell ⟨L,1,none⟩ (.slice b3 af.length b5)).setCell ⟨L,2,none⟩ (.slice bc ag.length bd)) w.heap.size (fun k_=>some k_≠(.slice b0 ac.length b1:Value).ownBlock∧some k_≠(.slice b3 af.length b5:Value).ownBlock) (.slice bc ag.length bd) ag):=⟨by(with_reducible repeat first|apply Kd.Qx|apply Kd.Qw|apply Kd.Q2);exact Kd.Q0 (Kd.Qv (Kd.Qv (Kd.Qv (Kd.Q7 al.out η.out (by decide)) (fun _ hk=>hk.2) _) (fun _ hk=>hk.2) _) (fun _ hk=>hk.2) _) (fun _ hk=>⟨hk.1.1,hk.1.2⟩)⟩
   have a8:Aside0 ((((ay.setCell ⟨L,0,none⟩ (.slice b0 ac.length b1)).setCell ⟨L,1,none⟩ (.slice b3 af.length b5)).setCell ⟨L,2,none⟩ (.slice bc ag.length bd)).heap[γ]?=some (.cells #[.int .i64 O,.int .i64 X,.int .i64 δ,.int .i64 κ,.int .i64 ι,.int .i64 μ,.int .i64 ν,.int .i64 ξ,.int .i64 ψ,.int .i64 ω] 25 (0,0))):=⟨bka J⟩
   have ah:Aside0 ((((ay.setCell ⟨L,0,none⟩ (.slice b0 ac.length b1)).setCell ⟨L,1,none⟩ (.slice b3 af.length b5)).setCell ⟨L,2,none⟩ (.slice bc ag.length bd)).heap[b6]?=some (.cells #[.slice A2 l2.length c2] 46 (0,0))):=⟨bka ε⟩
   have ar:Aside0 ((((ay.setCell ⟨L,0,none⟩ (.slice b0 ac.length b1)).setCell ⟨L,1,none⟩ (.slice b3 af.length b5)).setCell ⟨L,2,none⟩ (.slice bc ag.length bd)).heap[av]?=some (.cells #[.slice a1 φ.length a5,.slice a6 τ.length a7] 50 (0,0))):=⟨bka Z⟩
   have b2:Aside0 ((((ay.setCell ⟨L,0,none⟩ (.slice b0 ac.length b1)).setCell ⟨L,1,none⟩ (.slice b3 af.length b5)).setCell ⟨L,2,none⟩ (.slice bc ag.length bd)).heap[be]?=some (.cells #[.int .i64 a9,.int .i64 aa,.int .i64 ab] 36 (0,0))):=⟨bka ζ⟩
   have bl:Aside0 ((((ay.setCell ⟨L,0,none⟩ (.slice b0 ac.length b1)).setCell ⟨L,1,none⟩ (.slice b3 af.length b5)).setCell ⟨L,2,none⟩ (.slice bc ag.length bd)).heap[L]?=some (.cells #[.slice b0 ac.length b1,.slice b3 af.length b5,.slice bc ag.length bd] 34 (0,0))):=⟨by refine Qm (cs:=#[.slice b0 ac.length b1,.slice b3 af.length b5,.slice none 0 0]) ?_ 2 _ rfl;refine Qm (cs:=#[.slice b0 ac.length b1,.slice none 0 0,.slice none 0 0]) ?_ 1 _ rfl;refine Qm (cs:=#[.slice none 0 0,.slice none 0 0,.slice none 0 0]) ?_ 0 _ rfl;exact η.out⟩
   have cm:Aside0 (Below w.heap.size w (((ay.setCell ⟨L,0,none⟩ (.slice b0 ac.length b1)).setCell ⟨L,1,none⟩ (.slice b3 af.length b5)).setCell ⟨L,2,none⟩ (.slice bc ag.length bd))):=⟨bel⟩
   (try clear aj)
   (try clear ak)
   (try clear al)
   (try clear J)
   (try clear ε)
   (try clear Z)
   (try clear ζ)
   (try clear η)
   (try clear HB)
   generalize(((ay.setCell ⟨L,0,none⟩ (.slice b0 ac.length b1)).setCell ⟨L,1,none⟩ (.slice b3 af.length b5)).setCell ⟨L,2,none⟩ (.slice bc ag.length bd))=h9 at ρ χ a3 a8 ah ar b2 bl cm ⊢
   have aj:=ρ
   have ak:= χ
   have al:=a3
   have J:=a8
   have ε :=ah
   have Z:=ar
   have ζ :=b2
   have η :=bl
   have HB:=cm
   clear ρ χ a3 a8 ah ar b2 bl cm
   replace aj:=Aside0.mk (Kd.Q2 aj.out)
   replace ak:=Aside0.mk (Kd.Q2 ak.out)
   replace al:=Aside0.mk (Kd.Q2 al.out)
   replace J:=Aside0.mk (Qf J.out)
   replace ε :=Aside0.mk (Qf ε.out)
   replace Z:=Aside0.mk (Qf Z.out)
   replace ζ :=Aside0.mk (Qf ζ.out)
   replace η :=Aside0.mk (Qf η.out)
   replace HB:=Aside0.mk (Qi HB.out)
   have dw:0≤(B:Int):=of_decide_eq_true (by assumption)
   have dx:B<(l2.length:Int):=of_decide_eq_true (by assumption)
   obtain⟨ae,ei,bj,bk,bp,bq,bs,bu,bw,bz,ca,cb⟩:=Gq dy.out B dw dx
   have d2:=cb
   have d3:=ca
   have d4:=bz
   have d5:=bw
   have d6:=bu
   have d7:=bs
   have da:=bq
   have db:=bp
   have dc:=bk
   have dd:=bj
   cases ei
   replace bj:=(HB.out.cell (World.block_lt_of_cell? w _ bj)).trans bj
   replace bk:=(HB.out.cell (World.block_lt_of_cell? w _ bk)).trans bk
   replace bp:=(HB.out.cell (World.block_lt_of_cell? w _ bp)).trans bp
   replace bq:=(HB.out.cell (World.block_lt_of_cell? w _ bq)).trans bq
   replace bs:=(HB.out.cell (World.block_lt_of_cell? w _ bs)).trans bs
   replace bu:=(HB.out.cell (World.block_lt_of_cell? w _ bu)).trans bu
   replace bw:=(HB.out.cell (World.block_lt_of_cell? w _ bw)).trans bw
   replace bz:=(HB.out.cell (World.block_lt_of_cell? w _ bz)).trans bz
   replace ca:=(HB.out.cell (World.block_lt_of_cell? w _ ca)).trans ca
   replace cb:=(HB.out.cell (World.block_lt_of_cell? w _ cb)).trans cb
   replace dw:=eq_true dw
   replace dx:=eq_true dx
   refine Zl (n:=9) (S:=fun w'=>w'.cell? ⟨γ,0,none⟩=some (.int .i64 O)∧w'.cell? ⟨γ,1,none⟩=some (.int .i64 X)∧w'.cell? ⟨γ,2,none⟩=some (.int .i64 δ)∧w'.cell? ⟨γ,3,none⟩=some (.int .i64 κ)∧w'.cell? ⟨γ,4,none⟩=some (.int .i64 ι)∧w'.cell? ⟨γ,5,none⟩=some (.int .i64 μ)∧w'.cell? ⟨γ,6,none⟩=some (.int .i64 ν)∧w'.cell? ⟨γ,7,none⟩=some (.int .i64 ξ)∧w'.cell? ⟨γ,8,none⟩=some (.int .i64 ψ)∧w'.cell? ⟨γ,9,none⟩=some (.int .i64 ω)∧w'.cell? ⟨b6,0,none⟩=some (.slice (some ae) l2.length c2)∧w'.cell? ⟨L,0,none⟩=some (.slice b0 ac.length b1)∧w'.cell? ⟨L,1,none⟩=some (.slice b3 af.length b5)∧w'.cell? ⟨L,2,none⟩=some (.slice bc ag.length bd)∧w'.cell? ⟨be,0,none⟩=some (.int .i64 a9)∧w'.cell? ⟨be,1,none⟩=some (.int .i64 aa)∧w'.cell? ⟨be,2,none⟩=some (.int .i64 ab)∧w'.cell? (ae.add ((B).toNat * 10))=some (.int .i64 ((Qb l2 B).f0.f0))∧w'.cell? ⟨(ae.add ((B).toNat * 10)).block,(ae.add ((B).toNat * 10)).off+1,none⟩=some (.int .i64 ((Qb l2 B).f0.f1))∧w'.cell? ⟨(ae.add ((B).toNat * 10)).block,(ae.add ((B).toNat * 10)).off+2,none⟩=some (.int .i64 ((Qb l2 B).f0.f2))∧w'.cell? ⟨(ae.add ((B).toNat * 10)).block,(ae.add ((B).toNat * 10)).off+3,none⟩=some (.int .i64 ((Qb l2 B).f0.f3))∧w'.cell? ⟨(ae.add ((B).toNat * 10)).block,(ae.add ((B).toNat * 10)).off+4,none⟩=some (.int .i64 ((Qb l2 B).f0.f4.f0))∧w'.cell? ⟨(ae.add ((B).toNat * 10)).block,(ae.add ((B).toNat * 10)).off+5,none⟩=some (.int .i64 ((Qb l2 B).f0.f4.f1))∧w'.cell? ⟨(ae.add ((B).toNat * 10)).block,(ae.add ((B).toNat * 10)).off+6,none⟩=some (.int .i64 ((Qb l2 B).f0.f4.f2))∧w'.cell? ⟨(ae.add ((B).toNat * 10)).block,(ae.add ((B).toNat * 10)).off+7,none⟩=some (.int .i64 ((Qb l2 B).f1))∧w'.cell? ⟨(ae.add ((B).toNat * 10)).block,(ae.add ((B).toNat * 10)).off+8,none⟩=some (.bool ((Qb l2 B).f2))∧w'.cell? ⟨(ae.add ((B).toNat * 10)).block,(ae.add ((B).toNat * 10)).off+9,none⟩=some (.bool ((Qb l2 B).f3))) (ds:=[]) #[false,false,false,false,false,false,false,false,false] kr rfl rfl ⟨(Qa J.out 0).trans rfl,(Qa J.out 1).trans rfl,(Qa J.out 2).trans rfl,(Qa J.out 3).trans rfl,(Qa J.out 4).trans rfl,(Qa J.out 5).trans rfl,(Qa J.out 6).trans rfl,(Qa J.out 7).trans rfl,(Qa J.out 8).trans rfl,(Qa J.out 9).trans rfl,(Qa ε.out 0).trans rfl,(Qa η.out 0).trans rfl,(Qa η.out 1).trans rfl,(Qa η.out 2).trans rfl,(Qa ζ.out 0).trans rfl,(Qa ζ.out 1).trans rfl,(Qa ζ.out 2).trans rfl,((HB.out.cell (World.block_lt_of_cell? w _ dd)).trans dd),((HB.out.cell (World.block_lt_of_cell? w _ dc)).trans dc),((HB.out.cell (World.block_lt_of_cell? w _ db)).trans db),((HB.out.cell (World.block_lt_of_cell? w _ da)).trans da),((HB.out.cell (World.block_lt_of_cell? w _ d7)).trans d7),((HB.out.cell (World.block_lt_of_cell? w _ d6)).trans d6),((HB.out.cell (World.block_lt_of_cell? w _ d5)).trans d5),((HB.out.cell (World.block_lt_of_cell? w _ d4)).trans d4),((HB.out.cell (World.block_lt_of_cell? w _ d3)).trans d3),((HB.out.cell (World.block_lt_of_cell? w _ d2)).trans d2)⟩ (fun hHeld=>?_);refine Q8 group_pick_1.Es group_pick_1.Mx (fun HT_ HW_=>?_)
   generalize h9.drew=ey at aj ak al J ε Z ζ η HB bj bk bp bq bs bu bw bz ca cb hHeld ⊢
   refine qP 2 (some 20) (bN 9 4) HT_ ?_
   refine qT 0 (some 18) (bN 9 5) HT_ HW_ hHeld ?_
   refine qT 1 (some 19) (bN 9 7) HT_ HW_ hHeld ?_
   refine qP 3 (some 21) (bN 9 15) HT_ ?_
   refine qT 4 (some 22) (bN 9 31) HT_ HW_ hHeld ?_
   refine qT 5 (some 23) (bN 9 63) HT_ HW_ hHeld ?_
   refine qT 6 (some 24) (bN 9 127) HT_ HW_ hHeld ?_
   refine Zg (i:=7) (N:=some 25) (bN 9 255) rfl rfl (Q4 HT_.out kr) (by decide) (fun K hK=>?_)
   refine Zf Try.func31 kr rfl #[.agg #[.int .i64 O,.int .i64 X,.int .i64 δ,.int .i64 κ,.int .i64 ι,.int .i64 μ,.int .i64 ν,.int .i64 ξ,.int .i64 ψ,.int .i64 ω],.agg #[.int .i64 ((Qb l2 B).f0.f0),.int .i64 ((Qb l2 B).f0.f1),.int .i64 ((Qb l2 B).f0.f2),.int .i64 ((Qb l2 B).f0.f3),.int .i64 ((Qb l2 B).f0.f4.f0),.int .i64 ((Qb l2 B).f0.f4.f1),.int .i64 ((Qb l2 B).f0.f4.f2),.int .i64 ((Qb l2 B).f1),.bool ((Qb l2 B).f2),.bool ((Qb l2 B).f3)],.agg #[.slice b0 ac.length b1,.slice b3 af.length b5,.slice bc ag.length bd],.agg #[.int .i64 a9,.int .i64 aa,.int .i64 ab]] (by rfl) rfl rfl qM ?_
   with_reducible refine(group_cost.calls k O X δ κ ι μ ν ξ ψ ω ((Qb l2 B).f0.f0) ((Qb l2 B).f0.f1) ((Qb l2 B).f0.f2) ((Qb l2 B).f0.f3) ((Qb l2 B).f0.f4.f0) ((Qb l2 B).f0.f4.f1) ((Qb l2 B).f0.f4.f2) ((Qb l2 B).f1) ((Qb l2 B).f2) ((Qb l2 B).f3) _ _ ac _ _ af _ _ ag a9 aa ab bg _ ?side1 ?side2 ?side3 ?side4 ?side5 ?side6 de.out).mono ?_
   (case side1=>exact(Kd.Qz aj.out).2.2)
   (case side2=>exact(Kd.Qz aj.out).2.1)
   (case side3=>exact(Kd.Qz ak.out).2.2)
   (case side4=>exact(Kd.Qz ak.out).2.1)
   (case side5=>exact(Kd.Qz al.out).2.2)
   (case side6=>exact(Kd.Qz al.out).2.1)
   rintro e eh ⟨rfl,hb⟩
   refine⟨_,rfl, ?_⟩
   replace aj:=sRb aj hb
   replace ak:=sRb ak hb
   replace al:=sRb al hb
   replace J:=sBk J hb
   replace ε :=sBk ε hb
   replace Z:=sBk Z hb
   replace ζ :=sBk ζ hb
   replace η :=sBk η hb
   replace HB:=sHb hb
   (try clear hb)
   (try clear a4)
   (try clear hk)
   (try clear hi)
   refine hK.out _ _ ⟨qc J,qc J,qc J,qc J,qc J,qc J,qc J,qc J,qc J,qc J,qc ε,qc η,qc η,qc η,qc ζ,qc ζ,qc ζ,((HB.out.cell (World.block_lt_of_cell? w _ dd)).trans dd),((HB.out.cell (World.block_lt_of_cell? w _ dc)).trans dc),((HB.out.cell (World.block_lt_of_cell? w _ db)).trans db),((HB.out.cell (World.block_lt_of_cell? w _ da)).trans da),((HB.out.cell (World.block_lt_of_cell? w _ d7)).trans d7),((HB.out.cell (World.block_lt_of_cell? w _ d6)).trans d6),((HB.out.cell (World.block_lt_of_cell? w _ d5)).trans d5),((HB.out.cell (World.block_lt_of_cell? w _ d4)).trans d4),((HB.out.cell (World.block_lt_of_cell? w _ d3)).trans d3),((HB.out.cell (World.block_lt_of_cell? w _ d2)).trans d2)⟩ (fun hHeld=>?_)
   clear hK K
   refine qN (some 25) ?_
   refine qP 8 (some 6) (bN 9 511) HT_ ?_
   refine Z2 (Zh HT_.out kr) ?_
   try go_wp2
   go_ret
   exact⟨rfl,HB.out⟩
  ·rw[if_neg c9] at H
   exact absurd H (by simp)
 ·rw[if_neg c8] at H
  exact absurd H (by simp)
end Go.Proofs.Ytmfffemidlhcpaa.C
