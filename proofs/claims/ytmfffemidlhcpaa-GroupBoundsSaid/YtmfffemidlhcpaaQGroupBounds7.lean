/- Texts of this claim, one behind the other: what the law's functions come to, walked (printed by a program, with the words that the print uses), and what that is, in plain Lean. No conditions of their own. -/
import Derived.Test.YtmfffemidlhcpaaQGroupBounds6
namespace Go.Proofs.Ytmfffemidlhcpaa.C
open Go.RowKit Go.Proofs.YtmfffemidlhcpaaW.PrintWords Go.Proofs.YtmfffemidlhcpaaW.PrintLast Go.Proofs.YtmfffemidlhcpaaW.PrintMore
attribute [local go_sem] Zx Zv Z8 Z7 Zl Zk Zw Zu
set_option linter.unusedVariables false
set_option linter.unusedSimpArgs false
mutual
def call_View.l0:Nat→Int→List (S86)→Int→Int→List (S36)→List (S86)→List Int→Option (List Int×List Int×List Int×Int)
 |0,_,_,_,_,_,_,_=>none
 |k+1,Y,L,Z,O,J,X,B=>if O<Z then (if 0≤O then (if O<(L.length:Int) then (if ((Qn L O).f0)=Y then (if B.length<17592186044416 then (call_View.l0 k Y L Z (wrap64 (O+1)) J X (B ++ [(Qn L O).f1])) else (none)) else (call_View.l0 k Y L Z (wrap64 (O+1)) J X B)) else (none)) else (none)) else (call_View.l1 k Y J (J.length:Int) 0 B ([]:List Int) ([]:List Int))
def call_View.l1:Nat→Int→List (S36)→Int→Int→List Int→List Int→List Int→Option (List Int×List Int×List Int×Int)
 |0,_,_,_,_,_,_,_=>none
 |k+1,Y,X,Z,O,B,J,L=>if O<Z then (if 0≤O then (if O<(X.length:Int) then (if ((Qc X O).f2)=Y then (if ((Qc X O).f1)>0 then (if J.length<17592186044416 then (call_View.l1 k Y X Z (wrap64 (O+1)) B (J ++ [(Qc X O).f0]) L) else (none)) else (if L.length<17592186044416 then (call_View.l1 k Y X Z (wrap64 (O+1)) B J (L ++ [(Qc X O).f0])) else (none))) else (call_View.l1 k Y X Z (wrap64 (O+1)) B J L)) else (none)) else (none)) else (some (B,J,L,0))
end
def call_View.f (k:Nat) (J:Int) (B:Int) (L:List (S36)) (Y:List (S86)) (a2:Int):Option (List Int×List Int×List Int×Int):=(call_Check.f k J B L Y).bind fun b3=>(if b3=0 then ((call_within.f a2 0 (wrap64 (B-1))).bind fun co=>(if co=true then (call_View.l0 k a2 Y (Y.length:Int) 0 L Y ([]:List Int)) else (some (([]:List Int),([]:List Int),([]:List Int),191)))) else (some (([]:List Int),([]:List Int),([]:List Int),b3)))
theorem call_View.Zi:∀ k,(∀ L O X B Y Z y6,LeO (call_View.l0 k L O X B Y Z y6) (call_View.l0 (k+1) L O X B Y Z y6))∧(∀ L O X B Y Z y6,LeO (call_View.l1 k L O X B Y Z y6) (call_View.l1 (k+1) L O X B Y Z y6))
 |0=>⟨fun _ _ _ _ _ _ _ r h=>by simp[call_View.l0] at h,fun _ _ _ _ _ _ _ r h=>by simp[call_View.l1] at h⟩
 |k+1=>by
  obtain⟨J,δ⟩:=call_View.Zi k
  refine⟨?_, ?_⟩
  ·intro L O X B Y Z y6
   unfold call_View.l0
   repeat' first
   |(with_reducible exact J _ _ _ _ _ _ _)
   |(with_reducible exact δ _ _ _ _ _ _ _)
   |(with_reducible exact call_Check.mono _ _ _ _ _)
   |(with_reducible exact LeO.refl _)
   |(with_reducible exact LeO.none _)
   |(with_reducible refine LeO.ite ?_ ?_)
   |(with_reducible refine LeO.bind ?_ (fun _=>?_))
   |exact J _ _ _ _ _ _ _
   |exact δ _ _ _ _ _ _ _
   |exact call_Check.mono _ _ _ _ _
   |exact LeO.none _
   |refine LeO.ite ?_ ?_
   |refine LeO.bind ?_ (fun _=>?_)
  ·intro L O X B Y Z y6
   unfold call_View.l1
   repeat' first
   |(with_reducible exact J _ _ _ _ _ _ _)
   |(with_reducible exact δ _ _ _ _ _ _ _)
   |(with_reducible exact call_Check.mono _ _ _ _ _)
   |(with_reducible exact LeO.refl _)
   |(with_reducible exact LeO.none _)
   |(with_reducible refine LeO.ite ?_ ?_)
   |(with_reducible refine LeO.bind ?_ (fun _=>?_))
   |exact J _ _ _ _ _ _ _
   |exact δ _ _ _ _ _ _ _
   |exact call_Check.mono _ _ _ _ _
   |exact LeO.none _
   |refine LeO.ite ?_ ?_
   |refine LeO.bind ?_ (fun _=>?_)
theorem call_View.mono:∀ B O a2 a3 L k,LeO (call_View.f k B O a2 a3 L) (call_View.f (k+1) B O a2 a3 L):=by
 intro B O a2 a3 L k
 obtain⟨J,δ⟩:=call_View.Zi k
 unfold call_View.f
 repeat' first
   |(with_reducible exact J _ _ _ _ _ _ _)
   |(with_reducible exact δ _ _ _ _ _ _ _)
   |(with_reducible exact call_Check.mono _ _ _ _ _)
   |(with_reducible exact LeO.refl _)
   |(with_reducible exact LeO.none _)
   |(with_reducible refine LeO.ite ?_ ?_)
   |(with_reducible refine LeO.bind ?_ (fun _=>?_))
   |exact J _ _ _ _ _ _ _
   |exact δ _ _ _ _ _ _ _
   |exact call_Check.mono _ _ _ _ _
   |exact LeO.none _
   |refine LeO.ite ?_ ?_
   |refine LeO.bind ?_ (fun _=>?_)
set_option maxHeartbeats 8000000 in
set_option maxRecDepth 100000 in
theorem call_View.calls (k:Nat) (J:Int) (B:Int) (θ :Option Addr) (ε :Nat) (L:List (S36)) (ι :Option Addr) (η :Nat) (Y:List (S86)) (a2:Int) (r1:List Int) (r2:List Int) (r3:List Int) (r4:Int) (w:World) (af:Kd.C k36 w θ L.length L) (au:L.length ≤ ε) (av:Kd.C k86 w ι Y.length Y) (b0:Y.length ≤ η) (h:call_View.f k J B L Y a2=some (r1,r2,r3,r4)):
  Calls Try.prog 24 #[.agg #[.int .i64 J,.int .i64 B],.agg #[.slice θ L.length ε,.slice ι Y.length η],.int .i64 a2] w fun e w'=>∃ ba fj eh:Value,e = .returned (.tuple #[.agg #[ba,fj,eh],.int .i64 r4])∧Kd.R (Kd.int .i64) 3 w' w.heap.size (fun k_=>some k_≠(fj:Value).ownBlock∧some k_≠(eh:Value).ownBlock) ba r1∧Kd.R (Kd.int .i64) 3 w' w.heap.size (fun k_=>some k_≠(ba:Value).ownBlock∧some k_≠(eh:Value).ownBlock) fj r2∧Kd.R (Kd.int .i64) 3 w' w.heap.size (fun k_=>some k_≠(ba:Value).ownBlock∧some k_≠(fj:Value).ownBlock) eh r3∧Below w.heap.size w w':=by
 have dr:=Try.underlying59
 have fe:=Try.underlying50
 have dt:=Try.underlying34
 have db:=Try.underlying86
 have d9:=Try.underlying36
 have ψ :=Aside0.mk af
 have b1:=Aside0.mk au
 clear af au
 have a0:=Aside0.mk av
 have b2:=Aside0.mk b0
 clear av b0
 have HB:=Aside0.mk (Below.refl w.heap.size w)
 have H:((call_Check.f k J B L Y).bind fun b3=>(if b3=0 then ((call_within.f a2 0 (wrap64 (B-1))).bind fun co=>(if co=true then (call_View.l0 k a2 Y (Y.length:Int) 0 L Y ([]:List Int)) else (some (([]:List Int),([]:List Int),([]:List Int),191)))) else (some (([]:List Int),([]:List Int),([]:List Int),b3))))=some (r1,r2,r3,r4):=h
 clear h
 replace H:=Option.bind_eq_some_iff.mp H
 obtain⟨b3,ay,H⟩:=H
 replace H:(if b3=0 then ((call_within.f a2 0 (wrap64 (B-1))).bind fun co=>(if co=true then (call_View.l0 k a2 Y (Y.length:Int) 0 L Y ([]:List Int)) else (some (([]:List Int),([]:List Int),([]:List Int),191)))) else (some (([]:List Int),([]:List Int),([]:List Int),b3)))=some (r1,r2,r3,r4):=H
 have A4:=Aside0.mk ay
 clear ay
 by_cases c5:b3=0
 ·rw[if_pos c5] at H
  have c5b0:(b3==0)=true:=beq_iff_eq.mpr c5
  have c5b1:(b3 != 0)=false:=bne_eq_false_iff_eq.mpr c5
  clear c5
  replace H:=Option.bind_eq_some_iff.mp H
  obtain⟨co,ao,H⟩:=H
  replace H:(if co=true then (call_View.l0 k a2 Y (Y.length:Int) 0 L Y ([]:List Int)) else (some (([]:List Int),([]:List Int),([]:List Int),191)))=some (r1,r2,r3,r4):=H
  have A6:=Aside0.mk ao
  clear ao
  by_cases c7:co=true
  ·subst c7
   have H1:(call_View.l0 k a2 Y (Y.length:Int) 0 L Y ([]:List Int))=some (r1,r2,r3,r4):=by rw[if_pos rfl] at H;exact H
   clear H
   have H:=H1
   clear H1
   have H':=Aside0.mk H
   clear H
   go_enter Try.func24,Try.ntmps24
   go_wp2_with (first|((with_reducible refine Qe (N:=3) rfl ?_);refine qE 3 #[.int .i64 J,.int .i64 B] 59 ?_;intro aa hg w8 hbox hb;have O:=Aside0.mk hbox;have ei:=sGe hg;have ej:=sGe hg;replace HB:=sHb hb;clear hb hbox hg)|((with_reducible refine Qe (N:=4) rfl ?_);refine qE 4 #[.slice θ L.length ε,.slice ι Y.length η] 50 ?_;intro ci hg w9 hbox hb;have Z:=Aside0.mk hbox;have el:=sGe hg;have em:=sGe hg;have bh:=sNl O hg;have bi:=sNg O hg;replace O:=sBk O hb;replace HB:=sHb hb;clear hb hbox hg)|((with_reducible refine Qe (N:=6) rfl ?_);refine qE 6 #[.slice none 0 0,.slice none 0 0,.slice none 0 0] 34 ?_;intro bf hg ig hbox hb;have γ:=Aside0.mk hbox;have fc:=sGe hg;have fq:=sGe hg;have bj:=sNl O hg;have bk:=sNg O hg;have a5:=sNl Z hg;have a8:=sNg Z hg;replace O:=sBk O hb;replace Z:=sBk Z hb;replace HB:=sHb hb;clear hb hbox hg;have dm:=bh.out;have fk:=bi.out;have gb:=bj.out;have ge:=bk.out;obtain⟨ap,aw,ar,ax⟩:=qD2 O.out;have eg:=a5.out;have er:=a8.out;obtain⟨bb,bg,bq,br⟩:=qD2 Z.out)|((with_reducible refine Ql (f:=40) rfl ?_);refine Q2 (some 16) rfl rfl Try.func40 kr rfl #[.agg #[.int .i64 J,.int .i64 B],.agg #[.slice θ L.length ε,.slice ι Y.length η]] rfl qM ?_;(with_reducible refine(call_Check.calls k J B _ _ L _ _ Y b3 _ ?side1 ?side2 ?side3 ?side4 A4.out).mono ?_);(case side1=>exact(Kd.Qt ψ.out HB.out));(case side2=>exact b1.out);(case side3=>exact(Kd.Qt a0.out HB.out));(case side4=>exact b2.out);rintro e de ⟨rfl,hb⟩;refine⟨_,rfl, ?_⟩;replace O:=sBk O hb;replace Z:=sBk Z hb;replace γ:=sBk γ hb;replace HB:=sHb hb;(try clear hb);(try clear a9);(try clear hk);(try clear hi);obtain⟨ah,ai,aj,ak⟩:=qD2 O.out)|((with_reducible refine Ql (f:=44) rfl ?_);refine Q2 (some 25) rfl rfl Try.func44 kr rfl #[.int .i64 a2,.int .i64 0,.int .i64 (wrap64 (B-1))] rfl qM ?_;(with_reducible refine(call_within.calls a2 0 (wrap64 (B-1)) true _ A6.out).mono ?_);rintro e w' ⟨rfl,⟨nd,rfl⟩⟩;refine⟨_,rfl, ?_⟩;(try(rw[Yf de];generalize hq_:World.drewN de _=de;have ξ :Aside0 (de.heap[aa]?=some (.cells #[.int .i64 J,.int .i64 B] 59 (0,0))):=⟨by rw[← hq_];exact O.out⟩;have φ :Aside0 (de.heap[ci]?=some (.cells #[.slice θ L.length ε,.slice ι Y.length η] 50 (0,0))):=⟨by rw[← hq_];exact Z.out⟩;have ω :Aside0 (de.heap[bf]?=some (.cells #[.slice none 0 0,.slice none 0 0,.slice none 0 0] 34 (0,0))):=⟨by rw[← hq_];exact γ.out⟩;have a7:Aside0 (Below w.heap.size w de):=⟨by rw[← hq_];exact HB.out⟩;clear O Z γ HB hq_;have O:= ξ;have Z:= φ;have γ:= ω;have HB:=a7;clear ξ φ ω a7));(try(have b9:de.cell? ⟨aa,0,none⟩=some (.int .i64 J):=(Qa O.out 0).trans rfl));(try(have bc:de.cell? ⟨aa,1,none⟩=some (.int .i64 B):=(Qa O.out 1).trans rfl));(try(have bd:=Qq O.out 0));(try(have be:=Qq O.out 1)))|((with_reducible refine Qe (N:=9) rfl ?_);refine qE 9 #[.slice none 0 0,.slice none 0 0,.slice none 0 0] 34 ?_;intro d5 hg az hbox hb;have δ :=Aside0.mk hbox;have m8:=sGe hg;have m9:=sGe hg;have bp:=sNl O hg;have bs:=sNg O hg;have bl:=sNl Z hg;have bm:=sNg Z hg;have bu:=sNl γ hg;have bv:=sNg γ hg;replace O:=sBk O hb;replace Z:=sBk Z hb;replace γ:=sBk γ hb;replace HB:=sHb hb;clear hb hbox hg;have ez:=bs.out;have f8:=bp.out;have fl:=bm.out;have fm:=bl.out;have fh:=bv.out;have fi:=bu.out;obtain⟨en,et,eu,ev,ew,ey⟩:=qD3 δ.out;obtain⟨b5,b6,b7,b8⟩:=qD2 Z.out))
   go_loopg [32] k (fun kq lu w'=>∃ (ζ :Int) (μ :List Int) (κ :Value),lu = .int .i64 ζ ∧ Aside0 (call_View.l0 kq a2 Y (Y.length:Int) ζ L Y μ = some (r1,r2,r3,r4))∧Aside0 (kq≤k)∧Aside0 (Kd.R (Kd.int .i64) 3 w' w.heap.size (fun _=>True) κ μ)∧Aside0 (w'.heap[aa]?=some (.cells #[.int .i64 J,.int .i64 B] 59 (0,0)))∧Aside0 (w'.heap[ci]?=some (.cells #[(.slice θ L.length ε),(.slice ι Y.length η)] 50 (0,0)))∧Aside0 (w'.heap[bf]?=some (.cells #[(.slice none 0 0),(.slice none 0 0),(.slice none 0 0)] 34 (0,0)))∧Aside0 (w'.heap[d5]?=some (.cells #[κ,(.slice none 0 0),(.slice none 0 0)] 34 (0,0)))∧Aside0 (Below w.heap.size w w'))
   case atStart=>exact⟨(0),(([]:List Int)),(.slice none 0 0),qR,H',⟨Nat.le_refl _⟩,⟨by first|exact Kd.Xs _ _ _ _ _|exact Kd.Ym _ _ _ _ _|exact Kd.Yi _ _ _ _ _|exact Kd.Yl _ _ _ _ _|exact Kd.Yj _ _ _ _ _⟩,⟨bka O⟩,⟨bka Z⟩,⟨bka γ⟩,⟨by(with_reducible repeat first|refine Qj ?_ _|refine Qd ?_|refine Qk ?_ _);refine Qm (cs:=#[.slice none 0 0,.slice none 0 0,.slice none 0 0]) ?_ 2 _ rfl;(with_reducible repeat first|refine Qj ?_ _|refine Qd ?_|refine Qk ?_ _);refine Qm (cs:=#[.slice none 0 0,.slice none 0 0,.slice none 0 0]) ?_ 1 _ rfl;(with_reducible repeat first|refine Qj ?_ _|refine Qd ?_|refine Qk ?_ _);refine Qm (cs:=#[.slice none 0 0,.slice none 0 0,.slice none 0 0]) ?_ 0 _ rfl;(with_reducible repeat first|refine Qj ?_ _|refine Qd ?_|refine Qk ?_ _);exact δ.out⟩,⟨bel⟩⟩
   case round=>
    clear H'
    try clear c1
    try clear c2
    try clear p2
    try clear c4
    try clear c5
    try clear c5b0
    try clear c5b1
    try clear p6
    try clear c7
    try clear ae
    try clear al
    try clear ac
    try clear b4
    try clear ag
    try clear dq
    try clear d7
    try clear ap
    try clear aw
    try clear bb
    try clear bg
    try clear ah
    try clear ai
    try clear b9
    try clear bc
    try clear en
    try clear et
    try clear eu
    try clear b5
    try clear b6
    try clear ar
    try clear ax
    try clear bq
    try clear br
    try clear aj
    try clear ak
    try clear bd
    try clear be
    try clear ev
    try clear ew
    try clear ey
    try clear b7
    try clear b8
    obtain⟨ζ,μ,κ,rfl,HA,an,HO_510000,O,Z,γ,δ,HB⟩:=hrel
    cases gk with
    |zero=>exact absurd HA.out (by simp[call_View.l0])
    |succ k1=>
     have H:=HA.out
     clear HA
     simp only[call_View.l0] at H
     by_cases ab: ζ < (Y.length:Int)
     ·rw[if_pos ab] at H
      have c25b0:decide (ζ < (Y.length:Int))=true:=decide_eq_true ab
      clear ab
      by_cases a6:0 ≤ ζ
      ·rw[if_pos a6] at H
       have c26b0:decide (0 ≤ ζ)=true:=decide_eq_true a6
       clear a6
       by_cases dv: ζ < (Y.length:Int)
       ·rw[if_pos dv] at H
        have c27b0:decide (ζ < (Y.length:Int))=true:=decide_eq_true dv
        clear dv
        by_cases dj:((Qn Y ζ).f0)=a2
        ·rw[if_pos dj] at H
         have c28b0:(((Qn Y ζ).f0)==a2)=true:=beq_iff_eq.mpr dj
         have c28b1:(((Qn Y ζ).f0) != a2)=false:=bne_eq_false_iff_eq.mpr dj
         clear dj
         by_cases bz: μ.length<17592186044416
         ·rw[if_pos bz] at H
          have gf:=Aside0.mk bz
          clear bz
          obtain⟨du,d6⟩:∃ y_:List Int,y_=(μ ++ [(Qn Y ζ).f1]):=⟨_,rfl⟩
          replace H:(call_View.l0 k1 a2 Y (Y.length:Int) (wrap64 (ζ + 1)) L Y du)=some (r1,r2,r3,r4):=by first|(rw[d6];with_reducible exact H)|(have am:=(Option.bind_some _ _).symm.trans H;rw[d6];with_reducible exact am)|(have am:=(Option.bind_some _ _).symm.trans H;with_reducible exact am)|with_reducible exact H|(rw[d6];exact H)|exact H
          have gg:=Aside0.mk d6
          clear d6
          have H':=Aside0.mk H
          clear H
          have cp:0≤(ζ :Int):=of_decide_eq_true (by assumption)
          have cq: ζ < (Y.length:Int):=of_decide_eq_true (by assumption)
          obtain⟨fr,dx,bn,bo⟩:=Y3 a0.out ζ cp cq
          cases dx
          replace bn:=(HB.out.cell (World.block_lt_of_cell? w _ bn)).trans bn
          replace bo:=(HB.out.cell (World.block_lt_of_cell? w _ bo)).trans bo
          replace cp:=eq_true cp
          replace cq:=eq_true cq
          go_wp2_with (first|((with_reducible refine Qe (N:=11) rfl ?_);refine qE 11 #[.int .i64 0,.int .i64 0] 86 ?_;intro fu hg eo hbox hb;have cm:=Aside0.mk hbox;have gi:=sGe hg;have gj:=sGe hg;have cr:=sNl O hg;have ct:=sNg O hg;have cu:=sNl Z hg;have cw:=sNg Z hg;have d1:=sNl γ hg;have d2:=sNg γ hg;have d3:=sNl δ hg;have d4:=sNg δ hg;replace HO_510000:=sRb HO_510000 hb;replace O:=sBk O hb;replace Z:=sBk Z hb;replace γ:=sBk γ hb;replace δ :=sBk δ hb;replace HB:=sHb hb;clear hb hbox hg;have gh:=ct.out;have gq:=cr.out;have ff:=cw.out;have fg:=cu.out;have kj:=d2.out;have kk:=d1.out;have kv:=d4.out;have kw:=d3.out;obtain⟨di,dk,fa,fb⟩:=qD2 cm.out;have jr:=bs.out;have js:=bp.out;have ma:=bm.out;have mb:=bl.out;have gm:=bv.out;have gn:=bu.out;obtain⟨dw,g0,g1,g2,g3,g4⟩:=qD3 δ.out)|((with_reducible refine Xm (b:=.append) (xs:=#[.tmp 41,.tmp 44]) rfl ?_);at_builtin;refine Kd.Gn (Kd.int .i64) (w0:=w) w.heap.size rfl (.tmp 41) (.tmp 44) 32 3 (.int .i64 0) 8 rfl Try.underlying32 Wd rfl (by decide) (by omega) κ μ ((Qn Y ζ).f1) [.int .i64 ((Qn Y ζ).f1)] (fun _=>True) (fun _=>False) rfl (by first|(go_simp;done)|(go_simp;rfl)) ?aP (fun _ hk=>hk.elim) ?aF ?aO ?aB ?aS ?aL ?_;(case aP=>exact rfl);(case aB=>exact bel);(case aF=>exact(fun _ _=>trivial));(case aO=>exact(by(with_reducible repeat first|apply Kd.Qw|apply Kd.Qv|apply Kd.Q1);exact Kd.Qz (Kd.Qu (Kd.Qu (Kd.Q6 HO_510000.out cm.out (by decide)) (fun _ hk=>hk.2) (.int .i64 ((Qn Y ζ).f0))) (fun _ hk=>hk.2) (.int .i64 ((Qn Y ζ).f1))) (fun _ hk=>trivial)));(case aS=>exact(Qr bel));(case aL=>have:=gf.out;omega);intro no kb ho hb hg hat;rw[← gg.out] at ho;have fv:=Aside0.mk ho;replace O:=Aside0.mk (Q3 (g:=aa) (o:=.cells #[.int .i64 J,.int .i64 B] 59 (0,0)) (bka O) hg (Kd.Xb HO_510000.out O.out (by decide)));replace Z:=Aside0.mk (Q3 (g:=ci) (o:=.cells #[.slice θ L.length ε,.slice (some fr) Y.length η] 50 (0,0)) (bka Z) hg (Kd.Xb HO_510000.out Z.out (by decide)));replace γ:=Aside0.mk (Q3 (g:=bf) (o:=.cells #[.slice none 0 0,.slice none 0 0,.slice none 0 0] 34 (0,0)) (bka γ) hg (Kd.Xb HO_510000.out γ.out (by decide)));replace δ :=Aside0.mk (Q3 (g:=d5) (o:=.cells #[κ,.slice none 0 0,.slice none 0 0] 34 (0,0)) (bka δ) hg (Kd.Xb HO_510000.out δ.out (by decide)));replace cm:=Aside0.mk (Q3 (g:=fu) (o:=.cells #[.int .i64 ((Qn Y ζ).f0),.int .i64 ((Qn Y ζ).f1)] 86 (0,0)) (by(with_reducible repeat first|refine Qj ?_ _|refine Qd ?_|refine Qk ?_ _);refine Qm (cs:=#[.int .i64 ((Qn Y ζ).f0),.int .i64 0]) ?_ 1 _ rfl;(with_reducible repeat first|refine Qj ?_ _|refine Qd ?_|refine Qk ?_ _);refine Qm (cs:=#[.int .i64 0,.int .i64 0]) ?_ 0 _ rfl;(with_reducible repeat first|refine Qj ?_ _|refine Qd ?_|refine Qk ?_ _);exact cm.out) hg (Kd.Xb HO_510000.out cm.out (by decide)));replace HB:=Aside0.mk hb;clear HO_510000;clear ho hb hg hat;obtain⟨h4,h5,h6⟩:=Kd.Q7 fv.out;subst h6;obtain⟨e0,e7,e9,eb,ec,ed⟩:=qD3 δ.out))
          go_roundg k1
          case measure=>have:=an.out;omega
          case rel=>exact⟨(wrap64 (ζ + 1)),(du),(.slice h4 du.length h5),qR,H',⟨by have:=an.out;omega⟩,⟨by(with_reducible repeat first|apply Kd.Qw|apply Kd.Qv|apply Kd.Q1);exact Kd.Qz (Kd.Qu (Kd.Q6 fv.out δ.out (by decide)) (fun _ hk=>hk.2) _) (fun _ hk=>trivial)⟩,⟨bka O⟩,⟨bka Z⟩,⟨bka γ⟩,⟨by(with_reducible repeat first|refine Qj ?_ _|refine Qd ?_|refine Qk ?_ _);refine Qm (cs:=#[κ,.slice none 0 0,.slice none 0 0]) ?_ 0 _ rfl;(with_reducible repeat first|refine Qj ?_ _|refine Qd ?_|refine Qk ?_ _);exact δ.out⟩,⟨bel⟩⟩
         ·rw[if_neg bz] at H
          exact absurd H (by simp)
        ·rw[if_neg dj] at H
         have c28b0:(((Qn Y ζ).f0)==a2)=false:=beq_eq_false_iff_ne.mpr dj
         have c28b1:(((Qn Y ζ).f0) != a2)=true:=bne_iff_ne.mpr dj
         have H':=Aside0.mk H
         clear H
         have cp:0≤(ζ :Int):=of_decide_eq_true (by assumption)
         have cq: ζ < (Y.length:Int):=of_decide_eq_true (by assumption)
         obtain⟨fr,dx,bn,bo⟩:=Y3 a0.out ζ cp cq
         cases dx
         replace bn:=(HB.out.cell (World.block_lt_of_cell? w _ bn)).trans bn
         replace bo:=(HB.out.cell (World.block_lt_of_cell? w _ bo)).trans bo
         replace cp:=eq_true cp
         replace cq:=eq_true cq
         go_wp2_with (first|((with_reducible refine Qe (N:=11) rfl ?_);refine qE 11 #[.int .i64 0,.int .i64 0] 86 ?_;intro fu hg ka hbox hb;have cm:=Aside0.mk hbox;have gi:=sGe hg;have gj:=sGe hg;have cr:=sNl O hg;have ct:=sNg O hg;have cu:=sNl Z hg;have cw:=sNg Z hg;have d1:=sNl γ hg;have d2:=sNg γ hg;have d3:=sNl δ hg;have d4:=sNg δ hg;replace HO_510000:=sRb HO_510000 hb;replace O:=sBk O hb;replace Z:=sBk Z hb;replace γ:=sBk γ hb;replace δ :=sBk δ hb;replace HB:=sHb hb;clear hb hbox hg;have ib:=ct.out;have ic:=cr.out;have ha:=cw.out;have he:=cu.out;have hh:=d2.out;have hj:=d1.out;have j4:=d4.out;have j5:=d3.out;obtain⟨e3,e4,e5,e6⟩:=qD2 cm.out))
         go_roundg k1
         case measure=>have:=an.out;omega
         case rel=>exact⟨(wrap64 (ζ + 1)),(μ),(κ),qR,H',⟨by have:=an.out;omega⟩,⟨by(with_reducible repeat first|apply Kd.Qw|apply Kd.Qv|apply Kd.Q1);exact Kd.Qz (Kd.Qu (Kd.Qu (Kd.Q6 HO_510000.out cm.out (by decide)) (fun _ hk=>hk.2) (.int .i64 ((Qn Y ζ).f0))) (fun _ hk=>hk.2) (.int .i64 ((Qn Y ζ).f1))) (fun _ hk=>trivial)⟩,⟨bka O⟩,⟨bka Z⟩,⟨bka γ⟩,⟨bka δ⟩,⟨bel⟩⟩
       ·rw[if_neg dv] at H
        exact absurd H (by simp)
      ·rw[if_neg a6] at H
       exact absurd H (by simp)
     ·rw[if_neg ab] at H
      have c25b0:decide (ζ < (Y.length:Int))=false:=decide_eq_false ab
      clear ab
      have H':=Aside0.mk H
      clear H
      have iv:=bi.out
      have j9:=bh.out
      have fp:=a5.out
      have ft:=a8.out
      have j6:=bl.out
      have j7:=bm.out
      obtain⟨cx,cy,cz,d0⟩:=qD2 Z.out
      go_wp2
      go_loopg [51] k1 (fun kq lv w'=>∃ (X:Int) (ρ:List Int) (χ :List Int) (σ:Value) (τ :Value),lv = .int .i64 X∧Aside0 (call_View.l1 kq a2 L (L.length:Int) X μ ρ χ = some (r1,r2,r3,r4))∧Aside0 (kq≤k1)∧Aside0 (Kd.R (Kd.int .i64) 3 w' w.heap.size (fun k_=>some k_≠(σ:Value).ownBlock∧some k_≠(τ :Value).ownBlock) κ μ)∧Aside0 (Kd.R (Kd.int .i64) 3 w' w.heap.size (fun k_=>some k_≠(κ :Value).ownBlock∧some k_≠(τ :Value).ownBlock) σ ρ)∧Aside0 (Kd.R (Kd.int .i64) 3 w' w.heap.size (fun k_=>some k_≠(κ :Value).ownBlock∧some k_≠(σ:Value).ownBlock) τ χ)∧Aside0 (w'.heap[aa]?=some (.cells #[.int .i64 J,.int .i64 B] 59 (0,0)))∧Aside0 (w'.heap[ci]?=some (.cells #[(.slice θ L.length ε),(.slice ι Y.length η)] 50 (0,0)))∧Aside0 (w'.heap[bf]?=some (.cells #[(.slice none 0 0),(.slice none 0 0),(.slice none 0 0)] 34 (0,0)))∧Aside0 (w'.heap[d5]?=some (.cells #[κ,σ,τ] 34 (0,0)))∧Aside0 (Below w.heap.size w w'))
      case atStart=>exact⟨(0),(([]:List Int)),(([]:List Int)),(.slice none 0 0),(.slice none 0 0),rfl,H',⟨Nat.le_refl _⟩,⟨by(with_reducible repeat first|apply Kd.Qw|apply Kd.Qv|apply Kd.Q1);exact Kd.Qz HO_510000.out (fun _ hk=>⟨(by simp[Value.ownBlock]),(by simp[Value.ownBlock])⟩)⟩,⟨by first|exact Kd.Xs _ _ _ _ _|exact Kd.Ym _ _ _ _ _|exact Kd.Yi _ _ _ _ _|exact Kd.Yl _ _ _ _ _|exact Kd.Yj _ _ _ _ _⟩,⟨by first|exact Kd.Xs _ _ _ _ _|exact Kd.Ym _ _ _ _ _|exact Kd.Yi _ _ _ _ _|exact Kd.Yl _ _ _ _ _|exact Kd.Yj _ _ _ _ _⟩,O,Z,γ,δ,HB⟩
      case round=>
       clear H'
       try clear c1
       try clear c2
       try clear p2
       try clear c3
       try clear c4
       try clear c5
       try clear c5b0
       try clear c5b1
       try clear p5
       try clear q5
       try clear qg
       try clear p6
       try clear c7
       try clear ae
       try clear al
       try clear ac
       try clear b4
       try clear ag
       try clear dq
       try clear d7
       try clear ab
       try clear c25b0
       try clear a6
       try clear c26b0
       try clear dv
       try clear c27b0
       try clear dj
       try clear c28b0
       try clear c28b1
       try clear bz
       try clear o0
       try clear o1
       try clear h8
       try clear h9
       try clear dn
       try clear df
       try clear ep
       try clear ea
       try clear qh
       try clear qi
       try clear nv
       try clear g7
       try clear ek
       try clear o2
       try clear j8
       try clear p51
       try clear o3
       try clear np
       try clear ap
       try clear aw
       try clear bb
       try clear bg
       try clear ah
       try clear ai
       try clear b9
       try clear bc
       try clear en
       try clear et
       try clear eu
       try clear b5
       try clear b6
       try clear di
       try clear dk
       try clear dw
       try clear g0
       try clear g1
       try clear e0
       try clear e7
       try clear e9
       try clear e3
       try clear e4
       try clear cx
       try clear cy
       try clear ar
       try clear ax
       try clear bq
       try clear br
       try clear aj
       try clear ak
       try clear bd
       try clear be
       try clear ev
       try clear ew
       try clear ey
       try clear b7
       try clear b8
       try clear fa
       try clear fb
       try clear g2
       try clear g3
       try clear g4
       try clear eb
       try clear ec
       try clear ed
       try clear e5
       try clear e6
       try clear cz
       try clear d0
       try clear bn
       try clear bo
       try clear p2
       try clear cp
       try clear p6
       try clear cq
       obtain⟨X,ρ,χ,σ,τ,rfl,HA,e8,HO_510000,HO_510001,HO_510002,O,Z,γ,δ,HB⟩:=hrel
       cases gk with
       |zero=>exact absurd HA.out (by simp[call_View.l1])
       |succ k2=>
        have H:=HA.out
        clear HA
        simp only[call_View.l1] at H
        by_cases i3:X<(L.length:Int)
        ·rw[if_pos i3] at H
         have c53b0:decide (X<(L.length:Int))=true:=decide_eq_true i3
         clear i3
         by_cases jp:0≤X
         ·rw[if_pos jp] at H
          have c54b0:decide (0≤X)=true:=decide_eq_true jp
          clear jp
          by_cases fw:X<(L.length:Int)
          ·rw[if_pos fw] at H
           have c55b0:decide (X<(L.length:Int))=true:=decide_eq_true fw
           clear fw
           by_cases dh:((Qc L X).f2)=a2
           ·rw[if_pos dh] at H
            have c56b0:(((Qc L X).f2)==a2)=true:=beq_iff_eq.mpr dh
            have c56b1:(((Qc L X).f2) != a2)=false:=bne_eq_false_iff_eq.mpr dh
            clear dh
            by_cases dp:((Qc L X).f1)>0
            ·rw[if_pos dp] at H
             have c57b0:decide (0<((Qc L X).f1))=true:=decide_eq_true dp
             clear dp
             by_cases cv:ρ.length<17592186044416
             ·rw[if_pos cv] at H
              have gl:=Aside0.mk cv
              clear cv
              obtain⟨dy,d8⟩:∃ y_:List Int,y_=(ρ ++ [(Qc L X).f0]):=⟨_,rfl⟩
              replace H:(call_View.l1 k2 a2 L (L.length:Int) (wrap64 (X+1)) μ dy χ)=some (r1,r2,r3,r4):=by first|(rw[d8];with_reducible exact H)|(have am:=(Option.bind_some _ _).symm.trans H;rw[d8];with_reducible exact am)|(have am:=(Option.bind_some _ _).symm.trans H;with_reducible exact am)|with_reducible exact H|(rw[d8];exact H)|exact H
              have gp:=Aside0.mk d8
              clear d8
              have H':=Aside0.mk H
              clear H
              have cj:0≤(X:Int):=of_decide_eq_true (by assumption)
              have ck:X<(L.length:Int):=of_decide_eq_true (by assumption)
              obtain⟨dc,dl,a1,a3,a4⟩:=Xv ψ.out X cj ck
              cases dl
              replace a1:=(HB.out.cell (World.block_lt_of_cell? w _ a1)).trans a1
              replace a3:=(HB.out.cell (World.block_lt_of_cell? w _ a3)).trans a3
              replace a4:=(HB.out.cell (World.block_lt_of_cell? w _ a4)).trans a4
              replace cj:=eq_true cj
              replace ck:=eq_true ck
              go_wp2_with (first|((with_reducible refine Qe (N:=13) rfl ?_);refine qE 13 #[.int .i64 0,.int .i64 0,.int .i64 0] 36 ?_;intro dd hg o4 hbox hb;have ν :=Aside0.mk hbox;have fx:=sGe hg;have fy:=sGe hg;have bw:=sNl O hg;have ca:=sNg O hg;have cb:=sNl Z hg;have cd:=sNg Z hg;have ce:=sNl γ hg;have cf:=sNg γ hg;have cg:=sNl δ hg;have ch:=sNg δ hg;replace HO_510000:=sRb HO_510000 hb;replace HO_510001:=sRb HO_510001 hb;replace HO_510002:=sRb HO_510002 hb;replace O:=sBk O hb;replace Z:=sBk Z hb;replace γ:=sBk γ hb;replace δ :=sBk δ hb;replace HB:=sHb hb;clear hb hbox hg;have fn:=ca.out;have fo:=bw.out;have jh:=cd.out;have ji:=cb.out;have mz:=cf.out;have n0:=ce.out;have jj:=ch.out;have jk:=cg.out;obtain⟨gw,gx,l8,gy,gz,l9⟩:=qD3 ν.out;have g9:=bs.out;have ga:=bp.out;have mj:=bm.out;have ml:=bl.out;have n1:=bv.out;have n2:=bu.out;obtain⟨mc,me,mf,mg,mh,mi⟩:=qD3 δ.out)|((with_reducible refine Xm (b:=.append) (xs:=#[.tmp 72,.tmp 75]) rfl ?_);at_builtin;refine Kd.Gn (Kd.int .i64) (w0:=w) w.heap.size rfl (.tmp 72) (.tmp 75) 32 3 (.int .i64 0) 8 rfl Try.underlying32 Wd rfl (by decide) (by omega) σ ρ ((Qc L X).f0) [.int .i64 ((Qc L X).f0)] (fun k_=>some k_≠(κ :Value).ownBlock∧some k_≠(τ :Value).ownBlock) (fun _=>False) rfl (by first|(go_simp;done)|(go_simp;rfl)) ?aP (fun _ hk=>hk.elim) ?aF ?aO ?aB ?aS ?aL ?_;(case aP=>exact rfl);(case aB=>exact bel);(case aF=>exact(fun k_ hk=>⟨Kd.fresh' (Kd.Mh (by(with_reducible repeat first|apply Kd.Qw|apply Kd.Qv|apply Kd.Q1);exact(Kd.Qz (Kd.Qu (Kd.Qu (Kd.Qu (Kd.Q6 HO_510000.out ν.out (by decide)) (fun _ hk=>hk.2) (.int .i64 ((Qc L X).f0))) (fun _ hk=>hk.2) (.int .i64 ((Qc L X).f1))) (fun _ hk=>hk.2) (.int .i64 ((Qc L X).f2))) (fun _ h_=>h_.1)))) k_ hk,Kd.fresh' (Kd.Mh (by(with_reducible repeat first|apply Kd.Qw|apply Kd.Qv|apply Kd.Q1);exact(Kd.Qz (Kd.Qu (Kd.Qu (Kd.Qu (Kd.Q6 HO_510002.out ν.out (by decide)) (fun _ hk=>hk.2) (.int .i64 ((Qc L X).f0))) (fun _ hk=>hk.2) (.int .i64 ((Qc L X).f1))) (fun _ hk=>hk.2) (.int .i64 ((Qc L X).f2))) (fun _ h_=>h_.1)))) k_ hk⟩));(case aO=>exact(by(with_reducible repeat first|apply Kd.Qw|apply Kd.Qv|apply Kd.Q1);exact Kd.Qz (Kd.Qu (Kd.Qu (Kd.Qu (Kd.Q6 HO_510001.out ν.out (by decide)) (fun _ hk=>hk.2) (.int .i64 ((Qc L X).f0))) (fun _ hk=>hk.2) (.int .i64 ((Qc L X).f1))) (fun _ hk=>hk.2) (.int .i64 ((Qc L X).f2))) (fun _ hk=>⟨hk.1.1,hk.1.2⟩)));(case aS=>exact(Qr bel));(case aL=>have:=gl.out;omega);intro nq o5 ho hb hg hat;rw[← gp.out] at ho;have fz:=Aside0.mk ho;replace HO_510000:=Aside0.mk (Kd.Kv (ok:=(fun k_=>some k_≠(τ :Value).ownBlock)) (by(with_reducible repeat first|apply Kd.Qw|apply Kd.Qv|apply Kd.Q1);exact Kd.Qz (Kd.Qu (Kd.Qu (Kd.Qu (Kd.Q6 HO_510000.out ν.out (by decide)) (fun _ hk=>hk.2) (.int .i64 ((Qc L X).f0))) (fun _ hk=>hk.2) (.int .i64 ((Qc L X).f1))) (fun _ hk=>hk.2) (.int .i64 ((Qc L X).f2))) (fun _ hk=>⟨hk.1.2,hk.1.1⟩)) hg hat);replace HO_510002:=Aside0.mk (Kd.Kv (ok:=(fun k_=>some k_≠(κ :Value).ownBlock)) (by(with_reducible repeat first|apply Kd.Qw|apply Kd.Qv|apply Kd.Q1);exact Kd.Qz (Kd.Qu (Kd.Qu (Kd.Qu (Kd.Q6 HO_510002.out ν.out (by decide)) (fun _ hk=>hk.2) (.int .i64 ((Qc L X).f0))) (fun _ hk=>hk.2) (.int .i64 ((Qc L X).f1))) (fun _ hk=>hk.2) (.int .i64 ((Qc L X).f2))) (fun _ hk=>⟨hk.1.1,hk.1.2⟩)) hg hat);replace O:=Aside0.mk (Q3 (g:=aa) (o:=.cells #[.int .i64 J,.int .i64 B] 59 (0,0)) (bka O) hg (Kd.Xb HO_510001.out O.out (by decide)));replace Z:=Aside0.mk (Q3 (g:=ci) (o:=.cells #[.slice (some dc) L.length ε,.slice ι Y.length η] 50 (0,0)) (bka Z) hg (Kd.Xb HO_510001.out Z.out (by decide)));replace γ:=Aside0.mk (Q3 (g:=bf) (o:=.cells #[.slice none 0 0,.slice none 0 0,.slice none 0 0] 34 (0,0)) (bka γ) hg (Kd.Xb HO_510001.out γ.out (by decide)));replace δ :=Aside0.mk (Q3 (g:=d5) (o:=.cells #[κ,σ,τ] 34 (0,0)) (bka δ) hg (Kd.Xb HO_510001.out δ.out (by decide)));replace ν :=Aside0.mk (Q3 (g:=dd) (o:=.cells #[.int .i64 ((Qc L X).f0),.int .i64 ((Qc L X).f1),.int .i64 ((Qc L X).f2)] 36 (0,0)) (by(with_reducible repeat first|refine Qj ?_ _|refine Qd ?_|refine Qk ?_ _);refine Qm (cs:=#[.int .i64 ((Qc L X).f0),.int .i64 ((Qc L X).f1),.int .i64 0]) ?_ 2 _ rfl;(with_reducible repeat first|refine Qj ?_ _|refine Qd ?_|refine Qk ?_ _);refine Qm (cs:=#[.int .i64 ((Qc L X).f0),.int .i64 0,.int .i64 0]) ?_ 1 _ rfl;(with_reducible repeat first|refine Qj ?_ _|refine Qd ?_|refine Qk ?_ _);refine Qm (cs:=#[.int .i64 0,.int .i64 0,.int .i64 0]) ?_ 0 _ rfl;(with_reducible repeat first|refine Qj ?_ _|refine Qd ?_|refine Qk ?_ _);exact ν.out) hg (Kd.Xb HO_510001.out ν.out (by decide)));replace HB:=Aside0.mk hb;clear HO_510001;clear ho hb hg hat;obtain⟨h7,hl,hu⟩:=Kd.Q7 fz.out;subst hu;obtain⟨ih,ii,ij,ik,il,im⟩:=qD3 δ.out))
              go_roundg k2
              case measure=>have:=an.out;have:=e8.out;omega
              case rel=>exact⟨(wrap64 (X+1)),(dy),(χ),(.slice h7 dy.length hl),(τ),qR,H',⟨by have:=an.out;have:=e8.out;omega⟩,⟨by(with_reducible repeat first|apply Kd.Qw|apply Kd.Qv|apply Kd.Q1);exact Kd.Qz (Kd.Qu (Kd.Q6 HO_510000.out δ.out (by decide)) (fun _ hk=>hk.2) _) (fun _ hk=>⟨hk.1.2,hk.1.1⟩)⟩,⟨by(with_reducible repeat first|apply Kd.Qw|apply Kd.Qv|apply Kd.Q1);exact Kd.Qz (Kd.Qu (Kd.Q6 fz.out δ.out (by decide)) (fun _ hk=>hk.2) _) (fun _ hk=>⟨hk.1.1,hk.1.2⟩)⟩,⟨by(with_reducible repeat first|apply Kd.Qw|apply Kd.Qv|apply Kd.Q1);exact Kd.Qz (Kd.Qu (Kd.Q6 HO_510002.out δ.out (by decide)) (fun _ hk=>hk.2) _) (fun _ hk=>⟨hk.1.1,hk.1.2⟩)⟩,⟨bka O⟩,⟨bka Z⟩,⟨bka γ⟩,⟨by(with_reducible repeat first|refine Qj ?_ _|refine Qd ?_|refine Qk ?_ _);refine Qm (cs:=#[κ,σ,τ]) ?_ 1 _ rfl;(with_reducible repeat first|refine Qj ?_ _|refine Qd ?_|refine Qk ?_ _);exact δ.out⟩,⟨bel⟩⟩
             ·rw[if_neg cv] at H
              exact absurd H (by simp)
            ·rw[if_neg dp] at H
             have c57b0:decide (0<((Qc L X).f1))=false:=decide_eq_false dp
             clear dp
             by_cases jq: χ.length<17592186044416
             ·rw[if_pos jq] at H
              have gr:=Aside0.mk jq
              clear jq
              obtain⟨dz,da⟩:∃ y_:List Int,y_=(χ ++ [(Qc L X).f0]):=⟨_,rfl⟩
              replace H:(call_View.l1 k2 a2 L (L.length:Int) (wrap64 (X+1)) μ ρ dz)=some (r1,r2,r3,r4):=by first|(rw[da];with_reducible exact H)|(have am:=(Option.bind_some _ _).symm.trans H;rw[da];with_reducible exact am)|(have am:=(Option.bind_some _ _).symm.trans H;with_reducible exact am)|with_reducible exact H|(rw[da];exact H)|exact H
              have gs:=Aside0.mk da
              clear da
              have H':=Aside0.mk H
              clear H
              have cj:0≤(X:Int):=of_decide_eq_true (by assumption)
              have ck:X<(L.length:Int):=of_decide_eq_true (by assumption)
              obtain⟨dc,dl,a1,a3,a4⟩:=Xv ψ.out X cj ck
              cases dl
              replace a1:=(HB.out.cell (World.block_lt_of_cell? w _ a1)).trans a1
              replace a3:=(HB.out.cell (World.block_lt_of_cell? w _ a3)).trans a3
              replace a4:=(HB.out.cell (World.block_lt_of_cell? w _ a4)).trans a4
              replace cj:=eq_true cj
              replace ck:=eq_true ck
              go_wp2_with (first|((with_reducible refine Qe (N:=13) rfl ?_);refine qE 13 #[.int .i64 0,.int .i64 0,.int .i64 0] 36 ?_;intro dd hg q3 hbox hb;have ν :=Aside0.mk hbox;have fx:=sGe hg;have fy:=sGe hg;have bw:=sNl O hg;have ca:=sNg O hg;have cb:=sNl Z hg;have cd:=sNg Z hg;have ce:=sNl γ hg;have cf:=sNg γ hg;have cg:=sNl δ hg;have ch:=sNg δ hg;replace HO_510000:=sRb HO_510000 hb;replace HO_510001:=sRb HO_510001 hb;replace HO_510002:=sRb HO_510002 hb;replace O:=sBk O hb;replace Z:=sBk Z hb;replace γ:=sBk γ hb;replace δ :=sBk δ hb;replace HB:=sHb hb;clear hb hbox hg;have n3:=ca.out;have na:=bw.out;have jt:=cd.out;have ju:=cb.out;have jv:=cf.out;have ky:=ce.out;have kz:=ch.out;have l2:=cg.out;obtain⟨jf,jg,jl,jm,jn,jo⟩:=qD3 ν.out;have kp:=bs.out;have ks:=bp.out;have kt:=bm.out;have ku:=bl.out;have nb:=bv.out;have nc:=bu.out;obtain⟨io,ip,iq,ir,it,iu⟩:=qD3 δ.out)|((with_reducible refine Xm (b:=.append) (xs:=#[.tmp 56,.tmp 59]) rfl ?_);at_builtin;refine Kd.Gn (Kd.int .i64) (w0:=w) w.heap.size rfl (.tmp 56) (.tmp 59) 32 3 (.int .i64 0) 8 rfl Try.underlying32 Wd rfl (by decide) (by omega) τ χ ((Qc L X).f0) [.int .i64 ((Qc L X).f0)] (fun k_=>some k_≠(κ :Value).ownBlock∧some k_≠(σ:Value).ownBlock) (fun _=>False) rfl (by first|(go_simp;done)|(go_simp;rfl)) ?aP (fun _ hk=>hk.elim) ?aF ?aO ?aB ?aS ?aL ?_;(case aP=>exact rfl);(case aB=>exact bel);(case aF=>exact(fun k_ hk=>⟨Kd.fresh' (Kd.Mh (by(with_reducible repeat first|apply Kd.Qw|apply Kd.Qv|apply Kd.Q1);exact(Kd.Qz (Kd.Qu (Kd.Qu (Kd.Qu (Kd.Q6 HO_510000.out ν.out (by decide)) (fun _ hk=>hk.2) (.int .i64 ((Qc L X).f0))) (fun _ hk=>hk.2) (.int .i64 ((Qc L X).f1))) (fun _ hk=>hk.2) (.int .i64 ((Qc L X).f2))) (fun _ h_=>h_.1)))) k_ hk,Kd.fresh' (Kd.Mh (by(with_reducible repeat first|apply Kd.Qw|apply Kd.Qv|apply Kd.Q1);exact(Kd.Qz (Kd.Qu (Kd.Qu (Kd.Qu (Kd.Q6 HO_510001.out ν.out (by decide)) (fun _ hk=>hk.2) (.int .i64 ((Qc L X).f0))) (fun _ hk=>hk.2) (.int .i64 ((Qc L X).f1))) (fun _ hk=>hk.2) (.int .i64 ((Qc L X).f2))) (fun _ h_=>h_.1)))) k_ hk⟩));(case aO=>exact(by(with_reducible repeat first|apply Kd.Qw|apply Kd.Qv|apply Kd.Q1);exact Kd.Qz (Kd.Qu (Kd.Qu (Kd.Qu (Kd.Q6 HO_510002.out ν.out (by decide)) (fun _ hk=>hk.2) (.int .i64 ((Qc L X).f0))) (fun _ hk=>hk.2) (.int .i64 ((Qc L X).f1))) (fun _ hk=>hk.2) (.int .i64 ((Qc L X).f2))) (fun _ hk=>⟨hk.1.1,hk.1.2⟩)));(case aS=>exact(Qr bel));(case aL=>have:=gr.out;omega);intro nr o6 ho hb hg hat;rw[← gs.out] at ho;have g5:=Aside0.mk ho;replace HO_510000:=Aside0.mk (Kd.Kv (ok:=(fun k_=>some k_≠(σ:Value).ownBlock)) (by(with_reducible repeat first|apply Kd.Qw|apply Kd.Qv|apply Kd.Q1);exact Kd.Qz (Kd.Qu (Kd.Qu (Kd.Qu (Kd.Q6 HO_510000.out ν.out (by decide)) (fun _ hk=>hk.2) (.int .i64 ((Qc L X).f0))) (fun _ hk=>hk.2) (.int .i64 ((Qc L X).f1))) (fun _ hk=>hk.2) (.int .i64 ((Qc L X).f2))) (fun _ hk=>⟨hk.1.1,hk.1.2⟩)) hg hat);replace HO_510001:=Aside0.mk (Kd.Kv (ok:=(fun k_=>some k_≠(κ :Value).ownBlock)) (by(with_reducible repeat first|apply Kd.Qw|apply Kd.Qv|apply Kd.Q1);exact Kd.Qz (Kd.Qu (Kd.Qu (Kd.Qu (Kd.Q6 HO_510001.out ν.out (by decide)) (fun _ hk=>hk.2) (.int .i64 ((Qc L X).f0))) (fun _ hk=>hk.2) (.int .i64 ((Qc L X).f1))) (fun _ hk=>hk.2) (.int .i64 ((Qc L X).f2))) (fun _ hk=>⟨hk.1.1,hk.1.2⟩)) hg hat);replace O:=Aside0.mk (Q3 (g:=aa) (o:=.cells #[.int .i64 J,.int .i64 B] 59 (0,0)) (bka O) hg (Kd.Xb HO_510002.out O.out (by decide)));replace Z:=Aside0.mk (Q3 (g:=ci) (o:=.cells #[.slice (some dc) L.length ε,.slice ι Y.length η] 50 (0,0)) (bka Z) hg (Kd.Xb HO_510002.out Z.out (by decide)));replace γ:=Aside0.mk (Q3 (g:=bf) (o:=.cells #[.slice none 0 0,.slice none 0 0,.slice none 0 0] 34 (0,0)) (bka γ) hg (Kd.Xb HO_510002.out γ.out (by decide)));replace δ :=Aside0.mk (Q3 (g:=d5) (o:=.cells #[κ,σ,τ] 34 (0,0)) (bka δ) hg (Kd.Xb HO_510002.out δ.out (by decide)));replace ν :=Aside0.mk (Q3 (g:=dd) (o:=.cells #[.int .i64 ((Qc L X).f0),.int .i64 ((Qc L X).f1),.int .i64 ((Qc L X).f2)] 36 (0,0)) (by(with_reducible repeat first|refine Qj ?_ _|refine Qd ?_|refine Qk ?_ _);refine Qm (cs:=#[.int .i64 ((Qc L X).f0),.int .i64 ((Qc L X).f1),.int .i64 0]) ?_ 2 _ rfl;(with_reducible repeat first|refine Qj ?_ _|refine Qd ?_|refine Qk ?_ _);refine Qm (cs:=#[.int .i64 ((Qc L X).f0),.int .i64 0,.int .i64 0]) ?_ 1 _ rfl;(with_reducible repeat first|refine Qj ?_ _|refine Qd ?_|refine Qk ?_ _);refine Qm (cs:=#[.int .i64 0,.int .i64 0,.int .i64 0]) ?_ 0 _ rfl;(with_reducible repeat first|refine Qj ?_ _|refine Qd ?_|refine Qk ?_ _);exact ν.out) hg (Kd.Xb HO_510002.out ν.out (by decide)));replace HB:=Aside0.mk hb;clear HO_510002;clear ho hb hg hat;obtain⟨hx,hy,i0⟩:=Kd.Q7 g5.out;subst i0;obtain⟨kh,ki,kl,km,kn,ko⟩:=qD3 δ.out))
              go_roundg k2
              case measure=>have:=an.out;have:=e8.out;omega
              case rel=>exact⟨(wrap64 (X+1)),(ρ),(dz),(σ),(.slice hx dz.length hy),qR,H',⟨by have:=an.out;have:=e8.out;omega⟩,⟨by(with_reducible repeat first|apply Kd.Qw|apply Kd.Qv|apply Kd.Q1);exact Kd.Qz (Kd.Qu (Kd.Q6 HO_510000.out δ.out (by decide)) (fun _ hk=>hk.2) _) (fun _ hk=>⟨hk.1.1,hk.1.2⟩)⟩,⟨by(with_reducible repeat first|apply Kd.Qw|apply Kd.Qv|apply Kd.Q1);exact Kd.Qz (Kd.Qu (Kd.Q6 HO_510001.out δ.out (by decide)) (fun _ hk=>hk.2) _) (fun _ hk=>⟨hk.1.1,hk.1.2⟩)⟩,⟨by(with_reducible repeat first|apply Kd.Qw|apply Kd.Qv|apply Kd.Q1);exact Kd.Qz (Kd.Qu (Kd.Q6 g5.out δ.out (by decide)) (fun _ hk=>hk.2) _) (fun _ hk=>⟨hk.1.1,hk.1.2⟩)⟩,⟨bka O⟩,⟨bka Z⟩,⟨bka γ⟩,⟨by(with_reducible repeat first|refine Qj ?_ _|refine Qd ?_|refine Qk ?_ _);refine Qm (cs:=#[κ,σ,τ]) ?_ 2 _ rfl;(with_reducible repeat first|refine Qj ?_ _|refine Qd ?_|refine Qk ?_ _);exact δ.out⟩,⟨bel⟩⟩
             ·rw[if_neg jq] at H
              exact absurd H (by simp)
           ·rw[if_neg dh] at H
            have c56b0:(((Qc L X).f2)==a2)=false:=beq_eq_false_iff_ne.mpr dh
            have c56b1:(((Qc L X).f2) != a2)=true:=bne_iff_ne.mpr dh
            have H':=Aside0.mk H
            clear H
            have cj:0≤(X:Int):=of_decide_eq_true (by assumption)
            have ck:X<(L.length:Int):=of_decide_eq_true (by assumption)
            obtain⟨dc,dl,a1,a3,a4⟩:=Xv ψ.out X cj ck
            cases dl
            replace a1:=(HB.out.cell (World.block_lt_of_cell? w _ a1)).trans a1
            replace a3:=(HB.out.cell (World.block_lt_of_cell? w _ a3)).trans a3
            replace a4:=(HB.out.cell (World.block_lt_of_cell? w _ a4)).trans a4
            replace cj:=eq_true cj
            replace ck:=eq_true ck
            go_wp2_with (first|((with_reducible refine Qe (N:=13) rfl ?_);refine qE 13 #[.int .i64 0,.int .i64 0,.int .i64 0] 36 ?_;intro dd hg o7 hbox hb;have ν :=Aside0.mk hbox;have fx:=sGe hg;have fy:=sGe hg;have bw:=sNl O hg;have ca:=sNg O hg;have cb:=sNl Z hg;have cd:=sNg Z hg;have ce:=sNl γ hg;have cf:=sNg γ hg;have cg:=sNl δ hg;have ch:=sNg δ hg;replace HO_510000:=sRb HO_510000 hb;replace HO_510001:=sRb HO_510001 hb;replace HO_510002:=sRb HO_510002 hb;replace O:=sBk O hb;replace Z:=sBk Z hb;replace γ:=sBk γ hb;replace δ :=sBk δ hb;replace HB:=sHb hb;clear hb hbox hg;have mm:=ca.out;have mo:=bw.out;have mq:=cd.out;have mr:=cb.out;have ms:=cf.out;have mt:=ce.out;have mu:=ch.out;have mw:=cg.out;obtain⟨kx,l3,l4,l5,l6,l7⟩:=qD3 ν.out))
            go_roundg k2
            case measure=>have:=an.out;have:=e8.out;omega
            case rel=>exact⟨(wrap64 (X+1)),(ρ),(χ),(σ),(τ),qR,H',⟨by have:=an.out;have:=e8.out;omega⟩,⟨by(with_reducible repeat first|apply Kd.Qw|apply Kd.Qv|apply Kd.Q1);exact Kd.Qz (Kd.Qu (Kd.Qu (Kd.Qu (Kd.Q6 HO_510000.out ν.out (by decide)) (fun _ hk=>hk.2) (.int .i64 ((Qc L X).f0))) (fun _ hk=>hk.2) (.int .i64 ((Qc L X).f1))) (fun _ hk=>hk.2) (.int .i64 ((Qc L X).f2))) (fun _ hk=>⟨hk.1.1,hk.1.2⟩)⟩,⟨by(with_reducible repeat first|apply Kd.Qw|apply Kd.Qv|apply Kd.Q1);exact Kd.Qz (Kd.Qu (Kd.Qu (Kd.Qu (Kd.Q6 HO_510001.out ν.out (by decide)) (fun _ hk=>hk.2) (.int .i64 ((Qc L X).f0))) (fun _ hk=>hk.2) (.int .i64 ((Qc L X).f1))) (fun _ hk=>hk.2) (.int .i64 ((Qc L X).f2))) (fun _ hk=>⟨hk.1.1,hk.1.2⟩)⟩,⟨by(with_reducible repeat first|apply Kd.Qw|apply Kd.Qv|apply Kd.Q1);exact Kd.Qz (Kd.Qu (Kd.Qu (Kd.Qu (Kd.Q6 HO_510002.out ν.out (by decide)) (fun _ hk=>hk.2) (.int .i64 ((Qc L X).f0))) (fun _ hk=>hk.2) (.int .i64 ((Qc L X).f1))) (fun _ hk=>hk.2) (.int .i64 ((Qc L X).f2))) (fun _ hk=>⟨hk.1.1,hk.1.2⟩)⟩,⟨bka O⟩,⟨bka Z⟩,⟨bka γ⟩,⟨bka δ⟩,⟨bel⟩⟩
          ·rw[if_neg fw] at H
           exact absurd H (by simp)
         ·rw[if_neg jp] at H
          exact absurd H (by simp)
        ·rw[if_neg i3] at H
         have c53b0:decide (X<(L.length:Int))=false:=decide_eq_false i3
         clear i3
         simp only[Option.some.injEq,Prod.mk.injEq] at H
         obtain⟨rfl,rfl,rfl,rfl⟩:=H
         have my:=bs.out
         have nh:=bp.out
         have ni:=bm.out
         have nj:=bl.out
         have nf:=bv.out
         have ng:=bu.out
         obtain⟨lb,lc,lf,lg,lh,ll⟩:=qD3 δ.out
         obtain⟨ee,ef,i1⟩:=Kd.Q7 HO_510000.out
         subst i1
         have nk:=bk.out
         have nl:=bj.out
         have nm:=a8.out
         have nn:=a5.out
         obtain⟨lm,ln,lp,lq,lr,ls⟩:=qD3 γ.out
         obtain⟨g6,g8,gt⟩:=Kd.Q7 HO_510001.out
         subst gt
         obtain⟨gu,gv,h0⟩:=Kd.Q7 HO_510002.out
         subst h0
         go_wp2
         refine bodyPost_ret (Z3 rfl _ _ bf 34 #[.slice ee μ.length ef,.slice g6 ρ.length g8,.slice gu χ.length gv] (0,0) _ rfl (by refine Qm (cs:=#[.slice ee μ.length ef,.slice g6 ρ.length g8,.slice none 0 0]) ?_ 2 _ rfl;refine Qm (cs:=#[.slice ee μ.length ef,.slice none 0 0,.slice none 0 0]) ?_ 1 _ rfl;refine Qm (cs:=#[.slice none 0 0,.slice none 0 0,.slice none 0 0]) ?_ 0 _ rfl;exact γ.out) Try.underlying34 rfl kr) rfl ?_
         exact⟨_,_,_,by first|rfl|(simp[Qh,Qg] <;> rfl)|(simp[*,Qh,Qg] <;> rfl),by(with_reducible repeat first|apply Kd.Qw|apply Kd.Qv|apply Kd.Q1);exact Kd.Qz (Kd.Qu (Kd.Qu (Kd.Qu (Kd.Q6 HO_510000.out γ.out (by decide)) (fun _ hk=>hk.2) _) (fun _ hk=>hk.2) _) (fun _ hk=>hk.2) _) (fun _ hk=>⟨hk.1.1,hk.1.2⟩),by(with_reducible repeat first|apply Kd.Qw|apply Kd.Qv|apply Kd.Q1);exact Kd.Qz (Kd.Qu (Kd.Qu (Kd.Qu (Kd.Q6 HO_510001.out γ.out (by decide)) (fun _ hk=>hk.2) _) (fun _ hk=>hk.2) _) (fun _ hk=>hk.2) _) (fun _ hk=>⟨hk.1.1,hk.1.2⟩),by(with_reducible repeat first|apply Kd.Qw|apply Kd.Qv|apply Kd.Q1);exact Kd.Qz (Kd.Qu (Kd.Qu (Kd.Qu (Kd.Q6 HO_510002.out γ.out (by decide)) (fun _ hk=>hk.2) _) (fun _ hk=>hk.2) _) (fun _ hk=>hk.2) _) (fun _ hk=>⟨hk.1.1,hk.1.2⟩),bel⟩
  ·replace c7:=Bool.eq_false_iff.mpr c7
   subst c7
   have H1:(some (([]:List Int),([]:List Int),([]:List Int),191))=some (r1,r2,r3,r4):=by rw[if_neg (show ¬ (false=true) by decide)] at H;exact H
   clear H
   have H:=H1
   clear H1
   simp only[Option.some.injEq,Prod.mk.injEq] at H
   obtain⟨rfl,rfl,rfl,rfl⟩:=H
   go_enter Try.func24,Try.ntmps24
   go_wp2_with (first|((with_reducible refine Qe (N:=3) rfl ?_);refine qE 3 #[.int .i64 J,.int .i64 B] 59 ?_;intro aa hg ns hbox hb;have O:=Aside0.mk hbox;have ei:=sGe hg;have ej:=sGe hg;replace HB:=sHb hb;clear hb hbox hg)|((with_reducible refine Qe (N:=4) rfl ?_);refine qE 4 #[.slice θ L.length ε,.slice ι Y.length η] 50 ?_;intro ci hg nt hbox hb;have Z:=Aside0.mk hbox;have el:=sGe hg;have em:=sGe hg;have bh:=sNl O hg;have bi:=sNg O hg;replace O:=sBk O hb;replace HB:=sHb hb;clear hb hbox hg)|((with_reducible refine Qe (N:=6) rfl ?_);refine qE 6 #[.slice none 0 0,.slice none 0 0,.slice none 0 0] 34 ?_;intro bf hg nu hbox hb;have γ:=Aside0.mk hbox;have fc:=sGe hg;have fq:=sGe hg;have bj:=sNl O hg;have bk:=sNg O hg;have a5:=sNl Z hg;have a8:=sNg Z hg;replace O:=sBk O hb;replace Z:=sBk Z hb;replace HB:=sHb hb;clear hb hbox hg;have m2:=bh.out;have m3:=bi.out;have m4:=bj.out;have m5:=bk.out;obtain⟨i2,i4,i5,i6⟩:=qD2 O.out;have m6:=a5.out;have m7:=a8.out;obtain⟨i7,i9,ia,ie⟩:=qD2 Z.out)|((with_reducible refine Ql (f:=40) rfl ?_);refine Q2 (some 16) rfl rfl Try.func40 kr rfl #[.agg #[.int .i64 J,.int .i64 B],.agg #[.slice θ L.length ε,.slice ι Y.length η]] rfl qM ?_;(with_reducible refine(call_Check.calls k J B _ _ L _ _ Y b3 _ ?side1 ?side2 ?side3 ?side4 A4.out).mono ?_);(case side1=>exact(Kd.Qt ψ.out HB.out));(case side2=>exact b1.out);(case side3=>exact(Kd.Qt a0.out HB.out));(case side4=>exact b2.out);rintro e cn ⟨rfl,hb⟩;refine⟨_,rfl, ?_⟩;replace O:=sBk O hb;replace Z:=sBk Z hb;replace γ:=sBk γ hb;replace HB:=sHb hb;(try clear hb);(try clear a9);(try clear hk);(try clear hi);obtain⟨iw,ix,iy,iz⟩:=qD2 O.out)|((with_reducible refine Ql (f:=44) rfl ?_);refine Q2 (some 25) rfl rfl Try.func44 kr rfl #[.int .i64 a2,.int .i64 0,.int .i64 (wrap64 (B-1))] rfl qM ?_;(with_reducible refine(call_within.calls a2 0 (wrap64 (B-1)) false _ A6.out).mono ?_);rintro e w' ⟨rfl,⟨nd,rfl⟩⟩;refine⟨_,rfl, ?_⟩;(try(rw[Yf cn];generalize hq_:World.drewN cn _=cn;have ξ :Aside0 (cn.heap[aa]?=some (.cells #[.int .i64 J,.int .i64 B] 59 (0,0))):=⟨by rw[← hq_];exact O.out⟩;have φ :Aside0 (cn.heap[ci]?=some (.cells #[.slice θ L.length ε,.slice ι Y.length η] 50 (0,0))):=⟨by rw[← hq_];exact Z.out⟩;have ω :Aside0 (cn.heap[bf]?=some (.cells #[.slice none 0 0,.slice none 0 0,.slice none 0 0] 34 (0,0))):=⟨by rw[← hq_];exact γ.out⟩;have a7:Aside0 (Below w.heap.size w cn):=⟨by rw[← hq_];exact HB.out⟩;clear O Z γ HB hq_;have O:= ξ;have Z:= φ;have γ:= ω;have HB:=a7;clear ξ φ ω a7));(try(have jw:cn.cell? ⟨aa,0,none⟩=some (.int .i64 J):=(Qa O.out 0).trans rfl));(try(have jx:cn.cell? ⟨aa,1,none⟩=some (.int .i64 B):=(Qa O.out 1).trans rfl));(try(have jy:=Qq O.out 0));(try(have jz:=Qq O.out 1));obtain⟨j2,j3,ja,jb,jc,jd⟩:=qD3 γ.out))
   refine bodyPost_ret (Z3 rfl _ _ bf 34 #[.slice none 0 0,.slice none 0 0,.slice none 0 0] (0,0) _ rfl (by refine Qm (cs:=#[.slice none 0 0,.slice none 0 0,.slice none 0 0]) ?_ 2 _ rfl;refine Qm (cs:=#[.slice none 0 0,.slice none 0 0,.slice none 0 0]) ?_ 1 _ rfl;refine Qm (cs:=#[.slice none 0 0,.slice none 0 0,.slice none 0 0]) ?_ 0 _ rfl;exact γ.out) Try.underlying34 rfl kr) rfl ?_
   exact⟨_,_,_,by first|rfl|(simp[Qh,Qg] <;> rfl)|(simp[*,Qh,Qg] <;> rfl),by first|exact Kd.Xs _ _ _ _ _|exact Kd.Ym _ _ _ _ _|exact Kd.Yi _ _ _ _ _|exact Kd.Yl _ _ _ _ _|exact Kd.Yj _ _ _ _ _,by first|exact Kd.Xs _ _ _ _ _|exact Kd.Ym _ _ _ _ _|exact Kd.Yi _ _ _ _ _|exact Kd.Yl _ _ _ _ _|exact Kd.Yj _ _ _ _ _,by first|exact Kd.Xs _ _ _ _ _|exact Kd.Ym _ _ _ _ _|exact Kd.Yi _ _ _ _ _|exact Kd.Yl _ _ _ _ _|exact Kd.Yj _ _ _ _ _,bel⟩
 ·rw[if_neg c5] at H
  have c5b0:(b3==0)=false:=beq_eq_false_iff_ne.mpr c5
  have c5b1:(b3 != 0)=true:=bne_iff_ne.mpr c5
  simp only[Option.some.injEq,Prod.mk.injEq] at H
  obtain⟨rfl,rfl,rfl,rfl⟩:=H
  go_enter Try.func24,Try.ntmps24
  go_wp2_with (first|((with_reducible refine Qe (N:=3) rfl ?_);refine qE 3 #[.int .i64 J,.int .i64 B] 59 ?_;intro aa hg nw hbox hb;have O:=Aside0.mk hbox;have ei:=sGe hg;have ej:=sGe hg;replace HB:=sHb hb;clear hb hbox hg)|((with_reducible refine Qe (N:=4) rfl ?_);refine qE 4 #[.slice θ L.length ε,.slice ι Y.length η] 50 ?_;intro ci hg nx hbox hb;have Z:=Aside0.mk hbox;have el:=sGe hg;have em:=sGe hg;have bh:=sNl O hg;have bi:=sNg O hg;replace O:=sBk O hb;replace HB:=sHb hb;clear hb hbox hg)|((with_reducible refine Qe (N:=6) rfl ?_);refine qE 6 #[.slice none 0 0,.slice none 0 0,.slice none 0 0] 34 ?_;intro bf hg ny hbox hb;have γ:=Aside0.mk hbox;have fc:=sGe hg;have fq:=sGe hg;have bj:=sNl O hg;have bk:=sNg O hg;have a5:=sNl Z hg;have a8:=sNg Z hg;replace O:=sBk O hb;replace Z:=sBk Z hb;replace HB:=sHb hb;clear hb hbox hg;have lw:=bh.out;have lx:=bi.out;have ly:=bj.out;have lz:=bk.out;obtain⟨k0,k3,k4,k5⟩:=qD2 O.out;have m0:=a5.out;have m1:=a8.out;obtain⟨je,kc,kd,ke⟩:=qD2 Z.out)|((with_reducible refine Ql (f:=40) rfl ?_);refine Q2 (some 16) rfl rfl Try.func40 kr rfl #[.agg #[.int .i64 J,.int .i64 B],.agg #[.slice θ L.length ε,.slice ι Y.length η]] rfl qM ?_;(with_reducible refine(call_Check.calls k J B _ _ L _ _ Y b3 _ ?side1 ?side2 ?side3 ?side4 A4.out).mono ?_);(case side1=>exact(Kd.Qt ψ.out HB.out));(case side2=>exact b1.out);(case side3=>exact(Kd.Qt a0.out HB.out));(case side4=>exact b2.out);rintro e nz ⟨rfl,hb⟩;refine⟨_,rfl, ?_⟩;replace O:=sBk O hb;replace Z:=sBk Z hb;replace γ:=sBk γ hb;replace HB:=sHb hb;(try clear hb);(try clear a9);(try clear hk);(try clear hi);obtain⟨k6,k7,kf,k8,k9,kg⟩:=qD3 γ.out))
  refine bodyPost_ret (Z3 rfl _ _ bf 34 #[.slice none 0 0,.slice none 0 0,.slice none 0 0] (0,0) _ rfl (by refine Qm (cs:=#[.slice none 0 0,.slice none 0 0,.slice none 0 0]) ?_ 2 _ rfl;refine Qm (cs:=#[.slice none 0 0,.slice none 0 0,.slice none 0 0]) ?_ 1 _ rfl;refine Qm (cs:=#[.slice none 0 0,.slice none 0 0,.slice none 0 0]) ?_ 0 _ rfl;exact γ.out) Try.underlying34 rfl kr) rfl ?_
  exact⟨_,_,_,by first|rfl|(simp[Qh,Qg] <;> rfl)|(simp[*,Qh,Qg] <;> rfl),by first|exact Kd.Xs _ _ _ _ _|exact Kd.Ym _ _ _ _ _|exact Kd.Yi _ _ _ _ _|exact Kd.Yl _ _ _ _ _|exact Kd.Yj _ _ _ _ _,by first|exact Kd.Xs _ _ _ _ _|exact Kd.Ym _ _ _ _ _|exact Kd.Yi _ _ _ _ _|exact Kd.Yl _ _ _ _ _|exact Kd.Yj _ _ _ _ _,by first|exact Kd.Xs _ _ _ _ _|exact Kd.Ym _ _ _ _ _|exact Kd.Yi _ _ _ _ _|exact Kd.Yl _ _ _ _ _|exact Kd.Yj _ _ _ _ _,bel⟩
def group_pick_1.f (k:Nat) (B:Int) (Z:Int) (Y:Int) (ε :Int) (κ :Int) (ι :Int) (μ :Int) (ν :Int) (χ :Int) (ψ :Int) (a1:Int) (l2:List (S31)) (τ :List (S36)) (ρ:List (S86)) (a8:Int) (aa:Int) (ab:Int):Option (Int):=(group_house.f Z Y ε κ ι μ ν χ ψ a1 l2).bind fun di=>((call_View.f k di.1 di.2 τ ρ B).bind fun bg=>(if 0≤B then (if B<(l2.length:Int) then ((group_cost.f k Z Y ε κ ι μ ν χ ψ a1 ((Qb l2 B).f0.f0) ((Qb l2 B).f0.f1) ((Qb l2 B).f0.f2) ((Qb l2 B).f0.f3) ((Qb l2 B).f0.f4.f0) ((Qb l2 B).f0.f4.f1) ((Qb l2 B).f0.f4.f2) ((Qb l2 B).f1) ((Qb l2 B).f2) ((Qb l2 B).f3) bg.1 bg.2.1 bg.2.2.1 a8 aa ab).bind fun bl=>(some bl)) else (none)) else (none)))
theorem group_pick_1.mono:∀ B O a2 a3 L a5 X a7 a8 a9 Y Z γ ε δ ζ η k,LeO (group_pick_1.f k B O a2 a3 L a5 X a7 a8 a9 Y Z γ ε δ ζ η) (group_pick_1.f (k+1) B O a2 a3 L a5 X a7 a8 a9 Y Z γ ε δ ζ η):=by
 intro B O a2 a3 L a5 X a7 a8 a9 Y Z γ ε δ ζ η k
 unfold group_pick_1.f
 repeat' first
   |(with_reducible exact call_View.mono _ _ _ _ _ _)
   |(with_reducible exact group_cost.mono _ _ _ _ _ _ _ _ _ _ _ _ _ _ _ _ _ _ _ _ _ _ _ _ _ _ _)
   |(with_reducible exact LeO.refl _)
   |(with_reducible exact LeO.none _)
   |(with_reducible refine LeO.ite ?_ ?_)
   |(with_reducible refine LeO.bind ?_ (fun _=>?_))
   |exact call_View.mono _ _ _ _ _ _
   |exact group_cost.mono _ _ _ _ _ _ _ _ _ _ _ _ _ _ _ _ _ _ _ _ _ _ _ _ _ _ _
   |exact LeO.none _
   |refine LeO.ite ?_ ?_
   |refine LeO.bind ?_ (fun _=>?_)
def group_pick_1.T1:Bool×List (List Nat×List Nat):=(true,[([],[]),([],[]),([0,1],[0,1]),([],[]),([],[]),([2,3,4,2],[2,3,4]),([5],[5]),([6],[6]),([6],[6]),([],[]),([9,7,5,0,1,2,3,4,5,6,7,9],[7,9]),([8,10,0,1,2,3,4,5,6,7,8,9,10],[8])])
def group_pick_1.B1:List Nat:=[0,0,3,0,0,31,63,127,127,0,767,2047]
theorem group_pick_1.Kq:rtab .any (opsOf Try.f58 1)=group_pick_1.T1:=by kernel_rfl
theorem group_pick_1.Y6:Zs group_pick_1.T1.2 group_pick_1.B1=true:=by kernel_rfl
def group_pick_1.T2:Bool×List (List Nat×List Nat):=(true,[([],[]),([],[]),([],[]),([1,2],[1,2]),([3],[3]),([],[]),([],[]),([0,4,5,6],[0,4,5,6]),([7,7,0,1,2,3,4,5,6,7],[7])])
def group_pick_1.B2:List Nat:=[0,0,0,6,14,0,0,127,255]
theorem group_pick_1.tab2:rtab .any (opsOf Try.f58 2)=group_pick_1.T2:=by kernel_rfl
theorem group_pick_1.bits2:Zs group_pick_1.T2.2 group_pick_1.B2=true:=by kernel_rfl
set_option maxHeartbeats 8000000 in
set_option maxRecDepth 100000 in
theorem group_pick_1.calls (k:Nat) (B:Int) (Z:Int) (Y:Int) (ε :Int) (κ :Int) (ι :Int) (μ :Int) (ν :Int) (χ :Int) (ψ :Int) (a1:Int) (A2:Option Addr) (c2:Nat) (l2:List (S31)) (a3:Option Addr) (a4:Nat) (τ :List (S36)) (a5:Option Addr) (a6:Nat) (ρ:List (S86)) (a8:Int) (aa:Int) (ab:Int) (r:Int) (w:World) (eh:Kd.C k31 w A2 l2.length l2) (e3:l2.length≤c2) (dn:Kd.C k36 w a3 τ.length τ) (dp: τ.length≤a4) (dq:Kd.C k86 w a5 ρ.length ρ) (dr:ρ.length≤a6) (h:group_pick_1.f k B Z Y ε κ ι μ ν χ ψ a1 l2 τ ρ a8 aa ab=some r) (γ:Nat) (bb:Nat) (ay:Nat) (be:Nat) (dk:w.heap[γ]?=some (.cells #[.int .i64 Z,.int .i64 Y,.int .i64 ε,.int .i64 κ,.int .i64 ι,.int .i64 μ,.int .i64 ν,.int .i64 χ,.int .i64 ψ,.int .i64 a1] 25 (0,0))) (dv:w.heap[bb]?=some (.cells #[.slice A2 l2.length c2] 46 (0,0))) (dx:w.heap[ay]?=some (.cells #[.slice a3 τ.length a4,.slice a5 ρ.length a6] 50 (0,0))) (dy:w.heap[be]?=some (.cells #[.int .i64 a8,.int .i64 aa,.int .i64 ab] 36 (0,0))):
  Calls Try.prog 58 #[.int .i64 B,.pointer (some ⟨γ,0,none⟩),.pointer (some ⟨bb,0,none⟩),.pointer (some ⟨ay,0,none⟩),.pointer (some ⟨be,0,none⟩)] w fun e w'=>e = .returned (.int .i64 r)∧Below w.heap.size w w':=by
 have J:=Aside0.mk dk
 clear dk
 have δ :=Aside0.mk dv
 clear dv
 have X:=Aside0.mk dx
 clear dx
 have ζ :=Aside0.mk dy
 clear dy
 have db:=Try.underlying25
 have fe:=Try.underlying50
 have d9:=Try.underlying36
 have dt:=Try.underlying34
 have fc:=Try.underlying31
 have e4:=Aside0.mk eh
 have dw:=Aside0.mk e3
 clear eh e3
 have bk:=Aside0.mk dn
 have cd:=Aside0.mk dp
 clear dn dp
 have bz:=Aside0.mk dq
 have ce:=Aside0.mk dr
 clear dq dr
 have HB:=Aside0.mk (Below.refl w.heap.size w)
 have H:((group_house.f Z Y ε κ ι μ ν χ ψ a1 l2).bind fun di=>((call_View.f k di.1 di.2 τ ρ B).bind fun bg=>(if 0≤B then (if B<(l2.length:Int) then ((group_cost.f k Z Y ε κ ι μ ν χ ψ a1 ((Qb l2 B).f0.f0) ((Qb l2 B).f0.f1) ((Qb l2 B).f0.f2) ((Qb l2 B).f0.f3) ((Qb l2 B).f0.f4.f0) ((Qb l2 B).f0.f4.f1) ((Qb l2 B).f0.f4.f2) ((Qb l2 B).f1) ((Qb l2 B).f2) ((Qb l2 B).f3) bg.1 bg.2.1 bg.2.2.1 a8 aa ab).bind fun bl=>(some bl)) else (none)) else (none))))=some r:=h
 clear h
 replace H:=Option.bind_eq_some_iff.mp H
 obtain⟨⟨bm,bn⟩,ao,H⟩:=H
 replace H:((call_View.f k bm bn τ ρ B).bind fun bg=>(if 0≤B then (if B<(l2.length:Int) then ((group_cost.f k Z Y ε κ ι μ ν χ ψ a1 ((Qb l2 B).f0.f0) ((Qb l2 B).f0.f1) ((Qb l2 B).f0.f2) ((Qb l2 B).f0.f3) ((Qb l2 B).f0.f4.f0) ((Qb l2 B).f0.f4.f1) ((Qb l2 B).f0.f4.f2) ((Qb l2 B).f1) ((Qb l2 B).f2) ((Qb l2 B).f3) bg.1 bg.2.1 bg.2.2.1 a8 aa ab).bind fun bl=>(some bl)) else (none)) else (none)))=some r:=H
 have A6:=Aside0.mk ao
 clear ao
 replace H:=Option.bind_eq_some_iff.mp H
 obtain⟨⟨ac,af,ag,dj⟩,cw,H⟩:=H
 replace H:(if 0≤B then (if B<(l2.length:Int) then ((group_cost.f k Z Y ε κ ι μ ν χ ψ a1 ((Qb l2 B).f0.f0) ((Qb l2 B).f0.f1) ((Qb l2 B).f0.f2) ((Qb l2 B).f0.f3) ((Qb l2 B).f0.f4.f0) ((Qb l2 B).f0.f4.f1) ((Qb l2 B).f0.f4.f2) ((Qb l2 B).f1) ((Qb l2 B).f2) ((Qb l2 B).f3) ac af ag a8 aa ab).bind fun bl=>(some bl)) else (none)) else (none))=some r:=H
 have A7:=Aside0.mk cw
 clear cw
 by_cases c8:0≤B
 ·rw[if_pos c8] at H
  have c8b0:decide (0≤B)=true:=decide_eq_true c8
  clear c8
  by_cases c9:B<(l2.length:Int)
  ·rw[if_pos c9] at H
   have c9b0:decide (B<(l2.length:Int))=true:=decide_eq_true c9
   clear c9
   replace H:=Option.bind_eq_some_iff.mp H
   obtain⟨bl,d1,H⟩:=H
   replace H:(some bl)=some r:=H
   have dl:=Aside0.mk d1
   clear d1
   obtain rfl:=Option.some.inj H
   go_enter Try.func58,Try.ntmps58
   try go_wp2
   replace J:=Aside0.mk (Qd J.out)
   replace δ :=Aside0.mk (Qd δ.out)
   replace X:=Aside0.mk (Qd X.out)
   replace ζ :=Aside0.mk (Qd ζ.out)
   replace HB:=Aside0.mk (Qf HB.out)
   refine Zn (n:=12) (S:=fun w'=>w'.cell? ⟨γ,0,none⟩=some (.int .i64 Z)∧w'.cell? ⟨γ,1,none⟩=some (.int .i64 Y)∧w'.cell? ⟨γ,2,none⟩=some (.int .i64 ε)∧w'.cell? ⟨γ,3,none⟩=some (.int .i64 κ)∧w'.cell? ⟨γ,4,none⟩=some (.int .i64 ι)∧w'.cell? ⟨γ,5,none⟩=some (.int .i64 μ)∧w'.cell? ⟨γ,6,none⟩=some (.int .i64 ν)∧w'.cell? ⟨γ,7,none⟩=some (.int .i64 χ)∧w'.cell? ⟨γ,8,none⟩=some (.int .i64 ψ)∧w'.cell? ⟨γ,9,none⟩=some (.int .i64 a1)∧w'.cell? ⟨bb,0,none⟩=some (.slice A2 l2.length c2)∧w'.cell? ⟨ay,0,none⟩=some (.slice a3 τ.length a4)∧w'.cell? ⟨ay,1,none⟩=some (.slice a5 ρ.length a6)) (ds:=[]) #[false,false,false,false,false,false,false,false,false,false,false,false] kr rfl rfl ⟨(Qa J.out 0).trans rfl,(Qa J.out 1).trans rfl,(Qa J.out 2).trans rfl,(Qa J.out 3).trans rfl,(Qa J.out 4).trans rfl,(Qa J.out 5).trans rfl,(Qa J.out 6).trans rfl,(Qa J.out 7).trans rfl,(Qa J.out 8).trans rfl,(Qa J.out 9).trans rfl,(Qa δ.out 0).trans rfl,(Qa X.out 0).trans rfl,(Qa X.out 1).trans rfl⟩ (fun hHeld=>?_);refine Q8 group_pick_1.Kq group_pick_1.Y6 (fun HT_ HW_=>?_)
   generalize w.drew=gs at J δ X ζ HB hHeld ⊢
   refine qP 4 (some 14) (bN 12 16) HT_ ?_
   refine qT 0 (some 10) (bN 12 17) HT_ HW_ hHeld ?_
   refine qT 1 (some 11) (bN 12 19) HT_ HW_ hHeld ?_
   refine qT 3 (some 13) (bN 12 27) HT_ HW_ hHeld ?_
   refine Ys (σ:=Value×Value×Value×Nat) 2 (bN 12 1023) (fun s_=>[(12,.agg #[.int .i64 bm,.int .i64 bn]),(15,.tuple #[.agg #[s_.1,s_.2.1,s_.2.2.1],.int .i64 dj]),(7,.pointer (some ⟨s_.2.2.2,0,none⟩)),(9,.tuple #[.agg #[s_.1,s_.2.1,s_.2.2.1],.int .i64 dj]),(16,.agg #[s_.1,s_.2.1,s_.2.2.1]),(17,.int .i64 dj)]) (fun s_ w'=>(w'.cell? ⟨γ,0,none⟩=some (.int .i64 Z)∧w'.cell? ⟨γ,1,none⟩=some (.int .i64 Y)∧w'.cell? ⟨γ,2,none⟩=some (.int .i64 ε)∧w'.cell? ⟨γ,3,none⟩=some (.int .i64 κ)∧w'.cell? ⟨γ,4,none⟩=some (.int .i64 ι)∧w'.cell? ⟨γ,5,none⟩=some (.int .i64 μ)∧w'.cell? ⟨γ,6,none⟩=some (.int .i64 ν)∧w'.cell? ⟨γ,7,none⟩=some (.int .i64 χ)∧w'.cell? ⟨γ,8,none⟩=some (.int .i64 ψ)∧w'.cell? ⟨γ,9,none⟩=some (.int .i64 a1)∧w'.cell? ⟨bb,0,none⟩=some (.slice A2 l2.length c2)∧w'.cell? ⟨ay,0,none⟩=some (.slice a3 τ.length a4)∧w'.cell? ⟨ay,1,none⟩=some (.slice a5 ρ.length a6))∧(Kd.R (Kd.int .i64) 3 w' w.heap.size (fun k_=>some k_≠(s_.2.1:Value).ownBlock∧some k_≠(s_.2.2.1:Value).ownBlock) s_.1 ac)∧(Kd.R (Kd.int .i64) 3 w' w.heap.size (fun k_=>some k_≠(s_.1:Value).ownBlock∧some k_≠(s_.2.2.1:Value).ownBlock) s_.2.1 af)∧(Kd.R (Kd.int .i64) 3 w' w.heap.size (fun k_=>some k_≠(s_.1:Value).ownBlock∧some k_≠(s_.2.1:Value).ownBlock) s_.2.2.1 ag)∧(w'.heap[γ]?=some (.cells #[.int .i64 Z,.int .i64 Y,.int .i64 ε,.int .i64 κ,.int .i64 ι,.int .i64 μ,.int .i64 ν,.int .i64 χ,.int .i64 ψ,.int .i64 a1] 25 (0,0)))∧(w'.heap[bb]?=some (.cells #[.slice A2 l2.length c2] 46 (0,0)))∧(w'.heap[ay]?=some (.cells #[.slice a3 τ.length a4,.slice a5 ρ.length a6] 50 (0,0)))∧(w'.heap[be]?=some (.cells #[.int .i64 a8,.int .i64 aa,.int .i64 ab] 36 (0,0)))∧(w'.heap[s_.2.2.2]?=some (.cells #[.slice none 0 0,.slice none 0 0,.slice none 0 0] 34 (0,0)))∧(w.heap.size≤s_.2.2.2)∧(w.heap.size≤s_.2.2.2)∧(γ≠s_.2.2.2)∧(s_.2.2.2≠γ)∧(bb≠s_.2.2.2)∧(s_.2.2.2≠bb)∧(ay≠s_.2.2.2)∧(s_.2.2.2≠ay)∧(be≠s_.2.2.2)∧(s_.2.2.2≠be)∧(Below w.heap.size w w')) ?_ ?_
   rotate_left
   ·intro hCont
    refine Vz (i:=2) (j:=9) (Ni:=some 12) (Nj:=some 7) (bN 12 31) (bN 12 539) rfl rfl rfl rfl (Y7 HT_.out kr) (by decide) (by decide) (fun K hK=>?_) (fun K hK=>?_)
    ·skip
     refine Zd Try.func37 kr rfl #[.agg #[.int .i64 Z,.int .i64 Y,.int .i64 ε,.int .i64 κ,.int .i64 ι,.int .i64 μ,.int .i64 ν,.int .i64 χ,.int .i64 ψ,.int .i64 a1],.slice A2 l2.length c2] (by rfl) rfl rfl qM ?_
     with_reducible refine(group_house.calls Z Y ε κ ι μ ν χ ψ a1 _ _ l2 bm bn _ ?side1 ?side2 A6.out).mono ?_
     (case side1=>exact(Kd.Qt e4.out HB.out))
     (case side2=>exact dw.out)
     rintro e de ⟨rfl,hb⟩
     refine⟨_,rfl, ?_⟩
     replace J:=sBk J hb
     replace δ :=sBk δ hb
     replace X:=sBk X hb
     replace ζ :=sBk ζ hb
     replace HB:=sHb hb
     (try clear hb)
     (try clear a9)
     (try clear hk)
     (try clear hi)
     refine hK.out _ _ ⟨qc J,qc J,qc J,qc J,qc J,qc J,qc J,qc J,qc J,qc J,qc δ,qc X,qc X⟩ (fun hHeld=>?_)
     clear hK K
     refine qN (some 12) ?_
     refine Vz (i:=5) (j:=9) (Ni:=some 15) (Nj:=some 7) (bN 12 63) (bN 12 543) rfl rfl rfl rfl (Y7 HT_.out kr) (by decide) (by decide) (fun K hK=>?_) (fun K hK=>?_)
     ·skip
      refine Zd Try.func24 kr rfl #[.agg #[.int .i64 bm,.int .i64 bn],.agg #[.slice a3 τ.length a4,.slice a5 ρ.length a6],.int .i64 B] (by rfl) rfl rfl qM ?_
      with_reducible refine(call_View.calls k bm bn _ _ τ _ _ ρ B ac af ag dj _ ?side1 ?side2 ?side3 ?side4 A7.out).mono ?_
      (case side1=>exact(Kd.Qt bk.out HB.out))
      (case side2=>exact cd.out)
      (case side3=>exact(Kd.Qt bz.out HB.out))
      (case side4=>exact ce.out)
      rintro e du ⟨cx,cy,cz,rfl,ai,b3,d0,hb⟩
      refine⟨_,rfl, ?_⟩
      have aj:=Aside0.mk (Kd.Q9 ai (Qr HB.out))
      have ak:=Aside0.mk (Kd.Q9 b3 (Qr HB.out))
      have al:=Aside0.mk (Kd.Q9 d0 (Qr HB.out))
      replace J:=sBk J hb
      replace δ :=sBk δ hb
      replace X:=sBk X hb
      replace ζ :=sBk ζ hb
      replace HB:=sHb hb
      (try clear hb)
      (try clear a9)
      (try clear hk)
      (try clear hi)
      (try clear ai)
      (try clear b3)
      (try clear d0)
      refine hK.out _ _ ⟨qc J,qc J,qc J,qc J,qc J,qc J,qc J,qc J,qc J,qc J,qc δ,qc X,qc X⟩ (fun hHeld=>?_)
      clear hK K
      refine qN (some 15) ?_
      refine qP 6 (some 9) (bN 12 127) HT_ ?_
      refine qP 7 (some 16) (bN 12 255) HT_ ?_
      refine qP 8 (some 17) (bN 12 511) HT_ ?_
      refine Ze (i:=9) (N:=some 7) (bN 12 1023) rfl rfl (Q5 HT_.out kr) (by decide) (fun K hK=>?_)
      refine Xr ?hg (N:=7) ?hd (cs:=#[.slice none 0 0,.slice none 0 0,.slice none 0 0]) (t:=34) ?hr ?_;(case hd=>rfl);(case hg=>rfl);(case hr=>go_simp <;> rfl)
      intro L hg h7 hbox hb
      have η :=Aside0.mk hbox
      have d2:=sGe hg
      have d3:=sGe hg
      have O:=sNl J hg
      have am:=sNg J hg
      have a2:=sNl δ hg
      have an:=sNg δ hg
      have θ :=sNl X hg
      have ap:=sNg X hg
      have au:=sNl ζ hg
      have av:=sNg ζ hg
      replace aj:=sRb aj hb
      replace ak:=sRb ak hb
      replace al:=sRb al hb
      replace J:=sBk J hb
      replace δ :=sBk δ hb
      replace X:=sBk X hb
      replace ζ :=sBk ζ hb
      replace HB:=sHb hb
      clear hb hbox hg
      refine hK.out _ _ ⟨qc J,qc J,qc J,qc J,qc J,qc J,qc J,qc J,qc J,qc J,qc δ,qc X,qc X⟩ (fun hHeld=>?_)
      clear hK K
      refine qN (some 7) ?_
      exact Zp (by simp only[Q4,Act.put,qS]) (hCont (cx,cy,cz,L) _ ⟨hHeld,aj.out,ak.out,al.out,J.out,δ.out,X.out,ζ.out,η.out,d2.out,d3.out,O.out,am.out,a2.out,an.out,θ.out,ap.out,au.out,av.out,HB.out⟩)
     ·skip
      refine Xr ?hg (N:=7) ?hd (cs:=#[.slice none 0 0,.slice none 0 0,.slice none 0 0]) (t:=34) ?hr ?_;(case hd=>rfl);(case hg=>rfl);(case hr=>go_simp <;> rfl)
      intro L hg du hbox hb
      have η :=Aside0.mk hbox
      have d2:=sGe hg
      have d3:=sGe hg
      have O:=sNl J hg
      have am:=sNg J hg
      have a2:=sNl δ hg
      have an:=sNg δ hg
      have θ :=sNl X hg
      have ap:=sNg X hg
      have au:=sNl ζ hg
      have av:=sNg ζ hg
      replace J:=sBk J hb
      replace δ :=sBk δ hb
      replace X:=sBk X hb
      replace ζ :=sBk ζ hb
      replace HB:=sHb hb
      clear hb hbox hg
      refine hK.out _ _ ⟨qc J,qc J,qc J,qc J,qc J,qc J,qc J,qc J,qc J,qc J,qc δ,qc X,qc X⟩ (fun hHeld=>?_)
      clear hK K
      refine qN (some 7) ?_
      refine Ze (i:=5) (N:=some 15) (bN 12 575) rfl rfl (Q5 HT_.out kr) (by decide) (fun K hK=>?_)
      refine Zd Try.func24 kr rfl #[.agg #[.int .i64 bm,.int .i64 bn],.agg #[.slice a3 τ.length a4,.slice a5 ρ.length a6],.int .i64 B] (by rfl) rfl rfl qM ?_
      with_reducible refine(call_View.calls k bm bn _ _ τ _ _ ρ B ac af ag dj _ ?side1 ?side2 ?side3 ?side4 A7.out).mono ?_
      (case side1=>exact(Kd.Qt bk.out HB.out))
      (case side2=>exact cd.out)
      (case side3=>exact(Kd.Qt bz.out HB.out))
      (case side4=>exact ce.out)
      rintro e h7 ⟨cx,cy,cz,rfl,ai,b3,d0,hb⟩
      refine⟨_,rfl, ?_⟩
      have aj:=Aside0.mk (Kd.Q9 ai (Qr HB.out))
      have ak:=Aside0.mk (Kd.Q9 b3 (Qr HB.out))
      have al:=Aside0.mk (Kd.Q9 d0 (Qr HB.out))
      replace J:=sBk J hb
      replace δ :=sBk δ hb
      replace X:=sBk X hb
      replace ζ :=sBk ζ hb
      replace η :=sBk η hb
      replace HB:=sHb hb
      (try clear hb)
      (try clear a9)
      (try clear hk)
      (try clear hi)
      (try clear ai)
      (try clear b3)
      (try clear d0)
      refine hK.out _ _ ⟨qc J,qc J,qc J,qc J,qc J,qc J,qc J,qc J,qc J,qc J,qc δ,qc X,qc X⟩ (fun hHeld=>?_)
      clear hK K
      refine qN (some 15) ?_
      refine qP 6 (some 9) (bN 12 639) HT_ ?_
      refine qP 7 (some 16) (bN 12 767) HT_ ?_
      refine qP 8 (some 17) (bN 12 1023) HT_ ?_
      exact Zp (by simp only[Q4,Act.put,qS]) (hCont (cx,cy,cz,L) _ ⟨hHeld,aj.out,ak.out,al.out,J.out,δ.out,X.out,ζ.out,η.out,d2.out,d3.out,O.out,am.out,a2.out,an.out,θ.out,ap.out,au.out,av.out,HB.out⟩)
    ·skip
     refine Xr ?hg (N:=7) ?hd (cs:=#[.slice none 0 0,.slice none 0 0,.slice none 0 0]) (t:=34) ?hr ?_;(case hd=>rfl);(case hg=>rfl);(case hr=>go_simp <;> rfl)
     intro L hg de hbox hb
     have η :=Aside0.mk hbox
     have d2:=sGe hg
     have d3:=sGe hg
     have O:=sNl J hg
     have am:=sNg J hg
     have a2:=sNl δ hg
     have an:=sNg δ hg
     have θ :=sNl X hg
     have ap:=sNg X hg
     have au:=sNl ζ hg
     have av:=sNg ζ hg
     replace J:=sBk J hb
     replace δ :=sBk δ hb
     replace X:=sBk X hb
     replace ζ :=sBk ζ hb
     replace HB:=sHb hb
     clear hb hbox hg
     refine hK.out _ _ ⟨qc J,qc J,qc J,qc J,qc J,qc J,qc J,qc J,qc J,qc J,qc δ,qc X,qc X⟩ (fun hHeld=>?_)
     clear hK K
     refine qN (some 7) ?_
     refine Ze (i:=2) (N:=some 12) (bN 12 543) rfl rfl (Q5 HT_.out kr) (by decide) (fun K hK=>?_)
     refine Zd Try.func37 kr rfl #[.agg #[.int .i64 Z,.int .i64 Y,.int .i64 ε,.int .i64 κ,.int .i64 ι,.int .i64 μ,.int .i64 ν,.int .i64 χ,.int .i64 ψ,.int .i64 a1],.slice A2 l2.length c2] (by rfl) rfl rfl qM ?_
     with_reducible refine(group_house.calls Z Y ε κ ι μ ν χ ψ a1 _ _ l2 bm bn _ ?side1 ?side2 A6.out).mono ?_
     (case side1=>exact(Kd.Qt e4.out HB.out))
     (case side2=>exact dw.out)
     rintro e du ⟨rfl,hb⟩
     refine⟨_,rfl, ?_⟩
     replace J:=sBk J hb
     replace δ :=sBk δ hb
     replace X:=sBk X hb
     replace ζ :=sBk ζ hb
     replace η :=sBk η hb
     replace HB:=sHb hb
     (try clear hb)
     (try clear a9)
     (try clear hk)
     (try clear hi)
     refine hK.out _ _ ⟨qc J,qc J,qc J,qc J,qc J,qc J,qc J,qc J,qc J,qc J,qc δ,qc X,qc X⟩ (fun hHeld=>?_)
     clear hK K
     refine qN (some 12) ?_
     refine Ze (i:=5) (N:=some 15) (bN 12 575) rfl rfl (Q5 HT_.out kr) (by decide) (fun K hK=>?_)
     refine Zd Try.func24 kr rfl #[.agg #[.int .i64 bm,.int .i64 bn],.agg #[.slice a3 τ.length a4,.slice a5 ρ.length a6],.int .i64 B] (by rfl) rfl rfl qM ?_
     with_reducible refine(call_View.calls k bm bn _ _ τ _ _ ρ B ac af ag dj _ ?side1 ?side2 ?side3 ?side4 A7.out).mono ?_
     (case side1=>exact(Kd.Qt bk.out HB.out))
     (case side2=>exact cd.out)
     (case side3=>exact(Kd.Qt bz.out HB.out))
     (case side4=>exact ce.out)
     rintro e h7 ⟨cx,cy,cz,rfl,ai,b3,d0,hb⟩
     refine⟨_,rfl, ?_⟩
     have aj:=Aside0.mk (Kd.Q9 ai (Qr HB.out))
     have ak:=Aside0.mk (Kd.Q9 b3 (Qr HB.out))
     have al:=Aside0.mk (Kd.Q9 d0 (Qr HB.out))
     replace J:=sBk J hb
     replace δ :=sBk δ hb
     replace X:=sBk X hb
     replace ζ :=sBk ζ hb
     replace η :=sBk η hb
     replace HB:=sHb hb
     (try clear hb)
     (try clear a9)
     (try clear hk)
     (try clear hi)
     (try clear ai)
     (try clear b3)
     (try clear d0)
     refine hK.out _ _ ⟨qc J,qc J,qc J,qc J,qc J,qc J,qc J,qc J,qc J,qc J,qc δ,qc X,qc X⟩ (fun hHeld=>?_)
     clear hK K
     refine qN (some 15) ?_
     refine qP 6 (some 9) (bN 12 639) HT_ ?_
     refine qP 7 (some 16) (bN 12 767) HT_ ?_
     refine qP 8 (some 17) (bN 12 1023) HT_ ?_
     exact Zp (by simp only[Q4,Act.put,qS]) (hCont (cx,cy,cz,L) _ ⟨hHeld,aj.out,ak.out,al.out,J.out,δ.out,X.out,ζ.out,η.out,d2.out,d3.out,O.out,am.out,a2.out,an.out,θ.out,ap.out,au.out,av.out,HB.out⟩)
   rintro⟨cx,cy,cz,L⟩ az ⟨hS_,b5,b6,b7,b8,b9,bo,cp,cq,cr,ct,bp,bq,br,ck,er,e5,e6,e7,e8⟩
   have ξ :Aside0 (Kd.R (Kd.int .i64) 3 az w.heap.size (fun k_=>some k_≠(cy:Value).ownBlock∧some k_≠(cz:Value).ownBlock) cx ac):=⟨b5⟩
   have φ :Aside0 (Kd.R (Kd.int .i64) 3 az w.heap.size (fun k_=>some k_≠(cx:Value).ownBlock∧some k_≠(cz:Value).ownBlock) cy af):=⟨b6⟩
   have ω :Aside0 (Kd.R (Kd.int .i64) 3 az w.heap.size (fun k_=>some k_≠(cx:Value).ownBlock∧some k_≠(cy:Value).ownBlock) cz ag):=⟨b7⟩
   have a7:Aside0 (az.heap[γ]?=some (.cells #[.int .i64 Z,.int .i64 Y,.int .i64 ε,.int .i64 κ,.int .i64 ι,.int .i64 μ,.int .i64 ν,.int .i64 χ,.int .i64 ψ,.int .i64 a1] 25 (0,0))):=⟨b8⟩
   have ah:Aside0 (az.heap[bb]?=some (.cells #[.slice A2 l2.length c2] 46 (0,0))):=⟨b9⟩
   have ar:Aside0 (az.heap[ay]?=some (.cells #[.slice a3 τ.length a4,.slice a5 ρ.length a6] 50 (0,0))):=⟨bo⟩
   have b2:Aside0 (az.heap[be]?=some (.cells #[.int .i64 a8,.int .i64 aa,.int .i64 ab] 36 (0,0))):=⟨cp⟩
   have bf:Aside0 (az.heap[L]?=some (.cells #[.slice none 0 0,.slice none 0 0,.slice none 0 0] 34 (0,0))):=⟨cq⟩
   have cb:Aside0 (w.heap.size≤L):=⟨cr⟩
   have cu:Aside0 (w.heap.size≤L):=⟨ct⟩
   have bs:Aside0 (γ≠L):=⟨bp⟩
   have bu:Aside0 (L≠γ):=⟨bq⟩
   have bv:Aside0 (bb≠L):=⟨br⟩
   have cm:Aside0 (L≠bb):=⟨ck⟩
   have et:Aside0 (ay≠L):=⟨er⟩
   have ea:Aside0 (L≠ay):=⟨e5⟩
   have eb:Aside0 (be≠L):=⟨e6⟩
   have ec:Aside0 (L≠be):=⟨e7⟩
   have ed:Aside0 (Below w.heap.size w az):=⟨e8⟩
   clear J
   clear δ
   clear X
   clear ζ
   clear HB
   clear b5 b6 b7 b8 b9 bo cp cq cr ct bp bq br ck er e5 e6 e7 e8
   have aj:= ξ
   have ak:= φ
   have al:= ω
   have J:=a7
   have δ :=ah
   have X:=ar
   have ζ :=b2
   have η :=bf
   have d2:=cb
   have d3:=cu
   have O:=bs
   have am:=bu
   have a2:=bv
   have an:=cm
   have θ :=et
   have ap:=ea
   have au:=eb
   have av:=ec
   have HB:=ed
   clear ξ φ ω a7 ah ar b2 bf cb cu bs bu bv cm et ea eb ec ed
   have hHeld:az.cell? ⟨γ,0,none⟩=some (.int .i64 Z)∧az.cell? ⟨γ,1,none⟩=some (.int .i64 Y)∧az.cell? ⟨γ,2,none⟩=some (.int .i64 ε)∧az.cell? ⟨γ,3,none⟩=some (.int .i64 κ)∧az.cell? ⟨γ,4,none⟩=some (.int .i64 ι)∧az.cell? ⟨γ,5,none⟩=some (.int .i64 μ)∧az.cell? ⟨γ,6,none⟩=some (.int .i64 ν)∧az.cell? ⟨γ,7,none⟩=some (.int .i64 χ)∧az.cell? ⟨γ,8,none⟩=some (.int .i64 ψ)∧az.cell? ⟨γ,9,none⟩=some (.int .i64 a1)∧az.cell? ⟨bb,0,none⟩=some (.slice A2 l2.length c2)∧az.cell? ⟨ay,0,none⟩=some (.slice a3 τ.length a4)∧az.cell? ⟨ay,1,none⟩=some (.slice a5 ρ.length a6):=hS_
   obtain⟨b0,b1,ee⟩:=Kd.Q7 aj.out
   (first|subst ee|(injection ee with aw bh ax;have bi:=aw.symm;have bj:=ax.symm;clear aw bh ax;subst bi;subst bj))
   obtain⟨b4,ba,ef⟩:=Kd.Q7 ak.out
   (first|subst ef|(injection ef with aw bh ax;have bi:=aw.symm;have bj:=ax.symm;clear aw bh ax;subst bi;subst bj))
   obtain⟨bc,bd,eg⟩:=Kd.Q7 al.out
   (first|subst eg|(injection eg with aw bh ax;have bi:=aw.symm;have bj:=ax.symm;clear aw bh ax;subst bi;subst bj))
   refine Zp (a':=?_) ?_ ?_
   rotate_left
   ·simp only[Q4,Act.put,qS]
    rfl
   refine Ze (i:=10) (N:=none) (bN 12 2047) rfl rfl (Q5 HT_.out kr) (by decide) (fun K hK=>?_)
   have fr:az.cell? ⟨L,0,none⟩=some (.slice none 0 0):=(Qa η.out 0).trans rfl
   have fo:=Qq η.out 0
   have ej:=O.out
   have ek:=a2.out
   have el:= θ.out
   have em:=au.out
   have en:=am.out
   have eo:=an.out
   have ep:=ap.out
   have eu:=av.out
   have ft:az.cell? ⟨L,1,none⟩=some (.slice none 0 0):=(Qa η.out 1).trans rfl
   have fp:=Qq η.out 1
   have ev:=O.out
   have ew:=a2.out
   have ey:= θ.out
   have ez:=au.out
   have f8:=am.out
   have fa:=an.out
   have fb:=ap.out
   have ff:=av.out
   have fu:az.cell? ⟨L,2,none⟩=some (.slice none 0 0):=(Qa η.out 2).trans rfl
   have fq:=Qq η.out 2
   have fg:=O.out
   have fh:=a2.out
   have fi:= θ.out
   have fj:=au.out
   have fk:=am.out
   have fl:=an.out
   have fm:=ap.out
   have fn:=av.out
   refine V2 (w1:=?_) (by rfl) rfl ?_ ?_
   rotate_left
   ·go_simp
    rfl
   refine hK.out _ _ ⟨((cell_far (p:=⟨L,_,none⟩) O.out _).trans (((cell_far (p:=⟨L,_,none⟩) O.out _).trans (((cell_far (p:=⟨L,_,none⟩) O.out _).trans (hHeld.1)))))),((cell_far (p:=⟨L,_,none⟩) O.out _).trans (((cell_far (p:=⟨L,_,none⟩) O.out _).trans (((cell_far (p:=⟨L,_,none⟩) O.out _).trans (hHeld.2.1)))))),((cell_far (p:=⟨L,_,none⟩) O.out _).trans (((cell_far (p:=⟨L,_,none⟩) O.out _).trans (((cell_far (p:=⟨L,_,none⟩) O.out _).trans (hHeld.2.2.1)))))),((cell_far (p:=⟨L,_,none⟩) O.out _).trans (((cell_far (p:=⟨L,_,none⟩) O.out _).trans (((cell_far (p:=⟨L,_,none⟩) O.out _).trans (hHeld.2.2.2.1)))))),((cell_far (p:=⟨L,_,none⟩) O.out _).trans (((cell_far (p:=⟨L,_,none⟩) O.out _).trans (((cell_far (p:=⟨L,_,none⟩) O.out _).trans (hHeld.2.2.2.2.1)))))),((cell_far (p:=⟨L,_,none⟩) O.out _).trans (((cell_far (p:=⟨L,_,none⟩) O.out _).trans (((cell_far (p:=⟨L,_,none⟩) O.out _).trans (hHeld.2.2.2.2.2.1)))))),((cell_far (p:=⟨L,_,none⟩) O.out _).trans (((cell_far (p:=⟨L,_,none⟩) O.out _).trans (((cell_far (p:=⟨L,_,none⟩) O.out _).trans (hHeld.2.2.2.2.2.2.1)))))),((cell_far (p:=⟨L,_,none⟩) O.out _).trans (((cell_far (p:=⟨L,_,none⟩) O.out _).trans (((cell_far (p:=⟨L,_,none⟩) O.out _).trans (hHeld.2.2.2.2.2.2.2.1)))))),((cell_far (p:=⟨L,_,none⟩) O.out _).trans (((cell_far (p:=⟨L,_,none⟩) O.out _).trans (((cell_far (p:=⟨L,_,none⟩) O.out _).trans (hHeld.2.2.2.2.2.2.2.2.1)))))),((cell_far (p:=⟨L,_,none⟩) O.out _).trans (((cell_far (p:=⟨L,_,none⟩) O.out _).trans (((cell_far (p:=⟨L,_,none⟩) O.out _).trans (hHeld.2.2.2.2.2.2.2.2.2.1)))))),((cell_far (p:=⟨L,_,none⟩) a2.out _).trans (((cell_far (p:=⟨L,_,none⟩) a2.out _).trans (((cell_far (p:=⟨L,_,none⟩) a2.out _).trans (hHeld.2.2.2.2.2.2.2.2.2.2.1)))))),((cell_far (p:=⟨L,_,none⟩) θ.out _).trans (((cell_far (p:=⟨L,_,none⟩) θ.out _).trans (((cell_far (p:=⟨L,_,none⟩) θ.out _).trans (hHeld.2.2.2.2.2.2.2.2.2.2.2.1)))))),((cell_far (p:=⟨L,_,none⟩) θ.out _).trans (((cell_far (p:=⟨L,_,none⟩) θ.out _).trans (((cell_far (p:=⟨L,_,none⟩) θ.out _).trans (hHeld.2.2.2.2.2.2.2.2.2.2.2.2))))))⟩ (fun hHeld=>?_)
   clear hK K
   refine qP 11 (some 8) (bN 12 4095) HT_ ?_
   refine Z5 (Zm HT_.out kr) ?_
   try go_wp2
   have ξ :Aside0 (Kd.R (Kd.int .i64) 3 (((az.setCell ⟨L,0,none⟩ (.slice b0 ac.length b1)).setCell ⟨L,1,none⟩ (.slice b4 af.length ba)).setCell ⟨L,2,none⟩ (.slice bc ag.length bd)) w.heap.size (fun k_=>some k_≠(.slice b4 af.length ba:Value).ownBlock∧some k_≠(.slice bc ag.length bd:Value).ownBlock) (.slice b0 ac.length b1) ac):=⟨by(with_reducible repeat first|apply Kd.Qw|apply Kd.Qv|apply Kd.Q1);exact Kd.Qz (Kd.Qu (Kd.Qu (Kd.Qu (Kd.Q6 aj.out η.out (by decide)) (fun _ hk=>hk.2) _) (fun _ hk=>hk.2) _) (fun _ hk=>hk.2) _) (fun _ hk=>⟨hk.1.1,hk.1.2⟩)⟩
   have φ :Aside0 (Kd.R (Kd.int .i64) 3 (((az.setCell ⟨L,0,none⟩ (.slice b0 ac.length b1)).setCell ⟨L,1,none⟩ (.slice b4 af.length ba)).setCell ⟨L,2,none⟩ (.slice bc ag.length bd)) w.heap.size (fun k_=>some k_≠(.slice b0 ac.length b1:Value).ownBlock∧some k_≠(.slice bc ag.length bd:Value).ownBlock) (.slice b4 af.length ba) af):=⟨by(with_reducible repeat first|apply Kd.Qw|apply Kd.Qv|apply Kd.Q1);exact Kd.Qz (Kd.Qu (Kd.Qu (Kd.Qu (Kd.Q6 ak.out η.out (by decide)) (fun _ hk=>hk.2) _) (fun _ hk=>hk.2) _) (fun _ hk=>hk.2) _) (fun _ hk=>⟨hk.1.1,hk.1.2⟩)⟩
   have ω :Aside0 (Kd.R (Kd.int .i64) 3 (((az.setCell ⟨L,0,none⟩ (.slice b0 ac.length b1)).setCell ⟨L,1,none⟩ (.slice b4 af.length ba)).setCell ⟨L,2,none⟩ (.slice bc ag.length bd)) w.heap.size (fun k_=>some k_≠(.slice b0 ac.length b1:Value).ownBlock∧some k_≠(.slice b4 af.length ba:Value).ownBlock) (.slice bc ag.length bd) ag):=⟨by(with_reducible repeat first|apply Kd.Qw|apply Kd.Qv|apply Kd.Q1);exact Kd.Qz (Kd.Qu (Kd.Qu (Kd.Qu (Kd.Q6 al.out η.out (by decide)) (fun _ hk=>hk.2) _) (fun _ hk=>hk.2) _) (fun _ hk=>hk.2) _) (fun _ hk=>⟨hk.1.1,hk.1.2⟩)⟩
   have a7:Aside0 ((((az.setCell ⟨L,0,none⟩ (.slice b0 ac.length b1)).setCell ⟨L,1,none⟩ (.slice b4 af.length ba)).setCell ⟨L,2,none⟩ (.slice bc ag.length bd)).heap[γ]?=some (.cells #[.int .i64 Z,.int .i64 Y,.int .i64 ε,.int .i64 κ,.int .i64 ι,.int .i64 μ,.int .i64 ν,.int .i64 χ,.int .i64 ψ,.int .i64 a1] 25 (0,0))):=⟨bka J⟩
   have ah:Aside0 ((((az.setCell ⟨L,0,none⟩ (.slice b0 ac.length b1)).setCell ⟨L,1,none⟩ (.slice b4 af.length ba)).setCell ⟨L,2,none⟩ (.slice bc ag.length bd)).heap[bb]?=some (.cells #[.slice A2 l2.length c2] 46 (0,0))):=⟨bka δ⟩
   have ar:Aside0 ((((az.setCell ⟨L,0,none⟩ (.slice b0 ac.length b1)).setCell ⟨L,1,none⟩ (.slice b4 af.length ba)).setCell ⟨L,2,none⟩ (.slice bc ag.length bd)).heap[ay]?=some (.cells #[.slice a3 τ.length a4,.slice a5 ρ.length a6] 50 (0,0))):=⟨bka X⟩
   have b2:Aside0 ((((az.setCell ⟨L,0,none⟩ (.slice b0 ac.length b1)).setCell ⟨L,1,none⟩ (.slice b4 af.length ba)).setCell ⟨L,2,none⟩ (.slice bc ag.length bd)).heap[be]?=some (.cells #[.int .i64 a8,.int .i64 aa,.int .i64 ab] 36 (0,0))):=⟨bka ζ⟩
   have bf:Aside0 ((((az.setCell ⟨L,0,none⟩ (.slice b0 ac.length b1)).setCell ⟨L,1,none⟩ (.slice b4 af.length ba)).setCell ⟨L,2,none⟩ (.slice bc ag.length bd)).heap[L]?=some (.cells #[.slice b0 ac.length b1,.slice b4 af.length ba,.slice bc ag.length bd] 34 (0,0))):=⟨by refine Qm (cs:=#[.slice b0 ac.length b1,.slice b4 af.length ba,.slice none 0 0]) ?_ 2 _ rfl;refine Qm (cs:=#[.slice b0 ac.length b1,.slice none 0 0,.slice none 0 0]) ?_ 1 _ rfl;refine Qm (cs:=#[.slice none 0 0,.slice none 0 0,.slice none 0 0]) ?_ 0 _ rfl;exact η.out⟩
   have cb:Aside0 (Below w.heap.size w (((az.setCell ⟨L,0,none⟩ (.slice b0 ac.length b1)).setCell ⟨L,1,none⟩ (.slice b4 af.length ba)).setCell ⟨L,2,none⟩ (.slice bc ag.length bd))):=⟨bel⟩
   (try clear aj)
   (try clear ak)
   (try clear al)
   (try clear J)
   (try clear δ)
   (try clear X)
   (try clear ζ)
   (try clear η)
   (try clear HB)
   generalize(((az.setCell ⟨L,0,none⟩ (.slice b0 ac.length b1)).setCell ⟨L,1,none⟩ (.slice b4 af.length ba)).setCell ⟨L,2,none⟩ (.slice bc ag.length bd))=i2 at ξ φ ω a7 ah ar b2 bf cb ⊢
   have aj:= ξ
   have ak:= φ
   have al:= ω
   have J:=a7
   have δ :=ah
   have X:=ar
   have ζ :=b2
   have η :=bf
   have HB:=cb
   clear ξ φ ω a7 ah ar b2 bf cb
   replace aj:=Aside0.mk (Kd.Q1 aj.out)
   replace ak:=Aside0.mk (Kd.Q1 ak.out)
   replace al:=Aside0.mk (Kd.Q1 al.out)
   replace J:=Aside0.mk (Qd J.out)
   replace δ :=Aside0.mk (Qd δ.out)
   replace X:=Aside0.mk (Qd X.out)
   replace ζ :=Aside0.mk (Qd ζ.out)
   replace η :=Aside0.mk (Qd η.out)
   replace HB:=Aside0.mk (Qf HB.out)
   have dz:0≤(B:Int):=of_decide_eq_true (by assumption)
   have e0:B<(l2.length:Int):=of_decide_eq_true (by assumption)
   obtain⟨ae,ei,bw,ca,cf,cg,ch,ci,cj,cn,co,cv⟩:=Gh e4.out B dz e0
   have d4:=cv
   have d5:=co
   have d6:=cn
   have d7:=cj
   have d8:=ci
   have da:=ch
   have dc:=cg
   have dd:=cf
   have df:=ca
   have dh:=bw
   cases ei
   replace bw:=(HB.out.cell (World.block_lt_of_cell? w _ bw)).trans bw
   replace ca:=(HB.out.cell (World.block_lt_of_cell? w _ ca)).trans ca
   replace cf:=(HB.out.cell (World.block_lt_of_cell? w _ cf)).trans cf
   replace cg:=(HB.out.cell (World.block_lt_of_cell? w _ cg)).trans cg
   replace ch:=(HB.out.cell (World.block_lt_of_cell? w _ ch)).trans ch
   replace ci:=(HB.out.cell (World.block_lt_of_cell? w _ ci)).trans ci
   replace cj:=(HB.out.cell (World.block_lt_of_cell? w _ cj)).trans cj
   replace cn:=(HB.out.cell (World.block_lt_of_cell? w _ cn)).trans cn
   replace co:=(HB.out.cell (World.block_lt_of_cell? w _ co)).trans co
   replace cv:=(HB.out.cell (World.block_lt_of_cell? w _ cv)).trans cv
   replace dz:=eq_true dz
   replace e0:=eq_true e0
   refine Zn (n:=9) (S:=fun w'=>w'.cell? ⟨γ,0,none⟩=some (.int .i64 Z)∧w'.cell? ⟨γ,1,none⟩=some (.int .i64 Y)∧w'.cell? ⟨γ,2,none⟩=some (.int .i64 ε)∧w'.cell? ⟨γ,3,none⟩=some (.int .i64 κ)∧w'.cell? ⟨γ,4,none⟩=some (.int .i64 ι)∧w'.cell? ⟨γ,5,none⟩=some (.int .i64 μ)∧w'.cell? ⟨γ,6,none⟩=some (.int .i64 ν)∧w'.cell? ⟨γ,7,none⟩=some (.int .i64 χ)∧w'.cell? ⟨γ,8,none⟩=some (.int .i64 ψ)∧w'.cell? ⟨γ,9,none⟩=some (.int .i64 a1)∧w'.cell? ⟨bb,0,none⟩=some (.slice (some ae) l2.length c2)∧w'.cell? ⟨L,0,none⟩=some (.slice b0 ac.length b1)∧w'.cell? ⟨L,1,none⟩=some (.slice b4 af.length ba)∧w'.cell? ⟨L,2,none⟩=some (.slice bc ag.length bd)∧w'.cell? ⟨be,0,none⟩=some (.int .i64 a8)∧w'.cell? ⟨be,1,none⟩=some (.int .i64 aa)∧w'.cell? ⟨be,2,none⟩=some (.int .i64 ab)∧w'.cell? (ae.add ((B).toNat * 10))=some (.int .i64 ((Qb l2 B).f0.f0))∧w'.cell? ⟨(ae.add ((B).toNat * 10)).block,(ae.add ((B).toNat * 10)).off+1,none⟩=some (.int .i64 ((Qb l2 B).f0.f1))∧w'.cell? ⟨(ae.add ((B).toNat * 10)).block,(ae.add ((B).toNat * 10)).off+2,none⟩=some (.int .i64 ((Qb l2 B).f0.f2))∧w'.cell? ⟨(ae.add ((B).toNat * 10)).block,(ae.add ((B).toNat * 10)).off+3,none⟩=some (.int .i64 ((Qb l2 B).f0.f3))∧w'.cell? ⟨(ae.add ((B).toNat * 10)).block,(ae.add ((B).toNat * 10)).off+4,none⟩=some (.int .i64 ((Qb l2 B).f0.f4.f0))∧w'.cell? ⟨(ae.add ((B).toNat * 10)).block,(ae.add ((B).toNat * 10)).off+5,none⟩=some (.int .i64 ((Qb l2 B).f0.f4.f1))∧w'.cell? ⟨(ae.add ((B).toNat * 10)).block,(ae.add ((B).toNat * 10)).off+6,none⟩=some (.int .i64 ((Qb l2 B).f0.f4.f2))∧w'.cell? ⟨(ae.add ((B).toNat * 10)).block,(ae.add ((B).toNat * 10)).off+7,none⟩=some (.int .i64 ((Qb l2 B).f1))∧w'.cell? ⟨(ae.add ((B).toNat * 10)).block,(ae.add ((B).toNat * 10)).off+8,none⟩=some (.bool ((Qb l2 B).f2))∧w'.cell? ⟨(ae.add ((B).toNat * 10)).block,(ae.add ((B).toNat * 10)).off+9,none⟩=some (.bool ((Qb l2 B).f3))) (ds:=[]) #[false,false,false,false,false,false,false,false,false] kr rfl rfl ⟨(Qa J.out 0).trans rfl,(Qa J.out 1).trans rfl,(Qa J.out 2).trans rfl,(Qa J.out 3).trans rfl,(Qa J.out 4).trans rfl,(Qa J.out 5).trans rfl,(Qa J.out 6).trans rfl,(Qa J.out 7).trans rfl,(Qa J.out 8).trans rfl,(Qa J.out 9).trans rfl,(Qa δ.out 0).trans rfl,(Qa η.out 0).trans rfl,(Qa η.out 1).trans rfl,(Qa η.out 2).trans rfl,(Qa ζ.out 0).trans rfl,(Qa ζ.out 1).trans rfl,(Qa ζ.out 2).trans rfl,((HB.out.cell (World.block_lt_of_cell? w _ dh)).trans dh),((HB.out.cell (World.block_lt_of_cell? w _ df)).trans df),((HB.out.cell (World.block_lt_of_cell? w _ dd)).trans dd),((HB.out.cell (World.block_lt_of_cell? w _ dc)).trans dc),((HB.out.cell (World.block_lt_of_cell? w _ da)).trans da),((HB.out.cell (World.block_lt_of_cell? w _ d8)).trans d8),((HB.out.cell (World.block_lt_of_cell? w _ d7)).trans d7),((HB.out.cell (World.block_lt_of_cell? w _ d6)).trans d6),((HB.out.cell (World.block_lt_of_cell? w _ d5)).trans d5),((HB.out.cell (World.block_lt_of_cell? w _ d4)).trans d4)⟩ (fun hHeld=>?_);refine Q8 group_pick_1.tab2 group_pick_1.bits2 (fun HT_ HW_=>?_)
   generalize i2.drew=dm at aj ak al J δ X ζ η HB bw ca cf cg ch ci cj cn co cv hHeld ⊢
   refine qP 2 (some 20) (bN 9 4) HT_ ?_
   refine qT 0 (some 18) (bN 9 5) HT_ HW_ hHeld ?_
   refine qT 1 (some 19) (bN 9 7) HT_ HW_ hHeld ?_
   refine qP 3 (some 21) (bN 9 15) HT_ ?_
   refine qT 4 (some 22) (bN 9 31) HT_ HW_ hHeld ?_
   refine qT 5 (some 23) (bN 9 63) HT_ HW_ hHeld ?_
   refine qT 6 (some 24) (bN 9 127) HT_ HW_ hHeld ?_
   refine Ze (i:=7) (N:=some 25) (bN 9 255) rfl rfl (Q5 HT_.out kr) (by decide) (fun K hK=>?_)
   refine Zd Try.func31 kr rfl #[.agg #[.int .i64 Z,.int .i64 Y,.int .i64 ε,.int .i64 κ,.int .i64 ι,.int .i64 μ,.int .i64 ν,.int .i64 χ,.int .i64 ψ,.int .i64 a1],.agg #[.int .i64 ((Qb l2 B).f0.f0),.int .i64 ((Qb l2 B).f0.f1),.int .i64 ((Qb l2 B).f0.f2),.int .i64 ((Qb l2 B).f0.f3),.int .i64 ((Qb l2 B).f0.f4.f0),.int .i64 ((Qb l2 B).f0.f4.f1),.int .i64 ((Qb l2 B).f0.f4.f2),.int .i64 ((Qb l2 B).f1),.bool ((Qb l2 B).f2),.bool ((Qb l2 B).f3)],.agg #[.slice b0 ac.length b1,.slice b4 af.length ba,.slice bc ag.length bd],.agg #[.int .i64 a8,.int .i64 aa,.int .i64 ab]] (by rfl) rfl rfl qM ?_
   with_reducible refine(group_cost.calls k Z Y ε κ ι μ ν χ ψ a1 ((Qb l2 B).f0.f0) ((Qb l2 B).f0.f1) ((Qb l2 B).f0.f2) ((Qb l2 B).f0.f3) ((Qb l2 B).f0.f4.f0) ((Qb l2 B).f0.f4.f1) ((Qb l2 B).f0.f4.f2) ((Qb l2 B).f1) ((Qb l2 B).f2) ((Qb l2 B).f3) _ _ ac _ _ af _ _ ag a8 aa ab bl _ ?side1 ?side2 ?side3 ?side4 ?side5 ?side6 dl.out).mono ?_
   (case side1=>exact(Kd.Qy aj.out).2.2)
   (case side2=>exact(Kd.Qy aj.out).2.1)
   (case side3=>exact(Kd.Qy ak.out).2.2)
   (case side4=>exact(Kd.Qy ak.out).2.1)
   (case side5=>exact(Kd.Qy al.out).2.2)
   (case side6=>exact(Kd.Qy al.out).2.1)
   rintro e e9 ⟨rfl,hb⟩
   refine⟨_,rfl, ?_⟩
   replace aj:=sRb aj hb
   replace ak:=sRb ak hb
   replace al:=sRb al hb
   replace J:=sBk J hb
   replace δ :=sBk δ hb
   replace X:=sBk X hb
   replace ζ :=sBk ζ hb
   replace η :=sBk η hb
   replace HB:=sHb hb
   (try clear hb)
   (try clear a9)
   (try clear hk)
   (try clear hi)
   refine hK.out _ _ ⟨qc J,qc J,qc J,qc J,qc J,qc J,qc J,qc J,qc J,qc J,qc δ,qc η,qc η,qc η,qc ζ,qc ζ,qc ζ,((HB.out.cell (World.block_lt_of_cell? w _ dh)).trans dh),((HB.out.cell (World.block_lt_of_cell? w _ df)).trans df),((HB.out.cell (World.block_lt_of_cell? w _ dd)).trans dd),((HB.out.cell (World.block_lt_of_cell? w _ dc)).trans dc),((HB.out.cell (World.block_lt_of_cell? w _ da)).trans da),((HB.out.cell (World.block_lt_of_cell? w _ d8)).trans d8),((HB.out.cell (World.block_lt_of_cell? w _ d7)).trans d7),((HB.out.cell (World.block_lt_of_cell? w _ d6)).trans d6),((HB.out.cell (World.block_lt_of_cell? w _ d5)).trans d5),((HB.out.cell (World.block_lt_of_cell? w _ d4)).trans d4)⟩ (fun hHeld=>?_)
   clear hK K
   refine qN (some 25) ?_
   refine qP 8 (some 6) (bN 9 511) HT_ ?_
   refine Z5 (Zm HT_.out kr) ?_
   try go_wp2
   go_ret
   exact⟨rfl,HB.out⟩
  ·rw[if_neg c9] at H
   exact absurd H (by simp)
 ·rw[if_neg c8] at H
  exact absurd H (by simp)
end Go.Proofs.Ytmfffemidlhcpaa.C
