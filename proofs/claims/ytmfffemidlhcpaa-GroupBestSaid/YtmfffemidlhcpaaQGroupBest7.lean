/- Texts of this claim, one behind the other: what the law's functions come to, walked (printed by a program, with the words that the print uses), and what that is, in plain Lean. No conditions of their own. -/
import Derived.Test.YtmfffemidlhcpaaQGroupBest6
namespace Go.Proofs.Ytmfffemidlhcpaa.C
open Go.RowKit Go.Proofs.YtmfffemidlhcpaaW.PrintWords Go.Proofs.YtmfffemidlhcpaaW.PrintLast Go.Proofs.YtmfffemidlhcpaaW.PrintMore
attribute [local go_sem] Z3 Z1 Xg Xf Zt Zs Z2 Z0
set_option linter.unusedVariables false
set_option linter.unusedSimpArgs false
mutual
def call_View.l0:Nat→Int→List (S86)→Int→Int→List (S36)→List (S86)→List Int→Option (List Int×List Int×List Int×Int)
 |0,_,_,_,_,_,_,_=>none
 |k+1,Y,O,γ,X,J,Z,B=>if X<γ then (if 0≤X then (if X<(O.length:Int) then (if ((Qt O X).f0)=Y then (if B.length<17592186044416 then (call_View.l0 k Y O γ (wrap64 (X+1)) J Z (B ++ [(Qt O X).f1])) else (none)) else (call_View.l0 k Y O γ (wrap64 (X+1)) J Z B)) else (none)) else (none)) else (call_View.l1 k Y J (J.length:Int) 0 B ([]:List Int) ([]:List Int))
def call_View.l1:Nat→Int→List (S36)→Int→Int→List Int→List Int→List Int→Option (List Int×List Int×List Int×Int)
 |0,_,_,_,_,_,_,_=>none
 |k+1,Y,Z,γ,X,B,J,O=>if X<γ then (if 0≤X then (if X<(Z.length:Int) then (if ((Qd Z X).f2)=Y then (if ((Qd Z X).f1)>0 then (if J.length<17592186044416 then (call_View.l1 k Y Z γ (wrap64 (X+1)) B (J ++ [(Qd Z X).f0]) O) else (none)) else (if O.length<17592186044416 then (call_View.l1 k Y Z γ (wrap64 (X+1)) B J (O ++ [(Qd Z X).f0])) else (none))) else (call_View.l1 k Y Z γ (wrap64 (X+1)) B J O)) else (none)) else (none)) else (some (B,J,O,0))
end
def call_View.f (k:Nat) (J:Int) (O:Int) (B:List (S36)) (Z:List (S86)) (a2:Int):Option (List Int×List Int×List Int×Int):=(call_Check.f k J O B Z).bind fun b7=>(if b7=0 then ((call_within.f a2 0 (wrap64 (O-1))).bind fun cy=>(if cy=true then (call_View.l0 k a2 Z (Z.length:Int) 0 B Z ([]:List Int)) else (some (([]:List Int),([]:List Int),([]:List Int),191)))) else (some (([]:List Int),([]:List Int),([]:List Int),b7)))
theorem call_View.Zp:∀ k,(∀ O X Z J Y y5 y6,LeO (call_View.l0 k O X Z J Y y5 y6) (call_View.l0 (k+1) O X Z J Y y5 y6))∧(∀ O X Z J Y y5 y6,LeO (call_View.l1 k O X Z J Y y5 y6) (call_View.l1 (k+1) O X Z J Y y5 y6))
 |0=>⟨fun _ _ _ _ _ _ _ r h=>by simp[call_View.l0] at h,fun _ _ _ _ _ _ _ r h=>by simp[call_View.l1] at h⟩
 |k+1=>by
  obtain⟨B,ε⟩:=call_View.Zp k
  refine⟨?_, ?_⟩
  ·intro O X Z J Y y5 y6
   unfold call_View.l0
   repeat' first
   |(with_reducible exact B _ _ _ _ _ _ _)
   |(with_reducible exact ε _ _ _ _ _ _ _)
   |(with_reducible exact call_Check.mono _ _ _ _ _)
   |(with_reducible exact LeO.refl _)
   |(with_reducible exact LeO.none _)
   |(with_reducible refine LeO.ite ?_ ?_)
   |(with_reducible refine LeO.bind ?_ (fun _=>?_))
   |exact B _ _ _ _ _ _ _
   |exact ε _ _ _ _ _ _ _
   |exact call_Check.mono _ _ _ _ _
   |exact LeO.none _
   |refine LeO.ite ?_ ?_
   |refine LeO.bind ?_ (fun _=>?_)
  ·intro O X Z J Y y5 y6
   unfold call_View.l1
   repeat' first
   |(with_reducible exact B _ _ _ _ _ _ _)
   |(with_reducible exact ε _ _ _ _ _ _ _)
   |(with_reducible exact call_Check.mono _ _ _ _ _)
   |(with_reducible exact LeO.refl _)
   |(with_reducible exact LeO.none _)
   |(with_reducible refine LeO.ite ?_ ?_)
   |(with_reducible refine LeO.bind ?_ (fun _=>?_))
   |exact B _ _ _ _ _ _ _
   |exact ε _ _ _ _ _ _ _
   |exact call_Check.mono _ _ _ _ _
   |exact LeO.none _
   |refine LeO.ite ?_ ?_
   |refine LeO.bind ?_ (fun _=>?_)
theorem call_View.mono:∀ J Y a2 a3 O k,LeO (call_View.f k J Y a2 a3 O) (call_View.f (k+1) J Y a2 a3 O):=by
 intro J Y a2 a3 O k
 obtain⟨B,ε⟩:=call_View.Zp k
 unfold call_View.f
 repeat' first
   |(with_reducible exact B _ _ _ _ _ _ _)
   |(with_reducible exact ε _ _ _ _ _ _ _)
   |(with_reducible exact call_Check.mono _ _ _ _ _)
   |(with_reducible exact LeO.refl _)
   |(with_reducible exact LeO.none _)
   |(with_reducible refine LeO.ite ?_ ?_)
   |(with_reducible refine LeO.bind ?_ (fun _=>?_))
   |exact B _ _ _ _ _ _ _
   |exact ε _ _ _ _ _ _ _
   |exact call_Check.mono _ _ _ _ _
   |exact LeO.none _
   |refine LeO.ite ?_ ?_
   |refine LeO.bind ?_ (fun _=>?_)
set_option maxHeartbeats 8000000 in
set_option maxRecDepth 100000 in
theorem call_View.calls (k:Nat) (J:Int) (O:Int) (κ :Option Addr) (θ :Nat) (B:List (S36)) (μ :Option Addr) (ι :Nat) (Z:List (S86)) (a2:Int) (r1:List Int) (r2:List Int) (r3:List Int) (r4:Int) (w:World) (aj:Kd.C k36 w κ B.length B) (ak:B.length ≤ θ) (al:Kd.C k86 w μ Z.length Z) (am:Z.length ≤ ι) (h:call_View.f k J O B Z a2=some (r1,r2,r3,r4)):
  Calls Try.prog 24 #[.agg #[.int .i64 J,.int .i64 O],.agg #[.slice κ B.length θ,.slice μ Z.length ι],.int .i64 a2] w fun e w'=>∃ bb ea e8:Value,e = .returned (.tuple #[.agg #[bb,ea,e8],.int .i64 r4])∧Kd.R (Kd.int .i64) 3 w' w.heap.size (fun k_=>some k_≠(ea:Value).ownBlock∧some k_≠(e8:Value).ownBlock) bb r1∧Kd.R (Kd.int .i64) 3 w' w.heap.size (fun k_=>some k_≠(bb:Value).ownBlock∧some k_≠(e8:Value).ownBlock) ea r2∧Kd.R (Kd.int .i64) 3 w' w.heap.size (fun k_=>some k_≠(bb:Value).ownBlock∧some k_≠(ea:Value).ownBlock) e8 r3∧Below w.heap.size w w':=by
 have jf:=Try.underlying59
 have ed:=Try.underlying50
 have ki:=Try.underlying34
 have dl:=Try.underlying86
 have e4:=Try.underlying36
 have a4:=Aside0.mk aj
 have ao:=Aside0.mk ak
 clear aj ak
 have a6:=Aside0.mk al
 have ap:=Aside0.mk am
 clear al am
 have HB:=Aside0.mk (Below.refl w.heap.size w)
 have H:((call_Check.f k J O B Z).bind fun b7=>(if b7=0 then ((call_within.f a2 0 (wrap64 (O-1))).bind fun cy=>(if cy=true then (call_View.l0 k a2 Z (Z.length:Int) 0 B Z ([]:List Int)) else (some (([]:List Int),([]:List Int),([]:List Int),191)))) else (some (([]:List Int),([]:List Int),([]:List Int),b7))))=some (r1,r2,r3,r4):=h
 clear h
 replace H:=Option.bind_eq_some_iff.mp H
 obtain⟨b7,aa,H⟩:=H
 replace H:(if b7=0 then ((call_within.f a2 0 (wrap64 (O-1))).bind fun cy=>(if cy=true then (call_View.l0 k a2 Z (Z.length:Int) 0 B Z ([]:List Int)) else (some (([]:List Int),([]:List Int),([]:List Int),191)))) else (some (([]:List Int),([]:List Int),([]:List Int),b7)))=some (r1,r2,r3,r4):=H
 have A4:=Aside0.mk aa
 clear aa
 by_cases c5:b7=0
 ·rw[if_pos c5] at H
  have c5b0:(b7==0)=true:=beq_iff_eq.mpr c5
  have c5b1:(b7 != 0)=false:=bne_eq_false_iff_eq.mpr c5
  clear c5
  replace H:=Option.bind_eq_some_iff.mp H
  obtain⟨cy,d0,H⟩:=H
  replace H:(if cy=true then (call_View.l0 k a2 Z (Z.length:Int) 0 B Z ([]:List Int)) else (some (([]:List Int),([]:List Int),([]:List Int),191)))=some (r1,r2,r3,r4):=H
  have A6:=Aside0.mk d0
  clear d0
  by_cases c7:cy=true
  ·subst c7
   have H1:(call_View.l0 k a2 Z (Z.length:Int) 0 B Z ([]:List Int))=some (r1,r2,r3,r4):=by rw[if_pos rfl] at H;exact H
   clear H
   have H:=H1
   clear H1
   have H':=Aside0.mk H
   clear H
   go_enter Try.func24,Try.ntmps24
   go_wp2_with (first|((with_reducible refine Qf (N:=3) rfl ?_);refine qE 3 #[.int .i64 J,.int .i64 O] 59 ?_;intro b5 hg w8 hbox hb;have X:=Aside0.mk hbox;have ee:=sGe hg;have ef:=sGe hg;replace HB:=sHb hb;clear hb hbox hg)|((with_reducible refine Qf (N:=4) rfl ?_);refine qE 4 #[.slice κ B.length θ,.slice μ Z.length ι] 50 ?_;intro cb hg w9 hbox hb;have γ:=Aside0.mk hbox;have eh:=sGe hg;have ei:=sGe hg;have b9:=sNl X hg;have ba:=sNg X hg;replace X:=sBk X hb;replace HB:=sHb hb;clear hb hbox hg)|((with_reducible refine Qf (N:=6) rfl ?_);refine qE 6 #[.slice none 0 0,.slice none 0 0,.slice none 0 0] 34 ?_;intro b8 hg ih hbox hb;have δ :=Aside0.mk hbox;have ej:=sGe hg;have ek:=sGe hg;have bc:=sNl X hg;have bd:=sNg X hg;have ab:=sNl γ hg;have ax:=sNg γ hg;replace X:=sBk X hb;replace γ:=sBk γ hb;replace HB:=sHb hb;clear hb hbox hg;have e9:=b9.out;have ez:=ba.out;have gp:=bc.out;have gy:=bd.out;obtain⟨af,ay,ai,az⟩:=qD2 X.out;have eb:=ab.out;have eg:=ax.out;obtain⟨ci,cj,ck,cm⟩:=qD2 γ.out)|((with_reducible refine Qo (f:=40) rfl ?_);refine Q6 (some 16) rfl rfl Try.func40 kr rfl #[.agg #[.int .i64 J,.int .i64 O],.agg #[.slice κ B.length θ,.slice μ Z.length ι]] rfl qM ?_;(with_reducible refine(call_Check.calls k J O _ _ B _ _ Z b7 _ ?side1 ?side2 ?side3 ?side4 A4.out).mono ?_);(case side1=>exact(Kd.Qy a4.out HB.out));(case side2=>exact ao.out);(case side3=>exact(Kd.Qy a6.out HB.out));(case side4=>exact ap.out);rintro e ct ⟨rfl,hb⟩;refine⟨_,rfl, ?_⟩;replace X:=sBk X hb;replace γ:=sBk γ hb;replace δ :=sBk δ hb;replace HB:=sHb hb;(try clear hb);(try clear ac);(try clear hk);(try clear hi);obtain⟨b1,b2,b3,b4⟩:=qD2 X.out)|((with_reducible refine Qo (f:=44) rfl ?_);refine Q6 (some 25) rfl rfl Try.func44 kr rfl #[.int .i64 a2,.int .i64 0,.int .i64 (wrap64 (O-1))] rfl qM ?_;(with_reducible refine(call_within.calls a2 0 (wrap64 (O-1)) true _ A6.out).mono ?_);rintro e w' ⟨rfl,⟨nd,rfl⟩⟩;refine⟨_,rfl, ?_⟩;(try(rw[Yr ct];generalize hq_:World.drewN ct _=ct;have ξ :Aside0 (ct.heap[b5]?=some (.cells #[.int .i64 J,.int .i64 O] 59 (0,0))):=⟨by rw[← hq_];exact X.out⟩;have ρ:Aside0 (ct.heap[cb]?=some (.cells #[.slice κ B.length θ,.slice μ Z.length ι] 50 (0,0))):=⟨by rw[← hq_];exact γ.out⟩;have a3:Aside0 (ct.heap[b8]?=some (.cells #[.slice none 0 0,.slice none 0 0,.slice none 0 0] 34 (0,0))):=⟨by rw[← hq_];exact δ.out⟩;have a7:Aside0 (Below w.heap.size w ct):=⟨by rw[← hq_];exact HB.out⟩;clear X γ δ HB hq_;have X:= ξ;have γ:=ρ;have δ :=a3;have HB:=a7;clear ξ ρ a3 a7));(try(have cd:ct.cell? ⟨b5,0,none⟩=some (.int .i64 J):=(Qa X.out 0).trans rfl));(try(have cf:ct.cell? ⟨b5,1,none⟩=some (.int .i64 O):=(Qa X.out 1).trans rfl));(try(have cg:=Qc X.out 0));(try(have ch:=Qc X.out 1)))|((with_reducible refine Qf (N:=9) rfl ?_);refine qE 9 #[.slice none 0 0,.slice none 0 0,.slice none 0 0] 34 ?_;intro de hg b6 hbox hb;have ζ :=Aside0.mk hbox;have lv:=sGe hg;have m3:=sGe hg;have bj:=sNl X hg;have bk:=sNg X hg;have be:=sNl γ hg;have bf:=sNg γ hg;have bl:=sNl δ hg;have bm:=sNg δ hg;replace X:=sBk X hb;replace γ:=sBk γ hb;replace δ :=sBk δ hb;replace HB:=sHb hb;clear hb hbox hg;have fv:=bk.out;have fw:=bj.out;have gb:=bf.out;have gg:=be.out;have f8:=bm.out;have fa:=bl.out;obtain⟨dk,et,eu,ev,ew,ey⟩:=qD3 ζ.out;obtain⟨ar,au,av,aw⟩:=qD2 γ.out))
   go_loopg [32] k (fun kq lb w'=>∃ (σ:Int) (φ :List Int) (τ :Value),lb = .int .i64 σ∧Aside0 (call_View.l0 kq a2 Z (Z.length:Int) σ B Z φ = some (r1,r2,r3,r4))∧Aside0 (kq≤k)∧Aside0 (Kd.R (Kd.int .i64) 3 w' w.heap.size (fun _=>True) τ φ)∧Aside0 (w'.heap[b5]?=some (.cells #[.int .i64 J,.int .i64 O] 59 (0,0)))∧Aside0 (w'.heap[cb]?=some (.cells #[(.slice κ B.length θ),(.slice μ Z.length ι)] 50 (0,0)))∧Aside0 (w'.heap[b8]?=some (.cells #[(.slice none 0 0),(.slice none 0 0),(.slice none 0 0)] 34 (0,0)))∧Aside0 (w'.heap[de]?=some (.cells #[τ,(.slice none 0 0),(.slice none 0 0)] 34 (0,0)))∧Aside0 (Below w.heap.size w w'))
   case atStart=>exact⟨(0),(([]:List Int)),(.slice none 0 0),qR,H',⟨Nat.le_refl _⟩,⟨by first|exact Kd.X0 _ _ _ _ _|exact Kd.Yx _ _ _ _ _|exact Kd.Yt _ _ _ _ _|exact Kd.Yw _ _ _ _ _|exact Kd.Yu _ _ _ _ _⟩,⟨bka X⟩,⟨bka γ⟩,⟨bka δ⟩,⟨by(with_reducible repeat first|refine Qm ?_ _|refine Qe ?_|refine Qn ?_ _);refine Ql (cs:=#[.slice none 0 0,.slice none 0 0,.slice none 0 0]) ?_ 2 _ rfl;(with_reducible repeat first|refine Qm ?_ _|refine Qe ?_|refine Qn ?_ _);refine Ql (cs:=#[.slice none 0 0,.slice none 0 0,.slice none 0 0]) ?_ 1 _ rfl;(with_reducible repeat first|refine Qm ?_ _|refine Qe ?_|refine Qn ?_ _);refine Ql (cs:=#[.slice none 0 0,.slice none 0 0,.slice none 0 0]) ?_ 0 _ rfl;(with_reducible repeat first|refine Qm ?_ _|refine Qe ?_|refine Qn ?_ _);exact ζ.out⟩,⟨bel⟩⟩
   case round=>
    clear H'
    try clear c1
    try clear c2
    try clear p2
    try clear c4
    try clear c5
    try clear c5b0
    try clear c5b1
    try clear p6
    try clear c7
    try clear ag
    try clear ah
    try clear bp
    try clear cq
    try clear ae
    try clear h5
    try clear gn
    try clear af
    try clear ay
    try clear ci
    try clear cj
    try clear b1
    try clear b2
    try clear cd
    try clear cf
    try clear dk
    try clear et
    try clear eu
    try clear ar
    try clear au
    try clear ai
    try clear az
    try clear ck
    try clear cm
    try clear b3
    try clear b4
    try clear cg
    try clear ch
    try clear ev
    try clear ew
    try clear ey
    try clear av
    try clear aw
    obtain⟨σ,φ,τ,rfl,HA,b0,ε,X,γ,δ,ζ,HB⟩:=hrel
    cases gk with
    |zero=>exact absurd HA.out (by simp[call_View.l0])
    |succ k1=>
     have H:=HA.out
     clear HA
     simp only[call_View.l0] at H
     by_cases d3:σ<(Z.length:Int)
     ·rw[if_pos d3] at H
      have c25b0:decide (σ<(Z.length:Int))=true:=decide_eq_true d3
      clear d3
      by_cases d8:0≤σ
      ·rw[if_pos d8] at H
       have c26b0:decide (0≤σ)=true:=decide_eq_true d8
       clear d8
       by_cases dd:σ<(Z.length:Int)
       ·rw[if_pos dd] at H
        have c27b0:decide (σ<(Z.length:Int))=true:=decide_eq_true dd
        clear dd
        by_cases cx:((Qt Z σ).f0)=a2
        ·rw[if_pos cx] at H
         have c28b0:(((Qt Z σ).f0)==a2)=true:=beq_iff_eq.mpr cx
         have c28b1:(((Qt Z σ).f0) != a2)=false:=bne_eq_false_iff_eq.mpr cx
         clear cx
         by_cases bg: φ.length<17592186044416
         ·rw[if_pos bg] at H
          have fr:=Aside0.mk bg
          clear bg
          obtain⟨dz,df⟩:∃ y_:List Int,y_=(φ ++ [(Qt Z σ).f1]):=⟨_,rfl⟩
          replace H:(call_View.l0 k1 a2 Z (Z.length:Int) (wrap64 (σ+1)) B Z dz)=some (r1,r2,r3,r4):=by first|(rw[df];with_reducible exact H)|(have an:=(Option.bind_some _ _).symm.trans H;rw[df];with_reducible exact an)|(have an:=(Option.bind_some _ _).symm.trans H;with_reducible exact an)|with_reducible exact H|(rw[df];exact H)|exact H
          have ft:=Aside0.mk df
          clear df
          have H':=Aside0.mk H
          clear H
          have d1:0≤(σ:Int):=of_decide_eq_true (by assumption)
          have d2:σ<(Z.length:Int):=of_decide_eq_true (by assumption)
          obtain⟨el,e0,bh,bi⟩:=Jk a6.out σ d1 d2
          cases e0
          replace bh:=(HB.out.cell (World.block_lt_of_cell? w _ bh)).trans bh
          replace bi:=(HB.out.cell (World.block_lt_of_cell? w _ bi)).trans bi
          replace d1:=eq_true d1
          replace d2:=eq_true d2
          go_wp2_with (first|((with_reducible refine Qf (N:=11) rfl ?_);refine qE 11 #[.int .i64 0,.int .i64 0] 86 ?_;intro em hg eo hbox hb;have cp:=Aside0.mk hbox;have fu:=sGe hg;have fy:=sGe hg;have d4:=sNl X hg;have d5:=sNg X hg;have d6:=sNl γ hg;have d7:=sNg γ hg;have d9:=sNl δ hg;have da:=sNg δ hg;have db:=sNl ζ hg;have dc:=sNg ζ hg;replace ε :=sRb ε hb;replace X:=sBk X hb;replace γ:=sBk γ hb;replace δ :=sBk δ hb;replace ζ :=sBk ζ hb;replace HB:=sHb hb;clear hb hbox hg;have fm:=d5.out;have fn:=d4.out;have jn:=d7.out;have jo:=d6.out;have mu:=da.out;have mw:=d9.out;have lr:=dc.out;have ls:=db.out;obtain⟨ib,ic,ie,ig⟩:=qD2 cp.out;have k8:=bk.out;have kh:=bj.out;have m4:=bf.out;have m5:=be.out;have h6:=bm.out;have ha:=bl.out;obtain⟨gf,gh,gu,gv,h0,h4⟩:=qD3 ζ.out)|((with_reducible refine Xs (b:=.append) (xs:=#[.tmp 41,.tmp 44]) rfl ?_);at_builtin;refine Kd.G8 (Kd.int .i64) (w0:=w) w.heap.size rfl (.tmp 41) (.tmp 44) 32 3 (.int .i64 0) 8 rfl Try.underlying32 Lb rfl (by decide) (by omega) τ φ ((Qt Z σ).f1) [.int .i64 ((Qt Z σ).f1)] (fun _=>True) (fun _=>False) rfl (by first|(go_simp;done)|(go_simp;rfl)) ?aP (fun _ hk=>hk.elim) ?aF ?aO ?aB ?aS ?aL ?_;(case aP=>exact rfl);(case aB=>exact bel);(case aF=>exact(fun _ _=>trivial));(case aO=>exact(by(with_reducible repeat first|apply Kd.Qq|apply Kd.Qp|apply Kd.Qr);exact Kd.Qw (Kd.Qx (Kd.Qx (Kd.Q5 ε.out cp.out (by decide)) (fun _ hk=>hk.2) (.int .i64 ((Qt Z σ).f0))) (fun _ hk=>hk.2) (.int .i64 ((Qt Z σ).f1))) (fun _ hk=>trivial)));(case aS=>exact(Qi bel));(case aL=>have:=fr.out;omega);intro n1 ku ho hb hg hat;rw[← ft.out] at ho;have en:=Aside0.mk ho;replace X:=Aside0.mk (Q1 (g:=b5) (o:=.cells #[.int .i64 J,.int .i64 O] 59 (0,0)) (bka X) hg (Kd.Z6 ε.out X.out (by decide)));replace γ:=Aside0.mk (Q1 (g:=cb) (o:=.cells #[.slice κ B.length θ,.slice (some el) Z.length ι] 50 (0,0)) (bka γ) hg (Kd.Z6 ε.out γ.out (by decide)));replace δ :=Aside0.mk (Q1 (g:=b8) (o:=.cells #[.slice none 0 0,.slice none 0 0,.slice none 0 0] 34 (0,0)) (bka δ) hg (Kd.Z6 ε.out δ.out (by decide)));replace ζ :=Aside0.mk (Q1 (g:=de) (o:=.cells #[τ,.slice none 0 0,.slice none 0 0] 34 (0,0)) (bka ζ) hg (Kd.Z6 ε.out ζ.out (by decide)));replace cp:=Aside0.mk (Q1 (g:=em) (o:=.cells #[.int .i64 ((Qt Z σ).f0),.int .i64 ((Qt Z σ).f1)] 86 (0,0)) (by(with_reducible repeat first|refine Qm ?_ _|refine Qe ?_|refine Qn ?_ _);refine Ql (cs:=#[.int .i64 ((Qt Z σ).f0),.int .i64 0]) ?_ 1 _ rfl;(with_reducible repeat first|refine Qm ?_ _|refine Qe ?_|refine Qn ?_ _);refine Ql (cs:=#[.int .i64 0,.int .i64 0]) ?_ 0 _ rfl;(with_reducible repeat first|refine Qm ?_ _|refine Qe ?_|refine Qn ?_ _);exact cp.out) hg (Kd.Z6 ε.out cp.out (by decide)));replace HB:=Aside0.mk hb;clear ε;clear ho hb hg hat;obtain⟨jg,jh,ji⟩:=Kd.Q7 en.out;subst ji;obtain⟨dn,dq,dr,dt,du,dv⟩:=qD3 ζ.out))
          go_roundg k1
          case measure=>have:=b0.out;omega
          case rel=>exact⟨(wrap64 (σ+1)),(dz),(.slice jg dz.length jh),qR,H',⟨by have:=b0.out;omega⟩,⟨by(with_reducible repeat first|apply Kd.Qq|apply Kd.Qp|apply Kd.Qr);exact Kd.Qw (Kd.Qx (Kd.Q5 en.out ζ.out (by decide)) (fun _ hk=>hk.2) _) (fun _ hk=>trivial)⟩,⟨bka X⟩,⟨bka γ⟩,⟨bka δ⟩,⟨by(with_reducible repeat first|refine Qm ?_ _|refine Qe ?_|refine Qn ?_ _);refine Ql (cs:=#[τ,.slice none 0 0,.slice none 0 0]) ?_ 0 _ rfl;(with_reducible repeat first|refine Qm ?_ _|refine Qe ?_|refine Qn ?_ _);exact ζ.out⟩,⟨bel⟩⟩
         ·rw[if_neg bg] at H
          exact absurd H (by simp)
        ·rw[if_neg cx] at H
         have c28b0:(((Qt Z σ).f0)==a2)=false:=beq_eq_false_iff_ne.mpr cx
         have c28b1:(((Qt Z σ).f0) != a2)=true:=bne_iff_ne.mpr cx
         have H':=Aside0.mk H
         clear H
         have d1:0≤(σ:Int):=of_decide_eq_true (by assumption)
         have d2:σ<(Z.length:Int):=of_decide_eq_true (by assumption)
         obtain⟨el,e0,bh,bi⟩:=Jk a6.out σ d1 d2
         cases e0
         replace bh:=(HB.out.cell (World.block_lt_of_cell? w _ bh)).trans bh
         replace bi:=(HB.out.cell (World.block_lt_of_cell? w _ bi)).trans bi
         replace d1:=eq_true d1
         replace d2:=eq_true d2
         go_wp2_with (first|((with_reducible refine Qf (N:=11) rfl ?_);refine qE 11 #[.int .i64 0,.int .i64 0] 86 ?_;intro em hg ce hbox hb;have cp:=Aside0.mk hbox;have fu:=sGe hg;have fy:=sGe hg;have d4:=sNl X hg;have d5:=sNg X hg;have d6:=sNl γ hg;have d7:=sNg γ hg;have d9:=sNl δ hg;have da:=sNg δ hg;have db:=sNl ζ hg;have dc:=sNg ζ hg;replace ε :=sRb ε hb;replace X:=sBk X hb;replace γ:=sBk γ hb;replace δ :=sBk δ hb;replace ζ :=sBk ζ hb;replace HB:=sHb hb;clear hb hbox hg;have h8:=d5.out;have h9:=d4.out;have i4:=d7.out;have i5:=d6.out;have jq:=da.out;have jr:=d9.out;have lc:=dc.out;have lf:=db.out;obtain⟨fc,fe,ff,fg⟩:=qD2 cp.out))
         go_roundg k1
         case measure=>have:=b0.out;omega
         case rel=>exact⟨(wrap64 (σ+1)),(φ),(τ),qR,H',⟨by have:=b0.out;omega⟩,⟨by(with_reducible repeat first|apply Kd.Qq|apply Kd.Qp|apply Kd.Qr);exact Kd.Qw (Kd.Qx (Kd.Qx (Kd.Q5 ε.out cp.out (by decide)) (fun _ hk=>hk.2) (.int .i64 ((Qt Z σ).f0))) (fun _ hk=>hk.2) (.int .i64 ((Qt Z σ).f1))) (fun _ hk=>trivial)⟩,⟨bka X⟩,⟨bka γ⟩,⟨bka δ⟩,⟨bka ζ⟩,⟨bel⟩⟩
       ·rw[if_neg dd] at H
        exact absurd H (by simp)
      ·rw[if_neg d8] at H
       exact absurd H (by simp)
     ·rw[if_neg d3] at H
      have c25b0:decide (σ<(Z.length:Int))=false:=decide_eq_false d3
      clear d3
      have H':=Aside0.mk H
      clear H
      have gi:=ba.out
      have gj:=b9.out
      have fh:=ab.out
      have fi:=ax.out
      have js:=be.out
      have jt:=bf.out
      obtain⟨cu,cv,cw,cz⟩:=qD2 γ.out
      go_wp2
      go_loopg [51] k1 (fun kq lu w'=>∃ (Y:Int) (ψ :List Int) (a1:List Int) (ω :Value) (a0:Value),lu = .int .i64 Y∧Aside0 (call_View.l1 kq a2 B (B.length:Int) Y φ ψ a1=some (r1,r2,r3,r4))∧Aside0 (kq≤k1)∧Aside0 (Kd.R (Kd.int .i64) 3 w' w.heap.size (fun k_=>some k_≠(ω :Value).ownBlock∧some k_≠(a0:Value).ownBlock) τ φ)∧Aside0 (Kd.R (Kd.int .i64) 3 w' w.heap.size (fun k_=>some k_≠(τ :Value).ownBlock∧some k_≠(a0:Value).ownBlock) ω ψ)∧Aside0 (Kd.R (Kd.int .i64) 3 w' w.heap.size (fun k_=>some k_≠(τ :Value).ownBlock∧some k_≠(ω :Value).ownBlock) a0 a1)∧Aside0 (w'.heap[b5]?=some (.cells #[.int .i64 J,.int .i64 O] 59 (0,0)))∧Aside0 (w'.heap[cb]?=some (.cells #[(.slice κ B.length θ),(.slice μ Z.length ι)] 50 (0,0)))∧Aside0 (w'.heap[b8]?=some (.cells #[(.slice none 0 0),(.slice none 0 0),(.slice none 0 0)] 34 (0,0)))∧Aside0 (w'.heap[de]?=some (.cells #[τ,ω,a0] 34 (0,0)))∧Aside0 (Below w.heap.size w w'))
      case atStart=>exact⟨(0),(([]:List Int)),(([]:List Int)),(.slice none 0 0),(.slice none 0 0),rfl,H',⟨Nat.le_refl _⟩,⟨by(with_reducible repeat first|apply Kd.Qq|apply Kd.Qp|apply Kd.Qr);exact Kd.Qw ε.out (fun _ hk=>⟨(by simp[Value.ownBlock]),(by simp[Value.ownBlock])⟩)⟩,⟨by first|exact Kd.X0 _ _ _ _ _|exact Kd.Yx _ _ _ _ _|exact Kd.Yt _ _ _ _ _|exact Kd.Yw _ _ _ _ _|exact Kd.Yu _ _ _ _ _⟩,⟨by first|exact Kd.X0 _ _ _ _ _|exact Kd.Yx _ _ _ _ _|exact Kd.Yt _ _ _ _ _|exact Kd.Yw _ _ _ _ _|exact Kd.Yu _ _ _ _ _⟩,X,γ,δ,ζ,HB⟩
      case round=>
       clear H'
       try clear c1
       try clear c2
       try clear p2
       try clear c3
       try clear c4
       try clear c5
       try clear c5b0
       try clear c5b1
       try clear p5
       try clear q5
       try clear qd
       try clear p6
       try clear c7
       try clear ag
       try clear ah
       try clear bp
       try clear cq
       try clear ae
       try clear h5
       try clear gn
       try clear d3
       try clear c25b0
       try clear d8
       try clear c26b0
       try clear dd
       try clear c27b0
       try clear cx
       try clear c28b0
       try clear c28b1
       try clear bg
       try clear nh
       try clear ni
       try clear oi
       try clear oj
       try clear nj
       try clear fb
       try clear iv
       try clear ec
       try clear qy
       try clear rj
       try clear rk
       try clear gt
       try clear dy
       try clear nk
       try clear iz
       try clear p51
       try clear nl
       try clear n2
       try clear af
       try clear ay
       try clear ci
       try clear cj
       try clear b1
       try clear b2
       try clear cd
       try clear cf
       try clear dk
       try clear et
       try clear eu
       try clear ar
       try clear au
       try clear ib
       try clear ic
       try clear gf
       try clear gh
       try clear gu
       try clear dn
       try clear dq
       try clear dr
       try clear fc
       try clear fe
       try clear cu
       try clear cv
       try clear ai
       try clear az
       try clear ck
       try clear cm
       try clear b3
       try clear b4
       try clear cg
       try clear ch
       try clear ev
       try clear ew
       try clear ey
       try clear av
       try clear aw
       try clear ie
       try clear ig
       try clear gv
       try clear h0
       try clear h4
       try clear dt
       try clear du
       try clear dv
       try clear ff
       try clear fg
       try clear cw
       try clear cz
       try clear bh
       try clear bi
       try clear p2
       try clear d1
       try clear p6
       try clear d2
       obtain⟨Y,ψ,a1,ω,a0,rfl,HA,dp,ε,η,ν,X,γ,δ,ζ,HB⟩:=hrel
       cases gk with
       |zero=>exact absurd HA.out (by simp[call_View.l1])
       |succ k2=>
        have H:=HA.out
        clear HA
        simp only[call_View.l1] at H
        by_cases fz:Y<(B.length:Int)
        ·rw[if_pos fz] at H
         have c53b0:decide (Y<(B.length:Int))=true:=decide_eq_true fz
         clear fz
         by_cases gw:0≤Y
         ·rw[if_pos gw] at H
          have c54b0:decide (0≤Y)=true:=decide_eq_true gw
          clear gw
          by_cases ep:Y<(B.length:Int)
          ·rw[if_pos ep] at H
           have c55b0:decide (Y<(B.length:Int))=true:=decide_eq_true ep
           clear ep
           by_cases ga:((Qd B Y).f2)=a2
           ·rw[if_pos ga] at H
            have c56b0:(((Qd B Y).f2)==a2)=true:=beq_iff_eq.mpr ga
            have c56b1:(((Qd B Y).f2) != a2)=false:=bne_eq_false_iff_eq.mpr ga
            clear ga
            by_cases dx:((Qd B Y).f1)>0
            ·rw[if_pos dx] at H
             have c57b0:decide (0<((Qd B Y).f1))=true:=decide_eq_true dx
             clear dx
             by_cases ge: ψ.length<17592186044416
             ·rw[if_pos ge] at H
              have gl:=Aside0.mk ge
              clear ge
              obtain⟨e3,dh⟩:∃ y_:List Int,y_=(ψ ++ [(Qd B Y).f0]):=⟨_,rfl⟩
              replace H:(call_View.l1 k2 a2 B (B.length:Int) (wrap64 (Y+1)) φ e3 a1)=some (r1,r2,r3,r4):=by first|(rw[dh];with_reducible exact H)|(have an:=(Option.bind_some _ _).symm.trans H;rw[dh];with_reducible exact an)|(have an:=(Option.bind_some _ _).symm.trans H;with_reducible exact an)|with_reducible exact H|(rw[dh];exact H)|exact H
              have gm:=Aside0.mk dh
              clear dh
              have H':=Aside0.mk H
              clear H
              have cn:0≤(Y:Int):=of_decide_eq_true (by assumption)
              have co:Y<(B.length:Int):=of_decide_eq_true (by assumption)
              obtain⟨dj,dw,a5,a8,a9⟩:=X3 a4.out Y cn co
              cases dw
              replace a5:=(HB.out.cell (World.block_lt_of_cell? w _ a5)).trans a5
              replace a8:=(HB.out.cell (World.block_lt_of_cell? w _ a8)).trans a8
              replace a9:=(HB.out.cell (World.block_lt_of_cell? w _ a9)).trans a9
              replace cn:=eq_true cn
              replace co:=eq_true co
              go_wp2_with (first|((with_reducible refine Qf (N:=13) rfl ?_);refine qE 13 #[.int .i64 0,.int .i64 0,.int .i64 0] 36 ?_;intro dm hg nm hbox hb;have χ :=Aside0.mk hbox;have er:=sGe hg;have f7:=sGe hg;have bn:=sNl X hg;have bo:=sNg X hg;have bq:=sNl γ hg;have br:=sNg γ hg;have bs:=sNl δ hg;have bw:=sNg δ hg;have bz:=sNl ζ hg;have ca:=sNg ζ hg;replace ε :=sRb ε hb;replace η :=sRb η hb;replace ν :=sRb ν hb;replace X:=sBk X hb;replace γ:=sBk γ hb;replace δ :=sBk δ hb;replace ζ :=sBk ζ hb;replace HB:=sHb hb;clear hb hbox hg;have my:=bo.out;have mz:=bn.out;have ju:=br.out;have jv:=bq.out;have np:=bw.out;have ns:=bs.out;have jw:=ca.out;have jx:=bz.out;obtain⟨hh,hj,fx,hl,hu,l8⟩:=qD3 χ.out;have fp:=bk.out;have fq:=bj.out;have m6:=bf.out;have m7:=be.out;have nt:=bm.out;have nu:=bl.out;obtain⟨lg,lh,ln,lw,mi,mj⟩:=qD3 ζ.out)|((with_reducible refine Xs (b:=.append) (xs:=#[.tmp 72,.tmp 75]) rfl ?_);at_builtin;refine Kd.G8 (Kd.int .i64) (w0:=w) w.heap.size rfl (.tmp 72) (.tmp 75) 32 3 (.int .i64 0) 8 rfl Try.underlying32 Lb rfl (by decide) (by omega) ω ψ ((Qd B Y).f0) [.int .i64 ((Qd B Y).f0)] (fun k_=>some k_≠(τ :Value).ownBlock∧some k_≠(a0:Value).ownBlock) (fun _=>False) rfl (by first|(go_simp;done)|(go_simp;rfl)) ?aP (fun _ hk=>hk.elim) ?aF ?aO ?aB ?aS ?aL ?_;(case aP=>exact rfl);(case aB=>exact bel);(case aF=>exact(fun k_ hk=>⟨Kd.fresh' (Kd.X1 (by(with_reducible repeat first|apply Kd.Qq|apply Kd.Qp|apply Kd.Qr);exact(Kd.Qw (Kd.Qx (Kd.Qx (Kd.Qx (Kd.Q5 ε.out χ.out (by decide)) (fun _ hk=>hk.2) (.int .i64 ((Qd B Y).f0))) (fun _ hk=>hk.2) (.int .i64 ((Qd B Y).f1))) (fun _ hk=>hk.2) (.int .i64 ((Qd B Y).f2))) (fun _ h_=>h_.1)))) k_ hk,Kd.fresh' (Kd.X1 (by(with_reducible repeat first|apply Kd.Qq|apply Kd.Qp|apply Kd.Qr);exact(Kd.Qw (Kd.Qx (Kd.Qx (Kd.Qx (Kd.Q5 ν.out χ.out (by decide)) (fun _ hk=>hk.2) (.int .i64 ((Qd B Y).f0))) (fun _ hk=>hk.2) (.int .i64 ((Qd B Y).f1))) (fun _ hk=>hk.2) (.int .i64 ((Qd B Y).f2))) (fun _ h_=>h_.1)))) k_ hk⟩));(case aO=>exact(by(with_reducible repeat first|apply Kd.Qq|apply Kd.Qp|apply Kd.Qr);exact Kd.Qw (Kd.Qx (Kd.Qx (Kd.Qx (Kd.Q5 η.out χ.out (by decide)) (fun _ hk=>hk.2) (.int .i64 ((Qd B Y).f0))) (fun _ hk=>hk.2) (.int .i64 ((Qd B Y).f1))) (fun _ hk=>hk.2) (.int .i64 ((Qd B Y).f2))) (fun _ hk=>⟨hk.1.1,hk.1.2⟩)));(case aS=>exact(Qi bel));(case aL=>have:=gl.out;omega);intro n3 nn ho hb hg hat;rw[← gm.out] at ho;have fj:=Aside0.mk ho;replace ε :=Aside0.mk (Kd.Gi (ok:=(fun k_=>some k_≠(a0:Value).ownBlock)) (by(with_reducible repeat first|apply Kd.Qq|apply Kd.Qp|apply Kd.Qr);exact Kd.Qw (Kd.Qx (Kd.Qx (Kd.Qx (Kd.Q5 ε.out χ.out (by decide)) (fun _ hk=>hk.2) (.int .i64 ((Qd B Y).f0))) (fun _ hk=>hk.2) (.int .i64 ((Qd B Y).f1))) (fun _ hk=>hk.2) (.int .i64 ((Qd B Y).f2))) (fun _ hk=>⟨hk.1.2,hk.1.1⟩)) hg hat);replace ν :=Aside0.mk (Kd.Gi (ok:=(fun k_=>some k_≠(τ :Value).ownBlock)) (by(with_reducible repeat first|apply Kd.Qq|apply Kd.Qp|apply Kd.Qr);exact Kd.Qw (Kd.Qx (Kd.Qx (Kd.Qx (Kd.Q5 ν.out χ.out (by decide)) (fun _ hk=>hk.2) (.int .i64 ((Qd B Y).f0))) (fun _ hk=>hk.2) (.int .i64 ((Qd B Y).f1))) (fun _ hk=>hk.2) (.int .i64 ((Qd B Y).f2))) (fun _ hk=>⟨hk.1.1,hk.1.2⟩)) hg hat);replace X:=Aside0.mk (Q1 (g:=b5) (o:=.cells #[.int .i64 J,.int .i64 O] 59 (0,0)) (bka X) hg (Kd.Z6 η.out X.out (by decide)));replace γ:=Aside0.mk (Q1 (g:=cb) (o:=.cells #[.slice (some dj) B.length θ,.slice μ Z.length ι] 50 (0,0)) (bka γ) hg (Kd.Z6 η.out γ.out (by decide)));replace δ :=Aside0.mk (Q1 (g:=b8) (o:=.cells #[.slice none 0 0,.slice none 0 0,.slice none 0 0] 34 (0,0)) (bka δ) hg (Kd.Z6 η.out δ.out (by decide)));replace ζ :=Aside0.mk (Q1 (g:=de) (o:=.cells #[τ,ω,a0] 34 (0,0)) (bka ζ) hg (Kd.Z6 η.out ζ.out (by decide)));replace χ :=Aside0.mk (Q1 (g:=dm) (o:=.cells #[.int .i64 ((Qd B Y).f0),.int .i64 ((Qd B Y).f1),.int .i64 ((Qd B Y).f2)] 36 (0,0)) (by(with_reducible repeat first|refine Qm ?_ _|refine Qe ?_|refine Qn ?_ _);refine Ql (cs:=#[.int .i64 ((Qd B Y).f0),.int .i64 ((Qd B Y).f1),.int .i64 0]) ?_ 2 _ rfl;(with_reducible repeat first|refine Qm ?_ _|refine Qe ?_|refine Qn ?_ _);refine Ql (cs:=#[.int .i64 ((Qd B Y).f0),.int .i64 0,.int .i64 0]) ?_ 1 _ rfl;(with_reducible repeat first|refine Qm ?_ _|refine Qe ?_|refine Qn ?_ _);refine Ql (cs:=#[.int .i64 0,.int .i64 0,.int .i64 0]) ?_ 0 _ rfl;(with_reducible repeat first|refine Qm ?_ _|refine Qe ?_|refine Qn ?_ _);exact χ.out) hg (Kd.Z6 η.out χ.out (by decide)));replace HB:=Aside0.mk hb;clear η;clear ho hb hg hat;obtain⟨he,hx,hy⟩:=Kd.Q7 fj.out;subst hy;obtain⟨iw,ix,iy,jb,jc,jd⟩:=qD3 ζ.out))
              go_roundg k2
              case measure=>have:=b0.out;have:=dp.out;omega
              case rel=>exact⟨(wrap64 (Y+1)),(e3),(a1),(.slice he e3.length hx),(a0),qR,H',⟨by have:=b0.out;have:=dp.out;omega⟩,⟨by(with_reducible repeat first|apply Kd.Qq|apply Kd.Qp|apply Kd.Qr);exact Kd.Qw (Kd.Qx (Kd.Q5 ε.out ζ.out (by decide)) (fun _ hk=>hk.2) _) (fun _ hk=>⟨hk.1.2,hk.1.1⟩)⟩,⟨by(with_reducible repeat first|apply Kd.Qq|apply Kd.Qp|apply Kd.Qr);exact Kd.Qw (Kd.Qx (Kd.Q5 fj.out ζ.out (by decide)) (fun _ hk=>hk.2) _) (fun _ hk=>⟨hk.1.1,hk.1.2⟩)⟩,⟨by(with_reducible repeat first|apply Kd.Qq|apply Kd.Qp|apply Kd.Qr);exact Kd.Qw (Kd.Qx (Kd.Q5 ν.out ζ.out (by decide)) (fun _ hk=>hk.2) _) (fun _ hk=>⟨hk.1.1,hk.1.2⟩)⟩,⟨bka X⟩,⟨bka γ⟩,⟨bka δ⟩,⟨by(with_reducible repeat first|refine Qm ?_ _|refine Qe ?_|refine Qn ?_ _);refine Ql (cs:=#[τ,ω,a0]) ?_ 1 _ rfl;(with_reducible repeat first|refine Qm ?_ _|refine Qe ?_|refine Qn ?_ _);exact ζ.out⟩,⟨bel⟩⟩
             ·rw[if_neg ge] at H
              exact absurd H (by simp)
            ·rw[if_neg dx] at H
             have c57b0:decide (0<((Qd B Y).f1))=false:=decide_eq_false dx
             clear dx
             by_cases k3:a1.length<17592186044416
             ·rw[if_pos k3] at H
              have gq:=Aside0.mk k3
              clear k3
              obtain⟨e5,di⟩:∃ y_:List Int,y_=(a1 ++ [(Qd B Y).f0]):=⟨_,rfl⟩
              replace H:(call_View.l1 k2 a2 B (B.length:Int) (wrap64 (Y+1)) φ ψ e5)=some (r1,r2,r3,r4):=by first|(rw[di];with_reducible exact H)|(have an:=(Option.bind_some _ _).symm.trans H;rw[di];with_reducible exact an)|(have an:=(Option.bind_some _ _).symm.trans H;with_reducible exact an)|with_reducible exact H|(rw[di];exact H)|exact H
              have gr:=Aside0.mk di
              clear di
              have H':=Aside0.mk H
              clear H
              have cn:0≤(Y:Int):=of_decide_eq_true (by assumption)
              have co:Y<(B.length:Int):=of_decide_eq_true (by assumption)
              obtain⟨dj,dw,a5,a8,a9⟩:=X3 a4.out Y cn co
              cases dw
              replace a5:=(HB.out.cell (World.block_lt_of_cell? w _ a5)).trans a5
              replace a8:=(HB.out.cell (World.block_lt_of_cell? w _ a8)).trans a8
              replace a9:=(HB.out.cell (World.block_lt_of_cell? w _ a9)).trans a9
              replace cn:=eq_true cn
              replace co:=eq_true co
              go_wp2_with (first|((with_reducible refine Qf (N:=13) rfl ?_);refine qE 13 #[.int .i64 0,.int .i64 0,.int .i64 0] 36 ?_;intro dm hg su hbox hb;have χ :=Aside0.mk hbox;have er:=sGe hg;have f7:=sGe hg;have bn:=sNl X hg;have bo:=sNg X hg;have bq:=sNl γ hg;have br:=sNg γ hg;have bs:=sNl δ hg;have bw:=sNg δ hg;have bz:=sNl ζ hg;have ca:=sNg ζ hg;replace ε :=sRb ε hb;replace η :=sRb η hb;replace ν :=sRb ν hb;replace X:=sBk X hb;replace γ:=sBk γ hb;replace δ :=sBk δ hb;replace ζ :=sBk ζ hb;replace HB:=sHb hb;clear hb hbox hg;have nv:=bo.out;have nw:=bn.out;have j7:=br.out;have j8:=bq.out;have j9:=bw.out;have ja:=bs.out;have ks:=ca.out;have kt:=bz.out;obtain⟨ii,io,ip,iq,ir,j2⟩:=qD3 χ.out;have ll:=bk.out;have lm:=bj.out;have lp:=bf.out;have lq:=be.out;have nx:=bm.out;have ny:=bl.out;obtain⟨je,jj,jk,jl,jm,jp⟩:=qD3 ζ.out)|((with_reducible refine Xs (b:=.append) (xs:=#[.tmp 56,.tmp 59]) rfl ?_);at_builtin;refine Kd.G8 (Kd.int .i64) (w0:=w) w.heap.size rfl (.tmp 56) (.tmp 59) 32 3 (.int .i64 0) 8 rfl Try.underlying32 Lb rfl (by decide) (by omega) a0 a1 ((Qd B Y).f0) [.int .i64 ((Qd B Y).f0)] (fun k_=>some k_≠(τ :Value).ownBlock∧some k_≠(ω :Value).ownBlock) (fun _=>False) rfl (by first|(go_simp;done)|(go_simp;rfl)) ?aP (fun _ hk=>hk.elim) ?aF ?aO ?aB ?aS ?aL ?_;(case aP=>exact rfl);(case aB=>exact bel);(case aF=>exact(fun k_ hk=>⟨Kd.fresh' (Kd.X1 (by(with_reducible repeat first|apply Kd.Qq|apply Kd.Qp|apply Kd.Qr);exact(Kd.Qw (Kd.Qx (Kd.Qx (Kd.Qx (Kd.Q5 ε.out χ.out (by decide)) (fun _ hk=>hk.2) (.int .i64 ((Qd B Y).f0))) (fun _ hk=>hk.2) (.int .i64 ((Qd B Y).f1))) (fun _ hk=>hk.2) (.int .i64 ((Qd B Y).f2))) (fun _ h_=>h_.1)))) k_ hk,Kd.fresh' (Kd.X1 (by(with_reducible repeat first|apply Kd.Qq|apply Kd.Qp|apply Kd.Qr);exact(Kd.Qw (Kd.Qx (Kd.Qx (Kd.Qx (Kd.Q5 η.out χ.out (by decide)) (fun _ hk=>hk.2) (.int .i64 ((Qd B Y).f0))) (fun _ hk=>hk.2) (.int .i64 ((Qd B Y).f1))) (fun _ hk=>hk.2) (.int .i64 ((Qd B Y).f2))) (fun _ h_=>h_.1)))) k_ hk⟩));(case aO=>exact(by(with_reducible repeat first|apply Kd.Qq|apply Kd.Qp|apply Kd.Qr);exact Kd.Qw (Kd.Qx (Kd.Qx (Kd.Qx (Kd.Q5 ν.out χ.out (by decide)) (fun _ hk=>hk.2) (.int .i64 ((Qd B Y).f0))) (fun _ hk=>hk.2) (.int .i64 ((Qd B Y).f1))) (fun _ hk=>hk.2) (.int .i64 ((Qd B Y).f2))) (fun _ hk=>⟨hk.1.1,hk.1.2⟩)));(case aS=>exact(Qi bel));(case aL=>have:=gq.out;omega);intro na o1 ho hb hg hat;rw[← gr.out] at ho;have fk:=Aside0.mk ho;replace ε :=Aside0.mk (Kd.Gi (ok:=(fun k_=>some k_≠(ω :Value).ownBlock)) (by(with_reducible repeat first|apply Kd.Qq|apply Kd.Qp|apply Kd.Qr);exact Kd.Qw (Kd.Qx (Kd.Qx (Kd.Qx (Kd.Q5 ε.out χ.out (by decide)) (fun _ hk=>hk.2) (.int .i64 ((Qd B Y).f0))) (fun _ hk=>hk.2) (.int .i64 ((Qd B Y).f1))) (fun _ hk=>hk.2) (.int .i64 ((Qd B Y).f2))) (fun _ hk=>⟨hk.1.1,hk.1.2⟩)) hg hat);replace η :=Aside0.mk (Kd.Gi (ok:=(fun k_=>some k_≠(τ :Value).ownBlock)) (by(with_reducible repeat first|apply Kd.Qq|apply Kd.Qp|apply Kd.Qr);exact Kd.Qw (Kd.Qx (Kd.Qx (Kd.Qx (Kd.Q5 η.out χ.out (by decide)) (fun _ hk=>hk.2) (.int .i64 ((Qd B Y).f0))) (fun _ hk=>hk.2) (.int .i64 ((Qd B Y).f1))) (fun _ hk=>hk.2) (.int .i64 ((Qd B Y).f2))) (fun _ hk=>⟨hk.1.1,hk.1.2⟩)) hg hat);replace X:=Aside0.mk (Q1 (g:=b5) (o:=.cells #[.int .i64 J,.int .i64 O] 59 (0,0)) (bka X) hg (Kd.Z6 ν.out X.out (by decide)));replace γ:=Aside0.mk (Q1 (g:=cb) (o:=.cells #[.slice (some dj) B.length θ,.slice μ Z.length ι] 50 (0,0)) (bka γ) hg (Kd.Z6 ν.out γ.out (by decide)));replace δ :=Aside0.mk (Q1 (g:=b8) (o:=.cells #[.slice none 0 0,.slice none 0 0,.slice none 0 0] 34 (0,0)) (bka δ) hg (Kd.Z6 ν.out δ.out (by decide)));replace ζ :=Aside0.mk (Q1 (g:=de) (o:=.cells #[τ,ω,a0] 34 (0,0)) (bka ζ) hg (Kd.Z6 ν.out ζ.out (by decide)));replace χ :=Aside0.mk (Q1 (g:=dm) (o:=.cells #[.int .i64 ((Qd B Y).f0),.int .i64 ((Qd B Y).f1),.int .i64 ((Qd B Y).f2)] 36 (0,0)) (by(with_reducible repeat first|refine Qm ?_ _|refine Qe ?_|refine Qn ?_ _);refine Ql (cs:=#[.int .i64 ((Qd B Y).f0),.int .i64 ((Qd B Y).f1),.int .i64 0]) ?_ 2 _ rfl;(with_reducible repeat first|refine Qm ?_ _|refine Qe ?_|refine Qn ?_ _);refine Ql (cs:=#[.int .i64 ((Qd B Y).f0),.int .i64 0,.int .i64 0]) ?_ 1 _ rfl;(with_reducible repeat first|refine Qm ?_ _|refine Qe ?_|refine Qn ?_ _);refine Ql (cs:=#[.int .i64 0,.int .i64 0,.int .i64 0]) ?_ 0 _ rfl;(with_reducible repeat first|refine Qm ?_ _|refine Qe ?_|refine Qn ?_ _);exact χ.out) hg (Kd.Z6 ν.out χ.out (by decide)));replace HB:=Aside0.mk hb;clear ν;clear ho hb hg hat;obtain⟨bu,bv,n0⟩:=Kd.Q7 fk.out;subst n0;obtain⟨jy,jz,k0,k4,k5,k6⟩:=qD3 ζ.out))
              go_roundg k2
              case measure=>have:=b0.out;have:=dp.out;omega
              case rel=>exact⟨(wrap64 (Y+1)),(ψ),(e5),(ω),(.slice bu e5.length bv),qR,H',⟨by have:=b0.out;have:=dp.out;omega⟩,⟨by(with_reducible repeat first|apply Kd.Qq|apply Kd.Qp|apply Kd.Qr);exact Kd.Qw (Kd.Qx (Kd.Q5 ε.out ζ.out (by decide)) (fun _ hk=>hk.2) _) (fun _ hk=>⟨hk.1.1,hk.1.2⟩)⟩,⟨by(with_reducible repeat first|apply Kd.Qq|apply Kd.Qp|apply Kd.Qr);exact Kd.Qw (Kd.Qx (Kd.Q5 η.out ζ.out (by decide)) (fun _ hk=>hk.2) _) (fun _ hk=>⟨hk.1.1,hk.1.2⟩)⟩,⟨by(with_reducible repeat first|apply Kd.Qq|apply Kd.Qp|apply Kd.Qr);exact Kd.Qw (Kd.Qx (Kd.Q5 fk.out ζ.out (by decide)) (fun _ hk=>hk.2) _) (fun _ hk=>⟨hk.1.1,hk.1.2⟩)⟩,⟨bka X⟩,⟨bka γ⟩,⟨bka δ⟩,⟨by(with_reducible repeat first|refine Qm ?_ _|refine Qe ?_|refine Qn ?_ _);refine Ql (cs:=#[τ,ω,a0]) ?_ 2 _ rfl;(with_reducible repeat first|refine Qm ?_ _|refine Qe ?_|refine Qn ?_ _);exact ζ.out⟩,⟨bel⟩⟩
             ·rw[if_neg k3] at H
              exact absurd H (by simp)
           ·rw[if_neg ga] at H
            have c56b0:(((Qd B Y).f2)==a2)=false:=beq_eq_false_iff_ne.mpr ga
            have c56b1:(((Qd B Y).f2) != a2)=true:=bne_iff_ne.mpr ga
            have H':=Aside0.mk H
            clear H
            have cn:0≤(Y:Int):=of_decide_eq_true (by assumption)
            have co:Y<(B.length:Int):=of_decide_eq_true (by assumption)
            obtain⟨dj,dw,a5,a8,a9⟩:=X3 a4.out Y cn co
            cases dw
            replace a5:=(HB.out.cell (World.block_lt_of_cell? w _ a5)).trans a5
            replace a8:=(HB.out.cell (World.block_lt_of_cell? w _ a8)).trans a8
            replace a9:=(HB.out.cell (World.block_lt_of_cell? w _ a9)).trans a9
            replace cn:=eq_true cn
            replace co:=eq_true co
            go_wp2_with (first|((with_reducible refine Qf (N:=13) rfl ?_);refine qE 13 #[.int .i64 0,.int .i64 0,.int .i64 0] 36 ?_;intro dm hg sw hbox hb;have χ :=Aside0.mk hbox;have er:=sGe hg;have f7:=sGe hg;have bn:=sNl X hg;have bo:=sNg X hg;have bq:=sNl γ hg;have br:=sNg γ hg;have bs:=sNl δ hg;have bw:=sNg δ hg;have bz:=sNl ζ hg;have ca:=sNg ζ hg;replace ε :=sRb ε hb;replace η :=sRb η hb;replace ν :=sRb ν hb;replace X:=sBk X hb;replace γ:=sBk γ hb;replace δ :=sBk δ hb;replace ζ :=sBk ζ hb;replace HB:=sHb hb;clear hb hbox hg;have m8:=bo.out;have m9:=bn.out;have ma:=br.out;have mb:=bq.out;have mc:=bw.out;have me:=bs.out;have mf:=ca.out;have mg:=bz.out;obtain⟨k7,kv,kw,kx,ky,kz⟩:=qD3 χ.out))
            go_roundg k2
            case measure=>have:=b0.out;have:=dp.out;omega
            case rel=>exact⟨(wrap64 (Y+1)),(ψ),(a1),(ω),(a0),qR,H',⟨by have:=b0.out;have:=dp.out;omega⟩,⟨by(with_reducible repeat first|apply Kd.Qq|apply Kd.Qp|apply Kd.Qr);exact Kd.Qw (Kd.Qx (Kd.Qx (Kd.Qx (Kd.Q5 ε.out χ.out (by decide)) (fun _ hk=>hk.2) (.int .i64 ((Qd B Y).f0))) (fun _ hk=>hk.2) (.int .i64 ((Qd B Y).f1))) (fun _ hk=>hk.2) (.int .i64 ((Qd B Y).f2))) (fun _ hk=>⟨hk.1.1,hk.1.2⟩)⟩,⟨by(with_reducible repeat first|apply Kd.Qq|apply Kd.Qp|apply Kd.Qr);exact Kd.Qw (Kd.Qx (Kd.Qx (Kd.Qx (Kd.Q5 η.out χ.out (by decide)) (fun _ hk=>hk.2) (.int .i64 ((Qd B Y).f0))) (fun _ hk=>hk.2) (.int .i64 ((Qd B Y).f1))) (fun _ hk=>hk.2) (.int .i64 ((Qd B Y).f2))) (fun _ hk=>⟨hk.1.1,hk.1.2⟩)⟩,⟨by(with_reducible repeat first|apply Kd.Qq|apply Kd.Qp|apply Kd.Qr);exact Kd.Qw (Kd.Qx (Kd.Qx (Kd.Qx (Kd.Q5 ν.out χ.out (by decide)) (fun _ hk=>hk.2) (.int .i64 ((Qd B Y).f0))) (fun _ hk=>hk.2) (.int .i64 ((Qd B Y).f1))) (fun _ hk=>hk.2) (.int .i64 ((Qd B Y).f2))) (fun _ hk=>⟨hk.1.1,hk.1.2⟩)⟩,⟨bka X⟩,⟨bka γ⟩,⟨bka δ⟩,⟨bka ζ⟩,⟨bel⟩⟩
          ·rw[if_neg ep] at H
           exact absurd H (by simp)
         ·rw[if_neg gw] at H
          exact absurd H (by simp)
        ·rw[if_neg fz] at H
         have c53b0:decide (Y<(B.length:Int))=false:=decide_eq_false fz
         clear fz
         simp only[Option.some.injEq,Prod.mk.injEq] at H
         obtain⟨rfl,rfl,rfl,rfl⟩:=H
         have mh:=bk.out
         have mr:=bj.out
         have ms:=bf.out
         have mt:=be.out
         have nz:=bm.out
         have o0:=bl.out
         obtain⟨l3,l4,l5,l6,l7,l9⟩:=qD3 ζ.out
         obtain⟨e6,e7,i0⟩:=Kd.Q7 ε.out
         subst i0
         have se:=bd.out
         have sf:=bc.out
         have sg:=ax.out
         have sh:=ab.out
         obtain⟨lx,ly,lz,m0,m1,m2⟩:=qD3 δ.out
         obtain⟨fl,fo,gs⟩:=Kd.Q7 η.out
         subst gs
         obtain⟨gx,gz,h7⟩:=Kd.Q7 ν.out
         subst h7
         go_wp2
         refine bodyPost_ret (Z9 rfl _ _ b8 34 #[.slice e6 φ.length e7,.slice fl ψ.length fo,.slice gx a1.length gz] (0,0) _ rfl (by refine Ql (cs:=#[.slice e6 φ.length e7,.slice fl ψ.length fo,.slice none 0 0]) ?_ 2 _ rfl;refine Ql (cs:=#[.slice e6 φ.length e7,.slice none 0 0,.slice none 0 0]) ?_ 1 _ rfl;refine Ql (cs:=#[.slice none 0 0,.slice none 0 0,.slice none 0 0]) ?_ 0 _ rfl;exact δ.out) Try.underlying34 rfl kr) rfl ?_
         exact⟨_,_,_,by first|rfl|(simp[Qk,Qj] <;> rfl)|(simp[*,Qk,Qj] <;> rfl),by(with_reducible repeat first|apply Kd.Qq|apply Kd.Qp|apply Kd.Qr);exact Kd.Qw (Kd.Qx (Kd.Qx (Kd.Qx (Kd.Q5 ε.out δ.out (by decide)) (fun _ hk=>hk.2) _) (fun _ hk=>hk.2) _) (fun _ hk=>hk.2) _) (fun _ hk=>⟨hk.1.1,hk.1.2⟩),by(with_reducible repeat first|apply Kd.Qq|apply Kd.Qp|apply Kd.Qr);exact Kd.Qw (Kd.Qx (Kd.Qx (Kd.Qx (Kd.Q5 η.out δ.out (by decide)) (fun _ hk=>hk.2) _) (fun _ hk=>hk.2) _) (fun _ hk=>hk.2) _) (fun _ hk=>⟨hk.1.1,hk.1.2⟩),by(with_reducible repeat first|apply Kd.Qq|apply Kd.Qp|apply Kd.Qr);exact Kd.Qw (Kd.Qx (Kd.Qx (Kd.Qx (Kd.Q5 ν.out δ.out (by decide)) (fun _ hk=>hk.2) _) (fun _ hk=>hk.2) _) (fun _ hk=>hk.2) _) (fun _ hk=>⟨hk.1.1,hk.1.2⟩),bel⟩
  ·replace c7:=Bool.eq_false_iff.mpr c7
   subst c7
   have H1:(some (([]:List Int),([]:List Int),([]:List Int),191))=some (r1,r2,r3,r4):=by rw[if_neg (show ¬ (false=true) by decide)] at H;exact H
   clear H
   have H:=H1
   clear H1
   simp only[Option.some.injEq,Prod.mk.injEq] at H
   obtain⟨rfl,rfl,rfl,rfl⟩:=H
   go_enter Try.func24,Try.ntmps24
   go_wp2_with (first|((with_reducible refine Qf (N:=3) rfl ?_);refine qE 3 #[.int .i64 J,.int .i64 O] 59 ?_;intro b5 hg nb hbox hb;have X:=Aside0.mk hbox;have ee:=sGe hg;have ef:=sGe hg;replace HB:=sHb hb;clear hb hbox hg)|((with_reducible refine Qf (N:=4) rfl ?_);refine qE 4 #[.slice κ B.length θ,.slice μ Z.length ι] 50 ?_;intro cb hg nc hbox hb;have γ:=Aside0.mk hbox;have eh:=sGe hg;have ei:=sGe hg;have b9:=sNl X hg;have ba:=sNg X hg;replace X:=sBk X hb;replace HB:=sHb hb;clear hb hbox hg)|((with_reducible refine Qf (N:=6) rfl ?_);refine qE 6 #[.slice none 0 0,.slice none 0 0,.slice none 0 0] 34 ?_;intro b8 hg nf hbox hb;have δ :=Aside0.mk hbox;have ej:=sGe hg;have ek:=sGe hg;have bc:=sNl X hg;have bd:=sNg X hg;have ab:=sNl γ hg;have ax:=sNg γ hg;replace X:=sBk X hb;replace γ:=sBk γ hb;replace HB:=sHb hb;clear hb hbox hg;have qz:=b9.out;have r0:=ba.out;have r5:=bc.out;have r6:=bd.out;obtain⟨i1,i2,i3,i6⟩:=qD2 X.out;have r7:=ab.out;have r8:=ax.out;obtain⟨kj,kk,kl,km⟩:=qD2 γ.out)|((with_reducible refine Qo (f:=40) rfl ?_);refine Q6 (some 16) rfl rfl Try.func40 kr rfl #[.agg #[.int .i64 J,.int .i64 O],.agg #[.slice κ B.length θ,.slice μ Z.length ι]] rfl qM ?_;(with_reducible refine(call_Check.calls k J O _ _ B _ _ Z b7 _ ?side1 ?side2 ?side3 ?side4 A4.out).mono ?_);(case side1=>exact(Kd.Qy a4.out HB.out));(case side2=>exact ao.out);(case side3=>exact(Kd.Qy a6.out HB.out));(case side4=>exact ap.out);rintro e cr ⟨rfl,hb⟩;refine⟨_,rfl, ?_⟩;replace X:=sBk X hb;replace γ:=sBk γ hb;replace δ :=sBk δ hb;replace HB:=sHb hb;(try clear hb);(try clear ac);(try clear hk);(try clear hi);obtain⟨i7,i9,ia,ij⟩:=qD2 X.out)|((with_reducible refine Qo (f:=44) rfl ?_);refine Q6 (some 25) rfl rfl Try.func44 kr rfl #[.int .i64 a2,.int .i64 0,.int .i64 (wrap64 (O-1))] rfl qM ?_;(with_reducible refine(call_within.calls a2 0 (wrap64 (O-1)) false _ A6.out).mono ?_);rintro e w' ⟨rfl,⟨nd,rfl⟩⟩;refine⟨_,rfl, ?_⟩;(try(rw[Yr cr];generalize hq_:World.drewN cr _=cr;have ξ :Aside0 (cr.heap[b5]?=some (.cells #[.int .i64 J,.int .i64 O] 59 (0,0))):=⟨by rw[← hq_];exact X.out⟩;have ρ:Aside0 (cr.heap[cb]?=some (.cells #[.slice κ B.length θ,.slice μ Z.length ι] 50 (0,0))):=⟨by rw[← hq_];exact γ.out⟩;have a3:Aside0 (cr.heap[b8]?=some (.cells #[.slice none 0 0,.slice none 0 0,.slice none 0 0] 34 (0,0))):=⟨by rw[← hq_];exact δ.out⟩;have a7:Aside0 (Below w.heap.size w cr):=⟨by rw[← hq_];exact HB.out⟩;clear X γ δ HB hq_;have X:= ξ;have γ:=ρ;have δ :=a3;have HB:=a7;clear ξ ρ a3 a7));(try(have k9:cr.cell? ⟨b5,0,none⟩=some (.int .i64 J):=(Qa X.out 0).trans rfl));(try(have ka:cr.cell? ⟨b5,1,none⟩=some (.int .i64 O):=(Qa X.out 1).trans rfl));(try(have kb:=Qc X.out 0));(try(have kc:=Qc X.out 1));obtain⟨ik,il,im,it,iu,j4⟩:=qD3 δ.out))
   refine bodyPost_ret (Z9 rfl _ _ b8 34 #[.slice none 0 0,.slice none 0 0,.slice none 0 0] (0,0) _ rfl (by refine Ql (cs:=#[.slice none 0 0,.slice none 0 0,.slice none 0 0]) ?_ 2 _ rfl;refine Ql (cs:=#[.slice none 0 0,.slice none 0 0,.slice none 0 0]) ?_ 1 _ rfl;refine Ql (cs:=#[.slice none 0 0,.slice none 0 0,.slice none 0 0]) ?_ 0 _ rfl;exact δ.out) Try.underlying34 rfl kr) rfl ?_
   exact⟨_,_,_,by first|rfl|(simp[Qk,Qj] <;> rfl)|(simp[*,Qk,Qj] <;> rfl),by first|exact Kd.X0 _ _ _ _ _|exact Kd.Yx _ _ _ _ _|exact Kd.Yt _ _ _ _ _|exact Kd.Yw _ _ _ _ _|exact Kd.Yu _ _ _ _ _,by first|exact Kd.X0 _ _ _ _ _|exact Kd.Yx _ _ _ _ _|exact Kd.Yt _ _ _ _ _|exact Kd.Yw _ _ _ _ _|exact Kd.Yu _ _ _ _ _,by first|exact Kd.X0 _ _ _ _ _|exact Kd.Yx _ _ _ _ _|exact Kd.Yt _ _ _ _ _|exact Kd.Yw _ _ _ _ _|exact Kd.Yu _ _ _ _ _,bel⟩
 ·rw[if_neg c5] at H
  have c5b0:(b7==0)=false:=beq_eq_false_iff_ne.mpr c5
  have c5b1:(b7 != 0)=true:=bne_iff_ne.mpr c5
  simp only[Option.some.injEq,Prod.mk.injEq] at H
  obtain⟨rfl,rfl,rfl,rfl⟩:=H
  go_enter Try.func24,Try.ntmps24
  go_wp2_with (first|((with_reducible refine Qf (N:=3) rfl ?_);refine qE 3 #[.int .i64 J,.int .i64 O] 59 ?_;intro b5 hg ol hbox hb;have X:=Aside0.mk hbox;have ee:=sGe hg;have ef:=sGe hg;replace HB:=sHb hb;clear hb hbox hg)|((with_reducible refine Qf (N:=4) rfl ?_);refine qE 4 #[.slice κ B.length θ,.slice μ Z.length ι] 50 ?_;intro cb hg ng hbox hb;have γ:=Aside0.mk hbox;have eh:=sGe hg;have ei:=sGe hg;have b9:=sNl X hg;have ba:=sNg X hg;replace X:=sBk X hb;replace HB:=sHb hb;clear hb hbox hg)|((with_reducible refine Qf (N:=6) rfl ?_);refine qE 6 #[.slice none 0 0,.slice none 0 0,.slice none 0 0] 34 ?_;intro b8 hg tm hbox hb;have δ :=Aside0.mk hbox;have ej:=sGe hg;have ek:=sGe hg;have bc:=sNl X hg;have bd:=sNg X hg;have ab:=sNl γ hg;have ax:=sNg γ hg;replace X:=sBk X hb;replace γ:=sBk γ hb;replace HB:=sHb hb;clear hb hbox hg;have ml:=b9.out;have mm:=ba.out;have mo:=bc.out;have mq:=bd.out;obtain⟨kd,ke,kf,kg⟩:=qD2 X.out;have nq:=ab.out;have nr:=ax.out;obtain⟨oc,od,oe,oh⟩:=qD2 γ.out)|((with_reducible refine Qo (f:=40) rfl ?_);refine Q6 (some 16) rfl rfl Try.func40 kr rfl #[.agg #[.int .i64 J,.int .i64 O],.agg #[.slice κ B.length θ,.slice μ Z.length ι]] rfl qM ?_;(with_reducible refine(call_Check.calls k J O _ _ B _ _ Z b7 _ ?side1 ?side2 ?side3 ?side4 A4.out).mono ?_);(case side1=>exact(Kd.Qy a4.out HB.out));(case side2=>exact ao.out);(case side3=>exact(Kd.Qy a6.out HB.out));(case side4=>exact ap.out);rintro e tn ⟨rfl,hb⟩;refine⟨_,rfl, ?_⟩;replace X:=sBk X hb;replace γ:=sBk γ hb;replace δ :=sBk δ hb;replace HB:=sHb hb;(try clear hb);(try clear ac);(try clear hk);(try clear hi);obtain⟨kn,ko,j5,kp,l2,j6⟩:=qD3 δ.out))
  refine bodyPost_ret (Z9 rfl _ _ b8 34 #[.slice none 0 0,.slice none 0 0,.slice none 0 0] (0,0) _ rfl (by refine Ql (cs:=#[.slice none 0 0,.slice none 0 0,.slice none 0 0]) ?_ 2 _ rfl;refine Ql (cs:=#[.slice none 0 0,.slice none 0 0,.slice none 0 0]) ?_ 1 _ rfl;refine Ql (cs:=#[.slice none 0 0,.slice none 0 0,.slice none 0 0]) ?_ 0 _ rfl;exact δ.out) Try.underlying34 rfl kr) rfl ?_
  exact⟨_,_,_,by first|rfl|(simp[Qk,Qj] <;> rfl)|(simp[*,Qk,Qj] <;> rfl),by first|exact Kd.X0 _ _ _ _ _|exact Kd.Yx _ _ _ _ _|exact Kd.Yt _ _ _ _ _|exact Kd.Yw _ _ _ _ _|exact Kd.Yu _ _ _ _ _,by first|exact Kd.X0 _ _ _ _ _|exact Kd.Yx _ _ _ _ _|exact Kd.Yt _ _ _ _ _|exact Kd.Yw _ _ _ _ _|exact Kd.Yu _ _ _ _ _,by first|exact Kd.X0 _ _ _ _ _|exact Kd.Yx _ _ _ _ _|exact Kd.Yt _ _ _ _ _|exact Kd.Yw _ _ _ _ _|exact Kd.Yu _ _ _ _ _,bel⟩
def group_pick_1.f (k:Nat) (J:Int) (ζ :Int) (ε :Int) (κ :Int) (μ :Int) (B:Int) (τ :Int) (χ :Int) (ψ :Int) (ω :Int) (a1:Int) (l2:List (S31)) (φ :List (S36)) (ν :List (S86)) (a9:Int) (aa:Int) (ab:Int):Option (Int):=(group_house.f ζ ε κ μ B τ χ ψ ω a1 l2).bind fun dn=>((call_View.f k dn.1 dn.2 φ ν J).bind fun bd=>(if 0≤J then (if J<(l2.length:Int) then ((group_cost.f k ζ ε κ μ B τ χ ψ ω a1 ((Qb l2 J).f0.f0) ((Qb l2 J).f0.f1) ((Qb l2 J).f0.f2) ((Qb l2 J).f0.f3) ((Qb l2 J).f0.f4.f0) ((Qb l2 J).f0.f4.f1) ((Qb l2 J).f0.f4.f2) ((Qb l2 J).f1) ((Qb l2 J).f2) ((Qb l2 J).f3) bd.1 bd.2.1 bd.2.2.1 a9 aa ab).bind fun be=>(some be)) else (none)) else (none)))
theorem group_pick_1.mono:∀ J Y a2 a3 O a5 X a7 a8 a9 Z γ δ ζ ε η θ k,LeO (group_pick_1.f k J Y a2 a3 O a5 X a7 a8 a9 Z γ δ ζ ε η θ) (group_pick_1.f (k+1) J Y a2 a3 O a5 X a7 a8 a9 Z γ δ ζ ε η θ):=by
 intro J Y a2 a3 O a5 X a7 a8 a9 Z γ δ ζ ε η θ k
 unfold group_pick_1.f
 repeat' first
   |(with_reducible exact call_View.mono _ _ _ _ _ _)
   |(with_reducible exact group_cost.mono _ _ _ _ _ _ _ _ _ _ _ _ _ _ _ _ _ _ _ _ _ _ _ _ _ _ _)
   |(with_reducible exact LeO.refl _)
   |(with_reducible exact LeO.none _)
   |(with_reducible refine LeO.ite ?_ ?_)
   |(with_reducible refine LeO.bind ?_ (fun _=>?_))
   |exact call_View.mono _ _ _ _ _ _
   |exact group_cost.mono _ _ _ _ _ _ _ _ _ _ _ _ _ _ _ _ _ _ _ _ _ _ _ _ _ _ _
   |exact LeO.none _
   |refine LeO.ite ?_ ?_
   |refine LeO.bind ?_ (fun _=>?_)
def group_pick_1.T1:Bool×List (List Nat×List Nat):=(true,[([],[]),([],[]),([0,1],[0,1]),([],[]),([],[]),([2,3,4,2],[2,3,4]),([5],[5]),([6],[6]),([6],[6]),([],[]),([9,7,5,0,1,2,3,4,5,6,7,9],[7,9]),([8,10,0,1,2,3,4,5,6,7,8,9,10],[8])])
def group_pick_1.B1:List Nat:=[0,0,3,0,0,31,63,127,127,0,767,2047]
theorem group_pick_1.Km:rtab .any (opsOf Try.f58 1)=group_pick_1.T1:=by kernel_rfl
theorem group_pick_1.Y3:Zk group_pick_1.T1.2 group_pick_1.B1=true:=by kernel_rfl
def group_pick_1.T2:Bool×List (List Nat×List Nat):=(true,[([],[]),([],[]),([],[]),([1,2],[1,2]),([3],[3]),([],[]),([],[]),([0,4,5,6],[0,4,5,6]),([7,7,0,1,2,3,4,5,6,7],[7])])
def group_pick_1.B2:List Nat:=[0,0,0,6,14,0,0,127,255]
theorem group_pick_1.tab2:rtab .any (opsOf Try.f58 2)=group_pick_1.T2:=by kernel_rfl
theorem group_pick_1.bits2:Zk group_pick_1.T2.2 group_pick_1.B2=true:=by kernel_rfl
set_option maxHeartbeats 8000000 in
set_option maxRecDepth 100000 in
theorem group_pick_1.calls (k:Nat) (J:Int) (ζ :Int) (ε :Int) (κ :Int) (μ :Int) (B:Int) (τ :Int) (χ :Int) (ψ :Int) (ω :Int) (a1:Int) (A2:Option Addr) (c2:Nat) (l2:List (S31)) (a4:Option Addr) (a5:Nat) (φ :List (S36)) (a6:Option Addr) (a8:Nat) (ν :List (S86)) (a9:Int) (aa:Int) (ab:Int) (r:Int) (w:World) (ea:Kd.C k31 w A2 l2.length l2) (dq:l2.length≤c2) (cy:Kd.C k36 w a4 φ.length φ) (d9: φ.length≤a5) (da:Kd.C k86 w a6 ν.length ν) (df: ν.length≤a8) (h:group_pick_1.f k J ζ ε κ μ B τ χ ψ ω a1 l2 φ ν a9 aa ab=some r) (γ:Nat) (b9:Nat) (b0:Nat) (bc:Nat) (dr:w.heap[γ]?=some (.cells #[.int .i64 ζ,.int .i64 ε,.int .i64 κ,.int .i64 μ,.int .i64 B,.int .i64 τ,.int .i64 χ,.int .i64 ψ,.int .i64 ω,.int .i64 a1] 25 (0,0))) (dt:w.heap[b9]?=some (.cells #[.slice A2 l2.length c2] 46 (0,0))) (du:w.heap[b0]?=some (.cells #[.slice a4 φ.length a5,.slice a6 ν.length a8] 50 (0,0))) (dv:w.heap[bc]?=some (.cells #[.int .i64 a9,.int .i64 aa,.int .i64 ab] 36 (0,0))):
  Calls Try.prog 58 #[.int .i64 J,.pointer (some ⟨γ,0,none⟩),.pointer (some ⟨b9,0,none⟩),.pointer (some ⟨b0,0,none⟩),.pointer (some ⟨bc,0,none⟩)] w fun e w'=>e = .returned (.int .i64 r)∧Below w.heap.size w w':=by
 have O:=Aside0.mk dr
 clear dr
 have δ :=Aside0.mk dt
 clear dt
 have Z:=Aside0.mk du
 clear du
 have η :=Aside0.mk dv
 clear dv
 have e5:=Try.underlying25
 have ed:=Try.underlying50
 have e4:=Try.underlying36
 have ki:=Try.underlying34
 have jc:=Try.underlying31
 have e6:=Aside0.mk ea
 have dz:=Aside0.mk dq
 clear ea dq
 have bh:=Aside0.mk cy
 have bu:=Aside0.mk d9
 clear cy d9
 have br:=Aside0.mk da
 have bv:=Aside0.mk df
 clear da df
 have HB:=Aside0.mk (Below.refl w.heap.size w)
 have H:((group_house.f ζ ε κ μ B τ χ ψ ω a1 l2).bind fun dn=>((call_View.f k dn.1 dn.2 φ ν J).bind fun bd=>(if 0≤J then (if J<(l2.length:Int) then ((group_cost.f k ζ ε κ μ B τ χ ψ ω a1 ((Qb l2 J).f0.f0) ((Qb l2 J).f0.f1) ((Qb l2 J).f0.f2) ((Qb l2 J).f0.f3) ((Qb l2 J).f0.f4.f0) ((Qb l2 J).f0.f4.f1) ((Qb l2 J).f0.f4.f2) ((Qb l2 J).f1) ((Qb l2 J).f2) ((Qb l2 J).f3) bd.1 bd.2.1 bd.2.2.1 a9 aa ab).bind fun be=>(some be)) else (none)) else (none))))=some r:=h
 clear h
 replace H:=Option.bind_eq_some_iff.mp H
 obtain⟨⟨bf,bg⟩,d0,H⟩:=H
 replace H:((call_View.f k bf bg φ ν J).bind fun bd=>(if 0≤J then (if J<(l2.length:Int) then ((group_cost.f k ζ ε κ μ B τ χ ψ ω a1 ((Qb l2 J).f0.f0) ((Qb l2 J).f0.f1) ((Qb l2 J).f0.f2) ((Qb l2 J).f0.f3) ((Qb l2 J).f0.f4.f0) ((Qb l2 J).f0.f4.f1) ((Qb l2 J).f0.f4.f2) ((Qb l2 J).f1) ((Qb l2 J).f2) ((Qb l2 J).f3) bd.1 bd.2.1 bd.2.2.1 a9 aa ab).bind fun be=>(some be)) else (none)) else (none)))=some r:=H
 have A6:=Aside0.mk d0
 clear d0
 replace H:=Option.bind_eq_some_iff.mp H
 obtain⟨⟨ag,ai,aj,dp⟩,bo,H⟩:=H
 replace H:(if 0≤J then (if J<(l2.length:Int) then ((group_cost.f k ζ ε κ μ B τ χ ψ ω a1 ((Qb l2 J).f0.f0) ((Qb l2 J).f0.f1) ((Qb l2 J).f0.f2) ((Qb l2 J).f0.f3) ((Qb l2 J).f0.f4.f0) ((Qb l2 J).f0.f4.f1) ((Qb l2 J).f0.f4.f2) ((Qb l2 J).f1) ((Qb l2 J).f2) ((Qb l2 J).f3) ag ai aj a9 aa ab).bind fun be=>(some be)) else (none)) else (none))=some r:=H
 have A7:=Aside0.mk bo
 clear bo
 by_cases c8:0≤J
 ·rw[if_pos c8] at H
  have c8b0:decide (0≤J)=true:=decide_eq_true c8
  clear c8
  by_cases c9:J<(l2.length:Int)
  ·rw[if_pos c9] at H
   have c9b0:decide (J<(l2.length:Int))=true:=decide_eq_true c9
   clear c9
   replace H:=Option.bind_eq_some_iff.mp H
   obtain⟨be,cz,H⟩:=H
   replace H:(some be)=some r:=H
   have bq:=Aside0.mk cz
   clear cz
   obtain rfl:=Option.some.inj H
   go_enter Try.func58,Try.ntmps58
   try go_wp2
   replace O:=Aside0.mk (Qe O.out)
   replace δ :=Aside0.mk (Qe δ.out)
   replace Z:=Aside0.mk (Qe Z.out)
   replace η :=Aside0.mk (Qe η.out)
   replace HB:=Aside0.mk (Qg HB.out)
   refine Zi (n:=12) (S:=fun w'=>w'.cell? ⟨γ,0,none⟩=some (.int .i64 ζ)∧w'.cell? ⟨γ,1,none⟩=some (.int .i64 ε)∧w'.cell? ⟨γ,2,none⟩=some (.int .i64 κ)∧w'.cell? ⟨γ,3,none⟩=some (.int .i64 μ)∧w'.cell? ⟨γ,4,none⟩=some (.int .i64 B)∧w'.cell? ⟨γ,5,none⟩=some (.int .i64 τ)∧w'.cell? ⟨γ,6,none⟩=some (.int .i64 χ)∧w'.cell? ⟨γ,7,none⟩=some (.int .i64 ψ)∧w'.cell? ⟨γ,8,none⟩=some (.int .i64 ω)∧w'.cell? ⟨γ,9,none⟩=some (.int .i64 a1)∧w'.cell? ⟨b9,0,none⟩=some (.slice A2 l2.length c2)∧w'.cell? ⟨b0,0,none⟩=some (.slice a4 φ.length a5)∧w'.cell? ⟨b0,1,none⟩=some (.slice a6 ν.length a8)) (ds:=[]) #[false,false,false,false,false,false,false,false,false,false,false,false] kr rfl rfl ⟨(Qa O.out 0).trans rfl,(Qa O.out 1).trans rfl,(Qa O.out 2).trans rfl,(Qa O.out 3).trans rfl,(Qa O.out 4).trans rfl,(Qa O.out 5).trans rfl,(Qa O.out 6).trans rfl,(Qa O.out 7).trans rfl,(Qa O.out 8).trans rfl,(Qa O.out 9).trans rfl,(Qa δ.out 0).trans rfl,(Qa Z.out 0).trans rfl,(Qa Z.out 1).trans rfl⟩ (fun hHeld=>?_);refine Q9 group_pick_1.Km group_pick_1.Y3 (fun HT_ HW_=>?_)
   generalize w.drew=ge at O δ Z η HB hHeld ⊢
   refine qP 4 (some 14) (bN 12 16) HT_ ?_
   refine qT 0 (some 10) (bN 12 17) HT_ HW_ hHeld ?_
   refine qT 1 (some 11) (bN 12 19) HT_ HW_ hHeld ?_
   refine qT 3 (some 13) (bN 12 27) HT_ HW_ hHeld ?_
   refine Yi (σ:=Value×Value×Value×Nat) 2 (bN 12 1023) (fun s_=>[(12,.agg #[.int .i64 bf,.int .i64 bg]),(15,.tuple #[.agg #[s_.1,s_.2.1,s_.2.2.1],.int .i64 dp]),(7,.pointer (some ⟨s_.2.2.2,0,none⟩)),(9,.tuple #[.agg #[s_.1,s_.2.1,s_.2.2.1],.int .i64 dp]),(16,.agg #[s_.1,s_.2.1,s_.2.2.1]),(17,.int .i64 dp)]) (fun s_ w'=>(w'.cell? ⟨γ,0,none⟩=some (.int .i64 ζ)∧w'.cell? ⟨γ,1,none⟩=some (.int .i64 ε)∧w'.cell? ⟨γ,2,none⟩=some (.int .i64 κ)∧w'.cell? ⟨γ,3,none⟩=some (.int .i64 μ)∧w'.cell? ⟨γ,4,none⟩=some (.int .i64 B)∧w'.cell? ⟨γ,5,none⟩=some (.int .i64 τ)∧w'.cell? ⟨γ,6,none⟩=some (.int .i64 χ)∧w'.cell? ⟨γ,7,none⟩=some (.int .i64 ψ)∧w'.cell? ⟨γ,8,none⟩=some (.int .i64 ω)∧w'.cell? ⟨γ,9,none⟩=some (.int .i64 a1)∧w'.cell? ⟨b9,0,none⟩=some (.slice A2 l2.length c2)∧w'.cell? ⟨b0,0,none⟩=some (.slice a4 φ.length a5)∧w'.cell? ⟨b0,1,none⟩=some (.slice a6 ν.length a8))∧(Kd.R (Kd.int .i64) 3 w' w.heap.size (fun k_=>some k_≠(s_.2.1:Value).ownBlock∧some k_≠(s_.2.2.1:Value).ownBlock) s_.1 ag)∧(Kd.R (Kd.int .i64) 3 w' w.heap.size (fun k_=>some k_≠(s_.1:Value).ownBlock∧some k_≠(s_.2.2.1:Value).ownBlock) s_.2.1 ai)∧(Kd.R (Kd.int .i64) 3 w' w.heap.size (fun k_=>some k_≠(s_.1:Value).ownBlock∧some k_≠(s_.2.1:Value).ownBlock) s_.2.2.1 aj)∧(w'.heap[γ]?=some (.cells #[.int .i64 ζ,.int .i64 ε,.int .i64 κ,.int .i64 μ,.int .i64 B,.int .i64 τ,.int .i64 χ,.int .i64 ψ,.int .i64 ω,.int .i64 a1] 25 (0,0)))∧(w'.heap[b9]?=some (.cells #[.slice A2 l2.length c2] 46 (0,0)))∧(w'.heap[b0]?=some (.cells #[.slice a4 φ.length a5,.slice a6 ν.length a8] 50 (0,0)))∧(w'.heap[bc]?=some (.cells #[.int .i64 a9,.int .i64 aa,.int .i64 ab] 36 (0,0)))∧(w'.heap[s_.2.2.2]?=some (.cells #[.slice none 0 0,.slice none 0 0,.slice none 0 0] 34 (0,0)))∧(w.heap.size≤s_.2.2.2)∧(w.heap.size≤s_.2.2.2)∧(γ≠s_.2.2.2)∧(s_.2.2.2≠γ)∧(b9≠s_.2.2.2)∧(s_.2.2.2≠b9)∧(b0≠s_.2.2.2)∧(s_.2.2.2≠b0)∧(bc≠s_.2.2.2)∧(s_.2.2.2≠bc)∧(Below w.heap.size w w')) ?_ ?_
   rotate_left
   ·intro hCont
    refine Kj (i:=2) (j:=9) (Ni:=some 12) (Nj:=some 7) (bN 12 31) (bN 12 539) rfl rfl rfl rfl (X5 HT_.out kr) (by decide) (by decide) (fun K hK=>?_) (fun K hK=>?_)
    ·skip
     refine Za Try.func37 kr rfl #[.agg #[.int .i64 ζ,.int .i64 ε,.int .i64 κ,.int .i64 μ,.int .i64 B,.int .i64 τ,.int .i64 χ,.int .i64 ψ,.int .i64 ω,.int .i64 a1],.slice A2 l2.length c2] (by rfl) rfl rfl qM ?_
     with_reducible refine(group_house.calls ζ ε κ μ B τ χ ψ ω a1 _ _ l2 bf bg _ ?side1 ?side2 A6.out).mono ?_
     (case side1=>exact(Kd.Qy e6.out HB.out))
     (case side2=>exact dz.out)
     rintro e ct ⟨rfl,hb⟩
     refine⟨_,rfl, ?_⟩
     replace O:=sBk O hb
     replace δ :=sBk δ hb
     replace Z:=sBk Z hb
     replace η :=sBk η hb
     replace HB:=sHb hb
     (try clear hb)
     (try clear ac)
     (try clear hk)
     (try clear hi)
     refine hK.out _ _ ⟨qc O,qc O,qc O,qc O,qc O,qc O,qc O,qc O,qc O,qc O,qc δ,qc Z,qc Z⟩ (fun hHeld=>?_)
     clear hK K
     refine qN (some 12) ?_
     refine Kj (i:=5) (j:=9) (Ni:=some 15) (Nj:=some 7) (bN 12 63) (bN 12 543) rfl rfl rfl rfl (X5 HT_.out kr) (by decide) (by decide) (fun K hK=>?_) (fun K hK=>?_)
     ·skip
      refine Za Try.func24 kr rfl #[.agg #[.int .i64 bf,.int .i64 bg],.agg #[.slice a4 φ.length a5,.slice a6 ν.length a8],.int .i64 J] (by rfl) rfl rfl qM ?_
      with_reducible refine(call_View.calls k bf bg _ _ φ _ _ ν J ag ai aj dp _ ?side1 ?side2 ?side3 ?side4 A7.out).mono ?_
      (case side1=>exact(Kd.Qy bh.out HB.out))
      (case side2=>exact bu.out)
      (case side3=>exact(Kd.Qy br.out HB.out))
      (case side4=>exact bv.out)
      rintro e eb ⟨cu,cv,cw,rfl,ay,b7,cn,hb⟩
      refine⟨_,rfl, ?_⟩
      have ak:=Aside0.mk (Kd.Q3 ay (Qi HB.out))
      have am:=Aside0.mk (Kd.Q3 b7 (Qi HB.out))
      have an:=Aside0.mk (Kd.Q3 cn (Qi HB.out))
      replace O:=sBk O hb
      replace δ :=sBk δ hb
      replace Z:=sBk Z hb
      replace η :=sBk η hb
      replace HB:=sHb hb
      (try clear hb)
      (try clear ac)
      (try clear hk)
      (try clear hi)
      (try clear ay)
      (try clear b7)
      (try clear cn)
      refine hK.out _ _ ⟨qc O,qc O,qc O,qc O,qc O,qc O,qc O,qc O,qc O,qc O,qc δ,qc Z,qc Z⟩ (fun hHeld=>?_)
      clear hK K
      refine qN (some 15) ?_
      refine qP 6 (some 9) (bN 12 127) HT_ ?_
      refine qP 7 (some 16) (bN 12 255) HT_ ?_
      refine qP 8 (some 17) (bN 12 511) HT_ ?_
      refine Zb (i:=9) (N:=some 7) (bN 12 1023) rfl rfl (Q4 HT_.out kr) (by decide) (fun K hK=>?_)
      refine Xa ?hg (N:=7) ?hd (cs:=#[.slice none 0 0,.slice none 0 0,.slice none 0 0]) (t:=34) ?hr ?_;(case hd=>rfl);(case hg=>rfl);(case hr=>go_simp <;> rfl)
      intro X hg i2 hbox hb
      have θ :=Aside0.mk hbox
      have d1:=sGe hg
      have d3:=sGe hg
      have Y:=sNl O hg
      have ao:=sNg O hg
      have a2:=sNl δ hg
      have ap:=sNg δ hg
      have ι :=sNl Z hg
      have ar:=sNg Z hg
      have au:=sNl η hg
      have az:=sNg η hg
      replace ak:=sRb ak hb
      replace am:=sRb am hb
      replace an:=sRb an hb
      replace O:=sBk O hb
      replace δ :=sBk δ hb
      replace Z:=sBk Z hb
      replace η :=sBk η hb
      replace HB:=sHb hb
      clear hb hbox hg
      refine hK.out _ _ ⟨qc O,qc O,qc O,qc O,qc O,qc O,qc O,qc O,qc O,qc O,qc δ,qc Z,qc Z⟩ (fun hHeld=>?_)
      clear hK K
      refine qN (some 7) ?_
      exact Zf (by simp only[Q8,Act.put,qS]) (hCont (cu,cv,cw,X) _ ⟨hHeld,ak.out,am.out,an.out,O.out,δ.out,Z.out,η.out,θ.out,d1.out,d3.out,Y.out,ao.out,a2.out,ap.out,ι.out,ar.out,au.out,az.out,HB.out⟩)
     ·skip
      refine Xa ?hg (N:=7) ?hd (cs:=#[.slice none 0 0,.slice none 0 0,.slice none 0 0]) (t:=34) ?hr ?_;(case hd=>rfl);(case hg=>rfl);(case hr=>go_simp <;> rfl)
      intro X hg eb hbox hb
      have θ :=Aside0.mk hbox
      have d1:=sGe hg
      have d3:=sGe hg
      have Y:=sNl O hg
      have ao:=sNg O hg
      have a2:=sNl δ hg
      have ap:=sNg δ hg
      have ι :=sNl Z hg
      have ar:=sNg Z hg
      have au:=sNl η hg
      have az:=sNg η hg
      replace O:=sBk O hb
      replace δ :=sBk δ hb
      replace Z:=sBk Z hb
      replace η :=sBk η hb
      replace HB:=sHb hb
      clear hb hbox hg
      refine hK.out _ _ ⟨qc O,qc O,qc O,qc O,qc O,qc O,qc O,qc O,qc O,qc O,qc δ,qc Z,qc Z⟩ (fun hHeld=>?_)
      clear hK K
      refine qN (some 7) ?_
      refine Zb (i:=5) (N:=some 15) (bN 12 575) rfl rfl (Q4 HT_.out kr) (by decide) (fun K hK=>?_)
      refine Za Try.func24 kr rfl #[.agg #[.int .i64 bf,.int .i64 bg],.agg #[.slice a4 φ.length a5,.slice a6 ν.length a8],.int .i64 J] (by rfl) rfl rfl qM ?_
      with_reducible refine(call_View.calls k bf bg _ _ φ _ _ ν J ag ai aj dp _ ?side1 ?side2 ?side3 ?side4 A7.out).mono ?_
      (case side1=>exact(Kd.Qy bh.out HB.out))
      (case side2=>exact bu.out)
      (case side3=>exact(Kd.Qy br.out HB.out))
      (case side4=>exact bv.out)
      rintro e i2 ⟨cu,cv,cw,rfl,ay,b7,cn,hb⟩
      refine⟨_,rfl, ?_⟩
      have ak:=Aside0.mk (Kd.Q3 ay (Qi HB.out))
      have am:=Aside0.mk (Kd.Q3 b7 (Qi HB.out))
      have an:=Aside0.mk (Kd.Q3 cn (Qi HB.out))
      replace O:=sBk O hb
      replace δ :=sBk δ hb
      replace Z:=sBk Z hb
      replace η :=sBk η hb
      replace θ :=sBk θ hb
      replace HB:=sHb hb
      (try clear hb)
      (try clear ac)
      (try clear hk)
      (try clear hi)
      (try clear ay)
      (try clear b7)
      (try clear cn)
      refine hK.out _ _ ⟨qc O,qc O,qc O,qc O,qc O,qc O,qc O,qc O,qc O,qc O,qc δ,qc Z,qc Z⟩ (fun hHeld=>?_)
      clear hK K
      refine qN (some 15) ?_
      refine qP 6 (some 9) (bN 12 639) HT_ ?_
      refine qP 7 (some 16) (bN 12 767) HT_ ?_
      refine qP 8 (some 17) (bN 12 1023) HT_ ?_
      exact Zf (by simp only[Q8,Act.put,qS]) (hCont (cu,cv,cw,X) _ ⟨hHeld,ak.out,am.out,an.out,O.out,δ.out,Z.out,η.out,θ.out,d1.out,d3.out,Y.out,ao.out,a2.out,ap.out,ι.out,ar.out,au.out,az.out,HB.out⟩)
    ·skip
     refine Xa ?hg (N:=7) ?hd (cs:=#[.slice none 0 0,.slice none 0 0,.slice none 0 0]) (t:=34) ?hr ?_;(case hd=>rfl);(case hg=>rfl);(case hr=>go_simp <;> rfl)
     intro X hg ct hbox hb
     have θ :=Aside0.mk hbox
     have d1:=sGe hg
     have d3:=sGe hg
     have Y:=sNl O hg
     have ao:=sNg O hg
     have a2:=sNl δ hg
     have ap:=sNg δ hg
     have ι :=sNl Z hg
     have ar:=sNg Z hg
     have au:=sNl η hg
     have az:=sNg η hg
     replace O:=sBk O hb
     replace δ :=sBk δ hb
     replace Z:=sBk Z hb
     replace η :=sBk η hb
     replace HB:=sHb hb
     clear hb hbox hg
     refine hK.out _ _ ⟨qc O,qc O,qc O,qc O,qc O,qc O,qc O,qc O,qc O,qc O,qc δ,qc Z,qc Z⟩ (fun hHeld=>?_)
     clear hK K
     refine qN (some 7) ?_
     refine Zb (i:=2) (N:=some 12) (bN 12 543) rfl rfl (Q4 HT_.out kr) (by decide) (fun K hK=>?_)
     refine Za Try.func37 kr rfl #[.agg #[.int .i64 ζ,.int .i64 ε,.int .i64 κ,.int .i64 μ,.int .i64 B,.int .i64 τ,.int .i64 χ,.int .i64 ψ,.int .i64 ω,.int .i64 a1],.slice A2 l2.length c2] (by rfl) rfl rfl qM ?_
     with_reducible refine(group_house.calls ζ ε κ μ B τ χ ψ ω a1 _ _ l2 bf bg _ ?side1 ?side2 A6.out).mono ?_
     (case side1=>exact(Kd.Qy e6.out HB.out))
     (case side2=>exact dz.out)
     rintro e eb ⟨rfl,hb⟩
     refine⟨_,rfl, ?_⟩
     replace O:=sBk O hb
     replace δ :=sBk δ hb
     replace Z:=sBk Z hb
     replace η :=sBk η hb
     replace θ :=sBk θ hb
     replace HB:=sHb hb
     (try clear hb)
     (try clear ac)
     (try clear hk)
     (try clear hi)
     refine hK.out _ _ ⟨qc O,qc O,qc O,qc O,qc O,qc O,qc O,qc O,qc O,qc O,qc δ,qc Z,qc Z⟩ (fun hHeld=>?_)
     clear hK K
     refine qN (some 12) ?_
     refine Zb (i:=5) (N:=some 15) (bN 12 575) rfl rfl (Q4 HT_.out kr) (by decide) (fun K hK=>?_)
     refine Za Try.func24 kr rfl #[.agg #[.int .i64 bf,.int .i64 bg],.agg #[.slice a4 φ.length a5,.slice a6 ν.length a8],.int .i64 J] (by rfl) rfl rfl qM ?_
     with_reducible refine(call_View.calls k bf bg _ _ φ _ _ ν J ag ai aj dp _ ?side1 ?side2 ?side3 ?side4 A7.out).mono ?_
     (case side1=>exact(Kd.Qy bh.out HB.out))
     (case side2=>exact bu.out)
     (case side3=>exact(Kd.Qy br.out HB.out))
     (case side4=>exact bv.out)
     rintro e i2 ⟨cu,cv,cw,rfl,ay,b7,cn,hb⟩
     refine⟨_,rfl, ?_⟩
     have ak:=Aside0.mk (Kd.Q3 ay (Qi HB.out))
     have am:=Aside0.mk (Kd.Q3 b7 (Qi HB.out))
     have an:=Aside0.mk (Kd.Q3 cn (Qi HB.out))
     replace O:=sBk O hb
     replace δ :=sBk δ hb
     replace Z:=sBk Z hb
     replace η :=sBk η hb
     replace θ :=sBk θ hb
     replace HB:=sHb hb
     (try clear hb)
     (try clear ac)
     (try clear hk)
     (try clear hi)
     (try clear ay)
     (try clear b7)
     (try clear cn)
     refine hK.out _ _ ⟨qc O,qc O,qc O,qc O,qc O,qc O,qc O,qc O,qc O,qc O,qc δ,qc Z,qc Z⟩ (fun hHeld=>?_)
     clear hK K
     refine qN (some 15) ?_
     refine qP 6 (some 9) (bN 12 639) HT_ ?_
     refine qP 7 (some 16) (bN 12 767) HT_ ?_
     refine qP 8 (some 17) (bN 12 1023) HT_ ?_
     exact Zf (by simp only[Q8,Act.put,qS]) (hCont (cu,cv,cw,X) _ ⟨hHeld,ak.out,am.out,an.out,O.out,δ.out,Z.out,η.out,θ.out,d1.out,d3.out,Y.out,ao.out,a2.out,ap.out,ι.out,ar.out,au.out,az.out,HB.out⟩)
   rintro⟨cu,cv,cw,X⟩ b6 ⟨hS_,bj,bk,bl,bm,bn,cr,db,dc,dd,de,co,cp,cq,d2,dw,hh,hj,hl,kn⟩
   have ξ :Aside0 (Kd.R (Kd.int .i64) 3 b6 w.heap.size (fun k_=>some k_≠(cv:Value).ownBlock∧some k_≠(cw:Value).ownBlock) cu ag):=⟨bj⟩
   have ρ:Aside0 (Kd.R (Kd.int .i64) 3 b6 w.heap.size (fun k_=>some k_≠(cu:Value).ownBlock∧some k_≠(cw:Value).ownBlock) cv ai):=⟨bk⟩
   have a3:Aside0 (Kd.R (Kd.int .i64) 3 b6 w.heap.size (fun k_=>some k_≠(cu:Value).ownBlock∧some k_≠(cv:Value).ownBlock) cw aj):=⟨bl⟩
   have a7:Aside0 (b6.heap[γ]?=some (.cells #[.int .i64 ζ,.int .i64 ε,.int .i64 κ,.int .i64 μ,.int .i64 B,.int .i64 τ,.int .i64 χ,.int .i64 ψ,.int .i64 ω,.int .i64 a1] 25 (0,0))):=⟨bm⟩
   have al:Aside0 (b6.heap[b9]?=some (.cells #[.slice A2 l2.length c2] 46 (0,0))):=⟨bn⟩
   have b1:Aside0 (b6.heap[b0]?=some (.cells #[.slice a4 φ.length a5,.slice a6 ν.length a8] 50 (0,0))):=⟨cr⟩
   have b8:Aside0 (b6.heap[bc]?=some (.cells #[.int .i64 a9,.int .i64 aa,.int .i64 ab] 36 (0,0))):=⟨db⟩
   have bi:Aside0 (b6.heap[X]?=some (.cells #[.slice none 0 0,.slice none 0 0,.slice none 0 0] 34 (0,0))):=⟨dc⟩
   have cf:Aside0 (w.heap.size≤X):=⟨dd⟩
   have cx:Aside0 (w.heap.size≤X):=⟨de⟩
   have bw:Aside0 (γ≠X):=⟨co⟩
   have bz:Aside0 (X≠γ):=⟨cp⟩
   have ca:Aside0 (b9≠X):=⟨cq⟩
   have cm:Aside0 (X≠b9):=⟨d2⟩
   have dx:Aside0 (b0≠X):=⟨dw⟩
   have ho:Aside0 (X≠b0):=⟨hh⟩
   have hu:Aside0 (bc≠X):=⟨hj⟩
   have hx:Aside0 (X≠bc):=⟨hl⟩
   have ko:Aside0 (Below w.heap.size w b6):=⟨kn⟩
   clear O
   clear δ
   clear Z
   clear η
   clear HB
   clear bj bk bl bm bn cr db dc dd de co cp cq d2 dw hh hj hl kn
   have ak:= ξ
   have am:=ρ
   have an:=a3
   have O:=a7
   have δ :=al
   have Z:=b1
   have η :=b8
   have θ :=bi
   have d1:=cf
   have d3:=cx
   have Y:=bw
   have ao:=bz
   have a2:=ca
   have ap:=cm
   have ι :=dx
   have ar:=ho
   have au:=hu
   have az:=hx
   have HB:=ko
   clear ξ ρ a3 a7 al b1 b8 bi cf cx bw bz ca cm dx ho hu hx ko
   have hHeld:b6.cell? ⟨γ,0,none⟩=some (.int .i64 ζ)∧b6.cell? ⟨γ,1,none⟩=some (.int .i64 ε)∧b6.cell? ⟨γ,2,none⟩=some (.int .i64 κ)∧b6.cell? ⟨γ,3,none⟩=some (.int .i64 μ)∧b6.cell? ⟨γ,4,none⟩=some (.int .i64 B)∧b6.cell? ⟨γ,5,none⟩=some (.int .i64 τ)∧b6.cell? ⟨γ,6,none⟩=some (.int .i64 χ)∧b6.cell? ⟨γ,7,none⟩=some (.int .i64 ψ)∧b6.cell? ⟨γ,8,none⟩=some (.int .i64 ω)∧b6.cell? ⟨γ,9,none⟩=some (.int .i64 a1)∧b6.cell? ⟨b9,0,none⟩=some (.slice A2 l2.length c2)∧b6.cell? ⟨b0,0,none⟩=some (.slice a4 φ.length a5)∧b6.cell? ⟨b0,1,none⟩=some (.slice a6 ν.length a8):=hS_
   obtain⟨b2,b3,e7⟩:=Kd.Q7 ak.out
   (first|subst e7|(injection e7 with ae av af;have aw:=ae.symm;have ax:=af.symm;clear ae av af;subst aw;subst ax))
   obtain⟨b4,b5,e8⟩:=Kd.Q7 am.out
   (first|subst e8|(injection e8 with ae av af;have aw:=ae.symm;have ax:=af.symm;clear ae av af;subst aw;subst ax))
   obtain⟨ba,bb,e9⟩:=Kd.Q7 an.out
   (first|subst e9|(injection e9 with ae av af;have aw:=ae.symm;have ax:=af.symm;clear ae av af;subst aw;subst ax))
   refine Zf (a':=?_) ?_ ?_
   rotate_left
   ·simp only[Q8,Act.put,qS]
    rfl
   refine Zb (i:=10) (N:=none) (bN 12 2047) rfl rfl (Q4 HT_.out kr) (by decide) (fun K hK=>?_)
   have fh:b6.cell? ⟨X,0,none⟩=some (.slice none 0 0):=(Qa θ.out 0).trans rfl
   have fe:=Qc θ.out 0
   have ee:=Y.out
   have ef:=a2.out
   have eg:= ι.out
   have eh:=au.out
   have ei:=ao.out
   have ej:=ap.out
   have ek:=ar.out
   have el:=az.out
   have fi:b6.cell? ⟨X,1,none⟩=some (.slice none 0 0):=(Qa θ.out 1).trans rfl
   have ff:=Qc θ.out 1
   have em:=Y.out
   have en:=a2.out
   have eo:= ι.out
   have ep:=au.out
   have er:=ao.out
   have et:=ap.out
   have eu:=ar.out
   have ev:=az.out
   have fj:b6.cell? ⟨X,2,none⟩=some (.slice none 0 0):=(Qa θ.out 2).trans rfl
   have fg:=Qc θ.out 2
   have ew:=Y.out
   have ey:=a2.out
   have ez:= ι.out
   have f7:=au.out
   have f8:=ao.out
   have fa:=ap.out
   have fb:=ar.out
   have fc:=az.out
   refine K8 (w1:=?_) (by rfl) rfl ?_ ?_
   rotate_left
   ·go_simp
    rfl
   refine hK.out _ _ ⟨((cell_far (p:=⟨X,_,none⟩) Y.out _).trans (((cell_far (p:=⟨X,_,none⟩) Y.out _).trans (((cell_far (p:=⟨X,_,none⟩) Y.out _).trans (hHeld.1)))))),((cell_far (p:=⟨X,_,none⟩) Y.out _).trans (((cell_far (p:=⟨X,_,none⟩) Y.out _).trans (((cell_far (p:=⟨X,_,none⟩) Y.out _).trans (hHeld.2.1)))))),((cell_far (p:=⟨X,_,none⟩) Y.out _).trans (((cell_far (p:=⟨X,_,none⟩) Y.out _).trans (((cell_far (p:=⟨X,_,none⟩) Y.out _).trans (hHeld.2.2.1)))))),((cell_far (p:=⟨X,_,none⟩) Y.out _).trans (((cell_far (p:=⟨X,_,none⟩) Y.out _).trans (((cell_far (p:=⟨X,_,none⟩) Y.out _).trans (hHeld.2.2.2.1)))))),((cell_far (p:=⟨X,_,none⟩) Y.out _).trans (((cell_far (p:=⟨X,_,none⟩) Y.out _).trans (((cell_far (p:=⟨X,_,none⟩) Y.out _).trans (hHeld.2.2.2.2.1)))))),((cell_far (p:=⟨X,_,none⟩) Y.out _).trans (((cell_far (p:=⟨X,_,none⟩) Y.out _).trans (((cell_far (p:=⟨X,_,none⟩) Y.out _).trans (hHeld.2.2.2.2.2.1)))))),((cell_far (p:=⟨X,_,none⟩) Y.out _).trans (((cell_far (p:=⟨X,_,none⟩) Y.out _).trans (((cell_far (p:=⟨X,_,none⟩) Y.out _).trans (hHeld.2.2.2.2.2.2.1)))))),((cell_far (p:=⟨X,_,none⟩) Y.out _).trans (((cell_far (p:=⟨X,_,none⟩) Y.out _).trans (((cell_far (p:=⟨X,_,none⟩) Y.out _).trans (hHeld.2.2.2.2.2.2.2.1)))))),((cell_far (p:=⟨X,_,none⟩) Y.out _).trans (((cell_far (p:=⟨X,_,none⟩) Y.out _).trans (((cell_far (p:=⟨X,_,none⟩) Y.out _).trans (hHeld.2.2.2.2.2.2.2.2.1)))))),((cell_far (p:=⟨X,_,none⟩) Y.out _).trans (((cell_far (p:=⟨X,_,none⟩) Y.out _).trans (((cell_far (p:=⟨X,_,none⟩) Y.out _).trans (hHeld.2.2.2.2.2.2.2.2.2.1)))))),((cell_far (p:=⟨X,_,none⟩) a2.out _).trans (((cell_far (p:=⟨X,_,none⟩) a2.out _).trans (((cell_far (p:=⟨X,_,none⟩) a2.out _).trans (hHeld.2.2.2.2.2.2.2.2.2.2.1)))))),((cell_far (p:=⟨X,_,none⟩) ι.out _).trans (((cell_far (p:=⟨X,_,none⟩) ι.out _).trans (((cell_far (p:=⟨X,_,none⟩) ι.out _).trans (hHeld.2.2.2.2.2.2.2.2.2.2.2.1)))))),((cell_far (p:=⟨X,_,none⟩) ι.out _).trans (((cell_far (p:=⟨X,_,none⟩) ι.out _).trans (((cell_far (p:=⟨X,_,none⟩) ι.out _).trans (hHeld.2.2.2.2.2.2.2.2.2.2.2.2))))))⟩ (fun hHeld=>?_)
   clear hK K
   refine qP 11 (some 8) (bN 12 4095) HT_ ?_
   refine Zx (Ze HT_.out kr) ?_
   try go_wp2
   have ξ :Aside0 (Kd.R (Kd.int .i64) 3 (((b6.setCell ⟨X,0,none⟩ (.slice b2 ag.length b3)).setCell ⟨X,1,none⟩ (.slice b4 ai.length b5)).setCell ⟨X,2,none⟩ (.slice ba aj.length bb)) w.heap.size (fun k_=>some k_≠(.slice b4 ai.length b5:Value).ownBlock∧some k_≠(.slice ba aj.length bb:Value).ownBlock) (.slice b2 ag.length b3) ag):=⟨by(with_reducible repeat first|apply Kd.Qq|apply Kd.Qp|apply Kd.Qr);exact Kd.Qw (Kd.Qx (Kd.Qx (Kd.Qx (Kd.Q5 ak.out θ.out (by decide)) (fun _ hk=>hk.2) _) (fun _ hk=>hk.2) _) (fun _ hk=>hk.2) _) (fun _ hk=>⟨hk.1.1,hk.1.2⟩)⟩
   have ρ:Aside0 (Kd.R (Kd.int .i64) 3 (((b6.setCell ⟨X,0,none⟩ (.slice b2 ag.length b3)).setCell ⟨X,1,none⟩ (.slice b4 ai.length b5)).setCell ⟨X,2,none⟩ (.slice ba aj.length bb)) w.heap.size (fun k_=>some k_≠(.slice b2 ag.length b3:Value).ownBlock∧some k_≠(.slice ba aj.length bb:Value).ownBlock) (.slice b4 ai.length b5) ai):=⟨by(with_reducible repeat first|apply Kd.Qq|apply Kd.Qp|apply Kd.Qr);exact Kd.Qw (Kd.Qx (Kd.Qx (Kd.Qx (Kd.Q5 am.out θ.out (by decide)) (fun _ hk=>hk.2) _) (fun _ hk=>hk.2) _) (fun _ hk=>hk.2) _) (fun _ hk=>⟨hk.1.1,hk.1.2⟩)⟩
   have a3:Aside0 (Kd.R (Kd.int .i64) 3 (((b6.setCell ⟨X,0,none⟩ (.slice b2 ag.length b3)).setCell ⟨X,1,none⟩ (.slice b4 ai.length b5)).setCell ⟨X,2,none⟩ (.slice ba aj.length bb)) w.heap.size (fun k_=>some k_≠(.slice b2 ag.length b3:Value).ownBlock∧some k_≠(.slice b4 ai.length b5:Value).ownBlock) (.slice ba aj.length bb) aj):=⟨by(with_reducible repeat first|apply Kd.Qq|apply Kd.Qp|apply Kd.Qr);exact Kd.Qw (Kd.Qx (Kd.Qx (Kd.Qx (Kd.Q5 an.out θ.out (by decide)) (fun _ hk=>hk.2) _) (fun _ hk=>hk.2) _) (fun _ hk=>hk.2) _) (fun _ hk=>⟨hk.1.1,hk.1.2⟩)⟩
   have a7:Aside0 ((((b6.setCell ⟨X,0,none⟩ (.slice b2 ag.length b3)).setCell ⟨X,1,none⟩ (.slice b4 ai.length b5)).setCell ⟨X,2,none⟩ (.slice ba aj.length bb)).heap[γ]?=some (.cells #[.int .i64 ζ,.int .i64 ε,.int .i64 κ,.int .i64 μ,.int .i64 B,.int .i64 τ,.int .i64 χ,.int .i64 ψ,.int .i64 ω,.int .i64 a1] 25 (0,0))):=⟨bka O⟩
   have al:Aside0 ((((b6.setCell ⟨X,0,none⟩ (.slice b2 ag.length b3)).setCell ⟨X,1,none⟩ (.slice b4 ai.length b5)).setCell ⟨X,2,none⟩ (.slice ba aj.length bb)).heap[b9]?=some (.cells #[.slice A2 l2.length c2] 46 (0,0))):=⟨bka δ⟩
   have b1:Aside0 ((((b6.setCell ⟨X,0,none⟩ (.slice b2 ag.length b3)).setCell ⟨X,1,none⟩ (.slice b4 ai.length b5)).setCell ⟨X,2,none⟩ (.slice ba aj.length bb)).heap[b0]?=some (.cells #[.slice a4 φ.length a5,.slice a6 ν.length a8] 50 (0,0))):=⟨bka Z⟩
   have b8:Aside0 ((((b6.setCell ⟨X,0,none⟩ (.slice b2 ag.length b3)).setCell ⟨X,1,none⟩ (.slice b4 ai.length b5)).setCell ⟨X,2,none⟩ (.slice ba aj.length bb)).heap[bc]?=some (.cells #[.int .i64 a9,.int .i64 aa,.int .i64 ab] 36 (0,0))):=⟨bka η⟩
   have bi:Aside0 ((((b6.setCell ⟨X,0,none⟩ (.slice b2 ag.length b3)).setCell ⟨X,1,none⟩ (.slice b4 ai.length b5)).setCell ⟨X,2,none⟩ (.slice ba aj.length bb)).heap[X]?=some (.cells #[.slice b2 ag.length b3,.slice b4 ai.length b5,.slice ba aj.length bb] 34 (0,0))):=⟨by refine Ql (cs:=#[.slice b2 ag.length b3,.slice b4 ai.length b5,.slice none 0 0]) ?_ 2 _ rfl;refine Ql (cs:=#[.slice b2 ag.length b3,.slice none 0 0,.slice none 0 0]) ?_ 1 _ rfl;refine Ql (cs:=#[.slice none 0 0,.slice none 0 0,.slice none 0 0]) ?_ 0 _ rfl;exact θ.out⟩
   have cf:Aside0 (Below w.heap.size w (((b6.setCell ⟨X,0,none⟩ (.slice b2 ag.length b3)).setCell ⟨X,1,none⟩ (.slice b4 ai.length b5)).setCell ⟨X,2,none⟩ (.slice ba aj.length bb))):=⟨bel⟩
   (try clear ak)
   (try clear am)
   (try clear an)
   (try clear O)
   (try clear δ)
   (try clear Z)
   (try clear η)
   (try clear θ)
   (try clear HB)
   generalize(((b6.setCell ⟨X,0,none⟩ (.slice b2 ag.length b3)).setCell ⟨X,1,none⟩ (.slice b4 ai.length b5)).setCell ⟨X,2,none⟩ (.slice ba aj.length bb))=ie at ξ ρ a3 a7 al b1 b8 bi cf ⊢
   have ak:= ξ
   have am:=ρ
   have an:=a3
   have O:=a7
   have δ :=al
   have Z:=b1
   have η :=b8
   have θ :=bi
   have HB:=cf
   clear ξ ρ a3 a7 al b1 b8 bi cf
   replace ak:=Aside0.mk (Kd.Qr ak.out)
   replace am:=Aside0.mk (Kd.Qr am.out)
   replace an:=Aside0.mk (Kd.Qr an.out)
   replace O:=Aside0.mk (Qe O.out)
   replace δ :=Aside0.mk (Qe δ.out)
   replace Z:=Aside0.mk (Qe Z.out)
   replace η :=Aside0.mk (Qe η.out)
   replace θ :=Aside0.mk (Qe θ.out)
   replace HB:=Aside0.mk (Qg HB.out)
   have e0:0≤(J:Int):=of_decide_eq_true (by assumption)
   have e3:J<(l2.length:Int):=of_decide_eq_true (by assumption)
   obtain⟨ah,ec,bp,bs,cb,cd,ce,cg,ch,ci,cj,ck⟩:=Kh e6.out J e0 e3
   have d4:=ck
   have d5:=cj
   have d6:=ci
   have d7:=ch
   have dh:=cg
   have di:=ce
   have dj:=cd
   have dk:=cb
   have dl:=bs
   have dm:=bp
   cases ec
   replace bp:=(HB.out.cell (World.block_lt_of_cell? w _ bp)).trans bp
   replace bs:=(HB.out.cell (World.block_lt_of_cell? w _ bs)).trans bs
   replace cb:=(HB.out.cell (World.block_lt_of_cell? w _ cb)).trans cb
   replace cd:=(HB.out.cell (World.block_lt_of_cell? w _ cd)).trans cd
   replace ce:=(HB.out.cell (World.block_lt_of_cell? w _ ce)).trans ce
   replace cg:=(HB.out.cell (World.block_lt_of_cell? w _ cg)).trans cg
   replace ch:=(HB.out.cell (World.block_lt_of_cell? w _ ch)).trans ch
   replace ci:=(HB.out.cell (World.block_lt_of_cell? w _ ci)).trans ci
   replace cj:=(HB.out.cell (World.block_lt_of_cell? w _ cj)).trans cj
   replace ck:=(HB.out.cell (World.block_lt_of_cell? w _ ck)).trans ck
   replace e0:=eq_true e0
   replace e3:=eq_true e3
   refine Zi (n:=9) (S:=fun w'=>w'.cell? ⟨γ,0,none⟩=some (.int .i64 ζ)∧w'.cell? ⟨γ,1,none⟩=some (.int .i64 ε)∧w'.cell? ⟨γ,2,none⟩=some (.int .i64 κ)∧w'.cell? ⟨γ,3,none⟩=some (.int .i64 μ)∧w'.cell? ⟨γ,4,none⟩=some (.int .i64 B)∧w'.cell? ⟨γ,5,none⟩=some (.int .i64 τ)∧w'.cell? ⟨γ,6,none⟩=some (.int .i64 χ)∧w'.cell? ⟨γ,7,none⟩=some (.int .i64 ψ)∧w'.cell? ⟨γ,8,none⟩=some (.int .i64 ω)∧w'.cell? ⟨γ,9,none⟩=some (.int .i64 a1)∧w'.cell? ⟨b9,0,none⟩=some (.slice (some ah) l2.length c2)∧w'.cell? ⟨X,0,none⟩=some (.slice b2 ag.length b3)∧w'.cell? ⟨X,1,none⟩=some (.slice b4 ai.length b5)∧w'.cell? ⟨X,2,none⟩=some (.slice ba aj.length bb)∧w'.cell? ⟨bc,0,none⟩=some (.int .i64 a9)∧w'.cell? ⟨bc,1,none⟩=some (.int .i64 aa)∧w'.cell? ⟨bc,2,none⟩=some (.int .i64 ab)∧w'.cell? (ah.add ((J).toNat * 10))=some (.int .i64 ((Qb l2 J).f0.f0))∧w'.cell? ⟨(ah.add ((J).toNat * 10)).block,(ah.add ((J).toNat * 10)).off+1,none⟩=some (.int .i64 ((Qb l2 J).f0.f1))∧w'.cell? ⟨(ah.add ((J).toNat * 10)).block,(ah.add ((J).toNat * 10)).off+2,none⟩=some (.int .i64 ((Qb l2 J).f0.f2))∧w'.cell? ⟨(ah.add ((J).toNat * 10)).block,(ah.add ((J).toNat * 10)).off+3,none⟩=some (.int .i64 ((Qb l2 J).f0.f3))∧w'.cell? ⟨(ah.add ((J).toNat * 10)).block,(ah.add ((J).toNat * 10)).off+4,none⟩=some (.int .i64 ((Qb l2 J).f0.f4.f0))∧w'.cell? ⟨(ah.add ((J).toNat * 10)).block,(ah.add ((J).toNat * 10)).off+5,none⟩=some (.int .i64 ((Qb l2 J).f0.f4.f1))∧w'.cell? ⟨(ah.add ((J).toNat * 10)).block,(ah.add ((J).toNat * 10)).off+6,none⟩=some (.int .i64 ((Qb l2 J).f0.f4.f2))∧w'.cell? ⟨(ah.add ((J).toNat * 10)).block,(ah.add ((J).toNat * 10)).off+7,none⟩=some (.int .i64 ((Qb l2 J).f1))∧w'.cell? ⟨(ah.add ((J).toNat * 10)).block,(ah.add ((J).toNat * 10)).off+8,none⟩=some (.bool ((Qb l2 J).f2))∧w'.cell? ⟨(ah.add ((J).toNat * 10)).block,(ah.add ((J).toNat * 10)).off+9,none⟩=some (.bool ((Qb l2 J).f3))) (ds:=[]) #[false,false,false,false,false,false,false,false,false] kr rfl rfl ⟨(Qa O.out 0).trans rfl,(Qa O.out 1).trans rfl,(Qa O.out 2).trans rfl,(Qa O.out 3).trans rfl,(Qa O.out 4).trans rfl,(Qa O.out 5).trans rfl,(Qa O.out 6).trans rfl,(Qa O.out 7).trans rfl,(Qa O.out 8).trans rfl,(Qa O.out 9).trans rfl,(Qa δ.out 0).trans rfl,(Qa θ.out 0).trans rfl,(Qa θ.out 1).trans rfl,(Qa θ.out 2).trans rfl,(Qa η.out 0).trans rfl,(Qa η.out 1).trans rfl,(Qa η.out 2).trans rfl,((HB.out.cell (World.block_lt_of_cell? w _ dm)).trans dm),((HB.out.cell (World.block_lt_of_cell? w _ dl)).trans dl),((HB.out.cell (World.block_lt_of_cell? w _ dk)).trans dk),((HB.out.cell (World.block_lt_of_cell? w _ dj)).trans dj),((HB.out.cell (World.block_lt_of_cell? w _ di)).trans di),((HB.out.cell (World.block_lt_of_cell? w _ dh)).trans dh),((HB.out.cell (World.block_lt_of_cell? w _ d7)).trans d7),((HB.out.cell (World.block_lt_of_cell? w _ d6)).trans d6),((HB.out.cell (World.block_lt_of_cell? w _ d5)).trans d5),((HB.out.cell (World.block_lt_of_cell? w _ d4)).trans d4)⟩ (fun hHeld=>?_);refine Q9 group_pick_1.tab2 group_pick_1.bits2 (fun HT_ HW_=>?_)
   generalize ie.drew=d8 at ak am an O δ Z η θ HB bp bs cb cd ce cg ch ci cj ck hHeld ⊢
   refine qP 2 (some 20) (bN 9 4) HT_ ?_
   refine qT 0 (some 18) (bN 9 5) HT_ HW_ hHeld ?_
   refine qT 1 (some 19) (bN 9 7) HT_ HW_ hHeld ?_
   refine qP 3 (some 21) (bN 9 15) HT_ ?_
   refine qT 4 (some 22) (bN 9 31) HT_ HW_ hHeld ?_
   refine qT 5 (some 23) (bN 9 63) HT_ HW_ hHeld ?_
   refine qT 6 (some 24) (bN 9 127) HT_ HW_ hHeld ?_
   refine Zb (i:=7) (N:=some 25) (bN 9 255) rfl rfl (Q4 HT_.out kr) (by decide) (fun K hK=>?_)
   refine Za Try.func31 kr rfl #[.agg #[.int .i64 ζ,.int .i64 ε,.int .i64 κ,.int .i64 μ,.int .i64 B,.int .i64 τ,.int .i64 χ,.int .i64 ψ,.int .i64 ω,.int .i64 a1],.agg #[.int .i64 ((Qb l2 J).f0.f0),.int .i64 ((Qb l2 J).f0.f1),.int .i64 ((Qb l2 J).f0.f2),.int .i64 ((Qb l2 J).f0.f3),.int .i64 ((Qb l2 J).f0.f4.f0),.int .i64 ((Qb l2 J).f0.f4.f1),.int .i64 ((Qb l2 J).f0.f4.f2),.int .i64 ((Qb l2 J).f1),.bool ((Qb l2 J).f2),.bool ((Qb l2 J).f3)],.agg #[.slice b2 ag.length b3,.slice b4 ai.length b5,.slice ba aj.length bb],.agg #[.int .i64 a9,.int .i64 aa,.int .i64 ab]] (by rfl) rfl rfl qM ?_
   with_reducible refine(group_cost.calls k ζ ε κ μ B τ χ ψ ω a1 ((Qb l2 J).f0.f0) ((Qb l2 J).f0.f1) ((Qb l2 J).f0.f2) ((Qb l2 J).f0.f3) ((Qb l2 J).f0.f4.f0) ((Qb l2 J).f0.f4.f1) ((Qb l2 J).f0.f4.f2) ((Qb l2 J).f1) ((Qb l2 J).f2) ((Qb l2 J).f3) _ _ ag _ _ ai _ _ aj a9 aa ab be _ ?side1 ?side2 ?side3 ?side4 ?side5 ?side6 bq.out).mono ?_
   (case side1=>exact(Kd.Qu ak.out).2.2)
   (case side2=>exact(Kd.Qu ak.out).2.1)
   (case side3=>exact(Kd.Qu am.out).2.2)
   (case side4=>exact(Kd.Qu am.out).2.1)
   (case side5=>exact(Kd.Qu an.out).2.2)
   (case side6=>exact(Kd.Qu an.out).2.1)
   rintro e dy ⟨rfl,hb⟩
   refine⟨_,rfl, ?_⟩
   replace ak:=sRb ak hb
   replace am:=sRb am hb
   replace an:=sRb an hb
   replace O:=sBk O hb
   replace δ :=sBk δ hb
   replace Z:=sBk Z hb
   replace η :=sBk η hb
   replace θ :=sBk θ hb
   replace HB:=sHb hb
   (try clear hb)
   (try clear ac)
   (try clear hk)
   (try clear hi)
   refine hK.out _ _ ⟨qc O,qc O,qc O,qc O,qc O,qc O,qc O,qc O,qc O,qc O,qc δ,qc θ,qc θ,qc θ,qc η,qc η,qc η,((HB.out.cell (World.block_lt_of_cell? w _ dm)).trans dm),((HB.out.cell (World.block_lt_of_cell? w _ dl)).trans dl),((HB.out.cell (World.block_lt_of_cell? w _ dk)).trans dk),((HB.out.cell (World.block_lt_of_cell? w _ dj)).trans dj),((HB.out.cell (World.block_lt_of_cell? w _ di)).trans di),((HB.out.cell (World.block_lt_of_cell? w _ dh)).trans dh),((HB.out.cell (World.block_lt_of_cell? w _ d7)).trans d7),((HB.out.cell (World.block_lt_of_cell? w _ d6)).trans d6),((HB.out.cell (World.block_lt_of_cell? w _ d5)).trans d5),((HB.out.cell (World.block_lt_of_cell? w _ d4)).trans d4)⟩ (fun hHeld=>?_)
   clear hK K
   refine qN (some 25) ?_
   refine qP 8 (some 6) (bN 9 511) HT_ ?_
   refine Zx (Ze HT_.out kr) ?_
   try go_wp2
   go_ret
   exact⟨rfl,HB.out⟩
  ·rw[if_neg c9] at H
   exact absurd H (by simp)
 ·rw[if_neg c8] at H
  exact absurd H (by simp)
end Go.Proofs.Ytmfffemidlhcpaa.C
namespace Go.Proofs.Ytmfffemidlhcpaa.Call
open Go.RowKit Go.Proofs.YtmfffemidlhcpaaW.PrintWords Go.Proofs.YtmfffemidlhcpaaW.PrintLast Go.Proofs.YtmfffemidlhcpaaW.PrintMore Go.Proofs.Ytmfffemidlhcpaa.C
set_option linter.unusedVariables false
set_option linter.unusedSimpArgs false
def Xx (c:Int) (I:List Ins):List Int:=(I.filter (fun x=>decide (x.f0=c))).map (·.f1)
def Xu (c:Int) (H:List Hall):List Int:=(H.filter (fun x=>decide (x.f2=c∧x.f1>0))).map (·.f0)
def Xv (c:Int) (H:List Hall):List Int:=(H.filter (fun x=>decide (x.f2=c ∧ ¬ x.f1>0))).map (·.f0)
theorem N3 (c:Int) (H:List Hall) (V:List Int) (hm:H.length<900000000) (j:Nat):∀ (f i:Nat) (U D:List Int),i+j=H.length→j<f→U.length≤i→D.length≤i →
    call_View.l1 f c H (H.length:Int) (i:Int) V U D=some (V,U++Xu c (H.drop i),D++Xv c (H.drop i),0):=by
  induction j with
  |zero=>
    intro f i U D hi hf hU hD
    obtain⟨f,rfl⟩:∃ f',f=f'+1:=⟨f-1,by omega⟩
    unfold call_View.l1
    rw[if_neg (by omega),List.drop_eq_nil_of_le (by omega)]
    simp[Xu,Xv]
  |succ j ih=>
    intro f i U D hi hf hU hD
    obtain⟨f,rfl⟩:∃ f',f=f'+1:=⟨f-1,by omega⟩
    have h1:i<H.length:=by omega
    unfold call_View.l1
    rw[if_pos (by omega),if_pos (by omega),if_pos (by omega),Gr H i h1,show wrap64 ((i:Int)+1)=((i+1:Nat):Int) from by unfold wrap64;omega,List.drop_eq_getElem_cons h1]
    by_cases hc:H[i].f2=c
    · rw[if_pos hc]
      by_cases hd:H[i].f1>0
      · rw[if_pos hd,if_pos (by omega),ih f (i+1) _ D (by omega) (by omega) (by simp;omega) (by omega)]
        have e1:Xu c (H[i] :: H.drop (i+1))=H[i].f0 :: Xu c (H.drop (i+1)):=by
          unfold Xu;rw[List.filter_cons_of_pos (by exact decide_eq_true ⟨hc,hd⟩)];rfl
        have e2:Xv c (H[i] :: H.drop (i+1))=Xv c (H.drop (i+1)):=by
          unfold Xv;rw[List.filter_cons_of_neg (by rw[decide_eq_true_eq];exact fun h=>h.2 hd)]
        rw[e1,e2,List.append_assoc]
        rfl
      · rw[if_neg hd,if_pos (by omega),ih f (i+1) U _ (by omega) (by omega) (by omega) (by simp;omega)]
        have e1:Xu c (H[i] :: H.drop (i+1))=Xu c (H.drop (i+1)):=by
          unfold Xu;rw[List.filter_cons_of_neg (by rw[decide_eq_true_eq];exact fun h=>hd h.2)]
        have e2:Xv c (H[i] :: H.drop (i+1))=H[i].f0 :: Xv c (H.drop (i+1)):=by
          unfold Xv;rw[List.filter_cons_of_pos (by exact decide_eq_true ⟨hc,hd⟩)];rfl
        rw[e1,e2,List.append_assoc D]
        rfl
    · rw[if_neg hc,ih f (i+1) U D (by omega) (by omega) (by omega) (by omega)]
      have e1:Xu c (H[i] :: H.drop (i+1))=Xu c (H.drop (i+1)):=by
        unfold Xu;rw[List.filter_cons_of_neg (by rw[decide_eq_true_eq];exact fun h=>hc h.1)]
      have e2:Xv c (H[i] :: H.drop (i+1))=Xv c (H.drop (i+1)):=by
        unfold Xv;rw[List.filter_cons_of_neg (by rw[decide_eq_true_eq];exact fun h=>hc h.1)]
      rw[e1,e2]
theorem N4 (c:Int) (H:List Hall) (I:List Ins) (J:List Ins) (hm:H.length<900000000) (hI:I.length<900000000) (j:Nat):∀ (f i:Nat) (V:List Int),i+j=I.length→j+H.length+1<f→V.length≤i →
    call_View.l0 f c I (I.length:Int) (i:Int) H J V=some (V++Xx c (I.drop i),Xu c H,Xv c H,0):=by
  induction j with
  |zero=>
    intro f i V hi hf hV
    obtain⟨f,rfl⟩:∃ f',f=f'+1:=⟨f-1,by omega⟩
    unfold call_View.l0
    rw[if_neg (by omega),List.drop_eq_nil_of_le (by omega)]
    have:=N3 c H V hm H.length f 0 [] [] (by omega) (by omega) (by simp) (by simp)
    rw[List.drop_zero] at this
    simpa[Xx] using this
  |succ j ih=>
    intro f i V hi hf hV
    obtain⟨f,rfl⟩:∃ f',f=f'+1:=⟨f-1,by omega⟩
    have h1:i<I.length:=by omega
    unfold call_View.l0
    rw[if_pos (by omega),if_pos (by omega),if_pos (by omega),Gq I i h1,show wrap64 ((i:Int)+1)=((i+1:Nat):Int) from by unfold wrap64;omega,List.drop_eq_getElem_cons h1]
    by_cases hc:I[i].f0=c
    · rw[if_pos hc,if_pos (by omega),ih f (i+1) _ (by omega) (by omega) (by simp;omega)]
      have e1:Xx c (I[i] :: I.drop (i+1))=I[i].f1 :: Xx c (I.drop (i+1)):=by
        unfold Xx;rw[List.filter_cons_of_pos (by exact decide_eq_true hc)];rfl
      rw[e1,List.append_assoc]
      rfl
    · rw[if_neg hc,ih f (i+1) V (by omega) (by omega) (by omega)]
      have e1:Xx c (I[i] :: I.drop (i+1))=Xx c (I.drop (i+1)):=by
        unfold Xx;rw[List.filter_cons_of_neg (by rw[decide_eq_true_eq];exact hc)]
      rw[e1]
theorem Gf (k:Nat) (F C:Int) (H:List Hall) (I:List Ins) (c:Int) (hH:H.length<900000000) (hI:I.length<900000000) (hC:i64 C) (hk:H.length+I.length+3<k):
    call_View.f k F C H I c=some (if okB F C H I=true then (if 0≤c∧c≤C-1 then (Xx c I,Xu c H,Xv c H,0) else ([],[],[],191)) else ([],[],[],190)):=by
  unfold call_View.f
  obtain⟨k,rfl⟩:∃ k',k=k'+1:=⟨k-1,by omega⟩
  rw[X9 k F C H I hH hI hC,Xh]
  cases hok:okB F C H I
  · simp
  · obtain⟨hF,B,_⟩:=Yh.1 hok
    rw[Uh C (by omega)]
    have:=N4 c H I I hH hI I.length (k+1) 0 [] (by omega) (by omega) (by simp)
    rw[List.drop_zero] at this
    rw[show((0:Nat):Int)=0 from rfl] at this
    simp only[Option.bind_some,if_true,decide_eq_true_eq]
    by_cases hc:0≤c∧c≤C-1
    · rw[if_pos hc,if_pos hc,this]
      rfl
    · rw[if_neg hc,if_neg hc]
theorem Mr (c:Int) (H:List Hall) (I:List Ins):(Xx c I).length≤I.length∧(Xu c H).length≤H.length∧(Xv c H).length≤H.length:=by
  unfold Xx Xu Xv
  simp only[List.length_map]
  exact⟨List.length_filter_le _ _,List.length_filter_le _ _,List.length_filter_le _ _⟩
theorem Wl (H:List Hall) (I:List Ins):newelref19_Few.f H I=some false∨(newelref19_Few.f H I=some true∧H.length≤130∧I.length≤520):=by
  unfold newelref19_Few.f
  by_cases h1:(H.length:Int)≤130
  · rw[if_pos h1]
    by_cases O:(I.length:Int)≤520
    · exact .inr ⟨by rw[decide_eq_true O],by omega,by omega⟩
    · exact .inl (by rw[decide_eq_false O])
  · rw[if_neg h1];exact .inl rfl
end Go.Proofs.Ytmfffemidlhcpaa.Call
