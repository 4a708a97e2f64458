/- Texts of this claim, one behind the other: what the law's functions come to, walked (printed by a program, with the words that the print uses), and what that is, in plain Lean. No conditions of their own. -/
import Derived.Test.YtmfffemidlhcpaaQGroupAll6
namespace Go.Proofs.Ytmfffemidlhcpaa.C
open Go.RowKit Go.Proofs.YtmfffemidlhcpaaW.PrintWords Go.Proofs.YtmfffemidlhcpaaW.PrintLast Go.Proofs.YtmfffemidlhcpaaW.PrintMore
attribute [local go_sem] Zv Zt Z6 Z5 Zk Zj Zu Zs
set_option linter.unusedVariables false
set_option linter.unusedSimpArgs false
mutual
def call_View.l0:Nat→Int→List (S86)→Int→Int→List (S36)→List (S86)→List Int→Option (List Int×List Int×List Int×Int)
 |0,_,_,_,_,_,_,_=>none
 |k+1,Z,O,γ,X,J,Y,B=>if X<γ then (if 0≤X then (if X<(O.length:Int) then (if ((Qt O X).f0)=Z then (if B.length<17592186044416 then (call_View.l0 k Z O γ (wrap64 (X+1)) J Y (B ++ [(Qt O X).f1])) else (none)) else (call_View.l0 k Z O γ (wrap64 (X+1)) J Y B)) else (none)) else (none)) else (call_View.l1 k Z J (J.length:Int) 0 B ([]:List Int) ([]:List Int))
def call_View.l1:Nat→Int→List (S36)→Int→Int→List Int→List Int→List Int→Option (List Int×List Int×List Int×Int)
 |0,_,_,_,_,_,_,_=>none
 |k+1,Z,Y,γ,X,B,J,O=>if X<γ then (if 0≤X then (if X<(Y.length:Int) then (if ((Qc Y X).f2)=Z then (if ((Qc Y X).f1)>0 then (if J.length<17592186044416 then (call_View.l1 k Z Y γ (wrap64 (X+1)) B (J ++ [(Qc Y X).f0]) O) else (none)) else (if O.length<17592186044416 then (call_View.l1 k Z Y γ (wrap64 (X+1)) B J (O ++ [(Qc Y X).f0])) else (none))) else (call_View.l1 k Z Y γ (wrap64 (X+1)) B J O)) else (none)) else (none)) else (some (B,J,O,0))
end
def call_View.f (k:Nat) (J:Int) (O:Int) (X:List (S36)) (Z:List (S86)) (a2:Int):Option (List Int×List Int×List Int×Int):=(call_Check.f k J O X Z).bind fun b3=>(if b3=0 then ((call_within.f a2 0 (wrap64 (O-1))).bind fun ct=>(if ct=true then (call_View.l0 k a2 Z (Z.length:Int) 0 X Z ([]:List Int)) else (some (([]:List Int),([]:List Int),([]:List Int),191)))) else (some (([]:List Int),([]:List Int),([]:List Int),b3)))
theorem call_View.Zo:∀ k,(∀ O X Y J Z y5 y6,LeO (call_View.l0 k O X Y J Z y5 y6) (call_View.l0 (k+1) O X Y J Z y5 y6))∧(∀ O X Y J Z y5 y6,LeO (call_View.l1 k O X Y J Z y5 y6) (call_View.l1 (k+1) O X Y J Z y5 y6))
 |0=>⟨fun _ _ _ _ _ _ _ r h=>by simp[call_View.l0] at h,fun _ _ _ _ _ _ _ r h=>by simp[call_View.l1] at h⟩
 |k+1=>by
  obtain⟨B,ε⟩:=call_View.Zo k
  refine⟨?_, ?_⟩
  ·intro O X Y J Z y5 y6
   unfold call_View.l0
   repeat' first
   |(with_reducible exact B _ _ _ _ _ _ _)
   |(with_reducible exact ε _ _ _ _ _ _ _)
   |(with_reducible exact call_Check.mono _ _ _ _ _)
   |(with_reducible exact LeO.refl _)
   |(with_reducible exact LeO.none _)
   |(with_reducible refine LeO.ite ?_ ?_)
   |(with_reducible refine LeO.bind ?_ (fun _=>?_))
   |exact B _ _ _ _ _ _ _
   |exact ε _ _ _ _ _ _ _
   |exact call_Check.mono _ _ _ _ _
   |exact LeO.none _
   |refine LeO.ite ?_ ?_
   |refine LeO.bind ?_ (fun _=>?_)
  ·intro O X Y J Z y5 y6
   unfold call_View.l1
   repeat' first
   |(with_reducible exact B _ _ _ _ _ _ _)
   |(with_reducible exact ε _ _ _ _ _ _ _)
   |(with_reducible exact call_Check.mono _ _ _ _ _)
   |(with_reducible exact LeO.refl _)
   |(with_reducible exact LeO.none _)
   |(with_reducible refine LeO.ite ?_ ?_)
   |(with_reducible refine LeO.bind ?_ (fun _=>?_))
   |exact B _ _ _ _ _ _ _
   |exact ε _ _ _ _ _ _ _
   |exact call_Check.mono _ _ _ _ _
   |exact LeO.none _
   |refine LeO.ite ?_ ?_
   |refine LeO.bind ?_ (fun _=>?_)
theorem call_View.mono:∀ J Y a2 a3 O k,LeO (call_View.f k J Y a2 a3 O) (call_View.f (k+1) J Y a2 a3 O):=by
 intro J Y a2 a3 O k
 obtain⟨B,ε⟩:=call_View.Zo k
 unfold call_View.f
 repeat' first
   |(with_reducible exact B _ _ _ _ _ _ _)
   |(with_reducible exact ε _ _ _ _ _ _ _)
   |(with_reducible exact call_Check.mono _ _ _ _ _)
   |(with_reducible exact LeO.refl _)
   |(with_reducible exact LeO.none _)
   |(with_reducible refine LeO.ite ?_ ?_)
   |(with_reducible refine LeO.bind ?_ (fun _=>?_))
   |exact B _ _ _ _ _ _ _
   |exact ε _ _ _ _ _ _ _
   |exact call_Check.mono _ _ _ _ _
   |exact LeO.none _
   |refine LeO.ite ?_ ?_
   |refine LeO.bind ?_ (fun _=>?_)
set_option maxHeartbeats 8000000 in
set_option maxRecDepth 100000 in
theorem call_View.calls (k:Nat) (J:Int) (O:Int) (θ :Option Addr) (η :Nat) (X:List (S36)) (κ :Option Addr) (ι :Nat) (Z:List (S86)) (a2:Int) (r1:List Int) (r2:List Int) (r3:List Int) (r4:Int) (w:World) (a8:Kd.C k36 w θ X.length X) (a9:X.length ≤ η) (aj:Kd.C k86 w κ Z.length Z) (al:Z.length ≤ ι) (h:call_View.f k J O X Z a2=some (r1,r2,r3,r4)):
  Calls Try.prog 24 #[.agg #[.int .i64 J,.int .i64 O],.agg #[.slice θ X.length η,.slice κ Z.length ι],.int .i64 a2] w fun e w'=>∃ bg e4 ea:Value,e = .returned (.tuple #[.agg #[bg,e4,ea],.int .i64 r4])∧Kd.R (Kd.int .i64) 3 w' w.heap.size (fun k_=>some k_≠(e4:Value).ownBlock∧some k_≠(ea:Value).ownBlock) bg r1∧Kd.R (Kd.int .i64) 3 w' w.heap.size (fun k_=>some k_≠(bg:Value).ownBlock∧some k_≠(ea:Value).ownBlock) e4 r2∧Kd.R (Kd.int .i64) 3 w' w.heap.size (fun k_=>some k_≠(bg:Value).ownBlock∧some k_≠(e4:Value).ownBlock) ea r3∧Below w.heap.size w w':=by
 have dp:=Try.underlying59
 have ey:=Try.underlying50
 have fl:=Try.underlying34
 have d9:=Try.underlying86
 have dm:=Try.underlying36
 have ω :=Aside0.mk a8
 have am:=Aside0.mk a9
 clear a8 a9
 have a7:=Aside0.mk aj
 have av:=Aside0.mk al
 clear aj al
 have HB:=Aside0.mk (Below.refl w.heap.size w)
 have H:((call_Check.f k J O X Z).bind fun b3=>(if b3=0 then ((call_within.f a2 0 (wrap64 (O-1))).bind fun ct=>(if ct=true then (call_View.l0 k a2 Z (Z.length:Int) 0 X Z ([]:List Int)) else (some (([]:List Int),([]:List Int),([]:List Int),191)))) else (some (([]:List Int),([]:List Int),([]:List Int),b3))))=some (r1,r2,r3,r4):=h
 clear h
 replace H:=Option.bind_eq_some_iff.mp H
 obtain⟨b3,d4,H⟩:=H
 replace H:(if b3=0 then ((call_within.f a2 0 (wrap64 (O-1))).bind fun ct=>(if ct=true then (call_View.l0 k a2 Z (Z.length:Int) 0 X Z ([]:List Int)) else (some (([]:List Int),([]:List Int),([]:List Int),191)))) else (some (([]:List Int),([]:List Int),([]:List Int),b3)))=some (r1,r2,r3,r4):=H
 have A4:=Aside0.mk d4
 clear d4
 by_cases c5:b3=0
 ·rw[if_pos c5] at H
  have c5b0:(b3==0)=true:=beq_iff_eq.mpr c5
  have c5b1:(b3 != 0)=false:=bne_eq_false_iff_eq.mpr c5
  clear c5
  replace H:=Option.bind_eq_some_iff.mp H
  obtain⟨ct,b0,H⟩:=H
  replace H:(if ct=true then (call_View.l0 k a2 Z (Z.length:Int) 0 X Z ([]:List Int)) else (some (([]:List Int),([]:List Int),([]:List Int),191)))=some (r1,r2,r3,r4):=H
  have A6:=Aside0.mk b0
  clear b0
  by_cases c7:ct=true
  ·subst c7
   have H1:(call_View.l0 k a2 Z (Z.length:Int) 0 X Z ([]:List Int))=some (r1,r2,r3,r4):=by rw[if_pos rfl] at H;exact H
   clear H
   have H:=H1
   clear H1
   have H':=Aside0.mk H
   clear H
   go_enter Try.func24,Try.ntmps24
   go_wp2_with (first|((with_reducible refine Qf (N:=3) rfl ?_);refine qE 3 #[.int .i64 J,.int .i64 O] 59 ?_;intro aw hg w8 hbox hb;have B:=Aside0.mk hbox;have eb:=sGe hg;have ed:=sGe hg;replace HB:=sHb hb;clear hb hbox hg)|((with_reducible refine Qf (N:=4) rfl ?_);refine qE 4 #[.slice θ X.length η,.slice κ Z.length ι] 50 ?_;intro ch hg w9 hbox hb;have γ:=Aside0.mk hbox;have ek:=sGe hg;have el:=sGe hg;have b5:=sNl B hg;have b6:=sNg B hg;replace B:=sBk B hb;replace HB:=sHb hb;clear hb hbox hg)|((with_reducible refine Qf (N:=6) rfl ?_);refine qE 6 #[.slice none 0 0,.slice none 0 0,.slice none 0 0] 34 ?_;intro b4 hg ni hbox hb;have δ :=Aside0.mk hbox;have em:=sGe hg;have en:=sGe hg;have b7:=sNl B hg;have b8:=sNg B hg;have ap:=sNl γ hg;have ar:=sNg γ hg;replace B:=sBk B hb;replace γ:=sBk γ hb;replace HB:=sHb hb;clear hb hbox hg;have ft:=b5.out;have gh:=b6.out;have gl:=b7.out;have gm:=b8.out;obtain⟨ab,au,ac,ax⟩:=qD2 B.out;have fn:=ap.out;have fo:=ar.out;obtain⟨bk,bl,bm,br⟩:=qD2 γ.out)|((with_reducible refine Qp (f:=40) rfl ?_);refine Q4 (some 16) rfl rfl Try.func40 kr rfl #[.agg #[.int .i64 J,.int .i64 O],.agg #[.slice θ X.length η,.slice κ Z.length ι]] rfl qM ?_;(with_reducible refine(call_Check.calls k J O _ _ X _ _ Z b3 _ ?side1 ?side2 ?side3 ?side4 A4.out).mono ?_);(case side1=>exact(Kd.Qv ω.out HB.out));(case side2=>exact am.out);(case side3=>exact(Kd.Qv a7.out HB.out));(case side4=>exact av.out);rintro e bj ⟨rfl,hb⟩;refine⟨_,rfl, ?_⟩;replace B:=sBk B hb;replace γ:=sBk γ hb;replace δ :=sBk δ hb;replace HB:=sHb hb;(try clear hb);(try clear a6);(try clear hk);(try clear hi);obtain⟨ay,az,b1,b2⟩:=qD2 B.out)|((with_reducible refine Qp (f:=44) rfl ?_);refine Q4 (some 25) rfl rfl Try.func44 kr rfl #[.int .i64 a2,.int .i64 0,.int .i64 (wrap64 (O-1))] rfl qM ?_;(with_reducible refine(call_within.calls a2 0 (wrap64 (O-1)) true _ A6.out).mono ?_);rintro e w' ⟨rfl,⟨nd,rfl⟩⟩;refine⟨_,rfl, ?_⟩;(try(rw[Yt bj];generalize hq_:World.drewN bj _=bj;have μ :Aside0 (bj.heap[aw]?=some (.cells #[.int .i64 J,.int .i64 O] 59 (0,0))):=⟨by rw[← hq_];exact B.out⟩;have ξ :Aside0 (bj.heap[ch]?=some (.cells #[.slice θ X.length η,.slice κ Z.length ι] 50 (0,0))):=⟨by rw[← hq_];exact γ.out⟩;have a3:Aside0 (bj.heap[b4]?=some (.cells #[.slice none 0 0,.slice none 0 0,.slice none 0 0] 34 (0,0))):=⟨by rw[← hq_];exact δ.out⟩;have a4:Aside0 (Below w.heap.size w bj):=⟨by rw[← hq_];exact HB.out⟩;clear B γ δ HB hq_;have B:= μ;have γ:= ξ;have δ :=a3;have HB:=a4;clear μ ξ a3 a4));(try(have ci:bj.cell? ⟨aw,0,none⟩=some (.int .i64 J):=(Qa B.out 0).trans rfl));(try(have cj:bj.cell? ⟨aw,1,none⟩=some (.int .i64 O):=(Qa B.out 1).trans rfl));(try(have ck:=Qb B.out 0));(try(have co:=Qb B.out 1)))|((with_reducible refine Qf (N:=9) rfl ?_);refine qE 9 #[.slice none 0 0,.slice none 0 0,.slice none 0 0] 34 ?_;intro da hg bc hbox hb;have ζ :=Aside0.mk hbox;have m5:=sGe hg;have m6:=sGe hg;have bh:=sNl B hg;have bi:=sNg B hg;have b9:=sNl γ hg;have bb:=sNg γ hg;have bs:=sNl δ hg;have bu:=sNg δ hg;replace B:=sBk B hb;replace γ:=sBk γ hb;replace δ :=sBk δ hb;replace HB:=sHb hb;clear hb hbox hg;have fq:=bi.out;have gn:=bh.out;have gp:=bb.out;have gw:=b9.out;have ei:=bu.out;have gf:=bs.out;obtain⟨dj,dk,eo,ep,er,fz⟩:=qD3 ζ.out;obtain⟨bn,bo,bp,bq⟩:=qD2 γ.out))
   go_loopg [32] k (fun kq lx w'=>∃ (σ:Int) (φ :List Int) (τ :Value),lx = .int .i64 σ∧Aside0 (call_View.l0 kq a2 Z (Z.length:Int) σ X Z φ = some (r1,r2,r3,r4))∧Aside0 (kq≤k)∧Aside0 (Kd.R (Kd.int .i64) 3 w' w.heap.size (fun _=>True) τ φ)∧Aside0 (w'.heap[aw]?=some (.cells #[.int .i64 J,.int .i64 O] 59 (0,0)))∧Aside0 (w'.heap[ch]?=some (.cells #[(.slice θ X.length η),(.slice κ Z.length ι)] 50 (0,0)))∧Aside0 (w'.heap[b4]?=some (.cells #[(.slice none 0 0),(.slice none 0 0),(.slice none 0 0)] 34 (0,0)))∧Aside0 (w'.heap[da]?=some (.cells #[τ,(.slice none 0 0),(.slice none 0 0)] 34 (0,0)))∧Aside0 (Below w.heap.size w w'))
   case atStart=>exact⟨(0),(([]:List Int)),(.slice none 0 0),qR,H',⟨Nat.le_refl _⟩,⟨by first|exact Kd.Xx _ _ _ _ _|exact Kd.Y0 _ _ _ _ _|exact Kd.Yw _ _ _ _ _|exact Kd.Yz _ _ _ _ _|exact Kd.Yx _ _ _ _ _⟩,⟨bka B⟩,⟨bka γ⟩,⟨bka δ⟩,⟨by(with_reducible repeat first|refine Qn ?_ _|refine Qe ?_|refine Qo ?_ _);refine Qq (cs:=#[.slice none 0 0,.slice none 0 0,.slice none 0 0]) ?_ 2 _ rfl;(with_reducible repeat first|refine Qn ?_ _|refine Qe ?_|refine Qo ?_ _);refine Qq (cs:=#[.slice none 0 0,.slice none 0 0,.slice none 0 0]) ?_ 1 _ rfl;(with_reducible repeat first|refine Qn ?_ _|refine Qe ?_|refine Qo ?_ _);refine Qq (cs:=#[.slice none 0 0,.slice none 0 0,.slice none 0 0]) ?_ 0 _ rfl;(with_reducible repeat first|refine Qn ?_ _|refine Qe ?_|refine Qo ?_ _);exact ζ.out⟩,⟨bel⟩⟩
   case round=>
    clear H'
    try clear c1
    try clear c2
    try clear p2
    try clear c4
    try clear c5
    try clear c5b0
    try clear c5b1
    try clear p6
    try clear c7
    try clear ah
    try clear ai
    try clear ag
    try clear cq
    try clear ba
    try clear dz
    try clear df
    try clear ab
    try clear au
    try clear bk
    try clear bl
    try clear ay
    try clear az
    try clear ci
    try clear cj
    try clear dj
    try clear dk
    try clear eo
    try clear bn
    try clear bo
    try clear ac
    try clear ax
    try clear bm
    try clear br
    try clear b1
    try clear b2
    try clear ck
    try clear co
    try clear ep
    try clear er
    try clear fz
    try clear bp
    try clear bq
    obtain⟨σ,φ,τ,rfl,HA,ao,ε,B,γ,δ,ζ,HB⟩:=hrel
    cases gk with
    |zero=>exact absurd HA.out (by simp[call_View.l0])
    |succ k1=>
     have H:=HA.out
     clear HA
     simp only[call_View.l0] at H
     by_cases bf:σ<(Z.length:Int)
     ·rw[if_pos bf] at H
      have c25b0:decide (σ<(Z.length:Int))=true:=decide_eq_true bf
      clear bf
      by_cases ae:0≤σ
      ·rw[if_pos ae] at H
       have c26b0:decide (0≤σ)=true:=decide_eq_true ae
       clear ae
       by_cases ev:σ<(Z.length:Int)
       ·rw[if_pos ev] at H
        have c27b0:decide (σ<(Z.length:Int))=true:=decide_eq_true ev
        clear ev
        by_cases cr:((Qt Z σ).f0)=a2
        ·rw[if_pos cr] at H
         have c28b0:(((Qt Z σ).f0)==a2)=true:=beq_iff_eq.mpr cr
         have c28b1:(((Qt Z σ).f0) != a2)=false:=bne_eq_false_iff_eq.mpr cr
         clear cr
         by_cases d5: φ.length<17592186044416
         ·rw[if_pos d5] at H
          have fv:=Aside0.mk d5
          clear d5
          obtain⟨dt,db⟩:∃ y_:List Int,y_=(φ ++ [(Qt Z σ).f1]):=⟨_,rfl⟩
          replace H:(call_View.l0 k1 a2 Z (Z.length:Int) (wrap64 (σ+1)) X Z dt)=some (r1,r2,r3,r4):=by first|(rw[db];with_reducible exact H)|(have an:=(Option.bind_some _ _).symm.trans H;rw[db];with_reducible exact an)|(have an:=(Option.bind_some _ _).symm.trans H;with_reducible exact an)|with_reducible exact H|(rw[db];exact H)|exact H
          have fw:=Aside0.mk db
          clear db
          have H':=Aside0.mk H
          clear H
          have cu:0≤(σ:Int):=of_decide_eq_true (by assumption)
          have cv:σ<(Z.length:Int):=of_decide_eq_true (by assumption)
          obtain⟨et,du,bd,be⟩:=Yc a7.out σ cu cv
          cases du
          replace bd:=(HB.out.cell (World.block_lt_of_cell? w _ bd)).trans bd
          replace be:=(HB.out.cell (World.block_lt_of_cell? w _ be)).trans be
          replace cu:=eq_true cu
          replace cv:=eq_true cv
          go_wp2_with (first|((with_reducible refine Qf (N:=11) rfl ?_);refine qE 11 #[.int .i64 0,.int .i64 0] 86 ?_;intro eu hg ej hbox hb;have cp:=Aside0.mk hbox;have fx:=sGe hg;have fy:=sGe hg;have cw:=sNl B hg;have cx:=sNg B hg;have d0:=sNl γ hg;have d1:=sNg γ hg;have d2:=sNl δ hg;have d3:=sNg δ hg;have d7:=sNl ζ hg;have d8:=sNg ζ hg;replace ε :=sRb ε hb;replace B:=sBk B hb;replace γ:=sBk γ hb;replace δ :=sBk δ hb;replace ζ :=sBk ζ hb;replace HB:=sHb hb;clear hb hbox hg;have fg:=cx.out;have fh:=cw.out;have m8:=d1.out;have m9:=d0.out;have l3:=d3.out;have l4:=d2.out;have lm:=d8.out;have ln:=d7.out;obtain⟨ee,ef,eg,eh⟩:=qD2 cp.out;have sb:=bi.out;have sc:=bh.out;have m7:=bb.out;have mc:=b9.out;have gi:=bu.out;have gj:=bs.out;obtain⟨e8,ec,gg,gz,h0,h4⟩:=qD3 ζ.out)|((with_reducible refine Xq (b:=.append) (xs:=#[.tmp 41,.tmp 44]) rfl ?_);at_builtin;refine Kd.G9 (Kd.int .i64) (w0:=w) w.heap.size rfl (.tmp 41) (.tmp 44) 32 3 (.int .i64 0) 8 rfl Try.underlying32 Lh rfl (by decide) (by omega) τ φ ((Qt Z σ).f1) [.int .i64 ((Qt Z σ).f1)] (fun _=>True) (fun _=>False) rfl (by first|(go_simp;done)|(go_simp;rfl)) ?aP (fun _ hk=>hk.elim) ?aF ?aO ?aB ?aS ?aL ?_;(case aP=>exact rfl);(case aB=>exact bel);(case aF=>exact(fun _ _=>trivial));(case aO=>exact(by(with_reducible repeat first|apply Kd.Qm|apply Kd.Ql|apply Kd.Qs);exact Kd.Qw (Kd.Qz (Kd.Qz (Kd.Q7 ε.out cp.out (by decide)) (fun _ hk=>hk.2) (.int .i64 ((Qt Z σ).f0))) (fun _ hk=>hk.2) (.int .i64 ((Qt Z σ).f1))) (fun _ hk=>trivial)));(case aS=>exact(Qh bel));(case aL=>have:=fv.out;omega);intro nq kt ho hb hg hat;rw[← fw.out] at ho;have ew:=Aside0.mk ho;replace B:=Aside0.mk (Q2 (g:=aw) (o:=.cells #[.int .i64 J,.int .i64 O] 59 (0,0)) (bka B) hg (Kd.Z4 ε.out B.out (by decide)));replace γ:=Aside0.mk (Q2 (g:=ch) (o:=.cells #[.slice θ X.length η,.slice (some et) Z.length ι] 50 (0,0)) (bka γ) hg (Kd.Z4 ε.out γ.out (by decide)));replace δ :=Aside0.mk (Q2 (g:=b4) (o:=.cells #[.slice none 0 0,.slice none 0 0,.slice none 0 0] 34 (0,0)) (bka δ) hg (Kd.Z4 ε.out δ.out (by decide)));replace ζ :=Aside0.mk (Q2 (g:=da) (o:=.cells #[τ,.slice none 0 0,.slice none 0 0] 34 (0,0)) (bka ζ) hg (Kd.Z4 ε.out ζ.out (by decide)));replace cp:=Aside0.mk (Q2 (g:=eu) (o:=.cells #[.int .i64 ((Qt Z σ).f0),.int .i64 ((Qt Z σ).f1)] 86 (0,0)) (by(with_reducible repeat first|refine Qn ?_ _|refine Qe ?_|refine Qo ?_ _);refine Qq (cs:=#[.int .i64 ((Qt Z σ).f0),.int .i64 0]) ?_ 1 _ rfl;(with_reducible repeat first|refine Qn ?_ _|refine Qe ?_|refine Qo ?_ _);refine Qq (cs:=#[.int .i64 0,.int .i64 0]) ?_ 0 _ rfl;(with_reducible repeat first|refine Qn ?_ _|refine Qe ?_|refine Qo ?_ _);exact cp.out) hg (Kd.Z4 ε.out cp.out (by decide)));replace HB:=Aside0.mk hb;clear ε;clear ho hb hg hat;obtain⟨gx,gy,he⟩:=Kd.Q5 ew.out;subst he;obtain⟨dw,dx,e0,e3,e5,e6⟩:=qD3 ζ.out))
          go_roundg k1
          case measure=>have:=ao.out;omega
          case rel=>exact⟨(wrap64 (σ+1)),(dt),(.slice gx dt.length gy),qR,H',⟨by have:=ao.out;omega⟩,⟨by(with_reducible repeat first|apply Kd.Qm|apply Kd.Ql|apply Kd.Qs);exact Kd.Qw (Kd.Qz (Kd.Q7 ew.out ζ.out (by decide)) (fun _ hk=>hk.2) _) (fun _ hk=>trivial)⟩,⟨bka B⟩,⟨bka γ⟩,⟨bka δ⟩,⟨by(with_reducible repeat first|refine Qn ?_ _|refine Qe ?_|refine Qo ?_ _);refine Qq (cs:=#[τ,.slice none 0 0,.slice none 0 0]) ?_ 0 _ rfl;(with_reducible repeat first|refine Qn ?_ _|refine Qe ?_|refine Qo ?_ _);exact ζ.out⟩,⟨bel⟩⟩
         ·rw[if_neg d5] at H
          exact absurd H (by simp)
        ·rw[if_neg cr] at H
         have c28b0:(((Qt Z σ).f0)==a2)=false:=beq_eq_false_iff_ne.mpr cr
         have c28b1:(((Qt Z σ).f0) != a2)=true:=bne_iff_ne.mpr cr
         have H':=Aside0.mk H
         clear H
         have cu:0≤(σ:Int):=of_decide_eq_true (by assumption)
         have cv:σ<(Z.length:Int):=of_decide_eq_true (by assumption)
         obtain⟨et,du,bd,be⟩:=Yc a7.out σ cu cv
         cases du
         replace bd:=(HB.out.cell (World.block_lt_of_cell? w _ bd)).trans bd
         replace be:=(HB.out.cell (World.block_lt_of_cell? w _ be)).trans be
         replace cu:=eq_true cu
         replace cv:=eq_true cv
         go_wp2_with (first|((with_reducible refine Qf (N:=11) rfl ?_);refine qE 11 #[.int .i64 0,.int .i64 0] 86 ?_;intro eu hg kv hbox hb;have cp:=Aside0.mk hbox;have fx:=sGe hg;have fy:=sGe hg;have cw:=sNl B hg;have cx:=sNg B hg;have d0:=sNl γ hg;have d1:=sNg γ hg;have d2:=sNl δ hg;have d3:=sNg δ hg;have d7:=sNl ζ hg;have d8:=sNg ζ hg;replace ε :=sRb ε hb;replace B:=sBk B hb;replace γ:=sBk γ hb;replace δ :=sBk δ hb;replace ζ :=sBk ζ hb;replace HB:=sHb hb;clear hb hbox hg;have h9:=cx.out;have ha:=cw.out;have ma:=d1.out;have mb:=d0.out;have ju:=d3.out;have jv:=d2.out;have l7:=d8.out;have l8:=d7.out;obtain⟨fb,fc,fe,ff⟩:=qD2 cp.out))
         go_roundg k1
         case measure=>have:=ao.out;omega
         case rel=>exact⟨(wrap64 (σ+1)),(φ),(τ),qR,H',⟨by have:=ao.out;omega⟩,⟨by(with_reducible repeat first|apply Kd.Qm|apply Kd.Ql|apply Kd.Qs);exact Kd.Qw (Kd.Qz (Kd.Qz (Kd.Q7 ε.out cp.out (by decide)) (fun _ hk=>hk.2) (.int .i64 ((Qt Z σ).f0))) (fun _ hk=>hk.2) (.int .i64 ((Qt Z σ).f1))) (fun _ hk=>trivial)⟩,⟨bka B⟩,⟨bka γ⟩,⟨bka δ⟩,⟨bka ζ⟩,⟨bel⟩⟩
       ·rw[if_neg ev] at H
        exact absurd H (by simp)
      ·rw[if_neg ae] at H
       exact absurd H (by simp)
     ·rw[if_neg bf] at H
      have c25b0:decide (σ<(Z.length:Int))=false:=decide_eq_false bf
      clear bf
      have H':=Aside0.mk H
      clear H
      have h7:=b6.out
      have h8:=b5.out
      have ez:=ap.out
      have f7:=ar.out
      have jw:=b9.out
      have jx:=bb.out
      obtain⟨cy,cz,d6,dd⟩:=qD2 γ.out
      go_wp2
      go_loopg [51] k1 (fun kq ly w'=>∃ (Y:Int) (ψ :List Int) (a5:List Int) (a0:Value) (a1:Value),ly = .int .i64 Y∧Aside0 (call_View.l1 kq a2 X (X.length:Int) Y φ ψ a5=some (r1,r2,r3,r4))∧Aside0 (kq≤k1)∧Aside0 (Kd.R (Kd.int .i64) 3 w' w.heap.size (fun k_=>some k_≠(a0:Value).ownBlock∧some k_≠(a1:Value).ownBlock) τ φ)∧Aside0 (Kd.R (Kd.int .i64) 3 w' w.heap.size (fun k_=>some k_≠(τ :Value).ownBlock∧some k_≠(a1:Value).ownBlock) a0 ψ)∧Aside0 (Kd.R (Kd.int .i64) 3 w' w.heap.size (fun k_=>some k_≠(τ :Value).ownBlock∧some k_≠(a0:Value).ownBlock) a1 a5)∧Aside0 (w'.heap[aw]?=some (.cells #[.int .i64 J,.int .i64 O] 59 (0,0)))∧Aside0 (w'.heap[ch]?=some (.cells #[(.slice θ X.length η),(.slice κ Z.length ι)] 50 (0,0)))∧Aside0 (w'.heap[b4]?=some (.cells #[(.slice none 0 0),(.slice none 0 0),(.slice none 0 0)] 34 (0,0)))∧Aside0 (w'.heap[da]?=some (.cells #[τ,a0,a1] 34 (0,0)))∧Aside0 (Below w.heap.size w w'))
      case atStart=>exact⟨(0),(([]:List Int)),(([]:List Int)),(.slice none 0 0),(.slice none 0 0),rfl,H',⟨Nat.le_refl _⟩,⟨by(with_reducible repeat first|apply Kd.Qm|apply Kd.Ql|apply Kd.Qs);exact Kd.Qw ε.out (fun _ hk=>⟨(by simp[Value.ownBlock]),(by simp[Value.ownBlock])⟩)⟩,⟨by first|exact Kd.Xx _ _ _ _ _|exact Kd.Y0 _ _ _ _ _|exact Kd.Yw _ _ _ _ _|exact Kd.Yz _ _ _ _ _|exact Kd.Yx _ _ _ _ _⟩,⟨by first|exact Kd.Xx _ _ _ _ _|exact Kd.Y0 _ _ _ _ _|exact Kd.Yw _ _ _ _ _|exact Kd.Yz _ _ _ _ _|exact Kd.Yx _ _ _ _ _⟩,B,γ,δ,ζ,HB⟩
      case round=>
       clear H'
       try clear c1
       try clear c2
       try clear p2
       try clear c3
       try clear c4
       try clear c5
       try clear c5b0
       try clear c5b1
       try clear p5
       try clear q5
       try clear qy
       try clear p6
       try clear c7
       try clear ah
       try clear ai
       try clear ag
       try clear cq
       try clear ba
       try clear dz
       try clear df
       try clear bf
       try clear c25b0
       try clear ae
       try clear c26b0
       try clear ev
       try clear c27b0
       try clear cr
       try clear c28b0
       try clear c28b1
       try clear d5
       try clear ny
       try clear si
       try clear ol
       try clear ix
       try clear sj
       try clear fa
       try clear io
       try clear de
       try clear qz
       try clear us
       try clear r0
       try clear gr
       try clear hh
       try clear o5
       try clear km
       try clear p51
       try clear o6
       try clear nr
       try clear ab
       try clear au
       try clear bk
       try clear bl
       try clear ay
       try clear az
       try clear ci
       try clear cj
       try clear dj
       try clear dk
       try clear eo
       try clear bn
       try clear bo
       try clear ee
       try clear ef
       try clear e8
       try clear ec
       try clear gg
       try clear dw
       try clear dx
       try clear e0
       try clear fb
       try clear fc
       try clear cy
       try clear cz
       try clear ac
       try clear ax
       try clear bm
       try clear br
       try clear b1
       try clear b2
       try clear ck
       try clear co
       try clear ep
       try clear er
       try clear fz
       try clear bp
       try clear bq
       try clear eg
       try clear eh
       try clear gz
       try clear h0
       try clear h4
       try clear e3
       try clear e5
       try clear e6
       try clear fe
       try clear ff
       try clear d6
       try clear dd
       try clear bd
       try clear be
       try clear p2
       try clear cu
       try clear p6
       try clear cv
       obtain⟨Y,ψ,a5,a0,a1,rfl,HA,dq,ε,ν,ρ,B,γ,δ,ζ,HB⟩:=hrel
       cases gk with
       |zero=>exact absurd HA.out (by simp[call_View.l1])
       |succ k2=>
        have H:=HA.out
        clear HA
        simp only[call_View.l1] at H
        by_cases i5:Y<(X.length:Int)
        ·rw[if_pos i5] at H
         have c53b0:decide (Y<(X.length:Int))=true:=decide_eq_true i5
         clear i5
         by_cases k6:0≤Y
         ·rw[if_pos k6] at H
          have c54b0:decide (0≤Y)=true:=decide_eq_true k6
          clear k6
          by_cases kz:Y<(X.length:Int)
          ·rw[if_pos kz] at H
           have c55b0:decide (Y<(X.length:Int))=true:=decide_eq_true kz
           clear kz
           by_cases dn:((Qc X Y).f2)=a2
           ·rw[if_pos dn] at H
            have c56b0:(((Qc X Y).f2)==a2)=true:=beq_iff_eq.mpr dn
            have c56b1:(((Qc X Y).f2) != a2)=false:=bne_eq_false_iff_eq.mpr dn
            clear dn
            by_cases kn:((Qc X Y).f1)>0
            ·rw[if_pos kn] at H
             have c57b0:decide (0<((Qc X Y).f1))=true:=decide_eq_true kn
             clear kn
             by_cases fr: ψ.length<17592186044416
             ·rw[if_pos fr] at H
              have ga:=Aside0.mk fr
              clear fr
              obtain⟨dv,dc⟩:∃ y_:List Int,y_=(ψ ++ [(Qc X Y).f0]):=⟨_,rfl⟩
              replace H:(call_View.l1 k2 a2 X (X.length:Int) (wrap64 (Y+1)) φ dv a5)=some (r1,r2,r3,r4):=by first|(rw[dc];with_reducible exact H)|(have an:=(Option.bind_some _ _).symm.trans H;rw[dc];with_reducible exact an)|(have an:=(Option.bind_some _ _).symm.trans H;with_reducible exact an)|with_reducible exact H|(rw[dc];exact H)|exact H
              have gb:=Aside0.mk dc
              clear dc
              have H':=Aside0.mk H
              clear H
              have cm:0≤(Y:Int):=of_decide_eq_true (by assumption)
              have cn:Y<(X.length:Int):=of_decide_eq_true (by assumption)
              obtain⟨di,dr,aa,af,ak⟩:=Z9 ω.out Y cm cn
              cases dr
              replace aa:=(HB.out.cell (World.block_lt_of_cell? w _ aa)).trans aa
              replace af:=(HB.out.cell (World.block_lt_of_cell? w _ af)).trans af
              replace ak:=(HB.out.cell (World.block_lt_of_cell? w _ ak)).trans ak
              replace cm:=eq_true cm
              replace cn:=eq_true cn
              go_wp2_with (first|((with_reducible refine Qf (N:=13) rfl ?_);refine qE 13 #[.int .i64 0,.int .i64 0,.int .i64 0] 36 ?_;intro dl hg o7 hbox hb;have χ :=Aside0.mk hbox;have fi:=sGe hg;have fj:=sGe hg;have bv:=sNl B hg;have bw:=sNg B hg;have bz:=sNl γ hg;have ca:=sNg γ hg;have cb:=sNl δ hg;have cd:=sNg δ hg;have ce:=sNl ζ hg;have cg:=sNg ζ hg;replace ε :=sRb ε hb;replace ν :=sRb ν hb;replace ρ:=sRb ρ hb;replace B:=sBk B hb;replace γ:=sBk γ hb;replace δ :=sBk δ hb;replace ζ :=sBk ζ hb;replace HB:=sHb hb;clear hb hbox hg;have h5:=bw.out;have h6:=bv.out;have jy:=ca.out;have jz:=bz.out;have nz:=cd.out;have o0:=cb.out;have nk:=cg.out;have nl:=ce.out;obtain⟨j8,j9,mj,ja,jb,ml⟩:=qD3 χ.out;have se:=bi.out;have sf:=bh.out;have me:=bb.out;have mq:=b9.out;have sk:=bu.out;have sl:=bs.out;obtain⟨ms,mt,mu,mw,my,mz⟩:=qD3 ζ.out)|((with_reducible refine Xq (b:=.append) (xs:=#[.tmp 72,.tmp 75]) rfl ?_);at_builtin;refine Kd.G9 (Kd.int .i64) (w0:=w) w.heap.size rfl (.tmp 72) (.tmp 75) 32 3 (.int .i64 0) 8 rfl Try.underlying32 Lh rfl (by decide) (by omega) a0 ψ ((Qc X Y).f0) [.int .i64 ((Qc X Y).f0)] (fun k_=>some k_≠(τ :Value).ownBlock∧some k_≠(a1:Value).ownBlock) (fun _=>False) rfl (by first|(go_simp;done)|(go_simp;rfl)) ?aP (fun _ hk=>hk.elim) ?aF ?aO ?aB ?aS ?aL ?_;(case aP=>exact rfl);(case aB=>exact bel);(case aF=>exact(fun k_ hk=>⟨Kd.fresh' (Kd.Xu (by(with_reducible repeat first|apply Kd.Qm|apply Kd.Ql|apply Kd.Qs);exact(Kd.Qw (Kd.Qz (Kd.Qz (Kd.Qz (Kd.Q7 ε.out χ.out (by decide)) (fun _ hk=>hk.2) (.int .i64 ((Qc X Y).f0))) (fun _ hk=>hk.2) (.int .i64 ((Qc X Y).f1))) (fun _ hk=>hk.2) (.int .i64 ((Qc X Y).f2))) (fun _ h_=>h_.1)))) k_ hk,Kd.fresh' (Kd.Xu (by(with_reducible repeat first|apply Kd.Qm|apply Kd.Ql|apply Kd.Qs);exact(Kd.Qw (Kd.Qz (Kd.Qz (Kd.Qz (Kd.Q7 ρ.out χ.out (by decide)) (fun _ hk=>hk.2) (.int .i64 ((Qc X Y).f0))) (fun _ hk=>hk.2) (.int .i64 ((Qc X Y).f1))) (fun _ hk=>hk.2) (.int .i64 ((Qc X Y).f2))) (fun _ h_=>h_.1)))) k_ hk⟩));(case aO=>exact(by(with_reducible repeat first|apply Kd.Qm|apply Kd.Ql|apply Kd.Qs);exact Kd.Qw (Kd.Qz (Kd.Qz (Kd.Qz (Kd.Q7 ν.out χ.out (by decide)) (fun _ hk=>hk.2) (.int .i64 ((Qc X Y).f0))) (fun _ hk=>hk.2) (.int .i64 ((Qc X Y).f1))) (fun _ hk=>hk.2) (.int .i64 ((Qc X Y).f2))) (fun _ hk=>⟨hk.1.1,hk.1.2⟩)));(case aS=>exact(Qh bel));(case aL=>have:=ga.out;omega);intro ns o8 ho hb hg hat;rw[← gb.out] at ho;have fk:=Aside0.mk ho;replace ε :=Aside0.mk (Kd.Gh (ok:=(fun k_=>some k_≠(a1:Value).ownBlock)) (by(with_reducible repeat first|apply Kd.Qm|apply Kd.Ql|apply Kd.Qs);exact Kd.Qw (Kd.Qz (Kd.Qz (Kd.Qz (Kd.Q7 ε.out χ.out (by decide)) (fun _ hk=>hk.2) (.int .i64 ((Qc X Y).f0))) (fun _ hk=>hk.2) (.int .i64 ((Qc X Y).f1))) (fun _ hk=>hk.2) (.int .i64 ((Qc X Y).f2))) (fun _ hk=>⟨hk.1.2,hk.1.1⟩)) hg hat);replace ρ:=Aside0.mk (Kd.Gh (ok:=(fun k_=>some k_≠(τ :Value).ownBlock)) (by(with_reducible repeat first|apply Kd.Qm|apply Kd.Ql|apply Kd.Qs);exact Kd.Qw (Kd.Qz (Kd.Qz (Kd.Qz (Kd.Q7 ρ.out χ.out (by decide)) (fun _ hk=>hk.2) (.int .i64 ((Qc X Y).f0))) (fun _ hk=>hk.2) (.int .i64 ((Qc X Y).f1))) (fun _ hk=>hk.2) (.int .i64 ((Qc X Y).f2))) (fun _ hk=>⟨hk.1.1,hk.1.2⟩)) hg hat);replace B:=Aside0.mk (Q2 (g:=aw) (o:=.cells #[.int .i64 J,.int .i64 O] 59 (0,0)) (bka B) hg (Kd.Z4 ν.out B.out (by decide)));replace γ:=Aside0.mk (Q2 (g:=ch) (o:=.cells #[.slice (some di) X.length η,.slice κ Z.length ι] 50 (0,0)) (bka γ) hg (Kd.Z4 ν.out γ.out (by decide)));replace δ :=Aside0.mk (Q2 (g:=b4) (o:=.cells #[.slice none 0 0,.slice none 0 0,.slice none 0 0] 34 (0,0)) (bka δ) hg (Kd.Z4 ν.out δ.out (by decide)));replace ζ :=Aside0.mk (Q2 (g:=da) (o:=.cells #[τ,a0,a1] 34 (0,0)) (bka ζ) hg (Kd.Z4 ν.out ζ.out (by decide)));replace χ :=Aside0.mk (Q2 (g:=dl) (o:=.cells #[.int .i64 ((Qc X Y).f0),.int .i64 ((Qc X Y).f1),.int .i64 ((Qc X Y).f2)] 36 (0,0)) (by(with_reducible repeat first|refine Qn ?_ _|refine Qe ?_|refine Qo ?_ _);refine Qq (cs:=#[.int .i64 ((Qc X Y).f0),.int .i64 ((Qc X Y).f1),.int .i64 0]) ?_ 2 _ rfl;(with_reducible repeat first|refine Qn ?_ _|refine Qe ?_|refine Qo ?_ _);refine Qq (cs:=#[.int .i64 ((Qc X Y).f0),.int .i64 0,.int .i64 0]) ?_ 1 _ rfl;(with_reducible repeat first|refine Qn ?_ _|refine Qe ?_|refine Qo ?_ _);refine Qq (cs:=#[.int .i64 0,.int .i64 0,.int .i64 0]) ?_ 0 _ rfl;(with_reducible repeat first|refine Qn ?_ _|refine Qe ?_|refine Qo ?_ _);exact χ.out) hg (Kd.Z4 ν.out χ.out (by decide)));replace HB:=Aside0.mk hb;clear ν;clear ho hb hg hat;obtain⟨hj,hl,hu⟩:=Kd.Q5 fk.out;subst hu;obtain⟨ip,iq,ir,iu,iv,iw⟩:=qD3 ζ.out))
              go_roundg k2
              case measure=>have:=ao.out;have:=dq.out;omega
              case rel=>exact⟨(wrap64 (Y+1)),(dv),(a5),(.slice hj dv.length hl),(a1),qR,H',⟨by have:=ao.out;have:=dq.out;omega⟩,⟨by(with_reducible repeat first|apply Kd.Qm|apply Kd.Ql|apply Kd.Qs);exact Kd.Qw (Kd.Qz (Kd.Q7 ε.out ζ.out (by decide)) (fun _ hk=>hk.2) _) (fun _ hk=>⟨hk.1.2,hk.1.1⟩)⟩,⟨by(with_reducible repeat first|apply Kd.Qm|apply Kd.Ql|apply Kd.Qs);exact Kd.Qw (Kd.Qz (Kd.Q7 fk.out ζ.out (by decide)) (fun _ hk=>hk.2) _) (fun _ hk=>⟨hk.1.1,hk.1.2⟩)⟩,⟨by(with_reducible repeat first|apply Kd.Qm|apply Kd.Ql|apply Kd.Qs);exact Kd.Qw (Kd.Qz (Kd.Q7 ρ.out ζ.out (by decide)) (fun _ hk=>hk.2) _) (fun _ hk=>⟨hk.1.1,hk.1.2⟩)⟩,⟨bka B⟩,⟨bka γ⟩,⟨bka δ⟩,⟨by(with_reducible repeat first|refine Qn ?_ _|refine Qe ?_|refine Qo ?_ _);refine Qq (cs:=#[τ,a0,a1]) ?_ 1 _ rfl;(with_reducible repeat first|refine Qn ?_ _|refine Qe ?_|refine Qo ?_ _);exact ζ.out⟩,⟨bel⟩⟩
             ·rw[if_neg fr] at H
              exact absurd H (by simp)
            ·rw[if_neg kn] at H
             have c57b0:decide (0<((Qc X Y).f1))=false:=decide_eq_false kn
             clear kn
             by_cases k7:a5.length<17592186044416
             ·rw[if_pos k7] at H
              have ge:=Aside0.mk k7
              clear k7
              obtain⟨dy,dh⟩:∃ y_:List Int,y_=(a5 ++ [(Qc X Y).f0]):=⟨_,rfl⟩
              replace H:(call_View.l1 k2 a2 X (X.length:Int) (wrap64 (Y+1)) φ ψ dy)=some (r1,r2,r3,r4):=by first|(rw[dh];with_reducible exact H)|(have an:=(Option.bind_some _ _).symm.trans H;rw[dh];with_reducible exact an)|(have an:=(Option.bind_some _ _).symm.trans H;with_reducible exact an)|with_reducible exact H|(rw[dh];exact H)|exact H
              have gq:=Aside0.mk dh
              clear dh
              have H':=Aside0.mk H
              clear H
              have cm:0≤(Y:Int):=of_decide_eq_true (by assumption)
              have cn:Y<(X.length:Int):=of_decide_eq_true (by assumption)
              obtain⟨di,dr,aa,af,ak⟩:=Z9 ω.out Y cm cn
              cases dr
              replace aa:=(HB.out.cell (World.block_lt_of_cell? w _ aa)).trans aa
              replace af:=(HB.out.cell (World.block_lt_of_cell? w _ af)).trans af
              replace ak:=(HB.out.cell (World.block_lt_of_cell? w _ ak)).trans ak
              replace cm:=eq_true cm
              replace cn:=eq_true cn
              go_wp2_with (first|((with_reducible refine Qf (N:=13) rfl ?_);refine qE 13 #[.int .i64 0,.int .i64 0,.int .i64 0] 36 ?_;intro dl hg qi hbox hb;have χ :=Aside0.mk hbox;have fi:=sGe hg;have fj:=sGe hg;have bv:=sNl B hg;have bw:=sNg B hg;have bz:=sNl γ hg;have ca:=sNg γ hg;have cb:=sNl δ hg;have cd:=sNg δ hg;have ce:=sNl ζ hg;have cg:=sNg ζ hg;replace ε :=sRb ε hb;replace ν :=sRb ν hb;replace ρ:=sRb ρ hb;replace B:=sBk B hb;replace γ:=sBk γ hb;replace δ :=sBk δ hb;replace ζ :=sBk ζ hb;replace HB:=sHb hb;clear hb hbox hg;have sn:=bw.out;have so:=bv.out;have jn:=ca.out;have jo:=bz.out;have sg:=cd.out;have sh:=cb.out;have jp:=cg.out;have jq:=ce.out;obtain⟨j3,j7,jc,jd,je,jf⟩:=qD3 χ.out;have lb:=bi.out;have lc:=bh.out;have lg:=bb.out;have lh:=b9.out;have o1:=bu.out;have o2:=bs.out;obtain⟨jh,ji,jj,jk,jl,jm⟩:=qD3 ζ.out)|((with_reducible refine Xq (b:=.append) (xs:=#[.tmp 56,.tmp 59]) rfl ?_);at_builtin;refine Kd.G9 (Kd.int .i64) (w0:=w) w.heap.size rfl (.tmp 56) (.tmp 59) 32 3 (.int .i64 0) 8 rfl Try.underlying32 Lh rfl (by decide) (by omega) a1 a5 ((Qc X Y).f0) [.int .i64 ((Qc X Y).f0)] (fun k_=>some k_≠(τ :Value).ownBlock∧some k_≠(a0:Value).ownBlock) (fun _=>False) rfl (by first|(go_simp;done)|(go_simp;rfl)) ?aP (fun _ hk=>hk.elim) ?aF ?aO ?aB ?aS ?aL ?_;(case aP=>exact rfl);(case aB=>exact bel);(case aF=>exact(fun k_ hk=>⟨Kd.fresh' (Kd.Xu (by(with_reducible repeat first|apply Kd.Qm|apply Kd.Ql|apply Kd.Qs);exact(Kd.Qw (Kd.Qz (Kd.Qz (Kd.Qz (Kd.Q7 ε.out χ.out (by decide)) (fun _ hk=>hk.2) (.int .i64 ((Qc X Y).f0))) (fun _ hk=>hk.2) (.int .i64 ((Qc X Y).f1))) (fun _ hk=>hk.2) (.int .i64 ((Qc X Y).f2))) (fun _ h_=>h_.1)))) k_ hk,Kd.fresh' (Kd.Xu (by(with_reducible repeat first|apply Kd.Qm|apply Kd.Ql|apply Kd.Qs);exact(Kd.Qw (Kd.Qz (Kd.Qz (Kd.Qz (Kd.Q7 ν.out χ.out (by decide)) (fun _ hk=>hk.2) (.int .i64 ((Qc X Y).f0))) (fun _ hk=>hk.2) (.int .i64 ((Qc X Y).f1))) (fun _ hk=>hk.2) (.int .i64 ((Qc X Y).f2))) (fun _ h_=>h_.1)))) k_ hk⟩));(case aO=>exact(by(with_reducible repeat first|apply Kd.Qm|apply Kd.Ql|apply Kd.Qs);exact Kd.Qw (Kd.Qz (Kd.Qz (Kd.Qz (Kd.Q7 ρ.out χ.out (by decide)) (fun _ hk=>hk.2) (.int .i64 ((Qc X Y).f0))) (fun _ hk=>hk.2) (.int .i64 ((Qc X Y).f1))) (fun _ hk=>hk.2) (.int .i64 ((Qc X Y).f2))) (fun _ hk=>⟨hk.1.1,hk.1.2⟩)));(case aS=>exact(Qh bel));(case aL=>have:=ge.out;omega);intro nt o9 ho hb hg hat;rw[← gq.out] at ho;have fm:=Aside0.mk ho;replace ε :=Aside0.mk (Kd.Gh (ok:=(fun k_=>some k_≠(a0:Value).ownBlock)) (by(with_reducible repeat first|apply Kd.Qm|apply Kd.Ql|apply Kd.Qs);exact Kd.Qw (Kd.Qz (Kd.Qz (Kd.Qz (Kd.Q7 ε.out χ.out (by decide)) (fun _ hk=>hk.2) (.int .i64 ((Qc X Y).f0))) (fun _ hk=>hk.2) (.int .i64 ((Qc X Y).f1))) (fun _ hk=>hk.2) (.int .i64 ((Qc X Y).f2))) (fun _ hk=>⟨hk.1.1,hk.1.2⟩)) hg hat);replace ν :=Aside0.mk (Kd.Gh (ok:=(fun k_=>some k_≠(τ :Value).ownBlock)) (by(with_reducible repeat first|apply Kd.Qm|apply Kd.Ql|apply Kd.Qs);exact Kd.Qw (Kd.Qz (Kd.Qz (Kd.Qz (Kd.Q7 ν.out χ.out (by decide)) (fun _ hk=>hk.2) (.int .i64 ((Qc X Y).f0))) (fun _ hk=>hk.2) (.int .i64 ((Qc X Y).f1))) (fun _ hk=>hk.2) (.int .i64 ((Qc X Y).f2))) (fun _ hk=>⟨hk.1.1,hk.1.2⟩)) hg hat);replace B:=Aside0.mk (Q2 (g:=aw) (o:=.cells #[.int .i64 J,.int .i64 O] 59 (0,0)) (bka B) hg (Kd.Z4 ρ.out B.out (by decide)));replace γ:=Aside0.mk (Q2 (g:=ch) (o:=.cells #[.slice (some di) X.length η,.slice κ Z.length ι] 50 (0,0)) (bka γ) hg (Kd.Z4 ρ.out γ.out (by decide)));replace δ :=Aside0.mk (Q2 (g:=b4) (o:=.cells #[.slice none 0 0,.slice none 0 0,.slice none 0 0] 34 (0,0)) (bka δ) hg (Kd.Z4 ρ.out δ.out (by decide)));replace ζ :=Aside0.mk (Q2 (g:=da) (o:=.cells #[τ,a0,a1] 34 (0,0)) (bka ζ) hg (Kd.Z4 ρ.out ζ.out (by decide)));replace χ :=Aside0.mk (Q2 (g:=dl) (o:=.cells #[.int .i64 ((Qc X Y).f0),.int .i64 ((Qc X Y).f1),.int .i64 ((Qc X Y).f2)] 36 (0,0)) (by(with_reducible repeat first|refine Qn ?_ _|refine Qe ?_|refine Qo ?_ _);refine Qq (cs:=#[.int .i64 ((Qc X Y).f0),.int .i64 ((Qc X Y).f1),.int .i64 0]) ?_ 2 _ rfl;(with_reducible repeat first|refine Qn ?_ _|refine Qe ?_|refine Qo ?_ _);refine Qq (cs:=#[.int .i64 ((Qc X Y).f0),.int .i64 0,.int .i64 0]) ?_ 1 _ rfl;(with_reducible repeat first|refine Qn ?_ _|refine Qe ?_|refine Qo ?_ _);refine Qq (cs:=#[.int .i64 0,.int .i64 0,.int .i64 0]) ?_ 0 _ rfl;(with_reducible repeat first|refine Qn ?_ _|refine Qe ?_|refine Qo ?_ _);exact χ.out) hg (Kd.Z4 ρ.out χ.out (by decide)));replace HB:=Aside0.mk hb;clear ρ;clear ho hb hg hat;obtain⟨hx,hy,i0⟩:=Kd.Q5 fm.out;subst i0;obtain⟨k4,k5,k8,k9,ka,kb⟩:=qD3 ζ.out))
              go_roundg k2
              case measure=>have:=ao.out;have:=dq.out;omega
              case rel=>exact⟨(wrap64 (Y+1)),(ψ),(dy),(a0),(.slice hx dy.length hy),qR,H',⟨by have:=ao.out;have:=dq.out;omega⟩,⟨by(with_reducible repeat first|apply Kd.Qm|apply Kd.Ql|apply Kd.Qs);exact Kd.Qw (Kd.Qz (Kd.Q7 ε.out ζ.out (by decide)) (fun _ hk=>hk.2) _) (fun _ hk=>⟨hk.1.1,hk.1.2⟩)⟩,⟨by(with_reducible repeat first|apply Kd.Qm|apply Kd.Ql|apply Kd.Qs);exact Kd.Qw (Kd.Qz (Kd.Q7 ν.out ζ.out (by decide)) (fun _ hk=>hk.2) _) (fun _ hk=>⟨hk.1.1,hk.1.2⟩)⟩,⟨by(with_reducible repeat first|apply Kd.Qm|apply Kd.Ql|apply Kd.Qs);exact Kd.Qw (Kd.Qz (Kd.Q7 fm.out ζ.out (by decide)) (fun _ hk=>hk.2) _) (fun _ hk=>⟨hk.1.1,hk.1.2⟩)⟩,⟨bka B⟩,⟨bka γ⟩,⟨bka δ⟩,⟨by(with_reducible repeat first|refine Qn ?_ _|refine Qe ?_|refine Qo ?_ _);refine Qq (cs:=#[τ,a0,a1]) ?_ 2 _ rfl;(with_reducible repeat first|refine Qn ?_ _|refine Qe ?_|refine Qo ?_ _);exact ζ.out⟩,⟨bel⟩⟩
             ·rw[if_neg k7] at H
              exact absurd H (by simp)
           ·rw[if_neg dn] at H
            have c56b0:(((Qc X Y).f2)==a2)=false:=beq_eq_false_iff_ne.mpr dn
            have c56b1:(((Qc X Y).f2) != a2)=true:=bne_iff_ne.mpr dn
            have H':=Aside0.mk H
            clear H
            have cm:0≤(Y:Int):=of_decide_eq_true (by assumption)
            have cn:Y<(X.length:Int):=of_decide_eq_true (by assumption)
            obtain⟨di,dr,aa,af,ak⟩:=Z9 ω.out Y cm cn
            cases dr
            replace aa:=(HB.out.cell (World.block_lt_of_cell? w _ aa)).trans aa
            replace af:=(HB.out.cell (World.block_lt_of_cell? w _ af)).trans af
            replace ak:=(HB.out.cell (World.block_lt_of_cell? w _ ak)).trans ak
            replace cm:=eq_true cm
            replace cn:=eq_true cn
            go_wp2_with (first|((with_reducible refine Qf (N:=13) rfl ?_);refine qE 13 #[.int .i64 0,.int .i64 0,.int .i64 0] 36 ?_;intro dl hg vs hbox hb;have χ :=Aside0.mk hbox;have fi:=sGe hg;have fj:=sGe hg;have bv:=sNl B hg;have bw:=sNg B hg;have bz:=sNl γ hg;have ca:=sNg γ hg;have cb:=sNl δ hg;have cd:=sNg δ hg;have ce:=sNl ζ hg;have cg:=sNg ζ hg;replace ε :=sRb ε hb;replace ν :=sRb ν hb;replace ρ:=sRb ρ hb;replace B:=sBk B hb;replace γ:=sBk γ hb;replace δ :=sBk δ hb;replace ζ :=sBk ζ hb;replace HB:=sHb hb;clear hb hbox hg;have mr:=bw.out;have n0:=bv.out;have n1:=ca.out;have n2:=bz.out;have n3:=cd.out;have na:=cb.out;have nb:=cg.out;have nc:=ce.out;obtain⟨kc,ku,kw,kx,ky,l2⟩:=qD3 χ.out))
            go_roundg k2
            case measure=>have:=ao.out;have:=dq.out;omega
            case rel=>exact⟨(wrap64 (Y+1)),(ψ),(a5),(a0),(a1),qR,H',⟨by have:=ao.out;have:=dq.out;omega⟩,⟨by(with_reducible repeat first|apply Kd.Qm|apply Kd.Ql|apply Kd.Qs);exact Kd.Qw (Kd.Qz (Kd.Qz (Kd.Qz (Kd.Q7 ε.out χ.out (by decide)) (fun _ hk=>hk.2) (.int .i64 ((Qc X Y).f0))) (fun _ hk=>hk.2) (.int .i64 ((Qc X Y).f1))) (fun _ hk=>hk.2) (.int .i64 ((Qc X Y).f2))) (fun _ hk=>⟨hk.1.1,hk.1.2⟩)⟩,⟨by(with_reducible repeat first|apply Kd.Qm|apply Kd.Ql|apply Kd.Qs);exact Kd.Qw (Kd.Qz (Kd.Qz (Kd.Qz (Kd.Q7 ν.out χ.out (by decide)) (fun _ hk=>hk.2) (.int .i64 ((Qc X Y).f0))) (fun _ hk=>hk.2) (.int .i64 ((Qc X Y).f1))) (fun _ hk=>hk.2) (.int .i64 ((Qc X Y).f2))) (fun _ hk=>⟨hk.1.1,hk.1.2⟩)⟩,⟨by(with_reducible repeat first|apply Kd.Qm|apply Kd.Ql|apply Kd.Qs);exact Kd.Qw (Kd.Qz (Kd.Qz (Kd.Qz (Kd.Q7 ρ.out χ.out (by decide)) (fun _ hk=>hk.2) (.int .i64 ((Qc X Y).f0))) (fun _ hk=>hk.2) (.int .i64 ((Qc X Y).f1))) (fun _ hk=>hk.2) (.int .i64 ((Qc X Y).f2))) (fun _ hk=>⟨hk.1.1,hk.1.2⟩)⟩,⟨bka B⟩,⟨bka γ⟩,⟨bka δ⟩,⟨bka ζ⟩,⟨bel⟩⟩
          ·rw[if_neg kz] at H
           exact absurd H (by simp)
         ·rw[if_neg k6] at H
          exact absurd H (by simp)
        ·rw[if_neg i5] at H
         have c53b0:decide (Y<(X.length:Int))=false:=decide_eq_false i5
         clear i5
         simp only[Option.some.injEq,Prod.mk.injEq] at H
         obtain⟨rfl,rfl,rfl,rfl⟩:=H
         have nf:=bi.out
         have ng:=bh.out
         have nh:=bb.out
         have nj:=b9.out
         have o3:=bu.out
         have o4:=bs.out
         obtain⟨l5,l6,l9,lf,ll,lp⟩:=qD3 ζ.out
         obtain⟨e7,e9,i1⟩:=Kd.Q5 ε.out
         subst i1
         have nm:=b8.out
         have nn:=b7.out
         have no:=ar.out
         have np:=ap.out
         obtain⟨lq,lr,ls,lu,lv,lw⟩:=qD3 δ.out
         obtain⟨fp,fu,gs⟩:=Kd.Q5 ν.out
         subst gs
         obtain⟨gt,gu,gv⟩:=Kd.Q5 ρ.out
         subst gv
         go_wp2
         refine bodyPost_ret (Z8 rfl _ _ b4 34 #[.slice e7 φ.length e9,.slice fp ψ.length fu,.slice gt a5.length gu] (0,0) _ rfl (by refine Qq (cs:=#[.slice e7 φ.length e9,.slice fp ψ.length fu,.slice none 0 0]) ?_ 2 _ rfl;refine Qq (cs:=#[.slice e7 φ.length e9,.slice none 0 0,.slice none 0 0]) ?_ 1 _ rfl;refine Qq (cs:=#[.slice none 0 0,.slice none 0 0,.slice none 0 0]) ?_ 0 _ rfl;exact δ.out) Try.underlying34 rfl kr) rfl ?_
         exact⟨_,_,_,by first|rfl|(simp[Qk,Qj] <;> rfl)|(simp[*,Qk,Qj] <;> rfl),by(with_reducible repeat first|apply Kd.Qm|apply Kd.Ql|apply Kd.Qs);exact Kd.Qw (Kd.Qz (Kd.Qz (Kd.Qz (Kd.Q7 ε.out δ.out (by decide)) (fun _ hk=>hk.2) _) (fun _ hk=>hk.2) _) (fun _ hk=>hk.2) _) (fun _ hk=>⟨hk.1.1,hk.1.2⟩),by(with_reducible repeat first|apply Kd.Qm|apply Kd.Ql|apply Kd.Qs);exact Kd.Qw (Kd.Qz (Kd.Qz (Kd.Qz (Kd.Q7 ν.out δ.out (by decide)) (fun _ hk=>hk.2) _) (fun _ hk=>hk.2) _) (fun _ hk=>hk.2) _) (fun _ hk=>⟨hk.1.1,hk.1.2⟩),by(with_reducible repeat first|apply Kd.Qm|apply Kd.Ql|apply Kd.Qs);exact Kd.Qw (Kd.Qz (Kd.Qz (Kd.Qz (Kd.Q7 ρ.out δ.out (by decide)) (fun _ hk=>hk.2) _) (fun _ hk=>hk.2) _) (fun _ hk=>hk.2) _) (fun _ hk=>⟨hk.1.1,hk.1.2⟩),bel⟩
  ·replace c7:=Bool.eq_false_iff.mpr c7
   subst c7
   have H1:(some (([]:List Int),([]:List Int),([]:List Int),191))=some (r1,r2,r3,r4):=by rw[if_neg (show ¬ (false=true) by decide)] at H;exact H
   clear H
   have H:=H1
   clear H1
   simp only[Option.some.injEq,Prod.mk.injEq] at H
   obtain⟨rfl,rfl,rfl,rfl⟩:=H
   go_enter Try.func24,Try.ntmps24
   go_wp2_with (first|((with_reducible refine Qf (N:=3) rfl ?_);refine qE 3 #[.int .i64 J,.int .i64 O] 59 ?_;intro aw hg nu hbox hb;have B:=Aside0.mk hbox;have eb:=sGe hg;have ed:=sGe hg;replace HB:=sHb hb;clear hb hbox hg)|((with_reducible refine Qf (N:=4) rfl ?_);refine qE 4 #[.slice θ X.length η,.slice κ Z.length ι] 50 ?_;intro ch hg nv hbox hb;have γ:=Aside0.mk hbox;have ek:=sGe hg;have el:=sGe hg;have b5:=sNl B hg;have b6:=sNg B hg;replace B:=sBk B hb;replace HB:=sHb hb;clear hb hbox hg)|((with_reducible refine Qf (N:=6) rfl ?_);refine qE 6 #[.slice none 0 0,.slice none 0 0,.slice none 0 0] 34 ?_;intro b4 hg nw hbox hb;have δ :=Aside0.mk hbox;have em:=sGe hg;have en:=sGe hg;have b7:=sNl B hg;have b8:=sNg B hg;have ap:=sNl γ hg;have ar:=sNg γ hg;replace B:=sBk B hb;replace γ:=sBk γ hb;replace HB:=sHb hb;clear hb hbox hg;have lz:=b5.out;have m0:=b6.out;have m1:=b7.out;have m2:=b8.out;obtain⟨i2,i3,i4,i6⟩:=qD2 B.out;have m3:=ap.out;have m4:=ar.out;obtain⟨i7,i9,ia,ib⟩:=qD2 γ.out)|((with_reducible refine Qp (f:=40) rfl ?_);refine Q4 (some 16) rfl rfl Try.func40 kr rfl #[.agg #[.int .i64 J,.int .i64 O],.agg #[.slice θ X.length η,.slice κ Z.length ι]] rfl qM ?_;(with_reducible refine(call_Check.calls k J O _ _ X _ _ Z b3 _ ?side1 ?side2 ?side3 ?side4 A4.out).mono ?_);(case side1=>exact(Kd.Qv ω.out HB.out));(case side2=>exact am.out);(case side3=>exact(Kd.Qv a7.out HB.out));(case side4=>exact av.out);rintro e iy ⟨rfl,hb⟩;refine⟨_,rfl, ?_⟩;replace B:=sBk B hb;replace γ:=sBk γ hb;replace δ :=sBk δ hb;replace HB:=sHb hb;(try clear hb);(try clear a6);(try clear hk);(try clear hi);obtain⟨ic,ie,ig,ih⟩:=qD2 B.out)|((with_reducible refine Qp (f:=44) rfl ?_);refine Q4 (some 25) rfl rfl Try.func44 kr rfl #[.int .i64 a2,.int .i64 0,.int .i64 (wrap64 (O-1))] rfl qM ?_;(with_reducible refine(call_within.calls a2 0 (wrap64 (O-1)) false _ A6.out).mono ?_);rintro e w' ⟨rfl,⟨nd,rfl⟩⟩;refine⟨_,rfl, ?_⟩;(try(rw[Yt iy];generalize hq_:World.drewN iy _=iy;have μ :Aside0 (iy.heap[aw]?=some (.cells #[.int .i64 J,.int .i64 O] 59 (0,0))):=⟨by rw[← hq_];exact B.out⟩;have ξ :Aside0 (iy.heap[ch]?=some (.cells #[.slice θ X.length η,.slice κ Z.length ι] 50 (0,0))):=⟨by rw[← hq_];exact γ.out⟩;have a3:Aside0 (iy.heap[b4]?=some (.cells #[.slice none 0 0,.slice none 0 0,.slice none 0 0] 34 (0,0))):=⟨by rw[← hq_];exact δ.out⟩;have a4:Aside0 (Below w.heap.size w iy):=⟨by rw[← hq_];exact HB.out⟩;clear B γ δ HB hq_;have B:= μ;have γ:= ξ;have δ :=a3;have HB:=a4;clear μ ξ a3 a4));(try(have kd:iy.cell? ⟨aw,0,none⟩=some (.int .i64 J):=(Qa B.out 0).trans rfl));(try(have ke:iy.cell? ⟨aw,1,none⟩=some (.int .i64 O):=(Qa B.out 1).trans rfl));(try(have kf:=Qb B.out 0));(try(have kg:=Qb B.out 1));obtain⟨ii,ij,ik,il,im,iz⟩:=qD3 δ.out))
   refine bodyPost_ret (Z8 rfl _ _ b4 34 #[.slice none 0 0,.slice none 0 0,.slice none 0 0] (0,0) _ rfl (by refine Qq (cs:=#[.slice none 0 0,.slice none 0 0,.slice none 0 0]) ?_ 2 _ rfl;refine Qq (cs:=#[.slice none 0 0,.slice none 0 0,.slice none 0 0]) ?_ 1 _ rfl;refine Qq (cs:=#[.slice none 0 0,.slice none 0 0,.slice none 0 0]) ?_ 0 _ rfl;exact δ.out) Try.underlying34 rfl kr) rfl ?_
   exact⟨_,_,_,by first|rfl|(simp[Qk,Qj] <;> rfl)|(simp[*,Qk,Qj] <;> rfl),by first|exact Kd.Xx _ _ _ _ _|exact Kd.Y0 _ _ _ _ _|exact Kd.Yw _ _ _ _ _|exact Kd.Yz _ _ _ _ _|exact Kd.Yx _ _ _ _ _,by first|exact Kd.Xx _ _ _ _ _|exact Kd.Y0 _ _ _ _ _|exact Kd.Yw _ _ _ _ _|exact Kd.Yz _ _ _ _ _|exact Kd.Yx _ _ _ _ _,by first|exact Kd.Xx _ _ _ _ _|exact Kd.Y0 _ _ _ _ _|exact Kd.Yw _ _ _ _ _|exact Kd.Yz _ _ _ _ _|exact Kd.Yx _ _ _ _ _,bel⟩
 ·rw[if_neg c5] at H
  have c5b0:(b3==0)=false:=beq_eq_false_iff_ne.mpr c5
  have c5b1:(b3 != 0)=true:=bne_iff_ne.mpr c5
  simp only[Option.some.injEq,Prod.mk.injEq] at H
  obtain⟨rfl,rfl,rfl,rfl⟩:=H
  go_enter Try.func24,Try.ntmps24
  go_wp2_with (first|((with_reducible refine Qf (N:=3) rfl ?_);refine qE 3 #[.int .i64 J,.int .i64 O] 59 ?_;intro aw hg ut hbox hb;have B:=Aside0.mk hbox;have eb:=sGe hg;have ed:=sGe hg;replace HB:=sHb hb;clear hb hbox hg)|((with_reducible refine Qf (N:=4) rfl ?_);refine qE 4 #[.slice θ X.length η,.slice κ Z.length ι] 50 ?_;intro ch hg qs hbox hb;have γ:=Aside0.mk hbox;have ek:=sGe hg;have el:=sGe hg;have b5:=sNl B hg;have b6:=sNg B hg;replace B:=sBk B hb;replace HB:=sHb hb;clear hb hbox hg)|((with_reducible refine Qf (N:=6) rfl ?_);refine qE 6 #[.slice none 0 0,.slice none 0 0,.slice none 0 0] 34 ?_;intro b4 hg cf hbox hb;have δ :=Aside0.mk hbox;have em:=sGe hg;have en:=sGe hg;have b7:=sNl B hg;have b8:=sNg B hg;have ap:=sNl γ hg;have ar:=sNg γ hg;replace B:=sBk B hb;replace γ:=sBk γ hb;replace HB:=sHb hb;clear hb hbox hg;have mf:=b5.out;have mg:=b6.out;have mh:=b7.out;have mi:=b8.out;obtain⟨kh,ki,kj,kk⟩:=qD2 B.out;have mm:=ap.out;have mo:=ar.out;obtain⟨jg,jr,js,jt⟩:=qD2 γ.out)|((with_reducible refine Qp (f:=40) rfl ?_);refine Q4 (some 16) rfl rfl Try.func40 kr rfl #[.agg #[.int .i64 J,.int .i64 O],.agg #[.slice θ X.length η,.slice κ Z.length ι]] rfl qM ?_;(with_reducible refine(call_Check.calls k J O _ _ X _ _ Z b3 _ ?side1 ?side2 ?side3 ?side4 A4.out).mono ?_);(case side1=>exact(Kd.Qv ω.out HB.out));(case side2=>exact am.out);(case side3=>exact(Kd.Qv a7.out HB.out));(case side4=>exact av.out);rintro e nx ⟨rfl,hb⟩;refine⟨_,rfl, ?_⟩;replace B:=sBk B hb;replace γ:=sBk γ hb;replace δ :=sBk δ hb;replace HB:=sHb hb;(try clear hb);(try clear a6);(try clear hk);(try clear hi);obtain⟨kl,ko,k0,kp,ks,k3⟩:=qD3 δ.out))
  refine bodyPost_ret (Z8 rfl _ _ b4 34 #[.slice none 0 0,.slice none 0 0,.slice none 0 0] (0,0) _ rfl (by refine Qq (cs:=#[.slice none 0 0,.slice none 0 0,.slice none 0 0]) ?_ 2 _ rfl;refine Qq (cs:=#[.slice none 0 0,.slice none 0 0,.slice none 0 0]) ?_ 1 _ rfl;refine Qq (cs:=#[.slice none 0 0,.slice none 0 0,.slice none 0 0]) ?_ 0 _ rfl;exact δ.out) Try.underlying34 rfl kr) rfl ?_
  exact⟨_,_,_,by first|rfl|(simp[Qk,Qj] <;> rfl)|(simp[*,Qk,Qj] <;> rfl),by first|exact Kd.Xx _ _ _ _ _|exact Kd.Y0 _ _ _ _ _|exact Kd.Yw _ _ _ _ _|exact Kd.Yz _ _ _ _ _|exact Kd.Yx _ _ _ _ _,by first|exact Kd.Xx _ _ _ _ _|exact Kd.Y0 _ _ _ _ _|exact Kd.Yw _ _ _ _ _|exact Kd.Yz _ _ _ _ _|exact Kd.Yx _ _ _ _ _,by first|exact Kd.Xx _ _ _ _ _|exact Kd.Y0 _ _ _ _ _|exact Kd.Yw _ _ _ _ _|exact Kd.Yz _ _ _ _ _|exact Kd.Yx _ _ _ _ _,bel⟩
def group_pick_1.f (k:Nat) (J:Int) (ι :Int) (ε :Int) (κ :Int) (ν :Int) (B:Int) (τ :Int) (χ :Int) (ψ :Int) (ω :Int) (a1:Int) (l2:List (S31)) (φ :List (S36)) (ρ:List (S86)) (aa:Int) (ae:Int) (af:Int):Option (Int):=(group_house.f ι ε κ ν B τ χ ψ ω a1 l2).bind fun dr=>((call_View.f k dr.1 dr.2 φ ρ J).bind fun bq=>(if 0≤J then (if J<(l2.length:Int) then ((group_cost.f k ι ε κ ν B τ χ ψ ω a1 ((Qd l2 J).f0.f0) ((Qd l2 J).f0.f1) ((Qd l2 J).f0.f2) ((Qd l2 J).f0.f3) ((Qd l2 J).f0.f4.f0) ((Qd l2 J).f0.f4.f1) ((Qd l2 J).f0.f4.f2) ((Qd l2 J).f1) ((Qd l2 J).f2) ((Qd l2 J).f3) bq.1 bq.2.1 bq.2.2.1 aa ae af).bind fun br=>(some br)) else (none)) else (none)))
theorem group_pick_1.mono:∀ J Y a2 a3 O a5 X a7 a8 a9 Z γ δ ζ ε η θ k,LeO (group_pick_1.f k J Y a2 a3 O a5 X a7 a8 a9 Z γ δ ζ ε η θ) (group_pick_1.f (k+1) J Y a2 a3 O a5 X a7 a8 a9 Z γ δ ζ ε η θ):=by
 intro J Y a2 a3 O a5 X a7 a8 a9 Z γ δ ζ ε η θ k
 unfold group_pick_1.f
 repeat' first
   |(with_reducible exact call_View.mono _ _ _ _ _ _)
   |(with_reducible exact group_cost.mono _ _ _ _ _ _ _ _ _ _ _ _ _ _ _ _ _ _ _ _ _ _ _ _ _ _ _)
   |(with_reducible exact LeO.refl _)
   |(with_reducible exact LeO.none _)
   |(with_reducible refine LeO.ite ?_ ?_)
   |(with_reducible refine LeO.bind ?_ (fun _=>?_))
   |exact call_View.mono _ _ _ _ _ _
   |exact group_cost.mono _ _ _ _ _ _ _ _ _ _ _ _ _ _ _ _ _ _ _ _ _ _ _ _ _ _ _
   |exact LeO.none _
   |refine LeO.ite ?_ ?_
   |refine LeO.bind ?_ (fun _=>?_)
def group_pick_1.T1:Bool×List (List Nat×List Nat):=(true,[([],[]),([],[]),([0,1],[0,1]),([],[]),([],[]),([2,3,4,2],[2,3,4]),([5],[5]),([6],[6]),([6],[6]),([],[]),([9,7,5,0,1,2,3,4,5,6,7,9],[7,9]),([8,10,0,1,2,3,4,5,6,7,8,9,10],[8])])
def group_pick_1.B1:List Nat:=[0,0,3,0,0,31,63,127,127,0,767,2047]
theorem group_pick_1.Kp:rtab .any (opsOf Try.f58 1)=group_pick_1.T1:=by kernel_rfl
theorem group_pick_1.Y7:Zq group_pick_1.T1.2 group_pick_1.B1=true:=by kernel_rfl
def group_pick_1.T2:Bool×List (List Nat×List Nat):=(true,[([],[]),([],[]),([],[]),([1,2],[1,2]),([3],[3]),([],[]),([],[]),([0,4,5,6],[0,4,5,6]),([7,7,0,1,2,3,4,5,6,7],[7])])
def group_pick_1.B2:List Nat:=[0,0,0,6,14,0,0,127,255]
theorem group_pick_1.tab2:rtab .any (opsOf Try.f58 2)=group_pick_1.T2:=by kernel_rfl
theorem group_pick_1.bits2:Zq group_pick_1.T2.2 group_pick_1.B2=true:=by kernel_rfl
set_option maxHeartbeats 8000000 in
set_option maxRecDepth 100000 in
theorem group_pick_1.calls (k:Nat) (J:Int) (ι :Int) (ε :Int) (κ :Int) (ν :Int) (B:Int) (τ :Int) (χ :Int) (ψ :Int) (ω :Int) (a1:Int) (A2:Option Addr) (c2:Nat) (l2:List (S31)) (a5:Option Addr) (a7:Nat) (φ :List (S36)) (a8:Option Addr) (a9:Nat) (ρ:List (S86)) (aa:Int) (ae:Int) (af:Int) (r:Int) (w:World) (ef:Kd.C k31 w A2 l2.length l2) (du:l2.length≤c2) (dh:Kd.C k36 w a5 φ.length φ) (di: φ.length≤a7) (dj:Kd.C k86 w a8 ρ.length ρ) (dk:ρ.length≤a9) (h:group_pick_1.f k J ι ε κ ν B τ χ ψ ω a1 l2 φ ρ aa ae af=some r) (γ:Nat) (bm:Nat) (ba:Nat) (bp:Nat) (dv:w.heap[γ]?=some (.cells #[.int .i64 ι,.int .i64 ε,.int .i64 κ,.int .i64 ν,.int .i64 B,.int .i64 τ,.int .i64 χ,.int .i64 ψ,.int .i64 ω,.int .i64 a1] 25 (0,0))) (dw:w.heap[bm]?=some (.cells #[.slice A2 l2.length c2] 46 (0,0))) (dx:w.heap[ba]?=some (.cells #[.slice a5 φ.length a7,.slice a8 ρ.length a9] 50 (0,0))) (dz:w.heap[bp]?=some (.cells #[.int .i64 aa,.int .i64 ae,.int .i64 af] 36 (0,0))):
  Calls Try.prog 58 #[.int .i64 J,.pointer (some ⟨γ,0,none⟩),.pointer (some ⟨bm,0,none⟩),.pointer (some ⟨ba,0,none⟩),.pointer (some ⟨bp,0,none⟩)] w fun e w'=>e = .returned (.int .i64 r)∧Below w.heap.size w w':=by
 have O:=Aside0.mk dv
 clear dv
 have δ :=Aside0.mk dw
 clear dw
 have Z:=Aside0.mk dx
 clear dx
 have ζ :=Aside0.mk dz
 clear dz
 have ew:=Try.underlying25
 have ey:=Try.underlying50
 have dm:=Try.underlying36
 have fl:=Try.underlying34
 have fo:=Try.underlying31
 have e4:=Aside0.mk ef
 have dy:=Aside0.mk du
 clear ef du
 have bu:=Aside0.mk dh
 have cq:=Aside0.mk di
 clear dh di
 have cf:=Aside0.mk dj
 have cr:=Aside0.mk dk
 clear dj dk
 have HB:=Aside0.mk (Below.refl w.heap.size w)
 have H:((group_house.f ι ε κ ν B τ χ ψ ω a1 l2).bind fun dr=>((call_View.f k dr.1 dr.2 φ ρ J).bind fun bq=>(if 0≤J then (if J<(l2.length:Int) then ((group_cost.f k ι ε κ ν B τ χ ψ ω a1 ((Qd l2 J).f0.f0) ((Qd l2 J).f0.f1) ((Qd l2 J).f0.f2) ((Qd l2 J).f0.f3) ((Qd l2 J).f0.f4.f0) ((Qd l2 J).f0.f4.f1) ((Qd l2 J).f0.f4.f2) ((Qd l2 J).f1) ((Qd l2 J).f2) ((Qd l2 J).f3) bq.1 bq.2.1 bq.2.2.1 aa ae af).bind fun br=>(some br)) else (none)) else (none))))=some r:=h
 clear h
 replace H:=Option.bind_eq_some_iff.mp H
 obtain⟨⟨bv,cg⟩,b0,H⟩:=H
 replace H:((call_View.f k bv cg φ ρ J).bind fun bq=>(if 0≤J then (if J<(l2.length:Int) then ((group_cost.f k ι ε κ ν B τ χ ψ ω a1 ((Qd l2 J).f0.f0) ((Qd l2 J).f0.f1) ((Qd l2 J).f0.f2) ((Qd l2 J).f0.f3) ((Qd l2 J).f0.f4.f0) ((Qd l2 J).f0.f4.f1) ((Qd l2 J).f0.f4.f2) ((Qd l2 J).f1) ((Qd l2 J).f2) ((Qd l2 J).f3) bq.1 bq.2.1 bq.2.2.1 aa ae af).bind fun br=>(some br)) else (none)) else (none)))=some r:=H
 have A6:=Aside0.mk b0
 clear b0
 replace H:=Option.bind_eq_some_iff.mp H
 obtain⟨⟨ah,aj,am,dt⟩,ce,H⟩:=H
 replace H:(if 0≤J then (if J<(l2.length:Int) then ((group_cost.f k ι ε κ ν B τ χ ψ ω a1 ((Qd l2 J).f0.f0) ((Qd l2 J).f0.f1) ((Qd l2 J).f0.f2) ((Qd l2 J).f0.f3) ((Qd l2 J).f0.f4.f0) ((Qd l2 J).f0.f4.f1) ((Qd l2 J).f0.f4.f2) ((Qd l2 J).f1) ((Qd l2 J).f2) ((Qd l2 J).f3) ah aj am aa ae af).bind fun br=>(some br)) else (none)) else (none))=some r:=H
 have A7:=Aside0.mk ce
 clear ce
 by_cases c8:0≤J
 ·rw[if_pos c8] at H
  have c8b0:decide (0≤J)=true:=decide_eq_true c8
  clear c8
  by_cases c9:J<(l2.length:Int)
  ·rw[if_pos c9] at H
   have c9b0:decide (J<(l2.length:Int))=true:=decide_eq_true c9
   clear c9
   replace H:=Option.bind_eq_some_iff.mp H
   obtain⟨br,d6,H⟩:=H
   replace H:(some br)=some r:=H
   have bs:=Aside0.mk d6
   clear d6
   obtain rfl:=Option.some.inj H
   go_enter Try.func58,Try.ntmps58
   try go_wp2
   replace O:=Aside0.mk (Qe O.out)
   replace δ :=Aside0.mk (Qe δ.out)
   replace Z:=Aside0.mk (Qe Z.out)
   replace ζ :=Aside0.mk (Qe ζ.out)
   replace HB:=Aside0.mk (Qg HB.out)
   refine Zh (n:=12) (S:=fun w'=>w'.cell? ⟨γ,0,none⟩=some (.int .i64 ι)∧w'.cell? ⟨γ,1,none⟩=some (.int .i64 ε)∧w'.cell? ⟨γ,2,none⟩=some (.int .i64 κ)∧w'.cell? ⟨γ,3,none⟩=some (.int .i64 ν)∧w'.cell? ⟨γ,4,none⟩=some (.int .i64 B)∧w'.cell? ⟨γ,5,none⟩=some (.int .i64 τ)∧w'.cell? ⟨γ,6,none⟩=some (.int .i64 χ)∧w'.cell? ⟨γ,7,none⟩=some (.int .i64 ψ)∧w'.cell? ⟨γ,8,none⟩=some (.int .i64 ω)∧w'.cell? ⟨γ,9,none⟩=some (.int .i64 a1)∧w'.cell? ⟨bm,0,none⟩=some (.slice A2 l2.length c2)∧w'.cell? ⟨ba,0,none⟩=some (.slice a5 φ.length a7)∧w'.cell? ⟨ba,1,none⟩=some (.slice a8 ρ.length a9)) (ds:=[]) #[false,false,false,false,false,false,false,false,false,false,false,false] kr rfl rfl ⟨(Qa O.out 0).trans rfl,(Qa O.out 1).trans rfl,(Qa O.out 2).trans rfl,(Qa O.out 3).trans rfl,(Qa O.out 4).trans rfl,(Qa O.out 5).trans rfl,(Qa O.out 6).trans rfl,(Qa O.out 7).trans rfl,(Qa O.out 8).trans rfl,(Qa O.out 9).trans rfl,(Qa δ.out 0).trans rfl,(Qa Z.out 0).trans rfl,(Qa Z.out 1).trans rfl⟩ (fun hHeld=>?_);refine Q8 group_pick_1.Kp group_pick_1.Y7 (fun HT_ HW_=>?_)
   generalize w.drew=kp at O δ Z ζ HB hHeld ⊢
   refine qP 4 (some 14) (bN 12 16) HT_ ?_
   refine qT 0 (some 10) (bN 12 17) HT_ HW_ hHeld ?_
   refine qT 1 (some 11) (bN 12 19) HT_ HW_ hHeld ?_
   refine qT 3 (some 13) (bN 12 27) HT_ HW_ hHeld ?_
   refine X7 (σ:=Value×Value×Value×Nat) 2 (bN 12 1023) (fun s_=>[(12,.agg #[.int .i64 bv,.int .i64 cg]),(15,.tuple #[.agg #[s_.1,s_.2.1,s_.2.2.1],.int .i64 dt]),(7,.pointer (some ⟨s_.2.2.2,0,none⟩)),(9,.tuple #[.agg #[s_.1,s_.2.1,s_.2.2.1],.int .i64 dt]),(16,.agg #[s_.1,s_.2.1,s_.2.2.1]),(17,.int .i64 dt)]) (fun s_ w'=>(w'.cell? ⟨γ,0,none⟩=some (.int .i64 ι)∧w'.cell? ⟨γ,1,none⟩=some (.int .i64 ε)∧w'.cell? ⟨γ,2,none⟩=some (.int .i64 κ)∧w'.cell? ⟨γ,3,none⟩=some (.int .i64 ν)∧w'.cell? ⟨γ,4,none⟩=some (.int .i64 B)∧w'.cell? ⟨γ,5,none⟩=some (.int .i64 τ)∧w'.cell? ⟨γ,6,none⟩=some (.int .i64 χ)∧w'.cell? ⟨γ,7,none⟩=some (.int .i64 ψ)∧w'.cell? ⟨γ,8,none⟩=some (.int .i64 ω)∧w'.cell? ⟨γ,9,none⟩=some (.int .i64 a1)∧w'.cell? ⟨bm,0,none⟩=some (.slice A2 l2.length c2)∧w'.cell? ⟨ba,0,none⟩=some (.slice a5 φ.length a7)∧w'.cell? ⟨ba,1,none⟩=some (.slice a8 ρ.length a9))∧(Kd.R (Kd.int .i64) 3 w' w.heap.size (fun k_=>some k_≠(s_.2.1:Value).ownBlock∧some k_≠(s_.2.2.1:Value).ownBlock) s_.1 ah)∧(Kd.R (Kd.int .i64) 3 w' w.heap.size (fun k_=>some k_≠(s_.1:Value).ownBlock∧some k_≠(s_.2.2.1:Value).ownBlock) s_.2.1 aj)∧(Kd.R (Kd.int .i64) 3 w' w.heap.size (fun k_=>some k_≠(s_.1:Value).ownBlock∧some k_≠(s_.2.1:Value).ownBlock) s_.2.2.1 am)∧(w'.heap[γ]?=some (.cells #[.int .i64 ι,.int .i64 ε,.int .i64 κ,.int .i64 ν,.int .i64 B,.int .i64 τ,.int .i64 χ,.int .i64 ψ,.int .i64 ω,.int .i64 a1] 25 (0,0)))∧(w'.heap[bm]?=some (.cells #[.slice A2 l2.length c2] 46 (0,0)))∧(w'.heap[ba]?=some (.cells #[.slice a5 φ.length a7,.slice a8 ρ.length a9] 50 (0,0)))∧(w'.heap[bp]?=some (.cells #[.int .i64 aa,.int .i64 ae,.int .i64 af] 36 (0,0)))∧(w'.heap[s_.2.2.2]?=some (.cells #[.slice none 0 0,.slice none 0 0,.slice none 0 0] 34 (0,0)))∧(w.heap.size≤s_.2.2.2)∧(w.heap.size≤s_.2.2.2)∧(γ≠s_.2.2.2)∧(s_.2.2.2≠γ)∧(bm≠s_.2.2.2)∧(s_.2.2.2≠bm)∧(ba≠s_.2.2.2)∧(s_.2.2.2≠ba)∧(bp≠s_.2.2.2)∧(s_.2.2.2≠bp)∧(Below w.heap.size w w')) ?_ ?_
   rotate_left
   ·intro hCont
    refine J8 (i:=2) (j:=9) (Ni:=some 12) (Nj:=some 7) (bN 12 31) (bN 12 539) rfl rfl rfl rfl (Xt HT_.out kr) (by decide) (by decide) (fun K hK=>?_) (fun K hK=>?_)
    ·skip
     refine Q9 Try.func37 kr rfl #[.agg #[.int .i64 ι,.int .i64 ε,.int .i64 κ,.int .i64 ν,.int .i64 B,.int .i64 τ,.int .i64 χ,.int .i64 ψ,.int .i64 ω,.int .i64 a1],.slice A2 l2.length c2] (by rfl) rfl rfl qM ?_
     with_reducible refine(group_house.calls ι ε κ ν B τ χ ψ ω a1 _ _ l2 bv cg _ ?side1 ?side2 A6.out).mono ?_
     (case side1=>exact(Kd.Qv e4.out HB.out))
     (case side2=>exact dy.out)
     rintro e bj ⟨rfl,hb⟩
     refine⟨_,rfl, ?_⟩
     replace O:=sBk O hb
     replace δ :=sBk δ hb
     replace Z:=sBk Z hb
     replace ζ :=sBk ζ hb
     replace HB:=sHb hb
     (try clear hb)
     (try clear a6)
     (try clear hk)
     (try clear hi)
     refine hK.out _ _ ⟨qc O,qc O,qc O,qc O,qc O,qc O,qc O,qc O,qc O,qc O,qc δ,qc Z,qc Z⟩ (fun hHeld=>?_)
     clear hK K
     refine qN (some 12) ?_
     refine J8 (i:=5) (j:=9) (Ni:=some 15) (Nj:=some 7) (bN 12 63) (bN 12 543) rfl rfl rfl rfl (Xt HT_.out kr) (by decide) (by decide) (fun K hK=>?_) (fun K hK=>?_)
     ·skip
      refine Q9 Try.func24 kr rfl #[.agg #[.int .i64 bv,.int .i64 cg],.agg #[.slice a5 φ.length a7,.slice a8 ρ.length a9],.int .i64 J] (by rfl) rfl rfl qM ?_
      with_reducible refine(call_View.calls k bv cg _ _ φ _ _ ρ J ah aj am dt _ ?side1 ?side2 ?side3 ?side4 A7.out).mono ?_
      (case side1=>exact(Kd.Qv bu.out HB.out))
      (case side2=>exact cq.out)
      (case side3=>exact(Kd.Qv cf.out HB.out))
      (case side4=>exact cr.out)
      rintro e d3 ⟨d1,d2,d4,rfl,ak,ax,d5,hb⟩
      refine⟨_,rfl, ?_⟩
      have an:=Aside0.mk (Kd.Q3 ak (Qh HB.out))
      have ao:=Aside0.mk (Kd.Q3 ax (Qh HB.out))
      have av:=Aside0.mk (Kd.Q3 d5 (Qh HB.out))
      replace O:=sBk O hb
      replace δ :=sBk δ hb
      replace Z:=sBk Z hb
      replace ζ :=sBk ζ hb
      replace HB:=sHb hb
      (try clear hb)
      (try clear a6)
      (try clear hk)
      (try clear hi)
      (try clear ak)
      (try clear ax)
      (try clear d5)
      refine hK.out _ _ ⟨qc O,qc O,qc O,qc O,qc O,qc O,qc O,qc O,qc O,qc O,qc δ,qc Z,qc Z⟩ (fun hHeld=>?_)
      clear hK K
      refine qN (some 15) ?_
      refine qP 6 (some 9) (bN 12 127) HT_ ?_
      refine qP 7 (some 16) (bN 12 255) HT_ ?_
      refine qP 8 (some 17) (bN 12 511) HT_ ?_
      refine qK 9 (some 7) (bN 12 1023) HT_ fun K hK=>?_
      refine Z0 ?hg (N:=7) ?hd (cs:=#[.slice none 0 0,.slice none 0 0,.slice none 0 0]) (t:=34) ?hr ?_;(case hd=>rfl);(case hg=>rfl);(case hr=>go_simp <;> rfl)
      intro X hg hh hbox hb
      have η :=Aside0.mk hbox
      have d7:=sGe hg
      have d8:=sGe hg
      have Y:=sNl O hg
      have aw:=sNg O hg
      have ag:=sNl δ hg
      have ay:=sNg δ hg
      have θ :=sNl Z hg
      have b1:=sNg Z hg
      have b2:=sNl ζ hg
      have b4:=sNg ζ hg
      replace an:=sRb an hb
      replace ao:=sRb ao hb
      replace av:=sRb av hb
      replace O:=sBk O hb
      replace δ :=sBk δ hb
      replace Z:=sBk Z hb
      replace ζ :=sBk ζ hb
      replace HB:=sHb hb
      clear hb hbox hg
      refine hK.out _ _ ⟨qc O,qc O,qc O,qc O,qc O,qc O,qc O,qc O,qc O,qc O,qc δ,qc Z,qc Z⟩ (fun hHeld=>?_)
      clear hK K
      refine qN (some 7) ?_
      exact Ze (by simp only[Q6,Act.put,qS]) (hCont (d1,d2,d4,X) _ ⟨hHeld,an.out,ao.out,av.out,O.out,δ.out,Z.out,ζ.out,η.out,d7.out,d8.out,Y.out,aw.out,ag.out,ay.out,θ.out,b1.out,b2.out,b4.out,HB.out⟩)
     ·skip
      refine Z0 ?hg (N:=7) ?hd (cs:=#[.slice none 0 0,.slice none 0 0,.slice none 0 0]) (t:=34) ?hr ?_;(case hd=>rfl);(case hg=>rfl);(case hr=>go_simp <;> rfl)
      intro X hg d3 hbox hb
      have η :=Aside0.mk hbox
      have d7:=sGe hg
      have d8:=sGe hg
      have Y:=sNl O hg
      have aw:=sNg O hg
      have ag:=sNl δ hg
      have ay:=sNg δ hg
      have θ :=sNl Z hg
      have b1:=sNg Z hg
      have b2:=sNl ζ hg
      have b4:=sNg ζ hg
      replace O:=sBk O hb
      replace δ :=sBk δ hb
      replace Z:=sBk Z hb
      replace ζ :=sBk ζ hb
      replace HB:=sHb hb
      clear hb hbox hg
      refine hK.out _ _ ⟨qc O,qc O,qc O,qc O,qc O,qc O,qc O,qc O,qc O,qc O,qc δ,qc Z,qc Z⟩ (fun hHeld=>?_)
      clear hK K
      refine qN (some 7) ?_
      refine qK 5 (some 15) (bN 12 575) HT_ fun K hK=>?_
      refine Q9 Try.func24 kr rfl #[.agg #[.int .i64 bv,.int .i64 cg],.agg #[.slice a5 φ.length a7,.slice a8 ρ.length a9],.int .i64 J] (by rfl) rfl rfl qM ?_
      with_reducible refine(call_View.calls k bv cg _ _ φ _ _ ρ J ah aj am dt _ ?side1 ?side2 ?side3 ?side4 A7.out).mono ?_
      (case side1=>exact(Kd.Qv bu.out HB.out))
      (case side2=>exact cq.out)
      (case side3=>exact(Kd.Qv cf.out HB.out))
      (case side4=>exact cr.out)
      rintro e hh ⟨d1,d2,d4,rfl,ak,ax,d5,hb⟩
      refine⟨_,rfl, ?_⟩
      have an:=Aside0.mk (Kd.Q3 ak (Qh HB.out))
      have ao:=Aside0.mk (Kd.Q3 ax (Qh HB.out))
      have av:=Aside0.mk (Kd.Q3 d5 (Qh HB.out))
      replace O:=sBk O hb
      replace δ :=sBk δ hb
      replace Z:=sBk Z hb
      replace ζ :=sBk ζ hb
      replace η :=sBk η hb
      replace HB:=sHb hb
      (try clear hb)
      (try clear a6)
      (try clear hk)
      (try clear hi)
      (try clear ak)
      (try clear ax)
      (try clear d5)
      refine hK.out _ _ ⟨qc O,qc O,qc O,qc O,qc O,qc O,qc O,qc O,qc O,qc O,qc δ,qc Z,qc Z⟩ (fun hHeld=>?_)
      clear hK K
      refine qN (some 15) ?_
      refine qP 6 (some 9) (bN 12 639) HT_ ?_
      refine qP 7 (some 16) (bN 12 767) HT_ ?_
      refine qP 8 (some 17) (bN 12 1023) HT_ ?_
      exact Ze (by simp only[Q6,Act.put,qS]) (hCont (d1,d2,d4,X) _ ⟨hHeld,an.out,ao.out,av.out,O.out,δ.out,Z.out,ζ.out,η.out,d7.out,d8.out,Y.out,aw.out,ag.out,ay.out,θ.out,b1.out,b2.out,b4.out,HB.out⟩)
    ·skip
     refine Z0 ?hg (N:=7) ?hd (cs:=#[.slice none 0 0,.slice none 0 0,.slice none 0 0]) (t:=34) ?hr ?_;(case hd=>rfl);(case hg=>rfl);(case hr=>go_simp <;> rfl)
     intro X hg bj hbox hb
     have η :=Aside0.mk hbox
     have d7:=sGe hg
     have d8:=sGe hg
     have Y:=sNl O hg
     have aw:=sNg O hg
     have ag:=sNl δ hg
     have ay:=sNg δ hg
     have θ :=sNl Z hg
     have b1:=sNg Z hg
     have b2:=sNl ζ hg
     have b4:=sNg ζ hg
     replace O:=sBk O hb
     replace δ :=sBk δ hb
     replace Z:=sBk Z hb
     replace ζ :=sBk ζ hb
     replace HB:=sHb hb
     clear hb hbox hg
     refine hK.out _ _ ⟨qc O,qc O,qc O,qc O,qc O,qc O,qc O,qc O,qc O,qc O,qc δ,qc Z,qc Z⟩ (fun hHeld=>?_)
     clear hK K
     refine qN (some 7) ?_
     refine qK 2 (some 12) (bN 12 543) HT_ fun K hK=>?_
     refine Q9 Try.func37 kr rfl #[.agg #[.int .i64 ι,.int .i64 ε,.int .i64 κ,.int .i64 ν,.int .i64 B,.int .i64 τ,.int .i64 χ,.int .i64 ψ,.int .i64 ω,.int .i64 a1],.slice A2 l2.length c2] (by rfl) rfl rfl qM ?_
     with_reducible refine(group_house.calls ι ε κ ν B τ χ ψ ω a1 _ _ l2 bv cg _ ?side1 ?side2 A6.out).mono ?_
     (case side1=>exact(Kd.Qv e4.out HB.out))
     (case side2=>exact dy.out)
     rintro e d3 ⟨rfl,hb⟩
     refine⟨_,rfl, ?_⟩
     replace O:=sBk O hb
     replace δ :=sBk δ hb
     replace Z:=sBk Z hb
     replace ζ :=sBk ζ hb
     replace η :=sBk η hb
     replace HB:=sHb hb
     (try clear hb)
     (try clear a6)
     (try clear hk)
     (try clear hi)
     refine hK.out _ _ ⟨qc O,qc O,qc O,qc O,qc O,qc O,qc O,qc O,qc O,qc O,qc δ,qc Z,qc Z⟩ (fun hHeld=>?_)
     clear hK K
     refine qN (some 12) ?_
     refine qK 5 (some 15) (bN 12 575) HT_ fun K hK=>?_
     refine Q9 Try.func24 kr rfl #[.agg #[.int .i64 bv,.int .i64 cg],.agg #[.slice a5 φ.length a7,.slice a8 ρ.length a9],.int .i64 J] (by rfl) rfl rfl qM ?_
     with_reducible refine(call_View.calls k bv cg _ _ φ _ _ ρ J ah aj am dt _ ?side1 ?side2 ?side3 ?side4 A7.out).mono ?_
     (case side1=>exact(Kd.Qv bu.out HB.out))
     (case side2=>exact cq.out)
     (case side3=>exact(Kd.Qv cf.out HB.out))
     (case side4=>exact cr.out)
     rintro e hh ⟨d1,d2,d4,rfl,ak,ax,d5,hb⟩
     refine⟨_,rfl, ?_⟩
     have an:=Aside0.mk (Kd.Q3 ak (Qh HB.out))
     have ao:=Aside0.mk (Kd.Q3 ax (Qh HB.out))
     have av:=Aside0.mk (Kd.Q3 d5 (Qh HB.out))
     replace O:=sBk O hb
     replace δ :=sBk δ hb
     replace Z:=sBk Z hb
     replace ζ :=sBk ζ hb
     replace η :=sBk η hb
     replace HB:=sHb hb
     (try clear hb)
     (try clear a6)
     (try clear hk)
     (try clear hi)
     (try clear ak)
     (try clear ax)
     (try clear d5)
     refine hK.out _ _ ⟨qc O,qc O,qc O,qc O,qc O,qc O,qc O,qc O,qc O,qc O,qc δ,qc Z,qc Z⟩ (fun hHeld=>?_)
     clear hK K
     refine qN (some 15) ?_
     refine qP 6 (some 9) (bN 12 639) HT_ ?_
     refine qP 7 (some 16) (bN 12 767) HT_ ?_
     refine qP 8 (some 17) (bN 12 1023) HT_ ?_
     exact Ze (by simp only[Q6,Act.put,qS]) (hCont (d1,d2,d4,X) _ ⟨hHeld,an.out,ao.out,av.out,O.out,δ.out,Z.out,ζ.out,η.out,d7.out,d8.out,Y.out,aw.out,ag.out,ay.out,θ.out,b1.out,b2.out,b4.out,HB.out⟩)
   rintro⟨d1,d2,d4,X⟩ bc ⟨hS_,b5,b6,b7,b8,b9,bl,ch,ci,cj,ck,bh,bw,bz,co,fw,nq,e5,e6,e7⟩
   have μ :Aside0 (Kd.R (Kd.int .i64) 3 bc w.heap.size (fun k_=>some k_≠(d2:Value).ownBlock∧some k_≠(d4:Value).ownBlock) d1 ah):=⟨b5⟩
   have ξ :Aside0 (Kd.R (Kd.int .i64) 3 bc w.heap.size (fun k_=>some k_≠(d1:Value).ownBlock∧some k_≠(d4:Value).ownBlock) d2 aj):=⟨b6⟩
   have a3:Aside0 (Kd.R (Kd.int .i64) 3 bc w.heap.size (fun k_=>some k_≠(d1:Value).ownBlock∧some k_≠(d2:Value).ownBlock) d4 am):=⟨b7⟩
   have a4:Aside0 (bc.heap[γ]?=some (.cells #[.int .i64 ι,.int .i64 ε,.int .i64 κ,.int .i64 ν,.int .i64 B,.int .i64 τ,.int .i64 χ,.int .i64 ψ,.int .i64 ω,.int .i64 a1] 25 (0,0))):=⟨b8⟩
   have al:Aside0 (bc.heap[bm]?=some (.cells #[.slice A2 l2.length c2] 46 (0,0))):=⟨b9⟩
   have az:Aside0 (bc.heap[ba]?=some (.cells #[.slice a5 φ.length a7,.slice a8 ρ.length a9] 50 (0,0))):=⟨bl⟩
   have b3:Aside0 (bc.heap[bp]?=some (.cells #[.int .i64 aa,.int .i64 ae,.int .i64 af] 36 (0,0))):=⟨ch⟩
   have bb:Aside0 (bc.heap[X]?=some (.cells #[.slice none 0 0,.slice none 0 0,.slice none 0 0] 34 (0,0))):=⟨ci⟩
   have bk:Aside0 (w.heap.size≤X):=⟨cj⟩
   have ca:Aside0 (w.heap.size≤X):=⟨ck⟩
   have bi:Aside0 (γ≠X):=⟨bh⟩
   have cb:Aside0 (X≠γ):=⟨bw⟩
   have cd:Aside0 (bm≠X):=⟨bz⟩
   have cp:Aside0 (X≠bm):=⟨co⟩
   have fx:Aside0 (ba≠X):=⟨fw⟩
   have nr:Aside0 (X≠ba):=⟨nq⟩
   have e8:Aside0 (bp≠X):=⟨e5⟩
   have ea:Aside0 (X≠bp):=⟨e6⟩
   have eb:Aside0 (Below w.heap.size w bc):=⟨e7⟩
   clear O
   clear δ
   clear Z
   clear ζ
   clear HB
   clear b5 b6 b7 b8 b9 bl ch ci cj ck bh bw bz co fw nq e5 e6 e7
   have an:= μ
   have ao:= ξ
   have av:=a3
   have O:=a4
   have δ :=al
   have Z:=az
   have ζ :=b3
   have η :=bb
   have d7:=bk
   have d8:=ca
   have Y:=bi
   have aw:=cb
   have ag:=cd
   have ay:=cp
   have θ :=fx
   have b1:=nr
   have b2:=e8
   have b4:=ea
   have HB:=eb
   clear μ ξ a3 a4 al az b3 bb bk ca bi cb cd cp fx nr e8 ea eb
   have hHeld:bc.cell? ⟨γ,0,none⟩=some (.int .i64 ι)∧bc.cell? ⟨γ,1,none⟩=some (.int .i64 ε)∧bc.cell? ⟨γ,2,none⟩=some (.int .i64 κ)∧bc.cell? ⟨γ,3,none⟩=some (.int .i64 ν)∧bc.cell? ⟨γ,4,none⟩=some (.int .i64 B)∧bc.cell? ⟨γ,5,none⟩=some (.int .i64 τ)∧bc.cell? ⟨γ,6,none⟩=some (.int .i64 χ)∧bc.cell? ⟨γ,7,none⟩=some (.int .i64 ψ)∧bc.cell? ⟨γ,8,none⟩=some (.int .i64 ω)∧bc.cell? ⟨γ,9,none⟩=some (.int .i64 a1)∧bc.cell? ⟨bm,0,none⟩=some (.slice A2 l2.length c2)∧bc.cell? ⟨ba,0,none⟩=some (.slice a5 φ.length a7)∧bc.cell? ⟨ba,1,none⟩=some (.slice a8 ρ.length a9):=hS_
   obtain⟨bd,be,ec⟩:=Kd.Q5 an.out
   (first|subst ec|(injection ec with ab ap ac;have ar:=ab.symm;have au:=ac.symm;clear ab ap ac;subst ar;subst au))
   obtain⟨bf,bg,ed⟩:=Kd.Q5 ao.out
   (first|subst ed|(injection ed with ab ap ac;have ar:=ab.symm;have au:=ac.symm;clear ab ap ac;subst ar;subst au))
   obtain⟨bn,bo,ee⟩:=Kd.Q5 av.out
   (first|subst ee|(injection ee with ab ap ac;have ar:=ab.symm;have au:=ac.symm;clear ab ap ac;subst ar;subst au))
   refine Ze (a':=?_) ?_ ?_
   rotate_left
   ·simp only[Q6,Act.put,qS]
    rfl
   refine qK 10 (none) (bN 12 2047) HT_ fun K hK=>?_
   have fp:bc.cell? ⟨X,0,none⟩=some (.slice none 0 0):=(Qa η.out 0).trans rfl
   have fk:=Qb η.out 0
   have eh:=Y.out
   have ei:=ag.out
   have ej:= θ.out
   have ek:=b2.out
   have el:=aw.out
   have em:=ay.out
   have en:=b1.out
   have eo:=b4.out
   have fq:bc.cell? ⟨X,1,none⟩=some (.slice none 0 0):=(Qa η.out 1).trans rfl
   have fm:=Qb η.out 1
   have ep:=Y.out
   have er:=ag.out
   have et:= θ.out
   have eu:=b2.out
   have ev:=aw.out
   have ez:=ay.out
   have f7:=b1.out
   have fa:=b4.out
   have fr:bc.cell? ⟨X,2,none⟩=some (.slice none 0 0):=(Qa η.out 2).trans rfl
   have fn:=Qb η.out 2
   have fb:=Y.out
   have fc:=ag.out
   have fe:= θ.out
   have ff:=b2.out
   have fg:=aw.out
   have fh:=ay.out
   have fi:=b1.out
   have fj:=b4.out
   refine Kq (w1:=?_) (by rfl) rfl ?_ ?_
   rotate_left
   ·go_simp
    rfl
   refine hK.out _ _ ⟨((cell_far (p:=⟨X,_,none⟩) Y.out _).trans (((cell_far (p:=⟨X,_,none⟩) Y.out _).trans (((cell_far (p:=⟨X,_,none⟩) Y.out _).trans (hHeld.1)))))),((cell_far (p:=⟨X,_,none⟩) Y.out _).trans (((cell_far (p:=⟨X,_,none⟩) Y.out _).trans (((cell_far (p:=⟨X,_,none⟩) Y.out _).trans (hHeld.2.1)))))),((cell_far (p:=⟨X,_,none⟩) Y.out _).trans (((cell_far (p:=⟨X,_,none⟩) Y.out _).trans (((cell_far (p:=⟨X,_,none⟩) Y.out _).trans (hHeld.2.2.1)))))),((cell_far (p:=⟨X,_,none⟩) Y.out _).trans (((cell_far (p:=⟨X,_,none⟩) Y.out _).trans (((cell_far (p:=⟨X,_,none⟩) Y.out _).trans (hHeld.2.2.2.1)))))),((cell_far (p:=⟨X,_,none⟩) Y.out _).trans (((cell_far (p:=⟨X,_,none⟩) Y.out _).trans (((cell_far (p:=⟨X,_,none⟩) Y.out _).trans (hHeld.2.2.2.2.1)))))),((cell_far (p:=⟨X,_,none⟩) Y.out _).trans (((cell_far (p:=⟨X,_,none⟩) Y.out _).trans (((cell_far (p:=⟨X,_,none⟩) Y.out _).trans (hHeld.2.2.2.2.2.1)))))),((cell_far (p:=⟨X,_,none⟩) Y.out _).trans (((cell_far (p:=⟨X,_,none⟩) Y.out _).trans (((cell_far (p:=⟨X,_,none⟩) Y.out _).trans (hHeld.2.2.2.2.2.2.1)))))),((cell_far (p:=⟨X,_,none⟩) Y.out _).trans (((cell_far (p:=⟨X,_,none⟩) Y.out _).trans (((cell_far (p:=⟨X,_,none⟩) Y.out _).trans (hHeld.2.2.2.2.2.2.2.1)))))),((cell_far (p:=⟨X,_,none⟩) Y.out _).trans (((cell_far (p:=⟨X,_,none⟩) Y.out _).trans (((cell_far (p:=⟨X,_,none⟩) Y.out _).trans (hHeld.2.2.2.2.2.2.2.2.1)))))),((cell_far (p:=⟨X,_,none⟩) Y.out _).trans (((cell_far (p:=⟨X,_,none⟩) Y.out _).trans (((cell_far (p:=⟨X,_,none⟩) Y.out _).trans (hHeld.2.2.2.2.2.2.2.2.2.1)))))),((cell_far (p:=⟨X,_,none⟩) ag.out _).trans (((cell_far (p:=⟨X,_,none⟩) ag.out _).trans (((cell_far (p:=⟨X,_,none⟩) ag.out _).trans (hHeld.2.2.2.2.2.2.2.2.2.2.1)))))),((cell_far (p:=⟨X,_,none⟩) θ.out _).trans (((cell_far (p:=⟨X,_,none⟩) θ.out _).trans (((cell_far (p:=⟨X,_,none⟩) θ.out _).trans (hHeld.2.2.2.2.2.2.2.2.2.2.2.1)))))),((cell_far (p:=⟨X,_,none⟩) θ.out _).trans (((cell_far (p:=⟨X,_,none⟩) θ.out _).trans (((cell_far (p:=⟨X,_,none⟩) θ.out _).trans (hHeld.2.2.2.2.2.2.2.2.2.2.2.2))))))⟩ (fun hHeld=>?_)
   clear hK K
   refine qP 11 (some 8) (bN 12 4095) HT_ ?_
   refine Z2 (Zf HT_.out kr) ?_
   try go_wp2
   have μ :Aside0 (Kd.R (Kd.int .i64) 3 (((bc.setCell ⟨X,0,none⟩ (.slice bd ah.length be)).setCell ⟨X,1,none⟩ (.slice bf aj.length bg)).setCell ⟨X,2,none⟩ (.slice bn am.length bo)) w.heap.size (fun k_=>some k_≠(.slice bf aj.length bg:Value).ownBlock∧some k_≠(.slice bn am.length bo:Value).ownBlock) (.slice bd ah.length be) ah):=⟨by(with_reducible repeat first|apply Kd.Qm|apply Kd.Ql|apply Kd.Qs);exact Kd.Qw (Kd.Qz (Kd.Qz (Kd.Qz (Kd.Q7 an.out η.out (by decide)) (fun _ hk=>hk.2) _) (fun _ hk=>hk.2) _) (fun _ hk=>hk.2) _) (fun _ hk=>⟨hk.1.1,hk.1.2⟩)⟩
   have ξ :Aside0 (Kd.R (Kd.int .i64) 3 (((bc.setCell ⟨X,0,none⟩ (.slice bd ah.length be)).setCell ⟨X,1,none⟩ (.slice bf aj.length bg)).setCell ⟨X,2,none⟩ (.slice bn am.length bo)) w.heap.size (fun k_=>some k_≠(.slice bd ah.length be:Value).ownBlock∧some k_≠(.slice bn am.length bo:Value).ownBlock) (.slice bf aj.length bg) aj):=⟨by(with_reducible repeat first|apply Kd.Qm|apply Kd.Ql|apply Kd.Qs);exact Kd.Qw (Kd.Qz (Kd.Qz (Kd.Qz (Kd.Q7 ao.out η.out (by decide)) (fun _ hk=>hk.2) _) (fun _ hk=>hk.2) _) (fun _ hk=>hk.2) _) (fun _ hk=>⟨hk.1.1,hk.1.2⟩)⟩
   have a3:Aside0 (Kd.R (Kd.int .i64) 3 (((bc.setCell ⟨X,0,none⟩ (.slice bd ah.length be)).setCell ⟨X,1,none⟩ (.slice bf aj.length bg)).setCell ⟨X,2,none⟩ (.slice bn am.length bo)) w.heap.size (fun k_=>some k_≠(.slice bd ah.length be:Value).ownBlock∧some k_≠(.slice bf aj.length bg:Value).ownBlock) (.slice bn am.length bo) am):=⟨by(with_reducible repeat first|apply Kd.Qm|apply Kd.Ql|apply Kd.Qs);exact Kd.Qw (Kd.Qz (Kd.Qz (Kd.Qz (Kd.Q7 av.out η.out (by decide)) (fun _ hk=>hk.2) _) (fun _ hk=>hk.2) _) (fun _ hk=>hk.2) _) (fun _ hk=>⟨hk.1.1,hk.1.2⟩)⟩
   have a4:Aside0 ((((bc.setCell ⟨X,0,none⟩ (.slice bd ah.length be)).setCell ⟨X,1,none⟩ (.slice bf aj.length bg)).setCell ⟨X,2,none⟩ (.slice bn am.length bo)).heap[γ]?=some (.cells #[.int .i64 ι,.int .i64 ε,.int .i64 κ,.int .i64 ν,.int .i64 B,.int .i64 τ,.int .i64 χ,.int .i64 ψ,.int .i64 ω,.int .i64 a1] 25 (0,0))):=⟨bka O⟩
   have al:Aside0 ((((bc.setCell ⟨X,0,none⟩ (.slice bd ah.length be)).setCell ⟨X,1,none⟩ (.slice bf aj.length bg)).setCell ⟨X,2,none⟩ (.slice bn am.length bo)).heap[bm]?=some (.cells #[.slice A2 l2.length c2] 46 (0,0))):=⟨bka δ⟩
   have az:Aside0 ((((bc.setCell ⟨X,0,none⟩ (.slice bd ah.length be)).setCell ⟨X,1,none⟩ (.slice bf aj.length bg)).setCell ⟨X,2,none⟩ (.slice bn am.length bo)).heap[ba]?=some (.cells #[.slice a5 φ.length a7,.slice a8 ρ.length a9] 50 (0,0))):=⟨bka Z⟩
   have b3:Aside0 ((((bc.setCell ⟨X,0,none⟩ (.slice bd ah.length be)).setCell ⟨X,1,none⟩ (.slice bf aj.length bg)).setCell ⟨X,2,none⟩ (.slice bn am.length bo)).heap[bp]?=some (.cells #[.int .i64 aa,.int .i64 ae,.int .i64 af] 36 (0,0))):=⟨bka ζ⟩
   have bb:Aside0 ((((bc.setCell ⟨X,0,none⟩ (.slice bd ah.length be)).setCell ⟨X,1,none⟩ (.slice bf aj.length bg)).setCell ⟨X,2,none⟩ (.slice bn am.length bo)).heap[X]?=some (.cells #[.slice bd ah.length be,.slice bf aj.length bg,.slice bn am.length bo] 34 (0,0))):=⟨by refine Qq (cs:=#[.slice bd ah.length be,.slice bf aj.length bg,.slice none 0 0]) ?_ 2 _ rfl;refine Qq (cs:=#[.slice bd ah.length be,.slice none 0 0,.slice none 0 0]) ?_ 1 _ rfl;refine Qq (cs:=#[.slice none 0 0,.slice none 0 0,.slice none 0 0]) ?_ 0 _ rfl;exact η.out⟩
   have bk:Aside0 (Below w.heap.size w (((bc.setCell ⟨X,0,none⟩ (.slice bd ah.length be)).setCell ⟨X,1,none⟩ (.slice bf aj.length bg)).setCell ⟨X,2,none⟩ (.slice bn am.length bo))):=⟨bel⟩
   (try clear an)
   (try clear ao)
   (try clear av)
   (try clear O)
   (try clear δ)
   (try clear Z)
   (try clear ζ)
   (try clear η)
   (try clear HB)
   generalize(((bc.setCell ⟨X,0,none⟩ (.slice bd ah.length be)).setCell ⟨X,1,none⟩ (.slice bf aj.length bg)).setCell ⟨X,2,none⟩ (.slice bn am.length bo))=i2 at μ ξ a3 a4 al az b3 bb bk ⊢
   have an:= μ
   have ao:= ξ
   have av:=a3
   have O:=a4
   have δ :=al
   have Z:=az
   have ζ :=b3
   have η :=bb
   have HB:=bk
   clear μ ξ a3 a4 al az b3 bb bk
   replace an:=Aside0.mk (Kd.Qs an.out)
   replace ao:=Aside0.mk (Kd.Qs ao.out)
   replace av:=Aside0.mk (Kd.Qs av.out)
   replace O:=Aside0.mk (Qe O.out)
   replace δ :=Aside0.mk (Qe δ.out)
   replace Z:=Aside0.mk (Qe Z.out)
   replace ζ :=Aside0.mk (Qe ζ.out)
   replace η :=Aside0.mk (Qe η.out)
   replace HB:=Aside0.mk (Qg HB.out)
   have e0:0≤(J:Int):=of_decide_eq_true (by assumption)
   have e3:J<(l2.length:Int):=of_decide_eq_true (by assumption)
   obtain⟨ai,eg,cm,cn,ct,cu,cv,cw,cx,cy,cz,d0⟩:=G3 e4.out J e0 e3
   have d9:=d0
   have da:=cz
   have db:=cy
   have dc:=cx
   have dd:=cw
   have de:=cv
   have dl:=cu
   have dn:=ct
   have dp:=cn
   have dq:=cm
   cases eg
   replace cm:=(HB.out.cell (World.block_lt_of_cell? w _ cm)).trans cm
   replace cn:=(HB.out.cell (World.block_lt_of_cell? w _ cn)).trans cn
   replace ct:=(HB.out.cell (World.block_lt_of_cell? w _ ct)).trans ct
   replace cu:=(HB.out.cell (World.block_lt_of_cell? w _ cu)).trans cu
   replace cv:=(HB.out.cell (World.block_lt_of_cell? w _ cv)).trans cv
   replace cw:=(HB.out.cell (World.block_lt_of_cell? w _ cw)).trans cw
   replace cx:=(HB.out.cell (World.block_lt_of_cell? w _ cx)).trans cx
   replace cy:=(HB.out.cell (World.block_lt_of_cell? w _ cy)).trans cy
   replace cz:=(HB.out.cell (World.block_lt_of_cell? w _ cz)).trans cz
   replace d0:=(HB.out.cell (World.block_lt_of_cell? w _ d0)).trans d0
   replace e0:=eq_true e0
   replace e3:=eq_true e3
   refine Zh (n:=9) (S:=fun w'=>w'.cell? ⟨γ,0,none⟩=some (.int .i64 ι)∧w'.cell? ⟨γ,1,none⟩=some (.int .i64 ε)∧w'.cell? ⟨γ,2,none⟩=some (.int .i64 κ)∧w'.cell? ⟨γ,3,none⟩=some (.int .i64 ν)∧w'.cell? ⟨γ,4,none⟩=some (.int .i64 B)∧w'.cell? ⟨γ,5,none⟩=some (.int .i64 τ)∧w'.cell? ⟨γ,6,none⟩=some (.int .i64 χ)∧w'.cell? ⟨γ,7,none⟩=some (.int .i64 ψ)∧w'.cell? ⟨γ,8,none⟩=some (.int .i64 ω)∧w'.cell? ⟨γ,9,none⟩=some (.int .i64 a1)∧w'.cell? ⟨bm,0,none⟩=some (.slice (some ai) l2.length c2)∧w'.cell? ⟨X,0,none⟩=some (.slice bd ah.length be)∧w'.cell? ⟨X,1,none⟩=some (.slice bf aj.length bg)∧w'.cell? ⟨X,2,none⟩=some (.slice bn am.length bo)∧w'.cell? ⟨bp,0,none⟩=some (.int .i64 aa)∧w'.cell? ⟨bp,1,none⟩=some (.int .i64 ae)∧w'.cell? ⟨bp,2,none⟩=some (.int .i64 af)∧w'.cell? (ai.add ((J).toNat * 10))=some (.int .i64 ((Qd l2 J).f0.f0))∧w'.cell? ⟨(ai.add ((J).toNat * 10)).block,(ai.add ((J).toNat * 10)).off+1,none⟩=some (.int .i64 ((Qd l2 J).f0.f1))∧w'.cell? ⟨(ai.add ((J).toNat * 10)).block,(ai.add ((J).toNat * 10)).off+2,none⟩=some (.int .i64 ((Qd l2 J).f0.f2))∧w'.cell? ⟨(ai.add ((J).toNat * 10)).block,(ai.add ((J).toNat * 10)).off+3,none⟩=some (.int .i64 ((Qd l2 J).f0.f3))∧w'.cell? ⟨(ai.add ((J).toNat * 10)).block,(ai.add ((J).toNat * 10)).off+4,none⟩=some (.int .i64 ((Qd l2 J).f0.f4.f0))∧w'.cell? ⟨(ai.add ((J).toNat * 10)).block,(ai.add ((J).toNat * 10)).off+5,none⟩=some (.int .i64 ((Qd l2 J).f0.f4.f1))∧w'.cell? ⟨(ai.add ((J).toNat * 10)).block,(ai.add ((J).toNat * 10)).off+6,none⟩=some (.int .i64 ((Qd l2 J).f0.f4.f2))∧w'.cell? ⟨(ai.add ((J).toNat * 10)).block,(ai.add ((J).toNat * 10)).off+7,none⟩=some (.int .i64 ((Qd l2 J).f1))∧w'.cell? ⟨(ai.add ((J).toNat * 10)).block,(ai.add ((J).toNat * 10)).off+8,none⟩=some (.bool ((Qd l2 J).f2))∧w'.cell? ⟨(ai.add ((J).toNat * 10)).block,(ai.add ((J).toNat * 10)).off+9,none⟩=some (.bool ((Qd l2 J).f3))) (ds:=[]) #[false,false,false,false,false,false,false,false,false] kr rfl rfl ⟨(Qa O.out 0).trans rfl,(Qa O.out 1).trans rfl,(Qa O.out 2).trans rfl,(Qa O.out 3).trans rfl,(Qa O.out 4).trans rfl,(Qa O.out 5).trans rfl,(Qa O.out 6).trans rfl,(Qa O.out 7).trans rfl,(Qa O.out 8).trans rfl,(Qa O.out 9).trans rfl,(Qa δ.out 0).trans rfl,(Qa η.out 0).trans rfl,(Qa η.out 1).trans rfl,(Qa η.out 2).trans rfl,(Qa ζ.out 0).trans rfl,(Qa ζ.out 1).trans rfl,(Qa ζ.out 2).trans rfl,((HB.out.cell (World.block_lt_of_cell? w _ dq)).trans dq),((HB.out.cell (World.block_lt_of_cell? w _ dp)).trans dp),((HB.out.cell (World.block_lt_of_cell? w _ dn)).trans dn),((HB.out.cell (World.block_lt_of_cell? w _ dl)).trans dl),((HB.out.cell (World.block_lt_of_cell? w _ de)).trans de),((HB.out.cell (World.block_lt_of_cell? w _ dd)).trans dd),((HB.out.cell (World.block_lt_of_cell? w _ dc)).trans dc),((HB.out.cell (World.block_lt_of_cell? w _ db)).trans db),((HB.out.cell (World.block_lt_of_cell? w _ da)).trans da),((HB.out.cell (World.block_lt_of_cell? w _ d9)).trans d9)⟩ (fun hHeld=>?_);refine Q8 group_pick_1.tab2 group_pick_1.bits2 (fun HT_ HW_=>?_)
   generalize i2.drew=df at an ao av O δ Z ζ η HB cm cn ct cu cv cw cx cy cz d0 hHeld ⊢
   refine qP 2 (some 20) (bN 9 4) HT_ ?_
   refine qT 0 (some 18) (bN 9 5) HT_ HW_ hHeld ?_
   refine qT 1 (some 19) (bN 9 7) HT_ HW_ hHeld ?_
   refine qP 3 (some 21) (bN 9 15) HT_ ?_
   refine qT 4 (some 22) (bN 9 31) HT_ HW_ hHeld ?_
   refine qT 5 (some 23) (bN 9 63) HT_ HW_ hHeld ?_
   refine qT 6 (some 24) (bN 9 127) HT_ HW_ hHeld ?_
   refine qK 7 (some 25) (bN 9 255) HT_ fun K hK=>?_
   refine Q9 Try.func31 kr rfl #[.agg #[.int .i64 ι,.int .i64 ε,.int .i64 κ,.int .i64 ν,.int .i64 B,.int .i64 τ,.int .i64 χ,.int .i64 ψ,.int .i64 ω,.int .i64 a1],.agg #[.int .i64 ((Qd l2 J).f0.f0),.int .i64 ((Qd l2 J).f0.f1),.int .i64 ((Qd l2 J).f0.f2),.int .i64 ((Qd l2 J).f0.f3),.int .i64 ((Qd l2 J).f0.f4.f0),.int .i64 ((Qd l2 J).f0.f4.f1),.int .i64 ((Qd l2 J).f0.f4.f2),.int .i64 ((Qd l2 J).f1),.bool ((Qd l2 J).f2),.bool ((Qd l2 J).f3)],.agg #[.slice bd ah.length be,.slice bf aj.length bg,.slice bn am.length bo],.agg #[.int .i64 aa,.int .i64 ae,.int .i64 af]] (by rfl) rfl rfl qM ?_
   with_reducible refine(group_cost.calls k ι ε κ ν B τ χ ψ ω a1 ((Qd l2 J).f0.f0) ((Qd l2 J).f0.f1) ((Qd l2 J).f0.f2) ((Qd l2 J).f0.f3) ((Qd l2 J).f0.f4.f0) ((Qd l2 J).f0.f4.f1) ((Qd l2 J).f0.f4.f2) ((Qd l2 J).f1) ((Qd l2 J).f2) ((Qd l2 J).f3) _ _ ah _ _ aj _ _ am aa ae af br _ ?side1 ?side2 ?side3 ?side4 ?side5 ?side6 bs.out).mono ?_
   (case side1=>exact(Kd.Qr an.out).2.2)
   (case side2=>exact(Kd.Qr an.out).2.1)
   (case side3=>exact(Kd.Qr ao.out).2.2)
   (case side4=>exact(Kd.Qr ao.out).2.1)
   (case side5=>exact(Kd.Qr av.out).2.2)
   (case side6=>exact(Kd.Qr av.out).2.1)
   rintro e e9 ⟨rfl,hb⟩
   refine⟨_,rfl, ?_⟩
   replace an:=sRb an hb
   replace ao:=sRb ao hb
   replace av:=sRb av hb
   replace O:=sBk O hb
   replace δ :=sBk δ hb
   replace Z:=sBk Z hb
   replace ζ :=sBk ζ hb
   replace η :=sBk η hb
   replace HB:=sHb hb
   (try clear hb)
   (try clear a6)
   (try clear hk)
   (try clear hi)
   refine hK.out _ _ ⟨qc O,qc O,qc O,qc O,qc O,qc O,qc O,qc O,qc O,qc O,qc δ,qc η,qc η,qc η,qc ζ,qc ζ,qc ζ,((HB.out.cell (World.block_lt_of_cell? w _ dq)).trans dq),((HB.out.cell (World.block_lt_of_cell? w _ dp)).trans dp),((HB.out.cell (World.block_lt_of_cell? w _ dn)).trans dn),((HB.out.cell (World.block_lt_of_cell? w _ dl)).trans dl),((HB.out.cell (World.block_lt_of_cell? w _ de)).trans de),((HB.out.cell (World.block_lt_of_cell? w _ dd)).trans dd),((HB.out.cell (World.block_lt_of_cell? w _ dc)).trans dc),((HB.out.cell (World.block_lt_of_cell? w _ db)).trans db),((HB.out.cell (World.block_lt_of_cell? w _ da)).trans da),((HB.out.cell (World.block_lt_of_cell? w _ d9)).trans d9)⟩ (fun hHeld=>?_)
   clear hK K
   refine qN (some 25) ?_
   refine qP 8 (some 6) (bN 9 511) HT_ ?_
   refine Z2 (Zf HT_.out kr) ?_
   try go_wp2
   go_ret
   exact⟨rfl,HB.out⟩
  ·rw[if_neg c9] at H
   exact absurd H (by simp)
 ·rw[if_neg c8] at H
  exact absurd H (by simp)
end Go.Proofs.Ytmfffemidlhcpaa.C
namespace Go.Proofs.Ytmfffemidlhcpaa.Call
open Go.RowKit Go.Proofs.YtmfffemidlhcpaaW.PrintWords Go.Proofs.YtmfffemidlhcpaaW.PrintLast Go.Proofs.YtmfffemidlhcpaaW.PrintMore Go.Proofs.Ytmfffemidlhcpaa.C
set_option linter.unusedVariables false
set_option linter.unusedSimpArgs false
def Y2 (c:Int) (I:List Ins):List Int:=(I.filter (fun x=>decide (x.f0=c))).map (·.f1)
def X5 (c:Int) (H:List Hall):List Int:=(H.filter (fun x=>decide (x.f2=c∧x.f1>0))).map (·.f0)
def X6 (c:Int) (H:List Hall):List Int:=(H.filter (fun x=>decide (x.f2=c ∧ ¬ x.f1>0))).map (·.f0)
theorem N7 (c:Int) (H:List Hall) (V:List Int) (hm:H.length<900000000) (j:Nat):∀ (f i:Nat) (U D:List Int),i+j=H.length→j<f→U.length≤i→D.length≤i →
    call_View.l1 f c H (H.length:Int) (i:Int) V U D=some (V,U++X5 c (H.drop i),D++X6 c (H.drop i),0):=by
  induction j with
  |zero=>
    intro f i U D hi hf hU hD
    obtain⟨f,rfl⟩:∃ f',f=f'+1:=⟨f-1,by omega⟩
    unfold call_View.l1
    rw[if_neg (by omega),List.drop_eq_nil_of_le (by omega)]
    simp[X5,X6]
  |succ j ih=>
    intro f i U D hi hf hU hD
    obtain⟨f,rfl⟩:∃ f',f=f'+1:=⟨f-1,by omega⟩
    have h1:i<H.length:=by omega
    unfold call_View.l1
    rw[if_pos (by omega),if_pos (by omega),if_pos (by omega),Yk H i h1,show wrap64 ((i:Int)+1)=((i+1:Nat):Int) from by unfold wrap64;omega,List.drop_eq_getElem_cons h1]
    by_cases hc:H[i].f2=c
    · rw[if_pos hc]
      by_cases hd:H[i].f1>0
      · rw[if_pos hd,if_pos (by omega),ih f (i+1) _ D (by omega) (by omega) (by simp;omega) (by omega)]
        have e1:X5 c (H[i] :: H.drop (i+1))=H[i].f0 :: X5 c (H.drop (i+1)):=by
          unfold X5;rw[List.filter_cons_of_pos (by exact decide_eq_true ⟨hc,hd⟩)];rfl
        have B:X6 c (H[i] :: H.drop (i+1))=X6 c (H.drop (i+1)):=by
          unfold X6;rw[List.filter_cons_of_neg (by rw[decide_eq_true_eq];exact fun h=>h.2 hd)]
        rw[e1,B,List.append_assoc]
        rfl
      · rw[if_neg hd,if_pos (by omega),ih f (i+1) U _ (by omega) (by omega) (by omega) (by simp;omega)]
        have e1:X5 c (H[i] :: H.drop (i+1))=X5 c (H.drop (i+1)):=by
          unfold X5;rw[List.filter_cons_of_neg (by rw[decide_eq_true_eq];exact fun h=>hd h.2)]
        have B:X6 c (H[i] :: H.drop (i+1))=H[i].f0 :: X6 c (H.drop (i+1)):=by
          unfold X6;rw[List.filter_cons_of_pos (by exact decide_eq_true ⟨hc,hd⟩)];rfl
        rw[e1,B,List.append_assoc D]
        rfl
    · rw[if_neg hc,ih f (i+1) U D (by omega) (by omega) (by omega) (by omega)]
      have e1:X5 c (H[i] :: H.drop (i+1))=X5 c (H.drop (i+1)):=by
        unfold X5;rw[List.filter_cons_of_neg (by rw[decide_eq_true_eq];exact fun h=>hc h.1)]
      have B:X6 c (H[i] :: H.drop (i+1))=X6 c (H.drop (i+1)):=by
        unfold X6;rw[List.filter_cons_of_neg (by rw[decide_eq_true_eq];exact fun h=>hc h.1)]
      rw[e1,B]
theorem N8 (c:Int) (H:List Hall) (I:List Ins) (J:List Ins) (hm:H.length<900000000) (hI:I.length<900000000) (j:Nat):∀ (f i:Nat) (V:List Int),i+j=I.length→j+H.length+1<f→V.length≤i →
    call_View.l0 f c I (I.length:Int) (i:Int) H J V=some (V++Y2 c (I.drop i),X5 c H,X6 c H,0):=by
  induction j with
  |zero=>
    intro f i V hi hf hV
    obtain⟨f,rfl⟩:∃ f',f=f'+1:=⟨f-1,by omega⟩
    unfold call_View.l0
    rw[if_neg (by omega),List.drop_eq_nil_of_le (by omega)]
    have:=N7 c H V hm H.length f 0 [] [] (by omega) (by omega) (by simp) (by simp)
    rw[List.drop_zero] at this
    simpa[Y2] using this
  |succ j ih=>
    intro f i V hi hf hV
    obtain⟨f,rfl⟩:∃ f',f=f'+1:=⟨f-1,by omega⟩
    have h1:i<I.length:=by omega
    unfold call_View.l0
    rw[if_pos (by omega),if_pos (by omega),if_pos (by omega),Ki I i h1,show wrap64 ((i:Int)+1)=((i+1:Nat):Int) from by unfold wrap64;omega,List.drop_eq_getElem_cons h1]
    by_cases hc:I[i].f0=c
    · rw[if_pos hc,if_pos (by omega),ih f (i+1) _ (by omega) (by omega) (by simp;omega)]
      have e1:Y2 c (I[i] :: I.drop (i+1))=I[i].f1 :: Y2 c (I.drop (i+1)):=by
        unfold Y2;rw[List.filter_cons_of_pos (by exact decide_eq_true hc)];rfl
      rw[e1,List.append_assoc]
      rfl
    · rw[if_neg hc,ih f (i+1) V (by omega) (by omega) (by omega)]
      have e1:Y2 c (I[i] :: I.drop (i+1))=Y2 c (I.drop (i+1)):=by
        unfold Y2;rw[List.filter_cons_of_neg (by rw[decide_eq_true_eq];exact hc)]
      rw[e1]
theorem W9 (k:Nat) (F C:Int) (H:List Hall) (I:List Ins) (c:Int) (hH:H.length<900000000) (hI:I.length<900000000) (hC:i64 C) (hk:H.length+I.length+3<k):
    call_View.f k F C H I c=some (if okB F C H I=true then (if 0≤c∧c≤C-1 then (Y2 c I,X5 c H,X6 c H,0) else ([],[],[],191)) else ([],[],[],190)):=by
  unfold call_View.f
  obtain⟨k,rfl⟩:∃ k',k=k'+1:=⟨k-1,by omega⟩
  rw[Yu k F C H I hH hI hC,Xf]
  cases hok:okB F C H I
  · simp
  · obtain⟨hF,B,_⟩:=Jx.1 hok
    rw[Mv C (by omega)]
    have:=N8 c H I I hH hI I.length (k+1) 0 [] (by omega) (by omega) (by simp)
    rw[List.drop_zero] at this
    rw[show((0:Nat):Int)=0 from rfl] at this
    simp only[Option.bind_some,if_true,decide_eq_true_eq]
    by_cases hc:0≤c∧c≤C-1
    · rw[if_pos hc,if_pos hc,this]
      rfl
    · rw[if_neg hc,if_neg hc]
theorem Wk (l m:List Hall) (hm:l.length≤1000000000) (hlm:l.length=m.length) (j:Nat):∀ (f i:Nat),i+j=l.length→j<f → ∃ b,api_Hall.l0 f l m (l.length:Int) (i:Int)=some b∧(b=true↔l.drop i=m.drop i):=by
  induction j with
  |zero=>
    intro f i hi hf
    obtain⟨f,rfl⟩:∃ f',f=f'+1:=⟨f-1,by omega⟩
    refine⟨true, ?_, ?_⟩
    · unfold api_Hall.l0
      rw[if_neg (by omega)]
    · rw[List.drop_eq_nil_of_le (by omega),List.drop_eq_nil_of_le (by omega)]
      simp
  |succ j ih=>
    intro f i hi hf
    obtain⟨f,rfl⟩:∃ f',f=f'+1:=⟨f-1,by omega⟩
    have h1:i<l.length:=by omega
    have O:i<m.length:=by omega
    unfold api_Hall.l0
    rw[if_pos (by omega),if_pos (by omega),if_pos (by omega),if_pos (by omega),Yk l i h1,Yk m i O,show wrap64 ((i:Int)+1)=((i+1:Nat):Int) from by unfold wrap64;omega]
    rw[List.drop_eq_getElem_cons h1,List.drop_eq_getElem_cons O]
    by_cases hx:l[i]=m[i]
    · rw[hx,if_neg (by simp)]
      obtain⟨b,hb,a6⟩:=ih f (i+1) (by omega) (by omega)
      exact⟨b,hb,by rw[a6,List.cons.injEq];exact⟨fun h=>⟨rfl,h⟩,fun h=>h.2⟩⟩
    · refine⟨false, ?_, ?_⟩
      · rw[if_pos]
        have hne:¬ (l[i].f0=m[i].f0∧l[i].f1=m[i].f1∧l[i].f2=m[i].f2):=fun h=>hx (by
          have e:=h
          cases hl:l[i];cases hmm:m[i]
          rw[hl,hmm] at e
          obtain⟨e1,B,Z⟩:=e
          simp only at e1 B Z
          subst e1 B Z
          rfl)
        simp only[Bool.or_eq_true,Bool.not_eq_true',beq_eq_false_iff_ne,ne_eq]
        by_cases X:l[i].f0=m[i].f0
        · by_cases h1:l[i].f1=m[i].f1
          · exact .inr (.inr fun h=>hne ⟨X,h1,h⟩)
          · exact .inr (.inl h1)
        · exact .inl X
      · exact⟨fun h=>(by cases h),fun h=>absurd (List.cons.inj h).1 hx⟩
theorem Wj (l m:List Ins) (hm:l.length≤1000000000) (hlm:l.length=m.length) (j:Nat):∀ (f i:Nat),i+j=l.length→j<f → ∃ b,api_Inside.l0 f l m (l.length:Int) (i:Int)=some b∧(b=true↔l.drop i=m.drop i):=by
  induction j with
  |zero=>
    intro f i hi hf
    obtain⟨f,rfl⟩:∃ f',f=f'+1:=⟨f-1,by omega⟩
    refine⟨true, ?_, ?_⟩
    · unfold api_Inside.l0
      rw[if_neg (by omega)]
    · rw[List.drop_eq_nil_of_le (by omega),List.drop_eq_nil_of_le (by omega)]
      simp
  |succ j ih=>
    intro f i hi hf
    obtain⟨f,rfl⟩:∃ f',f=f'+1:=⟨f-1,by omega⟩
    have h1:i<l.length:=by omega
    have O:i<m.length:=by omega
    unfold api_Inside.l0
    rw[if_pos (by omega),if_pos (by omega),if_pos (by omega),if_pos (by omega),Ki l i h1,Ki m i O,show wrap64 ((i:Int)+1)=((i+1:Nat):Int) from by unfold wrap64;omega]
    rw[List.drop_eq_getElem_cons h1,List.drop_eq_getElem_cons O]
    by_cases hx:l[i]=m[i]
    · rw[hx,if_neg (by simp)]
      obtain⟨b,hb,a6⟩:=ih f (i+1) (by omega) (by omega)
      exact⟨b,hb,by rw[a6,List.cons.injEq];exact⟨fun h=>⟨rfl,h⟩,fun h=>h.2⟩⟩
    · refine⟨false, ?_, ?_⟩
      · rw[if_pos]
        have hne:¬ (l[i].f0=m[i].f0∧l[i].f1=m[i].f1):=fun h=>hx (by
          have e:=h
          cases hl:l[i];cases hmm:m[i]
          rw[hl,hmm] at e
          obtain⟨e1,B⟩:=e
          simp only at e1 B
          subst e1 B
          rfl)
        simp only[Bool.or_eq_true,Bool.not_eq_true',beq_eq_false_iff_ne,ne_eq]
        by_cases X:l[i].f0=m[i].f0
        · exact .inr fun h=>hne ⟨X,h⟩
        · exact .inl X
      · exact⟨fun h=>(by cases h),fun h=>absurd (List.cons.inj h).1 hx⟩
theorem same_eq (k:Nat) (H:List Hall) (I:List Ins) (H':List Hall) (I':List Ins) (hH:H.length<900000000) (hI:I.length<900000000) (hk:H.length+I.length+2<k):∃ b,call_Same.f k H I H' I'=some b∧(b=true↔(H=H'∧I=I')):=by
  unfold call_Same.f api_Hall.f api_Inside.f
  by_cases h1:H.length=H'.length
  · rw[if_pos (by omega)]
    obtain⟨b,hb,a6⟩:=Wk H H' (by omega) h1 H.length k 0 (by omega) (by omega)
    rw[List.drop_zero,List.drop_zero] at a6
    rw[show((0:Nat):Int)=0 from rfl] at hb
    rw[hb]
    simp only[Option.bind_some]
    cases b
    · exact⟨false,by simp,by simp only[Bool.false_eq_true,false_iff] at a6 ⊢;exact fun h=>a6 h.1⟩
    · rw[if_pos rfl]
      have he:=a6.1 rfl
      by_cases O:I.length=I'.length
      · rw[if_pos (by omega)]
        obtain⟨c,hc,du⟩:=Wj I I' (by omega) O I.length k 0 (by omega) (by omega)
        rw[List.drop_zero,List.drop_zero] at du
        rw[show((0:Nat):Int)=0 from rfl] at hc
        rw[hc]
        exact⟨c,rfl,by rw[du];exact⟨fun h=>⟨he,h⟩,fun h=>h.2⟩⟩
      · rw[if_neg (by omega)]
        exact⟨false,rfl,by simp only[Bool.false_eq_true,false_iff];rintro⟨_,rfl⟩;exact O rfl⟩
  · rw[if_neg (by omega)]
    exact⟨false,by simp,by simp only[Bool.false_eq_true,false_iff];rintro⟨rfl,_⟩;exact h1 rfl⟩
theorem Vk (k:Nat) (H:List Hall) (I:List Ins) (hk:H.length+I.length+2<k) (hH:H.length<900000000:=by omega) (hI:I.length<900000000:=by omega):call_Same.f k H I H I=some true:=by
  obtain⟨b,hb,h⟩:=same_eq k H I H I hH hI hk
  rw[hb,h.2 ⟨rfl,rfl⟩]
theorem Wu (H:List Hall) (I:List Ins):newelref19_Few.f H I=some false∨(newelref19_Few.f H I=some true∧H.length≤130∧I.length≤520):=by
  unfold newelref19_Few.f
  by_cases h1:(H.length:Int)≤130
  · rw[if_pos h1]
    by_cases O:(I.length:Int)≤520
    · exact .inr ⟨by rw[decide_eq_true O],by omega,by omega⟩
    · exact .inl (by rw[decide_eq_false O])
  · rw[if_neg h1];exact .inl rfl
end Go.Proofs.Ytmfffemidlhcpaa.Call
