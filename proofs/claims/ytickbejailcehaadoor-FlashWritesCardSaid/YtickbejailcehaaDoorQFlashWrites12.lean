/- Texts of this claim, one behind the other: what the law's functions come to, walked (printed by a program, with the words that the print uses), and what that is, in plain Lean. No conditions of their own. -/
import Derived.Test.YtickbejailcehaaDoorQFlashWrites11
namespace Go.Proofs.YtickbejailcehaaDoor.C
open Go.RowKit Go.Proofs.YtickbejailcehaaDoorW.PrintWords Go.Proofs.YtickbejailcehaaDoorW.PrintLast Go.Proofs.YtickbejailcehaaDoorW.PrintMore
attribute [local go_sem] Xm Xk X0 Xz Xc Xb Xl Xj
set_option linter.unusedVariables false
set_option linter.unusedSimpArgs false
mutual
def flash_Write.j0:Nat→Int→List Int→Bool→Int→Bool→List Int→List Int→Option (List Int×List Int×Bool×Int)
 |0,_,_,_,_,_,_,_=>none
 |k+1,x2,B,Y,O,J,D,I=>if J=true then (some (([]:List Int),([]:List Int),false,124)) else (if O=0 then (flash_Write.j1 k x2 B false Y D I) else (flash_Write.j1 k x2 B false true D I))
def flash_Write.j1:Nat→Int→List Int→Bool→Bool→List Int→List Int→Option (List Int×List Int×Bool×Int)
 |0,_,_,_,_,_,_=>none
 |k+1,x2,B,J,O,D,I=>if O=true then (flash_Write.j2 k x2 B true D I) else (flash_Write.j2 k x2 B J D I)
def flash_Write.j2:Nat→Int→List Int→Bool→List Int→List Int→Option (List Int×List Int×Bool×Int)
 |0,_,_,_,_,_=>none
 |k+1,x2,B,J,D,I=>(bytes_Clone.f D).bind fun af=>((bytes_Clone.f I).bind fun χ =>(if 0≤(mn (mx x2 0) (B.length:Int)) then (if (mn (mx x2 0) (B.length:Int))≤(B.length:Int) then (some (Xi J (B.take ((mn (mx x2 0) (B.length:Int)):Int).toNat) af,Xi J χ (B.take ((mn (mx x2 0) (B.length:Int)):Int).toNat),decide (x2≥(B.length:Int)),0)) else (none)) else (none)))
end
def flash_Write.f (k:Nat) (J:List Int) (B:List Int) (ζ :Int) (κ :Int) (μ :Int) (η :List Int) (a2:Int):Option (List Int×List Int×Bool×Int):=(flash_Code.f k ζ κ μ η).bind fun e8=>(if e8.2=0 then ((flash_Recover.f k J B).bind fun ag=>(if ag.2.2.2.2.2=0 then (flash_Write.j0 k a2 e8.1 ag.2.2.2.2.1 ag.2.2.2.2.2 (decide (ζ ≤ ag.1)) J B) else (flash_Write.j0 k a2 e8.1 ag.2.2.2.2.1 ag.2.2.2.2.2 false J B))) else (some (([]:List Int),([]:List Int),false,e8.2)))
theorem flash_Write.Zl:∀ k,(∀ B I J U Y Z y6,LeO (flash_Write.j0 k B I J U Y Z y6) (flash_Write.j0 (k+1) B I J U Y Z y6))∧(∀ B I J U Y Z,LeO (flash_Write.j1 k B I J U Y Z) (flash_Write.j1 (k+1) B I J U Y Z))∧(∀ B I J U Y,LeO (flash_Write.j2 k B I J U Y) (flash_Write.j2 (k+1) B I J U Y))
 |0=>⟨fun _ _ _ _ _ _ _ r h=>by simp[flash_Write.j0] at h,fun _ _ _ _ _ _ r h=>by simp[flash_Write.j1] at h,fun _ _ _ _ _ r h=>by simp[flash_Write.j2] at h⟩
 |k+1=>by
  obtain⟨D,O,X⟩:=flash_Write.Zl k
  refine⟨?_, ?_, ?_⟩
  ·intro B I J U Y Z y6
   unfold flash_Write.j0
   repeat' first
   |(with_reducible exact D _ _ _ _ _ _ _)
   |(with_reducible exact O _ _ _ _ _ _)
   |(with_reducible exact X _ _ _ _ _)
   |(with_reducible exact flash_Code.mono _ _ _ _ _)
   |(with_reducible exact flash_Recover.mono _ _ _)
   |(with_reducible exact LeO.refl _)
   |(with_reducible exact LeO.none _)
   |(with_reducible refine LeO.ite ?_ ?_)
   |(with_reducible refine LeO.bind ?_ (fun _=>?_))
   |exact D _ _ _ _ _ _ _
   |exact O _ _ _ _ _ _
   |exact X _ _ _ _ _
   |exact flash_Code.mono _ _ _ _ _
   |exact flash_Recover.mono _ _ _
   |exact LeO.none _
   |refine LeO.ite ?_ ?_
   |refine LeO.bind ?_ (fun _=>?_)
  ·intro B I J U Y Z
   unfold flash_Write.j1
   repeat' first
   |(with_reducible exact D _ _ _ _ _ _ _)
   |(with_reducible exact O _ _ _ _ _ _)
   |(with_reducible exact X _ _ _ _ _)
   |(with_reducible exact flash_Code.mono _ _ _ _ _)
   |(with_reducible exact flash_Recover.mono _ _ _)
   |(with_reducible exact LeO.refl _)
   |(with_reducible exact LeO.none _)
   |(with_reducible refine LeO.ite ?_ ?_)
   |(with_reducible refine LeO.bind ?_ (fun _=>?_))
   |exact D _ _ _ _ _ _ _
   |exact O _ _ _ _ _ _
   |exact X _ _ _ _ _
   |exact flash_Code.mono _ _ _ _ _
   |exact flash_Recover.mono _ _ _
   |exact LeO.none _
   |refine LeO.ite ?_ ?_
   |refine LeO.bind ?_ (fun _=>?_)
  ·intro B I J U Y
   unfold flash_Write.j2
   repeat' first
   |(with_reducible exact D _ _ _ _ _ _ _)
   |(with_reducible exact O _ _ _ _ _ _)
   |(with_reducible exact X _ _ _ _ _)
   |(with_reducible exact flash_Code.mono _ _ _ _ _)
   |(with_reducible exact flash_Recover.mono _ _ _)
   |(with_reducible exact LeO.refl _)
   |(with_reducible exact LeO.none _)
   |(with_reducible refine LeO.ite ?_ ?_)
   |(with_reducible refine LeO.bind ?_ (fun _=>?_))
   |exact D _ _ _ _ _ _ _
   |exact O _ _ _ _ _ _
   |exact X _ _ _ _ _
   |exact flash_Code.mono _ _ _ _ _
   |exact flash_Recover.mono _ _ _
   |exact LeO.none _
   |refine LeO.ite ?_ ?_
   |refine LeO.bind ?_ (fun _=>?_)
theorem flash_Write.mono:∀ J B a2 I U Y Z k,LeO (flash_Write.f k J B a2 I U Y Z) (flash_Write.f (k+1) J B a2 I U Y Z):=by
 intro J B a2 I U Y Z k
 obtain⟨D,O,X⟩:=flash_Write.Zl k
 unfold flash_Write.f
 repeat' first
   |(with_reducible exact D _ _ _ _ _ _ _)
   |(with_reducible exact O _ _ _ _ _ _)
   |(with_reducible exact X _ _ _ _ _)
   |(with_reducible exact flash_Code.mono _ _ _ _ _)
   |(with_reducible exact flash_Recover.mono _ _ _)
   |(with_reducible exact LeO.refl _)
   |(with_reducible exact LeO.none _)
   |(with_reducible refine LeO.ite ?_ ?_)
   |(with_reducible refine LeO.bind ?_ (fun _=>?_))
   |exact D _ _ _ _ _ _ _
   |exact O _ _ _ _ _ _
   |exact X _ _ _ _ _
   |exact flash_Code.mono _ _ _ _ _
   |exact flash_Recover.mono _ _ _
   |exact LeO.none _
   |refine LeO.ite ?_ ?_
   |refine LeO.bind ?_ (fun _=>?_)
def flash_Write.T10:Bool×List (List Nat×List Nat):=(true,[([],[]),([0],[0]),([1],[1]),([],[]),([3],[3]),([4,2],[4]),([2,5],[2,5]),([],[]),([7,6,5,0,1,2,3,4,5,6,7],[6,7])])
def flash_Write.B10:List Nat:=[0,1,3,0,8,31,63,0,255]
theorem flash_Write.tab10:rtab .any (opsOf Tryd.f11 10)=flash_Write.T10:=by kernel_rfl
theorem flash_Write.Dc:Yb flash_Write.T10.2 flash_Write.B10=true:=by kernel_rfl
def flash_Write.T12:Bool×List (List Nat×List Nat):=(true,[([],[]),([0],[0]),([],[]),([],[]),([3],[3]),([],[]),([5],[5]),([4,6],[4,6]),([2,7],[2,7]),([1,0,1,2,3,4,5,6,7,8],[1]),([9,8,1,0,1,2,3,4,5,6,7,8],[8,9])])
def flash_Write.B12:List Nat:=[0,1,0,0,8,0,32,120,252,511,1023]
theorem flash_Write.Ej:rtab .any (opsOf Tryd.f11 12)=flash_Write.T12:=by kernel_rfl
theorem flash_Write.M7:Yb flash_Write.T12.2 flash_Write.B12=true:=by kernel_rfl
set_option maxHeartbeats 8000000 in
set_option maxRecDepth 100000 in
theorem flash_Write.calls (k:Nat) (γ:Option Addr) (δ :Nat) (J:List Int) (Y:Option Addr) (Z:Nat) (B:List Int) (ζ :Int) (κ :Int) (μ :Int) (a6:Option Addr) (a7:Nat) (η :List Int) (a2:Int) (r1:List Int) (r2:List Int) (r3:Bool) (r4:Int) (w:World) (dd:Kd.C (Kd.int .u8) w γ J.length J) (de:J.length ≤ δ) (df:Kd.C (Kd.int .u8) w Y B.length B) (dh:B.length≤Z) (db:Kd.C (Kd.int .u8) w a6 η.length η) (dc: η.length≤a7) (h:flash_Write.f k J B ζ κ μ η a2=some (r1,r2,r3,r4)) (ht_:Laid.TabAt w):
  Calls Tryd.prog 11 #[.agg #[.slice γ J.length δ,.slice Y B.length Z],.agg #[.int .i64 ζ,.int .i64 κ,.int .i64 μ,.slice a6 η.length a7],.int .i64 a2] w fun e w'=>∃ ak f7:Value,e = .returned (.tuple #[.agg #[ak,f7],.bool r3,.int .i64 r4])∧Kd.R (Kd.int .u8) 5 w' w.heap.size (fun k_=>some k_≠(f7:Value).ownBlock) ak r1∧Kd.R (Kd.int .u8) 5 w' w.heap.size (fun k_=>some k_≠(ak:Value).ownBlock) f7 r2∧Below w.heap.size w w':=by
 have HTAB:=Aside0.mk ht_
 clear ht_
 have iv:=Tryd.underlying24
 have dz:=Tryd.underlying26
 have k3:=Tryd.underlying58
 have ct:=Aside0.mk dd
 have d7:=Aside0.mk de
 clear dd de
 have cv:=Aside0.mk df
 have cz:=Aside0.mk dh
 clear df dh
 have d5:=Aside0.mk db
 have d6:=Aside0.mk dc
 clear db dc
 have HB:=Aside0.mk (Below.refl w.heap.size w)
 have H:((flash_Code.f k ζ κ μ η).bind fun e8=>(if e8.2=0 then ((flash_Recover.f k J B).bind fun ag=>(if ag.2.2.2.2.2=0 then (flash_Write.j0 k a2 e8.1 ag.2.2.2.2.1 ag.2.2.2.2.2 (decide (ζ ≤ ag.1)) J B) else (flash_Write.j0 k a2 e8.1 ag.2.2.2.2.1 ag.2.2.2.2.2 false J B))) else (some (([]:List Int),([]:List Int),false,e8.2))))=some (r1,r2,r3,r4):=h
 clear h
 replace H:=Option.bind_eq_some_iff.mp H
 obtain⟨⟨ψ,ei⟩,e9,H⟩:=H
 replace H:(if ei=0 then ((flash_Recover.f k J B).bind fun ag=>(if ag.2.2.2.2.2=0 then (flash_Write.j0 k a2 ψ ag.2.2.2.2.1 ag.2.2.2.2.2 (decide (ζ ≤ ag.1)) J B) else (flash_Write.j0 k a2 ψ ag.2.2.2.2.1 ag.2.2.2.2.2 false J B))) else (some (([]:List Int),([]:List Int),false,ei)))=some (r1,r2,r3,r4):=H
 have A4:=Aside0.mk e9
 clear e9
 by_cases c5:ei=0
 ·rw[if_pos c5] at H
  have c5b0:(ei==0)=true:=beq_iff_eq.mpr c5
  have c5b1:(ei != 0)=false:=bne_eq_false_iff_eq.mpr c5
  clear c5
  replace H:=Option.bind_eq_some_iff.mp H
  obtain⟨⟨a3,cg,dw,ah,ac,a0⟩,bq,H⟩:=H
  replace H:(if a0=0 then (flash_Write.j0 k a2 ψ ac a0 (decide (ζ ≤ a3)) J B) else (flash_Write.j0 k a2 ψ ac a0 false J B))=some (r1,r2,r3,r4):=H
  have A6:=Aside0.mk bq
  clear bq
  have gz:=Aside0.mk H
  clear H
  go_enter Tryd.func11,Tryd.ntmps11
  go_upto_region 5 with(first|((with_reducible refine Qz (N:=3) rfl ?_);refine qE 3 #[.slice γ J.length δ,.slice Y B.length Z] 24 ?_;intro b1 hg w8 hbox hb;have X:=Aside0.mk hbox;have i4:=sGe hg;have i5:=sGe hg;replace HB:=sHb hb;clear hb hbox hg)|((with_reducible refine Qz (N:=4) rfl ?_);refine qE 4 #[.int .i64 ζ,.int .i64 κ,.int .i64 μ,.slice a6 η.length a7] 26 ?_;intro dl hg w9 hbox hb;have ι :=Aside0.mk hbox;have i6:=sGe hg;have i7:=sGe hg;have ea:=sNl X hg;have eb:=sNg X hg;replace X:=sBk X hb;replace HB:=sHb hb;clear hb hbox hg)|((with_reducible refine Qz (N:=6) rfl ?_);refine qE 6 #[.slice none 0 0,.slice none 0 0] 24 ?_;intro ap hg gh hbox hb;have τ :=Aside0.mk hbox;have i9:=sGe hg;have ff:=sGe hg;have ec:=sNl X hg;have ee:=sNg X hg;have e3:=sNl ι hg;have e6:=sNg ι hg;replace X:=sBk X hb;replace ι :=sBk ι hb;replace HB:=sHb hb;clear hb hbox hg;have jm:=eb.out;have jn:=ea.out;have jo:=e3.out;have jp:=e6.out;obtain⟨b7,b9,ba,bc,bg,bh,bi,bj⟩:=qD4 ι.out)|((with_reducible refine Qv (f:=18) rfl ?_);refine Ze (some 19) rfl rfl Tryd.func18 kr rfl #[.agg #[.int .i64 ζ,.int .i64 κ,.int .i64 μ,.slice a6 η.length a7]] rfl qM ?_;(with_reducible refine(flash_Code.calls k ζ κ μ _ _ η ψ ei _ ?side1 ?side2 A4.out (by first|exact HTAB.out|((repeat(first|exact HTAB.out|(with_reducible refine Laid.Zo ?_ _)|(with_reducible refine Laid.Zn ?_ _)|(with_reducible refine Laid.Zq ?_)));done)|(refine Laid.Zk HTAB.out ?_;(repeat(first|(with_reducible first|exact HB.out|apply Qe|apply Qa|apply Qf)|exact HB.out|(refine Qg ?_ (Aside0.out (by assumption)))))))).mono ?_);(case side1=>exact(Kd.Zb d5.out HB.out));(case side2=>exact d6.out);rintro e gy ⟨cq,rfl,θ,hb⟩;refine⟨_,rfl, ?_⟩;have ef:=Aside0.mk (Kd.Zd θ (Qj HB.out));replace X:=sBk X hb;replace ι :=sBk ι hb;replace τ :=sBk τ hb;replace HB:=sHb hb;(try clear hb);(try clear az);(try clear hk);(try clear hi);(try clear θ);have k8:=ec.out;have k9:=ee.out;obtain⟨bk,bm,bn,bo⟩:=qD2 X.out)|((with_reducible refine Qv (f:=14) rfl ?_);refine Ze (some 28) rfl rfl Tryd.func14 kr rfl #[.agg #[.slice γ J.length δ,.slice Y B.length Z]] rfl qM ?_;(with_reducible refine(flash_Recover.calls k _ _ J _ _ B a3 cg dw ah ac a0 _ ?side1 ?side2 ?side3 ?side4 A6.out (by first|exact HTAB.out|((repeat(first|exact HTAB.out|(with_reducible refine Laid.Zo ?_ _)|(with_reducible refine Laid.Zn ?_ _)|(with_reducible refine Laid.Zq ?_)));done)|(refine Laid.Zk HTAB.out ?_;(repeat(first|(with_reducible first|exact HB.out|apply Qe|apply Qa|apply Qf)|exact HB.out|(refine Qg ?_ (Aside0.out (by assumption)))))))).mono ?_);(case side1=>exact(Kd.Zb ct.out HB.out));(case side2=>exact d7.out);(case side3=>exact(Kd.Zb cv.out HB.out));(case side4=>exact cz.out);rintro e ju ⟨k4,rfl,θ,hb⟩;refine⟨_,rfl, ?_⟩;have fg:=Aside0.mk (Kd.Zd (Kd.Zi θ (Kd.Zp ef.out)) (Qj HB.out));replace ef:=Aside0.mk (Kd.Zj ef.out (Kd.Q5 θ) hb);replace X:=sBk X hb;replace ι :=sBk ι hb;replace τ :=sBk τ hb;replace HB:=sHb hb;(try clear hb);(try clear az);(try clear hk);(try clear hi);(try clear θ))|((with_reducible refine Qz (N:=11) rfl ?_);refine qE 11 #[.int .i64 0,.int .i64 0,.int .i64 0,.slice none 0 0] 26 ?_;intro e0 hg m0 hbox hb;have ω :=Aside0.mk hbox;have jv:=sGe hg;have jx:=sGe hg;have fm:=sNl X hg;have fn:=sNg X hg;have fo:=sNl ι hg;have fp:=sNg ι hg;have el:=sNl τ hg;have eo:=sNg τ hg;replace ef:=sRb ef hb;replace fg:=sRb fg hb;replace X:=sBk X hb;replace ι :=sBk ι hb;replace τ :=sBk τ hb;replace HB:=sHb hb;clear hb hbox hg;have f9:=fn.out;have fa:=fm.out;have gi:=fp.out;have gj:=fo.out;have kc:=eo.out;have kd:=el.out;obtain⟨d1,d4,d8,d9,da,di,dj,dk⟩:=qD4 ω.out;obtain⟨a8,a9,f8⟩:=Kd.Zf fg.out;subst f8))
  (try simp only[Act.put,qS])
  go_cut [40] (fun jq wc=>∃ (kq:Nat) (fs:Bool),jq = .bool fs∧Aside0 (flash_Write.j0 kq a2 ψ ac a0 fs J B=some (r1,r2,r3,r4))∧Aside0 (kq≤k)∧Aside0 (Kd.R (Kd.int .u8) 5 wc w.heap.size (fun k_=>some k_≠((.slice a8 ah.length a9):Value).ownBlock) cq ψ)∧Aside0 (Kd.R (Kd.int .u8) 5 wc w.heap.size (fun k_=>some k_≠(cq:Value).ownBlock) (.slice a8 ah.length a9) ah)∧Aside0 (wc.heap[b1]?=some (.cells #[(.slice γ J.length δ),(.slice Y B.length Z)] 24 (0,0)))∧Aside0 (wc.heap[dl]?=some (.cells #[.int .i64 ζ,.int .i64 κ,.int .i64 μ,(.slice a6 η.length a7)] 26 (0,0)))∧Aside0 (wc.heap[ap]?=some (.cells #[(.slice none 0 0),(.slice none 0 0)] 24 (0,0)))∧Aside0 (wc.heap[e0]?=some (.cells #[.int .i64 a3,.int .i64 cg,.int .i64 dw,(.slice a8 ah.length a9)] 26 (0,0)))∧Aside0 (Below w.heap.size w wc))
  case first=>
   have H:=gz.out
   clear gz
   by_cases al:a0=0
   ·rw[if_pos al] at H
    have c24b0:(a0==0)=true:=beq_iff_eq.mpr al
    have c24b1:(a0 != 0)=false:=bne_eq_false_iff_eq.mpr al
    clear al
    (first|rw[c24b0]|(simp only[Zu,Z4];rw[c24b0])|skip)
    have H':=Aside0.mk H
    clear H
    have kj:=eb.out
    have kk:=ea.out
    have ga:=e3.out
    have gb:=e6.out
    have gk:=fo.out
    have gn:=fp.out
    obtain⟨ce,ch,ci,ck,cm,cn,co,cp⟩:=qD4 ι.out
    have mr:=fn.out
    have ms:=fm.out
    have je:=eo.out
    have jf:=el.out
    obtain⟨cw,cx,cy,dv,d0,d2,d3,dy⟩:=qD4 ω.out
    go_wp2
    go_meet
    case rel=>exact⟨_,(decide (ζ ≤ a3)),qR,H',⟨by first|omega|exact Nat.le_refl _⟩,⟨by(with_reducible repeat first|apply Kd.Qi|apply Kd.Qh|apply Kd.Ql);exact Kd.Qu (Kd.Qm (Kd.Qm (Kd.Qm (Kd.Qm (Kd.Qy ef.out ω.out (by decide)) (fun _ hk=>hk.2) (.int .i64 a3)) (fun _ hk=>hk.2) (.int .i64 cg)) (fun _ hk=>hk.2) (.int .i64 dw)) (fun _ hk=>hk.2) _) (fun _ hk=>hk.1.2)⟩,⟨by(with_reducible repeat first|apply Kd.Qi|apply Kd.Qh|apply Kd.Ql);exact Kd.Qu (Kd.Qm (Kd.Qm (Kd.Qm (Kd.Qm (Kd.Qy fg.out ω.out (by decide)) (fun _ hk=>hk.2) (.int .i64 a3)) (fun _ hk=>hk.2) (.int .i64 cg)) (fun _ hk=>hk.2) (.int .i64 dw)) (fun _ hk=>hk.2) _) (fun _ hk=>hk.1.2)⟩,⟨bka X⟩,⟨bka ι⟩,⟨bka τ⟩,⟨by(with_reducible repeat first|apply Qb|apply Qd|apply Qc);refine Qk (cs:=#[.int .i64 a3,.int .i64 cg,.int .i64 dw,.slice none 0 0]) ?_ 3 _ rfl;(with_reducible repeat first|apply Qb|apply Qd|apply Qc);refine Qk (cs:=#[.int .i64 a3,.int .i64 cg,.int .i64 0,.slice none 0 0]) ?_ 2 _ rfl;(with_reducible repeat first|apply Qb|apply Qd|apply Qc);refine Qk (cs:=#[.int .i64 a3,.int .i64 0,.int .i64 0,.slice none 0 0]) ?_ 1 _ rfl;(with_reducible repeat first|apply Qb|apply Qd|apply Qc);refine Qk (cs:=#[.int .i64 0,.int .i64 0,.int .i64 0,.slice none 0 0]) ?_ 0 _ rfl;(with_reducible repeat first|apply Qb|apply Qd|apply Qc);exact ω.out⟩,⟨bel⟩⟩
   ·rw[if_neg al] at H
    have c24b0:(a0==0)=false:=beq_eq_false_iff_ne.mpr al
    have c24b1:(a0 != 0)=true:=bne_iff_ne.mpr al
    (first|rw[c24b0]|(simp only[Zu,Z4];rw[c24b0])|skip)
    have H':=Aside0.mk H
    clear H
    go_wp2
    go_meet
    case rel=>exact⟨_,(false),qR,H',⟨by first|omega|exact Nat.le_refl _⟩,⟨by(with_reducible repeat first|apply Kd.Qi|apply Kd.Qh|apply Kd.Ql);exact Kd.Qu (Kd.Qm (Kd.Qm (Kd.Qm (Kd.Qm (Kd.Qy ef.out ω.out (by decide)) (fun _ hk=>hk.2) (.int .i64 a3)) (fun _ hk=>hk.2) (.int .i64 cg)) (fun _ hk=>hk.2) (.int .i64 dw)) (fun _ hk=>hk.2) _) (fun _ hk=>hk.1.2)⟩,⟨by(with_reducible repeat first|apply Kd.Qi|apply Kd.Qh|apply Kd.Ql);exact Kd.Qu (Kd.Qm (Kd.Qm (Kd.Qm (Kd.Qm (Kd.Qy fg.out ω.out (by decide)) (fun _ hk=>hk.2) (.int .i64 a3)) (fun _ hk=>hk.2) (.int .i64 cg)) (fun _ hk=>hk.2) (.int .i64 dw)) (fun _ hk=>hk.2) _) (fun _ hk=>hk.1.2)⟩,⟨bka X⟩,⟨bka ι⟩,⟨bka τ⟩,⟨by(with_reducible repeat first|apply Qb|apply Qd|apply Qc);refine Qk (cs:=#[.int .i64 a3,.int .i64 cg,.int .i64 dw,.slice none 0 0]) ?_ 3 _ rfl;(with_reducible repeat first|apply Qb|apply Qd|apply Qc);refine Qk (cs:=#[.int .i64 a3,.int .i64 cg,.int .i64 0,.slice none 0 0]) ?_ 2 _ rfl;(with_reducible repeat first|apply Qb|apply Qd|apply Qc);refine Qk (cs:=#[.int .i64 a3,.int .i64 0,.int .i64 0,.slice none 0 0]) ?_ 1 _ rfl;(with_reducible repeat first|apply Qb|apply Qd|apply Qc);refine Qk (cs:=#[.int .i64 0,.int .i64 0,.int .i64 0,.slice none 0 0]) ?_ 0 _ rfl;(with_reducible repeat first|apply Qb|apply Qd|apply Qc);exact ω.out⟩,⟨bel⟩⟩
  case rest=>
   clear gz
   try clear c1
   try clear c2
   try clear p2
   try clear c3
   try clear c5
   try clear c5b0
   try clear c5b1
   try clear bf
   try clear bl
   try clear ed
   try clear e4
   try clear fe
   try clear bp
   try clear er
   try clear cf
   try clear al
   try clear c24b0
   try clear c24b1
   try clear cb
   try clear dn
   try clear eu
   try clear dm
   try clear dq
   try clear b7
   try clear b9
   try clear ba
   try clear bc
   try clear bk
   try clear bm
   try clear d1
   try clear d4
   try clear d8
   try clear d9
   try clear ce
   try clear ch
   try clear ci
   try clear ck
   try clear cw
   try clear cx
   try clear cy
   try clear dv
   try clear bg
   try clear bh
   try clear bi
   try clear bj
   try clear bn
   try clear bo
   try clear da
   try clear di
   try clear dj
   try clear dk
   try clear cm
   try clear cn
   try clear co
   try clear cp
   try clear d0
   try clear d2
   try clear d3
   try clear dy
   obtain⟨kq,fs,rfl,HA,h0,HO_9,HO_195003,X,ι,τ,ω,HB⟩:=hcut
   cases kq with
   |zero=>exact absurd HA.out (by simp[flash_Write.j0])
   |succ en=>
    have H:=HA.out
    clear HA
    simp only[flash_Write.j0] at H
    by_cases eh:fs=true
    ·subst eh
     have H1:(some (([]:List Int),([]:List Int),false,124))=some (r1,r2,r3,r4):=by rw[if_pos rfl] at H;exact H
     clear H
     have H:=H1
     clear H1
     simp only[Option.some.injEq,Prod.mk.injEq] at H
     obtain⟨rfl,rfl,rfl,rfl⟩:=H
     have gp:=ee.out
     have gq:=ec.out
     have gr:=e6.out
     have gs:=e3.out
     have fq:=el.out
     have fr:=eo.out
     obtain⟨dp,dr,dt,du⟩:=qD2 τ.out
     go_wp2
     refine bodyPost_ret (Xe rfl _ _ ap 24 #[.slice none 0 0,.slice none 0 0] (0,0) _ rfl (by refine Qk (cs:=#[.slice none 0 0,.slice none 0 0]) ?_ 1 _ rfl;refine Qk (cs:=#[.slice none 0 0,.slice none 0 0]) ?_ 0 _ rfl;exact τ.out) Tryd.underlying24 rfl kr) rfl ?_
     exact⟨_,_,by first|rfl|(simp[Qo,Qn] <;> rfl)|(simp[*,Qo,Qn] <;> rfl),by first|exact Kd.Z1 _ _ _ _ _|exact Kd.X4 _ _ _ _ _|exact Kd.X1 _ _ _ _ _|exact Kd.X3 _ _ _ _ _|exact Kd.X2 _ _ _ _ _,by first|exact Kd.Z1 _ _ _ _ _|exact Kd.X4 _ _ _ _ _|exact Kd.X1 _ _ _ _ _|exact Kd.X3 _ _ _ _ _|exact Kd.X2 _ _ _ _ _,bel⟩
    ·replace eh:=Bool.eq_false_iff.mpr eh
     subst eh
     have H1:(if a0=0 then (flash_Write.j1 en a2 ψ false ac J B) else (flash_Write.j1 en a2 ψ false true J B))=some (r1,r2,r3,r4):=by rw[if_neg (show ¬ (false=true) by decide)] at H;exact H
     clear H
     have H:=H1
     clear H1
     have ge:=Aside0.mk H
     clear H
     go_upto_region 8 with(fail)
     go_cut [46] (fun jr wc=>∃ (kq:Nat) (fh:Bool),jr = .bool fh∧Aside0 (flash_Write.j1 kq a2 ψ false fh J B=some (r1,r2,r3,r4))∧Aside0 (kq≤en)∧Aside0 (Kd.R (Kd.int .u8) 5 wc w.heap.size (fun k_=>some k_≠((.slice a8 ah.length a9):Value).ownBlock) cq ψ)∧Aside0 (Kd.R (Kd.int .u8) 5 wc w.heap.size (fun k_=>some k_≠(cq:Value).ownBlock) (.slice a8 ah.length a9) ah)∧Aside0 (wc.heap[b1]?=some (.cells #[(.slice γ J.length δ),(.slice Y B.length Z)] 24 (0,0)))∧Aside0 (wc.heap[dl]?=some (.cells #[.int .i64 ζ,.int .i64 κ,.int .i64 μ,(.slice a6 η.length a7)] 26 (0,0)))∧Aside0 (wc.heap[ap]?=some (.cells #[(.slice none 0 0),(.slice none 0 0)] 24 (0,0)))∧Aside0 (wc.heap[e0]?=some (.cells #[.int .i64 a3,.int .i64 cg,.int .i64 dw,(.slice a8 ah.length a9)] 26 (0,0)))∧Aside0 (Below w.heap.size w wc))
     case first=>
      have H:=ge.out
      clear ge
      by_cases em:a0=0
      ·rw[if_pos em] at H
       have c38b0:(a0==0)=true:=beq_iff_eq.mpr em
       have c38b1:(a0 != 0)=false:=bne_eq_false_iff_eq.mpr em
       clear em
       (first|rw[c38b0]|(simp only[Zu,Z4];rw[c38b0])|skip)
       have H':=Aside0.mk H
       clear H
       go_wp2
       go_meet
       case rel=>exact⟨_,(ac),rfl,H',⟨by have:=h0.out;omega⟩,⟨by(with_reducible repeat first|apply Kd.Qi|apply Kd.Qh|apply Kd.Ql);exact HO_9.out⟩,⟨by(with_reducible repeat first|apply Kd.Qi|apply Kd.Qh|apply Kd.Ql);exact HO_195003.out⟩,X,ι,τ,ω,HB⟩
      ·rw[if_neg em] at H
       have c38b0:(a0==0)=false:=beq_eq_false_iff_ne.mpr em
       have c38b1:(a0 != 0)=true:=bne_iff_ne.mpr em
       (first|rw[c38b0]|(simp only[Zu,Z4];rw[c38b0])|skip)
       have H':=Aside0.mk H
       clear H
       go_wp2
       go_meet
       case rel=>exact⟨_,(true),rfl,H',⟨by have:=h0.out;omega⟩,⟨by(with_reducible repeat first|apply Kd.Qi|apply Kd.Qh|apply Kd.Ql);exact HO_9.out⟩,⟨by(with_reducible repeat first|apply Kd.Qi|apply Kd.Qh|apply Kd.Ql);exact HO_195003.out⟩,X,ι,τ,ω,HB⟩
     case rest=>
      clear ge
      try clear c1
      try clear c2
      try clear p2
      try clear c3
      try clear c5
      try clear c5b0
      try clear c5b1
      try clear bf
      try clear bl
      try clear ed
      try clear e4
      try clear fe
      try clear bp
      try clear er
      try clear cf
      try clear al
      try clear c24b0
      try clear c24b1
      try clear cb
      try clear dn
      try clear eu
      try clear dm
      try clear dq
      try clear eh
      try clear ev
      try clear ew
      try clear fb
      try clear em
      try clear c38b0
      try clear c38b1
      try clear b7
      try clear b9
      try clear ba
      try clear bc
      try clear bk
      try clear bm
      try clear d1
      try clear d4
      try clear d8
      try clear d9
      try clear ce
      try clear ch
      try clear ci
      try clear ck
      try clear cw
      try clear cx
      try clear cy
      try clear dv
      try clear dp
      try clear dr
      try clear bg
      try clear bh
      try clear bi
      try clear bj
      try clear bn
      try clear bo
      try clear da
      try clear di
      try clear dj
      try clear dk
      try clear cm
      try clear cn
      try clear co
      try clear cp
      try clear d0
      try clear d2
      try clear d3
      try clear dy
      try clear dt
      try clear du
      try clear p2
      obtain⟨kq,fh,rfl,HA,h7,HO_9,HO_195003,X,ι,τ,ω,HB⟩:=hcut
      cases kq with
      |zero=>exact absurd HA.out (by simp[flash_Write.j1])
      |succ gf=>
       have H:=HA.out
       clear HA
       simp only[flash_Write.j1] at H
       have gg:=Aside0.mk H
       clear H
       go_upto_if 46 with(fail)
       go_cut [14] (fun gw wc=>∃ (kq:Nat) (b2:Bool),gw=pickF b2∧Aside0 (flash_Write.j2 kq a2 ψ b2 J B=some (r1,r2,r3,r4))∧Aside0 (kq≤gf)∧Aside0 (Kd.R (Kd.int .u8) 5 wc w.heap.size (fun k_=>some k_≠((.slice a8 ah.length a9):Value).ownBlock) cq ψ)∧Aside0 (Kd.R (Kd.int .u8) 5 wc w.heap.size (fun k_=>some k_≠(cq:Value).ownBlock) (.slice a8 ah.length a9) ah)∧Aside0 (wc.heap[b1]?=some (.cells #[(.slice γ J.length δ),(.slice Y B.length Z)] 24 (0,0)))∧Aside0 (wc.heap[dl]?=some (.cells #[.int .i64 ζ,.int .i64 κ,.int .i64 μ,(.slice a6 η.length a7)] 26 (0,0)))∧Aside0 (wc.heap[ap]?=some (.cells #[(.slice none 0 0),(.slice none 0 0)] 24 (0,0)))∧Aside0 (wc.heap[e0]?=some (.cells #[.int .i64 a3,.int .i64 cg,.int .i64 dw,(.slice a8 ah.length a9)] 26 (0,0)))∧Aside0 (Below w.heap.size w wc))
       case first=>
        have H:=gg.out
        clear gg
        by_cases fu:fh=true
        ·subst fu
         have H1:(flash_Write.j2 gf a2 ψ true J B)=some (r1,r2,r3,r4):=by rw[if_pos rfl] at H;exact H
         clear H
         have H:=H1
         clear H1
         have H':=Aside0.mk H
         clear H
         go_wp2
         go_meet
         case rel=>exact⟨_,(true),rfl,H',⟨by have:=h0.out;have:=h7.out;first|omega|exact Nat.le_refl _⟩,⟨by(with_reducible repeat first|apply Kd.Qi|apply Kd.Qh|apply Kd.Ql);exact HO_9.out⟩,⟨by(with_reducible repeat first|apply Kd.Qi|apply Kd.Qh|apply Kd.Ql);exact HO_195003.out⟩,X,ι,τ,ω,HB⟩
        ·replace fu:=Bool.eq_false_iff.mpr fu
         subst fu
         have H1:(flash_Write.j2 gf a2 ψ false J B)=some (r1,r2,r3,r4):=by rw[if_neg (show ¬ (false=true) by decide)] at H;exact H
         clear H
         have H:=H1
         clear H1
         have H':=Aside0.mk H
         clear H
         go_wp2
         go_meet
         case rel=>exact⟨_,(false),rfl,H',⟨by have:=h0.out;have:=h7.out;first|omega|exact Nat.le_refl _⟩,⟨by(with_reducible repeat first|apply Kd.Qi|apply Kd.Qh|apply Kd.Ql);exact HO_9.out⟩,⟨by(with_reducible repeat first|apply Kd.Qi|apply Kd.Qh|apply Kd.Ql);exact HO_195003.out⟩,X,ι,τ,ω,HB⟩
       case rest=>
        clear gg
        try clear c1
        try clear c2
        try clear p2
        try clear c3
        try clear c4
        try clear c5
        try clear c5b0
        try clear c5b1
        try clear bf
        try clear bl
        try clear ed
        try clear e4
        try clear fe
        try clear bp
        try clear er
        try clear cf
        try clear al
        try clear c24b0
        try clear c24b1
        try clear cb
        try clear dn
        try clear eu
        try clear dm
        try clear dq
        try clear eh
        try clear ev
        try clear ew
        try clear fb
        try clear em
        try clear c38b0
        try clear c38b1
        try clear fu
        try clear b7
        try clear b9
        try clear ba
        try clear bc
        try clear bk
        try clear bm
        try clear d1
        try clear d4
        try clear d8
        try clear d9
        try clear ce
        try clear ch
        try clear ci
        try clear ck
        try clear cw
        try clear cx
        try clear cy
        try clear dv
        try clear dp
        try clear dr
        try clear bg
        try clear bh
        try clear bi
        try clear bj
        try clear bn
        try clear bo
        try clear da
        try clear di
        try clear dj
        try clear dk
        try clear cm
        try clear cn
        try clear co
        try clear cp
        try clear d0
        try clear d2
        try clear d3
        try clear dy
        try clear dt
        try clear du
        try clear p2
        obtain⟨kq,b2,rfl,HA,k5,HO_9,HO_195003,X,ι,τ,ω,HB⟩:=hcut
        cases kq with
        |zero=>exact absurd HA.out (by simp[flash_Write.j2])
        |succ k6=>
         have H:=HA.out
         clear HA
         simp only[flash_Write.j2] at H
         replace H:=Option.bind_eq_some_iff.mp H
         obtain⟨af,h4,H⟩:=H
         replace H:((bytes_Clone.f B).bind fun χ =>(if 0≤(mn (mx a2 0) (ψ.length:Int)) then (if (mn (mx a2 0) (ψ.length:Int))≤(ψ.length:Int) then (some (Xi b2 (ψ.take ((mn (mx a2 0) (ψ.length:Int)):Int).toNat) af,Xi b2 χ (ψ.take ((mn (mx a2 0) (ψ.length:Int)):Int).toNat),decide (a2≥(ψ.length:Int)),0)) else (none)) else (none)))=some (r1,r2,r3,r4):=H
         have j7:=Aside0.mk h4
         clear h4
         replace H:=Option.bind_eq_some_iff.mp H
         obtain⟨χ,h8,H⟩:=H
         replace H:(if 0≤(mn (mx a2 0) (ψ.length:Int)) then (if (mn (mx a2 0) (ψ.length:Int))≤(ψ.length:Int) then (some (Xi b2 (ψ.take ((mn (mx a2 0) (ψ.length:Int)):Int).toNat) af,Xi b2 χ (ψ.take ((mn (mx a2 0) (ψ.length:Int)):Int).toNat),decide (a2≥(ψ.length:Int)),0)) else (none)) else (none))=some (r1,r2,r3,r4):=H
         have g0:=Aside0.mk h8
         clear h8
         obtain⟨et,fi⟩:∃ j_:Int,(mx a2 0)=j_:=⟨_,rfl⟩
         replace H:(if 0≤(mn (et) (ψ.length:Int)) then (if (mn (et) (ψ.length:Int))≤(ψ.length:Int) then (some (Xi b2 (ψ.take ((mn (et) (ψ.length:Int)):Int).toNat) af,Xi b2 χ (ψ.take ((mn (et) (ψ.length:Int)):Int).toNat),decide (a2≥(ψ.length:Int)),0)) else (none)) else (none))=some (r1,r2,r3,r4):=by first|(rw[fi] at H;exact H)|(simp only[fi] at H ⊢;exact H)
         (try rw[fi] at j7)
         (try rw[fi] at g0)
         have js:(if a2<0 then 0 else a2)=et:=fi
         obtain⟨cu,fj⟩:∃ j_:Int,(mn (et) (ψ.length:Int))=j_:=⟨_,rfl⟩
         replace H:(if 0≤(cu) then (if (cu)≤(ψ.length:Int) then (some (Xi b2 (ψ.take ((cu):Int).toNat) af,Xi b2 χ (ψ.take ((cu):Int).toNat),decide (a2≥(ψ.length:Int)),0)) else (none)) else (none))=some (r1,r2,r3,r4):=by first|(rw[fj] at H;exact H)|(simp only[fj] at H ⊢;exact H)
         (try rw[fj] at j7)
         (try rw[fj] at g0)
         have jt:(if (ψ.length:Int)<(et) then (ψ.length:Int) else (et))=cu:=fj
         by_cases jc:0≤(cu)
         ·rw[if_pos jc] at H
          have c45b0:=eq_true jc
          have c45b1:decide (0≤(cu))=true:=decide_eq_true jc
          clear jc
          by_cases fc:(cu)≤(ψ.length:Int)
          ·rw[if_pos fc] at H
           have c46b0:=eq_true fc
           have c46b1:decide ((cu)≤(ψ.length:Int))=true:=decide_eq_true fc
           clear fc
           obtain⟨ai,fk⟩:∃ y_:List Int,y_=(ψ.take ((cu):Int).toNat):=⟨_,rfl⟩
           replace H:(some (Xi b2 ai af,Xi b2 χ ai,decide (a2≥(ψ.length:Int)),0))=some (r1,r2,r3,r4):=by first|(rw[fk];with_reducible exact H)|(have φ :=(Option.bind_some _ _).symm.trans H;rw[fk];with_reducible exact φ)|(have φ :=(Option.bind_some _ _).symm.trans H;with_reducible exact φ)|with_reducible exact H|(rw[fk];exact H)|exact H
           have f5:=Aside0.mk fk
           clear fk
           simp only[Option.some.injEq,Prod.mk.injEq] at H
           obtain⟨rfl,rfl,rfl,rfl⟩:=H
           try go_wp2
           replace HO_9:=Aside0.mk (Kd.Ql HO_9.out)
           replace HO_195003:=Aside0.mk (Kd.Ql HO_195003.out)
           replace X:=Aside0.mk (Qd X.out)
           replace ι :=Aside0.mk (Qd ι.out)
           replace τ :=Aside0.mk (Qd τ.out)
           replace ω :=Aside0.mk (Qd ω.out)
           replace HB:=Aside0.mk (Qf HB.out)
           refine Yp (n:=9) (S:=fun w'=>w'.cell? ⟨b1,0,none⟩=some (.slice γ J.length δ)∧w'.cell? ⟨b1,1,none⟩=some (.slice Y B.length Z)) (ds:=[]) #[false,false,false,false,false,false,false,false,false] kr rfl rfl ⟨(Q3 X.out 0).trans rfl,(Q3 X.out 1).trans rfl⟩ (fun hHeld=>?_);refine Xh flash_Write.tab10 flash_Write.Dc (fun HT_ HW_=>?_)
           generalize wc.drew=np at HO_9 HO_195003 X ι τ ω HB hHeld ⊢
           refine qP 0 (some 47) (bN 9 1) HT_ ?_
           refine qP 3 (some 50) (bN 9 9) HT_ ?_
           refine qT 1 (some 48) (bN 9 11) HT_ HW_ hHeld ?_
           refine qT 4 (some 51) (bN 9 27) HT_ HW_ hHeld ?_
           refine Wm (σ:=Value×Value×Nat) 1 (bN 9 255) (fun s_=>[(49,s_.1),(52,s_.2.1),(15,.pointer (some ⟨s_.2.2,0,none⟩)),(53,.agg #[s_.1,s_.2.1])]) (fun s_ w'=>(w'.cell? ⟨b1,0,none⟩=some (.slice γ J.length δ)∧w'.cell? ⟨b1,1,none⟩=some (.slice Y B.length Z))∧(Kd.R (Kd.int .u8) 5 w' w.heap.size (fun k_=>some k_≠(s_.2.1:Value).ownBlock∧some k_≠(.slice a8 ah.length a9:Value).ownBlock∧some k_≠(cq:Value).ownBlock) s_.1 af)∧(Kd.R (Kd.int .u8) 5 w' w.heap.size (fun k_=>some k_≠(s_.1:Value).ownBlock∧some k_≠(.slice a8 ah.length a9:Value).ownBlock∧some k_≠(cq:Value).ownBlock) s_.2.1 χ)∧(Kd.R (Kd.int .u8) 5 w' w.heap.size (fun k_=>some k_≠(s_.1:Value).ownBlock∧some k_≠(s_.2.1:Value).ownBlock∧some k_≠(cq:Value).ownBlock) (.slice a8 ah.length a9) ah)∧(Kd.R (Kd.int .u8) 5 w' w.heap.size (fun k_=>some k_≠(s_.1:Value).ownBlock∧some k_≠(s_.2.1:Value).ownBlock∧some k_≠(.slice a8 ah.length a9:Value).ownBlock) cq ψ)∧(w'.heap[b1]?=some (.cells #[.slice γ J.length δ,.slice Y B.length Z] 24 (0,0)))∧(w'.heap[dl]?=some (.cells #[.int .i64 ζ,.int .i64 κ,.int .i64 μ,.slice a6 η.length a7] 26 (0,0)))∧(w'.heap[ap]?=some (.cells #[.slice none 0 0,.slice none 0 0] 24 (0,0)))∧(w'.heap[e0]?=some (.cells #[.int .i64 a3,.int .i64 cg,.int .i64 dw,.slice a8 ah.length a9] 26 (0,0)))∧(w'.heap[s_.2.2]?=some (.cells #[.slice none 0 0,.slice none 0 0] 58 (0,0)))∧(w.heap.size≤s_.2.2)∧(w.heap.size≤s_.2.2)∧(b1≠s_.2.2)∧(s_.2.2≠b1)∧(dl≠s_.2.2)∧(s_.2.2≠dl)∧(ap≠s_.2.2)∧(s_.2.2≠ap)∧(e0≠s_.2.2)∧(s_.2.2≠e0)∧(Below w.heap.size w w')) ?_ ?_
           rotate_left
           ·intro hCont
            refine Uq (i:=2) (j:=7) (Ni:=some 49) (Nj:=some 15) (bN 9 31) (bN 9 155) rfl rfl rfl rfl (Ju HT_.out kr) (by decide) (by decide) (fun K hK=>?_) (fun K hK=>?_)
            ·skip
             refine Jh Tryd.func24 kr rfl #[.slice γ J.length δ] (by rfl) rfl rfl qM ?_
             with_reducible refine(bytes_Clone.calls _ _ J af _ ?side1 ?side2 j7.out).mono ?_
             (case side1=>exact(Kd.Zb ct.out HB.out))
             (case side2=>exact d7.out)
             rintro e h5 ⟨fl,rfl,θ,hb⟩
             refine⟨_,rfl, ?_⟩
             have ae:=Aside0.mk (Kd.Zd (Kd.Zi (Kd.Zi θ (Kd.Zp HO_9.out)) (Kd.Zp HO_195003.out)) (Qj HB.out))
             replace HO_9:=Aside0.mk (Kd.Zj HO_9.out (Kd.Q5 θ) hb)
             replace HO_195003:=Aside0.mk (Kd.Zj HO_195003.out (Kd.Q5 θ) hb)
             replace X:=sBk X hb
             replace ι :=sBk ι hb
             replace τ :=sBk τ hb
             replace ω :=sBk ω hb
             replace HB:=sHb hb
             (try clear hb)
             (try clear az)
             (try clear hk)
             (try clear hi)
             (try clear θ)
             refine hK.out _ _ ⟨qc X,qc X⟩ (fun hHeld=>?_)
             clear hK K
             refine qN (some 49) ?_
             refine Uq (i:=5) (j:=7) (Ni:=some 52) (Nj:=some 15) (bN 9 63) (bN 9 159) rfl rfl rfl rfl (Ju HT_.out kr) (by decide) (by decide) (fun K hK=>?_) (fun K hK=>?_)
             ·skip
              refine Jh Tryd.func24 kr rfl #[.slice Y B.length Z] (by rfl) rfl rfl qM ?_
              with_reducible refine(bytes_Clone.calls _ _ B χ _ ?side1 ?side2 g0.out).mono ?_
              (case side1=>exact(Kd.Zb cv.out HB.out))
              (case side2=>exact cz.out)
              rintro e h6 ⟨ey,rfl,θ,hb⟩
              refine⟨_,rfl, ?_⟩
              have a1:=Aside0.mk (Kd.Zd (Kd.Zi (Kd.Zi (Kd.Zi θ (Kd.Zp HO_9.out)) (Kd.Zp HO_195003.out)) (Kd.Zp ae.out)) (Qj HB.out))
              replace HO_9:=Aside0.mk (Kd.Zj HO_9.out (Kd.Q5 θ) hb)
              replace HO_195003:=Aside0.mk (Kd.Zj HO_195003.out (Kd.Q5 θ) hb)
              replace ae:=Aside0.mk (Kd.Zj ae.out (Kd.Q5 θ) hb)
              replace X:=sBk X hb
              replace ι :=sBk ι hb
              replace τ :=sBk τ hb
              replace ω :=sBk ω hb
              replace HB:=sHb hb
              (try clear hb)
              (try clear az)
              (try clear hk)
              (try clear hi)
              (try clear θ)
              obtain⟨bd,be,kb⟩:=Kd.Zf a1.out
              (first|subst kb|(injection kb with ax br ay;have bs:=ax.symm;have bu:=ay.symm;clear ax br ay;subst bs;subst bu))
              obtain⟨fv,fw,ez⟩:=Kd.Zf ae.out
              (first|subst ez|(injection ez with ax br ay;have bs:=ax.symm;have bu:=ay.symm;clear ax br ay;subst bs;subst bu))
              refine hK.out _ _ ⟨qc X,qc X⟩ (fun hHeld=>?_)
              clear hK K
              refine qN (some 52) ?_
              refine qP 6 (some 53) (bN 9 127) HT_ ?_
              refine Ye (i:=7) (N:=some 15) (bN 9 255) rfl rfl (Z3 HT_.out kr) (by decide) (fun K hK=>?_)
              refine Xy ?hg (N:=15) ?hd (cs:=#[.slice none 0 0,.slice none 0 0]) (t:=58) ?hr ?_;(case hd=>rfl);(case hg=>rfl);(case hr=>go_simp <;> rfl)
              intro ξ hg sj hbox hb
              have aa:=Aside0.mk hbox
              have f6:=sGe hg
              have eg:=sGe hg
              have aw:=sNl X hg
              have b5:=sNg X hg
              have b6:=sNl ι hg
              have bv:=sNg ι hg
              have ao:=sNl τ hg
              have b0:=sNg τ hg
              have bw:=sNl ω hg
              have ca:=sNg ω hg
              replace HO_9:=sRb HO_9 hb
              replace HO_195003:=sRb HO_195003 hb
              replace ae:=sRb ae hb
              replace a1:=sRb a1 hb
              replace X:=sBk X hb
              replace ι :=sBk ι hb
              replace τ :=sBk τ hb
              replace ω :=sBk ω hb
              replace HB:=sHb hb
              clear hb hbox hg
              refine hK.out _ _ ⟨qc X,qc X⟩ (fun hHeld=>?_)
              clear hK K
              refine qN (some 15) ?_
              exact Yt (by simp only[Xv,Act.put,qS]) (hCont (.slice fv af.length fw,.slice bd χ.length be,ξ) _ ⟨hHeld,(by(with_reducible repeat first|apply Kd.Qi|apply Kd.Qh|apply Kd.Ql);exact Kd.Qu ae.out (fun _ hk=>⟨hk.2,⟨hk.1.2,hk.1.1.2⟩⟩)),(by(with_reducible repeat first|apply Kd.Qi|apply Kd.Qh|apply Kd.Ql);exact Kd.Qu a1.out (fun _ hk=>⟨hk.2,⟨hk.1.2,hk.1.1.2⟩⟩)),(by(with_reducible repeat first|apply Kd.Qi|apply Kd.Qh|apply Kd.Ql);exact Kd.Qu HO_195003.out (fun _ hk=>⟨hk.1.2,⟨hk.2,hk.1.1⟩⟩)),(by(with_reducible repeat first|apply Kd.Qi|apply Kd.Qh|apply Kd.Ql);exact Kd.Qu HO_9.out (fun _ hk=>⟨hk.1.2,⟨hk.2,hk.1.1⟩⟩)),X.out,ι.out,τ.out,ω.out,aa.out,f6.out,eg.out,aw.out,b5.out,b6.out,bv.out,ao.out,b0.out,bw.out,ca.out,HB.out⟩)
             ·skip
              refine Xy ?hg (N:=15) ?hd (cs:=#[.slice none 0 0,.slice none 0 0]) (t:=58) ?hr ?_;(case hd=>rfl);(case hg=>rfl);(case hr=>go_simp <;> rfl)
              intro ξ hg h6 hbox hb
              have aa:=Aside0.mk hbox
              have f6:=sGe hg
              have eg:=sGe hg
              have aw:=sNl X hg
              have b5:=sNg X hg
              have b6:=sNl ι hg
              have bv:=sNg ι hg
              have ao:=sNl τ hg
              have b0:=sNg τ hg
              have bw:=sNl ω hg
              have ca:=sNg ω hg
              replace HO_9:=sRb HO_9 hb
              replace HO_195003:=sRb HO_195003 hb
              replace ae:=sRb ae hb
              replace X:=sBk X hb
              replace ι :=sBk ι hb
              replace τ :=sBk τ hb
              replace ω :=sBk ω hb
              replace HB:=sHb hb
              clear hb hbox hg
              refine hK.out _ _ ⟨qc X,qc X⟩ (fun hHeld=>?_)
              clear hK K
              refine qN (some 15) ?_
              refine Ye (i:=5) (N:=some 52) (bN 9 191) rfl rfl (Z3 HT_.out kr) (by decide) (fun K hK=>?_)
              refine Jh Tryd.func24 kr rfl #[.slice Y B.length Z] (by rfl) rfl rfl qM ?_
              with_reducible refine(bytes_Clone.calls _ _ B χ _ ?side1 ?side2 g0.out).mono ?_
              (case side1=>exact(Kd.Zb cv.out HB.out))
              (case side2=>exact cz.out)
              rintro e gx ⟨ey,rfl,θ,hb⟩
              refine⟨_,rfl, ?_⟩
              have a1:=Aside0.mk (Kd.Zd (Kd.Zi (Kd.Zi (Kd.Zi θ (Kd.Zp HO_9.out)) (Kd.Zp HO_195003.out)) (Kd.Zp ae.out)) (Qj HB.out))
              replace HO_9:=Aside0.mk (Kd.Zj HO_9.out (Kd.Q5 θ) hb)
              replace HO_195003:=Aside0.mk (Kd.Zj HO_195003.out (Kd.Q5 θ) hb)
              replace ae:=Aside0.mk (Kd.Zj ae.out (Kd.Q5 θ) hb)
              replace X:=sBk X hb
              replace ι :=sBk ι hb
              replace τ :=sBk τ hb
              replace ω :=sBk ω hb
              replace aa:=sBk aa hb
              replace HB:=sHb hb
              (try clear hb)
              (try clear az)
              (try clear hk)
              (try clear hi)
              (try clear θ)
              obtain⟨fv,fw,ez⟩:=Kd.Zf a1.out
              (first|subst ez|(injection ez with ax br ay;have bs:=ax.symm;have bu:=ay.symm;clear ax br ay;subst bs;subst bu))
              obtain⟨gl,gm,fx⟩:=Kd.Zf ae.out
              (first|subst fx|(injection fx with ax br ay;have bs:=ax.symm;have bu:=ay.symm;clear ax br ay;subst bs;subst bu))
              refine hK.out _ _ ⟨qc X,qc X⟩ (fun hHeld=>?_)
              clear hK K
              refine qN (some 52) ?_
              refine qP 6 (some 53) (bN 9 255) HT_ ?_
              exact Yt (by simp only[Xv,Act.put,qS]) (hCont (.slice gl af.length gm,.slice fv χ.length fw,ξ) _ ⟨hHeld,(by(with_reducible repeat first|apply Kd.Qi|apply Kd.Qh|apply Kd.Ql);exact Kd.Qu ae.out (fun _ hk=>⟨hk.2,⟨hk.1.2,hk.1.1.2⟩⟩)),(by(with_reducible repeat first|apply Kd.Qi|apply Kd.Qh|apply Kd.Ql);exact Kd.Qu a1.out (fun _ hk=>⟨hk.2,⟨hk.1.2,hk.1.1.2⟩⟩)),(by(with_reducible repeat first|apply Kd.Qi|apply Kd.Qh|apply Kd.Ql);exact Kd.Qu HO_195003.out (fun _ hk=>⟨hk.1.2,⟨hk.2,hk.1.1⟩⟩)),(by(with_reducible repeat first|apply Kd.Qi|apply Kd.Qh|apply Kd.Ql);exact Kd.Qu HO_9.out (fun _ hk=>⟨hk.1.2,⟨hk.2,hk.1.1⟩⟩)),X.out,ι.out,τ.out,ω.out,aa.out,f6.out,eg.out,aw.out,b5.out,b6.out,bv.out,ao.out,b0.out,bw.out,ca.out,HB.out⟩)
            ·skip
             refine Xy ?hg (N:=15) ?hd (cs:=#[.slice none 0 0,.slice none 0 0]) (t:=58) ?hr ?_;(case hd=>rfl);(case hg=>rfl);(case hr=>go_simp <;> rfl)
             intro ξ hg h5 hbox hb
             have aa:=Aside0.mk hbox
             have f6:=sGe hg
             have eg:=sGe hg
             have aw:=sNl X hg
             have b5:=sNg X hg
             have b6:=sNl ι hg
             have bv:=sNg ι hg
             have ao:=sNl τ hg
             have b0:=sNg τ hg
             have bw:=sNl ω hg
             have ca:=sNg ω hg
             replace HO_9:=sRb HO_9 hb
             replace HO_195003:=sRb HO_195003 hb
             replace X:=sBk X hb
             replace ι :=sBk ι hb
             replace τ :=sBk τ hb
             replace ω :=sBk ω hb
             replace HB:=sHb hb
             clear hb hbox hg
             refine hK.out _ _ ⟨qc X,qc X⟩ (fun hHeld=>?_)
             clear hK K
             refine qN (some 15) ?_
             refine Ye (i:=2) (N:=some 49) (bN 9 159) rfl rfl (Z3 HT_.out kr) (by decide) (fun K hK=>?_)
             refine Jh Tryd.func24 kr rfl #[.slice γ J.length δ] (by rfl) rfl rfl qM ?_
             with_reducible refine(bytes_Clone.calls _ _ J af _ ?side1 ?side2 j7.out).mono ?_
             (case side1=>exact(Kd.Zb ct.out HB.out))
             (case side2=>exact d7.out)
             rintro e h6 ⟨fl,rfl,θ,hb⟩
             refine⟨_,rfl, ?_⟩
             have ae:=Aside0.mk (Kd.Zd (Kd.Zi (Kd.Zi θ (Kd.Zp HO_9.out)) (Kd.Zp HO_195003.out)) (Qj HB.out))
             replace HO_9:=Aside0.mk (Kd.Zj HO_9.out (Kd.Q5 θ) hb)
             replace HO_195003:=Aside0.mk (Kd.Zj HO_195003.out (Kd.Q5 θ) hb)
             replace X:=sBk X hb
             replace ι :=sBk ι hb
             replace τ :=sBk τ hb
             replace ω :=sBk ω hb
             replace aa:=sBk aa hb
             replace HB:=sHb hb
             (try clear hb)
             (try clear az)
             (try clear hk)
             (try clear hi)
             (try clear θ)
             refine hK.out _ _ ⟨qc X,qc X⟩ (fun hHeld=>?_)
             clear hK K
             refine qN (some 49) ?_
             refine Ye (i:=5) (N:=some 52) (bN 9 191) rfl rfl (Z3 HT_.out kr) (by decide) (fun K hK=>?_)
             refine Jh Tryd.func24 kr rfl #[.slice Y B.length Z] (by rfl) rfl rfl qM ?_
             with_reducible refine(bytes_Clone.calls _ _ B χ _ ?side1 ?side2 g0.out).mono ?_
             (case side1=>exact(Kd.Zb cv.out HB.out))
             (case side2=>exact cz.out)
             rintro e gx ⟨ey,rfl,θ,hb⟩
             refine⟨_,rfl, ?_⟩
             have a1:=Aside0.mk (Kd.Zd (Kd.Zi (Kd.Zi (Kd.Zi θ (Kd.Zp HO_9.out)) (Kd.Zp HO_195003.out)) (Kd.Zp ae.out)) (Qj HB.out))
             replace HO_9:=Aside0.mk (Kd.Zj HO_9.out (Kd.Q5 θ) hb)
             replace HO_195003:=Aside0.mk (Kd.Zj HO_195003.out (Kd.Q5 θ) hb)
             replace ae:=Aside0.mk (Kd.Zj ae.out (Kd.Q5 θ) hb)
             replace X:=sBk X hb
             replace ι :=sBk ι hb
             replace τ :=sBk τ hb
             replace ω :=sBk ω hb
             replace aa:=sBk aa hb
             replace HB:=sHb hb
             (try clear hb)
             (try clear az)
             (try clear hk)
             (try clear hi)
             (try clear θ)
             obtain⟨fv,fw,ez⟩:=Kd.Zf a1.out
             (first|subst ez|(injection ez with ax br ay;have bs:=ax.symm;have bu:=ay.symm;clear ax br ay;subst bs;subst bu))
             obtain⟨gl,gm,fx⟩:=Kd.Zf ae.out
             (first|subst fx|(injection fx with ax br ay;have bs:=ax.symm;have bu:=ay.symm;clear ax br ay;subst bs;subst bu))
             refine hK.out _ _ ⟨qc X,qc X⟩ (fun hHeld=>?_)
             clear hK K
             refine qN (some 52) ?_
             refine qP 6 (some 53) (bN 9 255) HT_ ?_
             exact Yt (by simp only[Xv,Act.put,qS]) (hCont (.slice gl af.length gm,.slice fv χ.length fw,ξ) _ ⟨hHeld,(by(with_reducible repeat first|apply Kd.Qi|apply Kd.Qh|apply Kd.Ql);exact Kd.Qu ae.out (fun _ hk=>⟨hk.2,⟨hk.1.2,hk.1.1.2⟩⟩)),(by(with_reducible repeat first|apply Kd.Qi|apply Kd.Qh|apply Kd.Ql);exact Kd.Qu a1.out (fun _ hk=>⟨hk.2,⟨hk.1.2,hk.1.1.2⟩⟩)),(by(with_reducible repeat first|apply Kd.Qi|apply Kd.Qh|apply Kd.Ql);exact Kd.Qu HO_195003.out (fun _ hk=>⟨hk.1.2,⟨hk.2,hk.1.1⟩⟩)),(by(with_reducible repeat first|apply Kd.Qi|apply Kd.Qh|apply Kd.Ql);exact Kd.Qu HO_9.out (fun _ hk=>⟨hk.1.2,⟨hk.2,hk.1.1⟩⟩)),X.out,ι.out,τ.out,ω.out,aa.out,f6.out,eg.out,aw.out,b5.out,b6.out,bv.out,ao.out,b0.out,bw.out,ca.out,HB.out⟩)
           rintro⟨fl,ey,ξ⟩ cd ⟨hS_,g2,g3,g4,g5,g6,lq,lr,ls,lu,e5,m5,m6,m7,m8,h9,ha,he,hh,hj,hl⟩
           have D:Aside0 (Kd.R (Kd.int .u8) 5 cd w.heap.size (fun k_=>some k_≠(ey:Value).ownBlock∧some k_≠(.slice a8 ah.length a9:Value).ownBlock∧some k_≠(cq:Value).ownBlock) fl af):=⟨g2⟩
           have I:Aside0 (Kd.R (Kd.int .u8) 5 cd w.heap.size (fun k_=>some k_≠(fl:Value).ownBlock∧some k_≠(.slice a8 ah.length a9:Value).ownBlock∧some k_≠(cq:Value).ownBlock) ey χ):=⟨g3⟩
           have O:Aside0 (Kd.R (Kd.int .u8) 5 cd w.heap.size (fun k_=>some k_≠(fl:Value).ownBlock∧some k_≠(ey:Value).ownBlock∧some k_≠(cq:Value).ownBlock) (.slice a8 ah.length a9) ah):=⟨g4⟩
           have U:Aside0 (Kd.R (Kd.int .u8) 5 cd w.heap.size (fun k_=>some k_≠(fl:Value).ownBlock∧some k_≠(ey:Value).ownBlock∧some k_≠(.slice a8 ah.length a9:Value).ownBlock) cq ψ):=⟨g5⟩
           have ε :Aside0 (cd.heap[b1]?=some (.cells #[.slice γ J.length δ,.slice Y B.length Z] 24 (0,0))):=⟨g6⟩
           have ν :Aside0 (cd.heap[dl]?=some (.cells #[.int .i64 ζ,.int .i64 κ,.int .i64 μ,.slice a6 η.length a7] 26 (0,0))):=⟨lq⟩
           have ρ:Aside0 (cd.heap[ap]?=some (.cells #[.slice none 0 0,.slice none 0 0] 24 (0,0))):=⟨lr⟩
           have a4:Aside0 (cd.heap[e0]?=some (.cells #[.int .i64 a3,.int .i64 cg,.int .i64 dw,.slice a8 ah.length a9] 26 (0,0))):=⟨ls⟩
           have a5:Aside0 (cd.heap[ξ]?=some (.cells #[.slice none 0 0,.slice none 0 0] 58 (0,0))):=⟨lu⟩
           have ab:Aside0 (w.heap.size ≤ ξ):=⟨e5⟩
           have am:Aside0 (w.heap.size ≤ ξ):=⟨m5⟩
           have ar:Aside0 (b1 ≠ ξ):=⟨m6⟩
           have b8:Aside0 (ξ ≠ b1):=⟨m7⟩
           have bb:Aside0 (dl ≠ ξ):=⟨m8⟩
           have bz:Aside0 (ξ ≠ dl):=⟨h9⟩
           have cj:Aside0 (ap ≠ ξ):=⟨ha⟩
           have cr:Aside0 (ξ ≠ ap):=⟨he⟩
           have dx:Aside0 (e0 ≠ ξ):=⟨hh⟩
           have ep:Aside0 (ξ ≠ e0):=⟨hj⟩
           have g9:Aside0 (Below w.heap.size w cd):=⟨hl⟩
           clear HO_9
           clear HO_195003
           clear X
           clear ι
           clear τ
           clear ω
           clear HB
           clear g2 g3 g4 g5 g6 lq lr ls lu e5 m5 m6 m7 m8 h9 ha he hh hj hl
           have ae:=D
           have a1:=I
           have HO_195003:=O
           have HO_9:=U
           have X:= ε
           have ι := ν
           have τ :=ρ
           have ω :=a4
           have aa:=a5
           have f6:=ab
           have eg:=am
           have aw:=ar
           have b5:=b8
           have b6:=bb
           have bv:=bz
           have ao:=cj
           have b0:=cr
           have bw:=dx
           have ca:=ep
           have HB:=g9
           clear D I O U ε ν ρ a4 a5 ab am ar b8 bb bz cj cr dx ep g9
           have hHeld:cd.cell? ⟨b1,0,none⟩=some (.slice γ J.length δ)∧cd.cell? ⟨b1,1,none⟩=some (.slice Y B.length Z):=hS_
           obtain⟨b3,b4,ka⟩:=Kd.Zf a1.out
           (first|subst ka|(injection ka with ax br ay;have bs:=ax.symm;have bu:=ay.symm;clear ax br ay;subst bs;subst bu))
           obtain⟨au,av,ho⟩:=Kd.Zf ae.out
           (first|subst ho|(injection ho with ax br ay;have bs:=ax.symm;have bu:=ay.symm;clear ax br ay;subst bs;subst bu))
           refine Yt (a':=?_) ?_ ?_
           rotate_left
           ·simp only[Xv,Act.put,qS]
            rfl
           refine Ye (i:=8) (N:=none) (bN 9 511) rfl rfl (Z3 HT_.out kr) (by decide) (fun K hK=>?_)
           have k7:cd.cell? ⟨ξ,0,none⟩=some (.slice none 0 0):=(Q3 aa.out 0).trans rfl
           have jy:=Q6 aa.out 0
           have im:=aw.out
           have io:=b6.out
           have ip:=ao.out
           have iq:=bw.out
           have ir:=b5.out
           have iu:=bv.out
           have iw:=b0.out
           have ix:=ca.out
           have ke:cd.cell? ⟨ξ,1,none⟩=some (.slice none 0 0):=(Q3 aa.out 1).trans rfl
           have jz:=Q6 aa.out 1
           have iy:=aw.out
           have iz:=b6.out
           have j4:=ao.out
           have j5:=bw.out
           have j6:=b5.out
           have j8:=bv.out
           have j9:=b0.out
           have ja:=ca.out
           refine J0 (w1:=?_) (by rfl) rfl ?_ ?_
           rotate_left
           ·go_simp
            rfl
           refine hK.out _ _ ⟨(by rw[cell_far,cell_far];all_goals (first|(with_reducible exact hHeld.1)|(with_reducible exact aw.out))),(by rw[cell_far,cell_far];all_goals (first|(with_reducible exact hHeld.2)|(with_reducible exact aw.out)))⟩ (fun hHeld=>?_)
           clear hK K
           refine Jc (Yi HT_.out kr) ?_
           obtain⟨an,aj,il⟩:=Kd.Zf HO_9.out
           subst il
           try go_wp2
           have D:Aside0 (Kd.R (Kd.int .u8) 5 ((cd.setCell ⟨ξ,0,none⟩ (.slice au af.length av)).setCell ⟨ξ,1,none⟩ (.slice b3 χ.length b4)) w.heap.size (fun k_=>some k_≠(.slice a8 ah.length a9:Value).ownBlock∧some k_≠(.slice au af.length av:Value).ownBlock∧some k_≠(.slice b3 χ.length b4:Value).ownBlock) (.slice an ψ.length aj) ψ):=⟨by(with_reducible repeat first|apply Kd.Qi|apply Kd.Qh|apply Kd.Ql);exact Kd.Qu (Kd.Qm (Kd.Qm (Kd.Qy HO_9.out aa.out (by decide)) (fun _ hk=>hk.2) _) (fun _ hk=>hk.2) _) (fun _ hk=>⟨hk.1.2.2,⟨hk.1.1,hk.1.2.1⟩⟩)⟩
           have I:Aside0 (Kd.R (Kd.int .u8) 5 ((cd.setCell ⟨ξ,0,none⟩ (.slice au af.length av)).setCell ⟨ξ,1,none⟩ (.slice b3 χ.length b4)) w.heap.size (fun k_=>some k_≠(.slice an ψ.length aj:Value).ownBlock∧some k_≠(.slice au af.length av:Value).ownBlock∧some k_≠(.slice b3 χ.length b4:Value).ownBlock) (.slice a8 ah.length a9) ah):=⟨by(with_reducible repeat first|apply Kd.Qi|apply Kd.Qh|apply Kd.Ql);exact Kd.Qu (Kd.Qm (Kd.Qm (Kd.Qy HO_195003.out aa.out (by decide)) (fun _ hk=>hk.2) _) (fun _ hk=>hk.2) _) (fun _ hk=>⟨hk.1.2.2,⟨hk.1.1,hk.1.2.1⟩⟩)⟩
           have O:Aside0 (Kd.R (Kd.int .u8) 5 ((cd.setCell ⟨ξ,0,none⟩ (.slice au af.length av)).setCell ⟨ξ,1,none⟩ (.slice b3 χ.length b4)) w.heap.size (fun k_=>some k_≠(.slice an ψ.length aj:Value).ownBlock∧some k_≠(.slice a8 ah.length a9:Value).ownBlock∧some k_≠(.slice b3 χ.length b4:Value).ownBlock) (.slice au af.length av) af):=⟨by(with_reducible repeat first|apply Kd.Qi|apply Kd.Qh|apply Kd.Ql);exact Kd.Qu (Kd.Qm (Kd.Qm (Kd.Qy ae.out aa.out (by decide)) (fun _ hk=>hk.2) _) (fun _ hk=>hk.2) _) (fun _ hk=>⟨hk.1.2.2,⟨hk.1.2.1,hk.1.1⟩⟩)⟩
           have U:Aside0 (Kd.R (Kd.int .u8) 5 ((cd.setCell ⟨ξ,0,none⟩ (.slice au af.length av)).setCell ⟨ξ,1,none⟩ (.slice b3 χ.length b4)) w.heap.size (fun k_=>some k_≠(.slice an ψ.length aj:Value).ownBlock∧some k_≠(.slice a8 ah.length a9:Value).ownBlock∧some k_≠(.slice au af.length av:Value).ownBlock) (.slice b3 χ.length b4) χ):=⟨by(with_reducible repeat first|apply Kd.Qi|apply Kd.Qh|apply Kd.Ql);exact Kd.Qu (Kd.Qm (Kd.Qm (Kd.Qy a1.out aa.out (by decide)) (fun _ hk=>hk.2) _) (fun _ hk=>hk.2) _) (fun _ hk=>⟨hk.1.2.2,⟨hk.1.2.1,hk.1.1⟩⟩)⟩
           have ε :Aside0 (((cd.setCell ⟨ξ,0,none⟩ (.slice au af.length av)).setCell ⟨ξ,1,none⟩ (.slice b3 χ.length b4)).heap[b1]?=some (.cells #[.slice γ J.length δ,.slice Y B.length Z] 24 (0,0))):=⟨bka X⟩
           have ν :Aside0 (((cd.setCell ⟨ξ,0,none⟩ (.slice au af.length av)).setCell ⟨ξ,1,none⟩ (.slice b3 χ.length b4)).heap[dl]?=some (.cells #[.int .i64 ζ,.int .i64 κ,.int .i64 μ,.slice a6 η.length a7] 26 (0,0))):=⟨bka ι⟩
           have ρ:Aside0 (((cd.setCell ⟨ξ,0,none⟩ (.slice au af.length av)).setCell ⟨ξ,1,none⟩ (.slice b3 χ.length b4)).heap[ap]?=some (.cells #[.slice none 0 0,.slice none 0 0] 24 (0,0))):=⟨bka τ⟩
           have a4:Aside0 (((cd.setCell ⟨ξ,0,none⟩ (.slice au af.length av)).setCell ⟨ξ,1,none⟩ (.slice b3 χ.length b4)).heap[e0]?=some (.cells #[.int .i64 a3,.int .i64 cg,.int .i64 dw,.slice a8 ah.length a9] 26 (0,0))):=⟨bka ω⟩
           have a5:Aside0 (((cd.setCell ⟨ξ,0,none⟩ (.slice au af.length av)).setCell ⟨ξ,1,none⟩ (.slice b3 χ.length b4)).heap[ξ]?=some (.cells #[.slice au af.length av,.slice b3 χ.length b4] 58 (0,0))):=⟨by refine Qk (cs:=#[.slice au af.length av,.slice none 0 0]) ?_ 1 _ rfl;refine Qk (cs:=#[.slice none 0 0,.slice none 0 0]) ?_ 0 _ rfl;exact aa.out⟩
           have ab:Aside0 (Below w.heap.size w ((cd.setCell ⟨ξ,0,none⟩ (.slice au af.length av)).setCell ⟨ξ,1,none⟩ (.slice b3 χ.length b4))):=⟨bel⟩
           (try clear HO_9)
           (try clear HO_195003)
           (try clear ae)
           (try clear a1)
           (try clear X)
           (try clear ι)
           (try clear τ)
           (try clear ω)
           (try clear aa)
           (try clear HB)
           generalize((cd.setCell ⟨ξ,0,none⟩ (.slice au af.length av)).setCell ⟨ξ,1,none⟩ (.slice b3 χ.length b4))=jw at D I O U ε ν ρ a4 a5 ab ⊢
           have HO_9:=D
           have HO_195003:=I
           have ae:=O
           have a1:=U
           have X:= ε
           have ι := ν
           have τ :=ρ
           have ω :=a4
           have aa:=a5
           have HB:=ab
           clear D I O U ε ν ρ a4 a5 ab
           replace HO_9:=Aside0.mk (Kd.Ql HO_9.out)
           replace HO_195003:=Aside0.mk (Kd.Ql HO_195003.out)
           replace ae:=Aside0.mk (Kd.Ql ae.out)
           replace a1:=Aside0.mk (Kd.Ql a1.out)
           replace X:=Aside0.mk (Qd X.out)
           replace ι :=Aside0.mk (Qd ι.out)
           replace τ :=Aside0.mk (Qd τ.out)
           replace ω :=Aside0.mk (Qd ω.out)
           replace aa:=Aside0.mk (Qd aa.out)
           replace HB:=Aside0.mk (Qf HB.out)
           have hu:((cu):Int)≤((ψ.length:Int):Int):=of_decide_eq_true (by assumption)
           obtain⟨kf,gv,_,ia,_⟩:=info_parts Zx
           have hroom61: ψ.length≤aj:=(Kd.Q4 HO_9.out).2.1
           have hx:Kd.C (Kd.int .u8) _ an ψ.length ψ :=(Kd.Q4 HO_9.out).2.2
           have hy:=Yr (P:=Tryd.prog) 22 5 .i64 Tryd.underlying22 gv an ψ.length aj (cu) (of_decide_eq_true (by assumption)) hu hroom61
           have gt:=Kd.Vr (m:=((cu):Int).toNat) hx (by omega)
           have gu:ai.length=((cu):Int).toNat:=(by rw[f5.out,List.length_take];omega)
           rw[← f5.out] at gt
           rw[← gu] at hy
           have ft:=Aside0.mk gt
           have k0:=Aside0.mk (show ai.length≤aj from by omega)
           clear gt hx hroom61 gv ia
           have kg:=Aside0.mk gu
           clear gu
           have kh:=Aside0.mk (show((cu):Int).toNat ≤ ψ.length from by omega)
           replace hu:=eq_true hu
           cases b2
           ·skip
            refine Yp (n:=11) (S:=fun w'=>True) (ds:=[]) #[false,false,false,false,false,false,false,false,false,false,false] kr rfl rfl trivial (fun hHeld=>?_);refine Xh flash_Write.Ej flash_Write.M7 (fun HT_ HW_=>?_)
            generalize jw.drew=ek at HO_9 HO_195003 ae a1 X ι τ ω aa HB ft hHeld ⊢
            refine qP 0 (some 58) (bN 11 1) HT_ ?_
            refine qP 2 (some 60) (bN 11 5) HT_ ?_
            refine qP 3 (some 61) (bN 11 13) HT_ ?_
            refine qP 4 (some 62) (bN 11 29) HT_ ?_
            refine qP 5 (some 63) (bN 11 61) HT_ ?_
            refine qP 6 (some 64) (bN 11 125) HT_ ?_
            refine qP 7 (some 65) (bN 11 253) HT_ ?_
            refine qP 8 (some 66) (bN 11 509) HT_ ?_
            refine Ye (i:=1) (N:=some 59) (bN 11 511) rfl rfl (Z3 HT_.out kr) (by decide) (fun K hK=>?_)
            refine Mt Tryd.func22 kr rfl #[.pointer (some ⟨ξ,0,none⟩)] (by rfl) rfl rfl rfl qM ?_
            refine(Vz ξ _).mono ?_
            rintro e w' ⟨rfl,hw'⟩
            rw[hw']
            clear hw'
            refine⟨_,rfl, ?_⟩
            refine hK.out _ _ trivial (fun hHeld=>?_)
            clear hK K
            refine qN (some 59) ?_
            refine qP 9 (some 67) (bN 11 1023) HT_ ?_
            refine Ye (i:=10) (N:=none) (bN 11 2047) rfl rfl (Z3 HT_.out kr) (by decide) (fun K hK=>?_)
            have fz:ek.cell? ⟨ξ,1,none⟩=some (.slice b3 χ.length b4):=(Q3 aa.out 1).trans rfl
            have fy:=Q6 aa.out 1
            refine J0 (w1:=?_) (by rfl) rfl ?_ ?_
            rotate_left
            ·go_simp
             rfl
            refine hK.out _ _ trivial (fun hHeld=>?_)
            clear hK K
            refine Jc (Yi HT_.out kr) ?_
            have g1:=Aside0.mk (Kd.Qm (p:=⟨ξ,1,none⟩) (Kd.Qy HO_9.out aa.out (by decide)) (fun _ hk=>hk.2) (.slice an ai.length aj))
            have g7:=Aside0.mk (Kd.Qm (p:=⟨ξ,1,none⟩) (Kd.Qy ae.out aa.out (by decide)) (fun _ hk=>hk.2) (.slice an ai.length aj))
            have f4:Aside0 ((ek.setCell ⟨ξ,1,none⟩ (.slice an ai.length aj)).heap[ξ]?=some (.cells #[.slice au af.length av,.slice an ai.length aj] 58 (0,0))):=⟨Qk (cs:=#[.slice au af.length av,.slice b3 χ.length b4]) aa.out 1 _ rfl⟩
            have e7:Aside0 ((ek.setCell ⟨ξ,1,none⟩ (.slice an ai.length aj)).heap[ap]?=some (.cells #[.slice none 0 0,.slice none 0 0] 24 (0,0))):=⟨Qs τ.out ao.out _⟩
            have g8:Aside0 (Below w.heap.size w (ek.setCell ⟨ξ,1,none⟩ (.slice an ai.length aj))):=⟨Qg HB.out eg.out⟩
            clear fz fy
            clear HO_9
            clear HO_195003
            clear ae
            clear a1
            clear X
            clear ι
            clear τ
            clear ω
            clear aa
            clear HB
            (try clear ft)
            generalize(ek.setCell ⟨ξ,1,none⟩ (.slice an ai.length aj))=ej at g1 g7 f4 e7 g8 ⊢
            have i0:=ao.out
            have i1:=b0.out
            have ib:ej.cell? ⟨ξ,0,none⟩=some (.slice au af.length av):=(Q3 f4.out 0).trans rfl
            have ic:=Q6 f4.out 0
            have ie:ej.cell? ⟨ap,0,none⟩=some (.slice none 0 0):=(Q3 e7.out 0).trans rfl
            have ig:=Q6 e7.out 0
            have ih:ej.cell? ⟨ξ,1,none⟩=some (.slice an ai.length aj):=(Q3 f4.out 1).trans rfl
            have ii:=Q6 f4.out 1
            have ij:ej.cell? ⟨ap,1,none⟩=some (.slice none 0 0):=(Q3 e7.out 1).trans rfl
            have ik:=Q6 e7.out 1
            try go_wp2
            refine bodyPost_ret (Xe rfl _ _ ap 24 #[.slice au af.length av,.slice an ai.length aj] (0,0) _ rfl (by refine Qk (cs:=#[.slice au af.length av,.slice none 0 0]) ?_ 1 _ rfl;refine Qk (cs:=#[.slice none 0 0,.slice none 0 0]) ?_ 0 _ rfl;exact e7.out) Tryd.underlying24 rfl kr) rfl ?_
            have hlen:ai.length ≤ ψ.length:=by rw[f5.out,List.length_take];omega
            have hR:=Kd.Jj g1.out hlen
            have hq: ψ.take ai.length=ai:=by rw[f5.out,List.length_take];exact(List.take_eq_take_iff.2 (by omega))
            rw[hq] at hR
            refine⟨.slice au af.length av,.slice an ai.length aj,by first|rfl|(simp[*];done),Kd.Qu (Kd.Qm (Kd.Qm (Kd.Qy g7.out e7.out (by decide)) (fun _ hk=>hk.2) _) (fun _ hk=>hk.2) _) (fun k_ hk=>?_),Kd.Qu (Kd.Qm (Kd.Qm (Kd.Qy hR e7.out (by decide)) (fun _ hk=>hk.2) _) (fun _ hk=>hk.2) _) (fun k_ hk=>?_),Qg (Qg g8.out ff.out) ff.out⟩
            ·(try rw[K7 an ai.length ψ.length aj])
             first|exact hk.1.1.1.1.1|exact hk.1.1.1.1.2.1|exact hk.1.1.1.1.2.2|exact hk.1.1.1.1|exact hk.1.1.1.2.1|exact hk.1.1.1.2.2|exact hk.1.1.1.2|exact hk.1.1.1|exact hk.1.1.2.1|exact hk.1.1.2.2|exact hk.1.1.2|exact hk.1.1|exact hk.1.2.1|exact hk.1.2.2|exact hk.1|exact hk.2
            ·(try rw[K7 an ai.length ψ.length aj])
             first|exact hk.1.1.1.1.1|exact hk.1.1.1.1.2.1|exact hk.1.1.1.1.2.2|exact hk.1.1.1.1|exact hk.1.1.1.2.1|exact hk.1.1.1.2.2|exact hk.1.1.1.2|exact hk.1.1.1|exact hk.1.1.2.1|exact hk.1.1.2.2|exact hk.1.1.2|exact hk.1.1|exact hk.1.2.1|exact hk.1.2.2|exact hk.1|exact hk.2
           ·skip
            refine Yp (n:=11) (S:=fun w'=>True) (ds:=[]) #[false,false,false,false,false,false,false,false,false,false,false] kr rfl rfl trivial (fun hHeld=>?_);refine Xh flash_Write.Ej flash_Write.M7 (fun HT_ HW_=>?_)
            generalize jw.drew=ek at HO_9 HO_195003 ae a1 X ι τ ω aa HB ft hHeld ⊢
            refine qP 0 (some 58) (bN 11 1) HT_ ?_
            refine qP 2 (some 60) (bN 11 5) HT_ ?_
            refine qP 3 (some 61) (bN 11 13) HT_ ?_
            refine qP 4 (some 62) (bN 11 29) HT_ ?_
            refine qP 5 (some 63) (bN 11 61) HT_ ?_
            refine qP 6 (some 64) (bN 11 125) HT_ ?_
            refine qP 7 (some 65) (bN 11 253) HT_ ?_
            refine qP 8 (some 66) (bN 11 509) HT_ ?_
            refine Ye (i:=1) (N:=some 59) (bN 11 511) rfl rfl (Z3 HT_.out kr) (by decide) (fun K hK=>?_)
            refine Mt Tryd.func23 kr rfl #[.pointer (some ⟨ξ,0,none⟩)] (by rfl) rfl rfl rfl qM ?_
            refine(V0 ξ _).mono ?_
            rintro e w' ⟨rfl,hw'⟩
            rw[hw']
            clear hw'
            refine⟨_,rfl, ?_⟩
            refine hK.out _ _ trivial (fun hHeld=>?_)
            clear hK K
            refine qN (some 59) ?_
            refine qP 9 (some 67) (bN 11 1023) HT_ ?_
            refine Ye (i:=10) (N:=none) (bN 11 2047) rfl rfl (Z3 HT_.out kr) (by decide) (fun K hK=>?_)
            have fz:ek.cell? ⟨ξ,0,none⟩=some (.slice au af.length av):=(Q3 aa.out 0).trans rfl
            have fy:=Q6 aa.out 0
            refine J0 (w1:=?_) (by rfl) rfl ?_ ?_
            rotate_left
            ·go_simp
             rfl
            refine hK.out _ _ trivial (fun hHeld=>?_)
            clear hK K
            refine Jc (Yi HT_.out kr) ?_
            have g1:=Aside0.mk (Kd.Qm (p:=⟨ξ,0,none⟩) (Kd.Qy HO_9.out aa.out (by decide)) (fun _ hk=>hk.2) (.slice an ai.length aj))
            have g7:=Aside0.mk (Kd.Qm (p:=⟨ξ,0,none⟩) (Kd.Qy a1.out aa.out (by decide)) (fun _ hk=>hk.2) (.slice an ai.length aj))
            have f4:Aside0 ((ek.setCell ⟨ξ,0,none⟩ (.slice an ai.length aj)).heap[ξ]?=some (.cells #[.slice an ai.length aj,.slice b3 χ.length b4] 58 (0,0))):=⟨Qk (cs:=#[.slice au af.length av,.slice b3 χ.length b4]) aa.out 0 _ rfl⟩
            have e7:Aside0 ((ek.setCell ⟨ξ,0,none⟩ (.slice an ai.length aj)).heap[ap]?=some (.cells #[.slice none 0 0,.slice none 0 0] 24 (0,0))):=⟨Qs τ.out ao.out _⟩
            have g8:Aside0 (Below w.heap.size w (ek.setCell ⟨ξ,0,none⟩ (.slice an ai.length aj))):=⟨Qg HB.out eg.out⟩
            clear fz fy
            clear HO_9
            clear HO_195003
            clear ae
            clear a1
            clear X
            clear ι
            clear τ
            clear ω
            clear aa
            clear HB
            (try clear ft)
            generalize(ek.setCell ⟨ξ,0,none⟩ (.slice an ai.length aj))=ej at g1 g7 f4 e7 g8 ⊢
            have i0:=ao.out
            have i1:=b0.out
            have ib:ej.cell? ⟨ξ,0,none⟩=some (.slice an ai.length aj):=(Q3 f4.out 0).trans rfl
            have ic:=Q6 f4.out 0
            have ie:ej.cell? ⟨ap,0,none⟩=some (.slice none 0 0):=(Q3 e7.out 0).trans rfl
            have ig:=Q6 e7.out 0
            have ih:ej.cell? ⟨ξ,1,none⟩=some (.slice b3 χ.length b4):=(Q3 f4.out 1).trans rfl
            have ii:=Q6 f4.out 1
            have ij:ej.cell? ⟨ap,1,none⟩=some (.slice none 0 0):=(Q3 e7.out 1).trans rfl
            have ik:=Q6 e7.out 1
            try go_wp2
            refine bodyPost_ret (Xe rfl _ _ ap 24 #[.slice an ai.length aj,.slice b3 χ.length b4] (0,0) _ rfl (by refine Qk (cs:=#[.slice an ai.length aj,.slice none 0 0]) ?_ 1 _ rfl;refine Qk (cs:=#[.slice none 0 0,.slice none 0 0]) ?_ 0 _ rfl;exact e7.out) Tryd.underlying24 rfl kr) rfl ?_
            have hlen:ai.length ≤ ψ.length:=by rw[f5.out,List.length_take];omega
            have hR:=Kd.Jj g1.out hlen
            have hq: ψ.take ai.length=ai:=by rw[f5.out,List.length_take];exact(List.take_eq_take_iff.2 (by omega))
            rw[hq] at hR
            refine⟨.slice an ai.length aj,.slice b3 χ.length b4,by first|rfl|(simp[*];done),Kd.Qu (Kd.Qm (Kd.Qm (Kd.Qy hR e7.out (by decide)) (fun _ hk=>hk.2) _) (fun _ hk=>hk.2) _) (fun k_ hk=>?_),Kd.Qu (Kd.Qm (Kd.Qm (Kd.Qy g7.out e7.out (by decide)) (fun _ hk=>hk.2) _) (fun _ hk=>hk.2) _) (fun k_ hk=>?_),Qg (Qg g8.out ff.out) ff.out⟩
            ·(try rw[K7 an ai.length ψ.length aj])
             first|exact hk.1.1.1.1.1|exact hk.1.1.1.1.2.1|exact hk.1.1.1.1.2.2|exact hk.1.1.1.1|exact hk.1.1.1.2.1|exact hk.1.1.1.2.2|exact hk.1.1.1.2|exact hk.1.1.1|exact hk.1.1.2.1|exact hk.1.1.2.2|exact hk.1.1.2|exact hk.1.1|exact hk.1.2.1|exact hk.1.2.2|exact hk.1|exact hk.2
            ·(try rw[K7 an ai.length ψ.length aj])
             first|exact hk.1.1.1.1.1|exact hk.1.1.1.1.2.1|exact hk.1.1.1.1.2.2|exact hk.1.1.1.1|exact hk.1.1.1.2.1|exact hk.1.1.1.2.2|exact hk.1.1.1.2|exact hk.1.1.1|exact hk.1.1.2.1|exact hk.1.1.2.2|exact hk.1.1.2|exact hk.1.1|exact hk.1.2.1|exact hk.1.2.2|exact hk.1|exact hk.2
          ·rw[if_neg fc] at H
           exact absurd H (by simp)
         ·rw[if_neg jc] at H
          exact absurd H (by simp)
 ·rw[if_neg c5] at H
  have c5b0:(ei==0)=false:=beq_eq_false_iff_ne.mpr c5
  have c5b1:(ei != 0)=true:=bne_iff_ne.mpr c5
  simp only[Option.some.injEq,Prod.mk.injEq] at H
  obtain⟨rfl,rfl,rfl,rfl⟩:=H
  go_enter Tryd.func11,Tryd.ntmps11
  go_wp2_with (first|((with_reducible refine Qz (N:=3) rfl ?_);refine qE 3 #[.slice γ J.length δ,.slice Y B.length Z] 24 ?_;intro b1 hg ki hbox hb;have X:=Aside0.mk hbox;have i4:=sGe hg;have i5:=sGe hg;replace HB:=sHb hb;clear hb hbox hg)|((with_reducible refine Qz (N:=4) rfl ?_);refine qE 4 #[.int .i64 ζ,.int .i64 κ,.int .i64 μ,.slice a6 η.length a7] 26 ?_;intro dl hg kl hbox hb;have ι :=Aside0.mk hbox;have i6:=sGe hg;have i7:=sGe hg;have ea:=sNl X hg;have eb:=sNg X hg;replace X:=sBk X hb;replace HB:=sHb hb;clear hb hbox hg)|((with_reducible refine Qz (N:=6) rfl ?_);refine qE 6 #[.slice none 0 0,.slice none 0 0] 24 ?_;intro ap hg km hbox hb;have τ :=Aside0.mk hbox;have i9:=sGe hg;have ff:=sGe hg;have ec:=sNl X hg;have ee:=sNg X hg;have e3:=sNl ι hg;have e6:=sNg ι hg;replace X:=sBk X hb;replace ι :=sBk ι hb;replace HB:=sHb hb;clear hb hbox hg;have i2:=eb.out;have i3:=ea.out;have k1:=e3.out;have k2:=e6.out;obtain⟨jb,jd,jg,jh,ji,jj,jk,jl⟩:=qD4 ι.out)|((with_reducible refine Qv (f:=18) rfl ?_);refine Ze (some 19) rfl rfl Tryd.func18 kr rfl #[.agg #[.int .i64 ζ,.int .i64 κ,.int .i64 μ,.slice a6 η.length a7]] rfl qM ?_;(with_reducible refine(flash_Code.calls k ζ κ μ _ _ η ψ ei _ ?side1 ?side2 A4.out (by first|exact HTAB.out|((repeat(first|exact HTAB.out|(with_reducible refine Laid.Zo ?_ _)|(with_reducible refine Laid.Zn ?_ _)|(with_reducible refine Laid.Zq ?_)));done)|(refine Laid.Zk HTAB.out ?_;(repeat(first|(with_reducible first|exact HB.out|apply Qe|apply Qa|apply Qf)|exact HB.out|(refine Qg ?_ (Aside0.out (by assumption)))))))).mono ?_);(case side1=>exact(Kd.Zb d5.out HB.out));(case side2=>exact d6.out);rintro e kn ⟨cq,rfl,θ,hb⟩;refine⟨_,rfl, ?_⟩;have ef:=Aside0.mk (Kd.Zd θ (Qj HB.out));replace X:=sBk X hb;replace ι :=sBk ι hb;replace τ :=sBk τ hb;replace HB:=sHb hb;(try clear hb);(try clear az);(try clear hk);(try clear hi);(try clear θ);have mz:=ee.out;have n0:=ec.out;obtain⟨l9,lb,lc,lf⟩:=qD2 τ.out))
  refine bodyPost_ret (Xe rfl _ _ ap 24 #[.slice none 0 0,.slice none 0 0] (0,0) _ rfl (by refine Qk (cs:=#[.slice none 0 0,.slice none 0 0]) ?_ 1 _ rfl;refine Qk (cs:=#[.slice none 0 0,.slice none 0 0]) ?_ 0 _ rfl;exact τ.out) Tryd.underlying24 rfl kr) rfl ?_
  exact⟨_,_,by first|rfl|(simp[Qo,Qn] <;> rfl)|(simp[*,Qo,Qn] <;> rfl),by first|exact Kd.Z1 _ _ _ _ _|exact Kd.X4 _ _ _ _ _|exact Kd.X1 _ _ _ _ _|exact Kd.X3 _ _ _ _ _|exact Kd.X2 _ _ _ _ _,by first|exact Kd.Z1 _ _ _ _ _|exact Kd.X4 _ _ _ _ _|exact Kd.X1 _ _ _ _ _|exact Kd.X3 _ _ _ _ _|exact Kd.X2 _ _ _ _ _,bel⟩
end Go.Proofs.YtickbejailcehaaDoor.C
namespace Go.Proofs.YtickbejailcehaaDoor.Flash
open Go.RowKit Go.Proofs.YtickbejailcehaaDoorW.PrintWords Go.Proofs.YtickbejailcehaaDoorW.PrintLast Go.Proofs.YtickbejailcehaaDoorW.PrintMore Go.Proofs.YtickbejailcehaaDoor.C
open Go.Proofs.YtickbejailcehaaDoor.Wire (In pt Yk Z9 Zt)
open Go.Proofs.YtickbejailcehaaDoor.Crc (Yg Yh By)
set_option linter.unusedVariables false
def Jp (g m:Int) (n:Nat):Bool:=decide (1≤g∧g≤1099511627776∧0≤m∧m≤5∧n≤4096)
theorem Uz (g c m:Int) (l:List Int):flash_may.f g c m l=some (Jp g m l.length):=by
  unfold flash_may.f Jp
  by_cases h1:g≥1
  · rw[if_pos h1]
    by_cases D:g≤1099511627776
    · rw[if_pos D]
      by_cases O:m≥0
      · rw[if_pos O]
        by_cases X:m≤5
        · rw[if_pos X]
          congr 1
          rw[decide_eq_decide]
          omega
        · rw[if_neg X,decide_eq_false (by omega)]
      · rw[if_neg O,decide_eq_false (by omega)]
    · rw[if_neg D,decide_eq_false (by omega)]
  · rw[if_neg h1,decide_eq_false (by omega)]
theorem Wj (g c m:Int) (l:List Int):newelref12_May.f g c m l=some (Jp g m l.length):=Uz g c m l
def X8 (g c m:Int) (n:Nat):List Int:=Yk [g,c,m]++pt (n:Int)
def Xt (g c m:Int) (l:List Int):List Int:=Yg (X8 g c m l.length++l)
theorem Gm (g c m:Int) (n:Nat):(X8 g c m n).length≤50:=by
  have h1:=Wire.Gk [g,c,m]
  have D:=Wire.Y8 (n:Int)
  unfold X8
  simp only[List.length_append,List.length_cons,List.length_nil] at *
  omega
theorem Gq (g c m:Int) (l:List Int):(Xt g c m l).length=(X8 g c m l.length).length+l.length+2:=by
  unfold Xt
  rw[Crc.Kg,List.length_append]
theorem in3 {g c m:Int} (hg:In g) (hc:In c) (hm:In m):∀ x ∈ [g,c,m],In x:=by
  intro x hx
  simp only[List.mem_cons,List.not_mem_nil,or_false] at hx
  rcases hx with rfl|rfl|rfl <;> assumption
theorem Vg {n:Nat} (h:n≤1000000000):In (n:Int):=by unfold In;omega
theorem N6 {g c m:Int} {n:Nat} (hg:In g) (hc:In c) (hm:In m) (hn:n≤1000000000):∀ x ∈ X8 g c m n,By x:=by
  intro x hx
  unfold X8 at hx
  rcases List.mem_append.1 hx with h|h
  · exact Wire.Nn (in3 hg hc hm) (by simp) x h
  · exact Wire.L6 (Vg hn) x h
theorem Ga {g c m:Int} {l:List Int} (hg:In g) (hc:In c) (hm:In m) (hb:∀ x ∈ l,By x) (hl:l.length≤1000000):∀ x ∈ X8 g c m l.length++l,By x:=by
  intro x hx
  rcases List.mem_append.1 hx with h|h
  · exact N6 hg hc hm (by omega) x h
  · exact hb x h
theorem Ea {g c m:Int} {l:List Int} (hg:In g) (hc:In c) (hm:In m) (hb:∀ x ∈ l,By x) (hl:l.length≤1000000):∀ x ∈ Xt g c m l,By x:=Crc.V1 (Ga hg hc hm hb hl)
def Wn (g c m:Int) (l:List Int):List Int×Int:=if Jp g m l.length=true then (Xt g c m l,0) else ([],120)
theorem K8 {g c m:Int} {l:List Int} (hg:In g) (hc:In c) (hm:In m) (hb:∀ x ∈ l,By x) (hl:l.length≤1000000) (k:Nat) (hk:l.length+100<k):flash_Code.f k g c m l=some (Wn g c m l):=by
  unfold flash_Code.f Wn
  rw[Uz]
  simp only[Option.bind_some]
  by_cases h:Jp g m l.length=true
  · rw[if_pos h,if_pos h,Wire.Ew _ (in3 hg hc hm) (by simp) k (by simp;omega),Wire.put_eq _ (Vg (by omega))]
    simp only[Option.bind_some]
    have h1:=Wire.Gk [g,c,m]
    have D:=Wire.Y8 (l.length:Int)
    simp only[List.length_cons,List.length_nil] at h1
    rw[show leb 9 (Wire.Yj (l.length:Int))=pt (l.length:Int) from rfl,if_pos (by omega),if_pos (by simp only[List.length_append];omega)]
    have hd:=Gm g c m l.length
    rw[show Yk [g,c,m]++pt (l.length:Int)=X8 g c m l.length from rfl,Crc.Nm _ (Ga hg hc hm hb hl) (by simp only[List.length_append];omega) k (by simp only[List.length_append];omega)]
    rfl
  · rw[if_neg h,if_neg h]
def Z6 (l:List Int):Int×Int×Int×List Int×Int:=
  if (Zt l 0 3).2.2=0 then
    (if (Zt l 0 3).1.length=3∧Jp (rd (Zt l 0 3).1 0) (rd (Zt l 0 3).1 2) 0=true then
      (if (Z9 l (Zt l 0 3).2.1).2.2=0 then
        (if (Z9 l (Zt l 0 3).2.1).1<0∨4096<(Z9 l (Zt l 0 3).2.1).1 then (0,0,0,[],120) else
          if (l.length:Int) - (Z9 l (Zt l 0 3).2.1).2.1-2<(Z9 l (Zt l 0 3).2.1).1 then (0,0,0,[],121) else
          if (l.length:Int) - (Z9 l (Zt l 0 3).2.1).2.1-2>(Z9 l (Zt l 0 3).2.1).1 then (0,0,0,[],122) else
          if (Yh l).2=0 then (rd (Zt l 0 3).1 0,rd (Zt l 0 3).1 1,rd (Zt l 0 3).1 2,(l.drop (Z9 l (Zt l 0 3).2.1).2.1.toNat).take (Z9 l (Zt l 0 3).2.1).1.toNat,0) else (0,0,0,[],(Yh l).2))
      else (0,0,0,[],(Z9 l (Zt l 0 3).2.1).2.2))
    else (0,0,0,[],120))
  else (0,0,0,[],(Zt l 0 3).2.2)
theorem U3 (l:List Int) (n:Nat) (h:n≤l.length):Ky l (List.replicate n 0)=l.take n:=by
  unfold Ky
  rw[List.length_replicate,Nat.min_eq_right h,List.drop_of_length_le (by simp),List.append_nil]
theorem J2 (l:List Int) (hb:∀ x ∈ l,By x) (hl:l.length≤1000000) (k:Nat) (hk:l.length+100<k):flash_Read.f k l=some (Z6 l):=by
  obtain⟨k,rfl⟩:∃ m,k=m+2:=⟨k-2,by omega⟩
  unfold flash_Read.f Z6
  rw[Wire.Lg l hb (by omega) 0 3 (by decide) (k+2) (by omega)]
  simp only[Option.bind_some]
  generalize Zt l 0 3=p
  obtain⟨q,at_,e⟩:=p
  dsimp only
  by_cases I:e=0
  case neg=>rw[if_neg I,if_neg I]
  rw[if_pos I,if_pos I]
  by_cases h1:q.length=3
  case neg=>
    rw[if_neg (by omega),if_neg (fun x=>h1 x.1)]
    simp only[flash_Read.j0]
    rw[if_pos trivial]
  rw[if_pos (by omega),if_pos (by omega),if_pos (by omega),Uz]
  simp only[Option.bind_some,List.length_nil,flash_Read.j0]
  cases D:Jp (rd q 0) (rd q 2) 0
  case false=>
    rw[if_pos (by decide),if_neg (fun x=>Bool.noConfusion x.2)]
  rw[if_neg (by decide),if_pos ⟨h1,rfl⟩,Wire.U2 l hb (by omega) at_ (k+1) (by omega)]
  simp only[Option.bind_some]
  have hg:=Wire.G5 l hb at_
  generalize Z9 l at_=p at *
  obtain⟨n,at2,U⟩:=p
  dsimp only at hg ⊢
  by_cases O:U=0
  case neg=>rw[if_neg O,if_neg O]
  obtain⟨X,B,Y,_,_⟩:=hg O
  have w1:wrap64 ((wrap64 ((l.length:Int)-at2))-2)=(l.length:Int)-at2-2:=by
    rw[show wrap64 ((l.length:Int)-at2)=(l.length:Int)-at2 from by unfold wrap64;omega]
    unfold wrap64;omega
  have w2:∀ b:Bool,b=decide (n<0∨4096<n)→flash_Read.j1 (k+1) l q at2 n ((l.length:Int)-at2-2) b=some (if n<0∨4096<n then (0,0,0,[],120) else
          if (l.length:Int)-at2-2<n then (0,0,0,[],121) else
          if (l.length:Int)-at2-2>n then (0,0,0,[],122) else
          if (Yh l).2=0 then (rd q 0,rd q 1,rd q 2,(l.drop at2.toNat).take n.toNat,0) else (0,0,0,[],(Yh l).2)):=by
    intro b hbb
    simp only[flash_Read.j1]
    by_cases c:n<0∨4096<n
    · rw[hbb,decide_eq_true c,if_pos rfl,if_pos c]
    rw[hbb,decide_eq_false c,if_neg (by decide),if_neg c]
    by_cases c1:(l.length:Int)-at2-2<n
    · rw[if_pos c1,if_pos c1]
    rw[if_neg c1,if_neg c1]
    by_cases c2:(l.length:Int)-at2-2>n
    · rw[if_pos c2,if_pos c2]
    rw[if_neg c2,if_neg c2,Crc.Nw l hb (by omega) k (by omega)]
    simp only[Option.bind_some]
    by_cases c3:(Yh l).2=0
    · rw[if_pos c3,if_pos c3,if_pos (by omega),if_pos (by omega),if_pos (by omega),if_pos (by omega),if_pos (by omega),if_pos (by omega),if_pos (by omega),U3 _ _ (by rw[List.length_drop];omega)]
    · rw[if_neg c3,if_neg c3]
  rw[if_pos O,if_pos O,w1]
  by_cases c:n<0
  · rw[if_pos c]
    exact w2 true (decide_eq_true (.inl c)).symm
  · rw[if_neg c]
    refine w2 _ ?_
    rw[decide_eq_decide]
    omega
theorem Mk {g m:Int} {n:Nat} (h:Jp g m n=true):1≤g∧g≤1099511627776∧0≤m∧m≤5∧n≤4096:=of_decide_eq_true h
theorem Mj {g m:Int} {n:Nat} (h:Jp g m n=true):Jp g m 0=true:=by
  have:=Mk h
  exact decide_eq_true ⟨by omega,by omega,by omega,by omega,by omega⟩
theorem Ms {g c m:Int} (hg:In g) (hc:In c) (hm:In m) (tail:List Int):Zt (Yk [g,c,m]++tail) 0 3=([g,c,m],((Yk [g,c,m]).length:Int),0):=
  Wire.Vi [g,c,m] tail (in3 hg hc hm) (by simp) 3 (by simp)
theorem W7 {g c m:Int} {l:List Int} (hg:In g) (hc:In c) (hm:In m) (hb:∀ x ∈ l,By x) (h:Jp g m l.length=true):Z6 (Xt g c m l)=(g,c,m,l,0):=by
  obtain⟨_,_,_,_,hl⟩:=Mk h
  have e:Xt g c m l=Yk [g,c,m]++(pt (l.length:Int)++(l ++ [Crc.hiB (Crc.Xw Crc.F (X8 g c m l.length++l)),Crc.loB (Crc.Xw Crc.F (X8 g c m l.length++l))])):=by
    unfold Xt Yg X8
    simp only[List.append_assoc]
  have r1:=Ms hg hc hm (pt (l.length:Int)++(l ++ [Crc.hiB (Crc.Xw Crc.F (X8 g c m l.length++l)),Crc.loB (Crc.Xw Crc.F (X8 g c m l.length++l))]))
  have r2:=Wire.Vh (Vg (show l.length≤1000000000 by omega)) (Yk [g,c,m]) (l ++ [Crc.hiB (Crc.Xw Crc.F (X8 g c m l.length++l)),Crc.loB (Crc.Xw Crc.F (X8 g c m l.length++l))])
  rw[← e] at r1 r2
  have r3:Yh (Xt g c m l)=(X8 g c m l.length++l,0):=Crc.W9 _ (Ga hg hc hm hb (by omega))
  have r4:(Xt g c m l).length=(Yk [g,c,m]).length+(pt (l.length:Int)).length+l.length+2:=by
    rw[Gq];unfold X8;rw[List.length_append]
  unfold Z6
  rw[r1]
  dsimp only
  rw[if_pos rfl,if_pos ⟨rfl,Mj h⟩,r2]
  dsimp only
  rw[if_pos rfl,if_neg (by omega),if_neg (by omega),if_neg (by omega),r3]
  dsimp only
  rw[if_pos rfl]
  have d:((Xt g c m l).drop (((Yk [g,c,m]).length:Int)+((pt (l.length:Int)).length:Int)).toNat).take ((l.length:Int)).toNat=l:=by
    rw[Int.toNat_natCast,show(((Yk [g,c,m]).length:Int)+((pt (l.length:Int)).length:Int)).toNat=(X8 g c m l.length).length from by unfold X8;rw[List.length_append];omega]
    unfold Xt Yg
    rw[List.append_assoc,List.drop_left,List.take_left']
    rfl
  rw[d]
  rfl
end Go.Proofs.YtickbejailcehaaDoor.Flash
namespace Go.Proofs.YtickbejailcehaaDoor.C
open Go.RowKit Go.Proofs.YtickbejailcehaaDoorW.PrintWords Go.Proofs.YtickbejailcehaaDoorW.PrintLast Go.Proofs.YtickbejailcehaaDoorW.PrintMore
attribute [local go_sem] Xm Xk X0 Xz Xc Xb Xl Xj
set_option linter.unusedVariables false
set_option linter.unusedSimpArgs false
def newellaw12_awake.j0:Nat→List Int→Bool→Int→Int→Int→Option (Bool)
 |0,_,_,_,_,_=>none
 |k+1,x2,J,B,D,I=>if J=true then (none) else ((flash_Read.f k x2).bind fun ai=>((flash_Write.f k ([]:List Int) ([]:List Int) B D I ([]:List Int) 99).bind fun au=>((flash_Recover.f k au.1 au.2.1).bind fun κ =>(if 5≤(x2.length:Int) then ((newelref08_Same.f k (x2.take 5) (([6,2,0,6,0]:List Int))).bind fun av=>(if av=true then ((flash_Same.f ai.1 ai.2.1 ai.2.2.1 ai.2.2.2.1 B D I ([]:List Int)).bind fun ap=>(if ap=true then (if ai.2.2.2.2=0 then (if au.2.2.1=true then (if au.2.2.2=0 then ((flash_Same.f κ.1 κ.2.1 κ.2.2.1 κ.2.2.2.1 B D I ([]:List Int)).bind fun ae=>(if ae=true then (if κ.2.2.2.2.1=true then (none) else (if κ.2.2.2.2.2=0 then ((flash_Same.f ai.1 ai.2.1 ai.2.2.1 ai.2.2.2.1 0 0 0 ([]:List Int)).bind fun σ=>(some (!σ))) else (none))) else (none))) else (none)) else (none)) else (none)) else (none))) else (none))) else (none)))))
def newellaw12_awake.f (k:Nat):Option (Bool):=(flash_Code.f k 1 0 3 ([]:List Int)).bind fun ag=>(if (ag.1.length:Int)=7 then (newellaw12_awake.j0 k ag.1 (ag.2 != 0) 1 0 3) else (none))
theorem newellaw12_awake.Zl:∀ k,(∀ B I J U Y,LeO (newellaw12_awake.j0 k B I J U Y) (newellaw12_awake.j0 (k+1) B I J U Y))
 |0=>fun _ _ _ _ _ r h=>by simp[newellaw12_awake.j0] at h
 |k+1=>by
  have D:=newellaw12_awake.Zl k
  ·intro B I J U Y
   unfold newellaw12_awake.j0
   repeat' first
   |(with_reducible exact D _ _ _ _ _)
   |(with_reducible exact flash_Code.mono _ _ _ _ _)
   |(with_reducible exact flash_Read.mono _ _)
   |(with_reducible exact flash_Recover.mono _ _ _)
   |(with_reducible exact flash_Write.mono _ _ _ _ _ _ _ _)
   |(with_reducible exact newelref08_Same.mono _ _ _)
   |(with_reducible exact LeO.refl _)
   |(with_reducible exact LeO.none _)
   |(with_reducible refine LeO.ite ?_ ?_)
   |(with_reducible refine LeO.bind ?_ (fun _=>?_))
   |exact D _ _ _ _ _
   |exact flash_Code.mono _ _ _ _ _
   |exact flash_Read.mono _ _
   |exact flash_Recover.mono _ _ _
   |exact flash_Write.mono _ _ _ _ _ _ _ _
   |exact newelref08_Same.mono _ _ _
   |exact LeO.none _
   |refine LeO.ite ?_ ?_
   |refine LeO.bind ?_ (fun _=>?_)
theorem newellaw12_awake.mono:∀ k,LeO (newellaw12_awake.f k) (newellaw12_awake.f (k+1)):=by
 intro  k
 have D:=newellaw12_awake.Zl k
 unfold newellaw12_awake.f
 repeat' first
   |(with_reducible exact D _ _ _ _ _)
   |(with_reducible exact flash_Code.mono _ _ _ _ _)
   |(with_reducible exact flash_Read.mono _ _)
   |(with_reducible exact flash_Recover.mono _ _ _)
   |(with_reducible exact flash_Write.mono _ _ _ _ _ _ _ _)
   |(with_reducible exact newelref08_Same.mono _ _ _)
   |(with_reducible exact LeO.refl _)
   |(with_reducible exact LeO.none _)
   |(with_reducible refine LeO.ite ?_ ?_)
   |(with_reducible refine LeO.bind ?_ (fun _=>?_))
   |exact D _ _ _ _ _
   |exact flash_Code.mono _ _ _ _ _
   |exact flash_Read.mono _ _
   |exact flash_Recover.mono _ _ _
   |exact flash_Write.mono _ _ _ _ _ _ _ _
   |exact newelref08_Same.mono _ _ _
   |exact LeO.none _
   |refine LeO.ite ?_ ?_
   |refine LeO.bind ?_ (fun _=>?_)
theorem flash_Same.Ji (J:Int) (Y:Int) (X:Int) (Z:Option Addr) (γ:Nat) (B:List Int) (ζ :Int) (κ :Int) (μ :Int) (r:Bool) (w:World) (ι :Kd.C (Kd.int .u8) w Z B.length B) (ξ :B.length≤γ) (h:flash_Same.f J Y X B ζ κ μ ([]:List Int)=some r):
  Calls Tryd.prog 20 #[.agg #[.int .i64 J,.int .i64 Y,.int .i64 X,.slice Z B.length γ],.agg #[.int .i64 ζ,.int .i64 κ,.int .i64 μ,.slice none 0 0]] w fun e w'=>e = .returned (.bool r)∧Below w.heap.size w w':=
 flash_Same.calls J Y X Z γ B ζ κ μ none 0 [] r w ι ξ (Kd.Jt _ _) (Nat.le_refl _) h
set_option maxHeartbeats 8000000 in
set_option maxRecDepth 100000 in
theorem newellaw12_awake.calls (k:Nat)  (r:Bool) (w:World) (h:newellaw12_awake.f k=some r) (ht_:Laid.TabAt w):
  Calls Tryd.prog 10 #[] w fun e w'=>e = .returned (.bool r)∧Below w.heap.size w w':=by
 have HTAB:=Aside0.mk ht_
 clear ht_
 have dz:=Tryd.underlying26
 have iv:=Tryd.underlying24
 have HB:=Aside0.mk (Below.refl w.heap.size w)
 have H:((flash_Code.f k 1 0 3 ([]:List Int)).bind fun ag=>(if (ag.1.length:Int)=7 then (newellaw12_awake.j0 k ag.1 (ag.2 != 0) 1 0 3) else (none)))=some r:=h
 clear h
 replace H:=Option.bind_eq_some_iff.mp H
 obtain⟨⟨a3,ah⟩,bi,H⟩:=H
 replace H:(if (a3.length:Int)=7 then (newellaw12_awake.j0 k a3 (ah != 0) 1 0 3) else (none))=some r:=H
 have A1:=Aside0.mk bi
 clear bi
 have bw:=Aside0.mk H
 clear H
 go_enter Tryd.func10,Tryd.ntmps10
 go_upto_region 3 with(first|((with_reducible refine Qz (N:=1) rfl ?_);refine Q7 ?hg (N:=1) ?hd (cs:=#[.int .i64 0,.int .i64 0,.int .i64 0,.slice none 0 0]) (t:=26) ?hr ?_;(case hd=>rfl);(case hg=>rfl);(case hr=>first|(go_simp;done)|(go_simp;rfl));intro μ hg w3 hbox hb;have D:=Aside0.mk (Qr (by repeat(first|(with_reducible first|exact HB.out|apply Qe|apply Qa|apply Qf)|exact HB.out)) hb);have I:=Aside0.mk (hbox);have O:=Aside0.mk ((by rw[hg];exact(Qj (by repeat(first|(with_reducible first|exact HB.out|apply Qe|apply Qa|apply Qf)|exact HB.out))):w.heap.size ≤ μ));have U:=Aside0.mk ((by rw[hg];exact(Qj (by repeat(first|(with_reducible first|exact HB.out|apply Qe|apply Qa|apply Qf)|exact HB.out))):w.heap.size ≤ μ));clear HB;have HB:=D;have B:=I;have gf:=O;have ξ :=U;clear D I O U;clear hb hbox hg;obtain⟨ch,ci,er,ez,ck,cu,f4,fb⟩:=qD4 B.out)|((with_reducible refine Qv (f:=18) rfl ?_);refine Ze (some 15) rfl rfl Tryd.func18 kr rfl #[.agg #[.int .i64 1,.int .i64 0,.int .i64 3,.slice none 0 0]] rfl (by(try simp only[List.map_toArray,List.map_cons,List.map_nil]);first|done|rfl|(simp only[List.length_drop,List.length_take];rfl)) ?_;(refine(flash_Code.calls k 1 0 3 _ _ ([]:List Int) a3 ah _ ?side1 ?side2 A1.out (by first|exact HTAB.out|((repeat(first|exact HTAB.out|(with_reducible refine Laid.Zo ?_ _)|(with_reducible refine Laid.Zn ?_ _)|(with_reducible refine Laid.Zq ?_)));done)|(refine Laid.Zk HTAB.out ?_;(repeat(first|(with_reducible first|exact HB.out|apply Qe|apply Qa|apply Qf)|exact HB.out|(refine Qg ?_ (Aside0.out (by assumption)))))))).mono ?_);(case side1=>exact Kd.Jt _ _);(case side2=>exact Nat.le_refl _);rintro e w5 ⟨fv,rfl,θ,hb⟩;refine⟨_,rfl, ?_⟩;have D:=Aside0.mk (Kd.Zd θ (Qj (by repeat(first|(with_reducible first|exact HB.out|apply Qe|apply Qa|apply Qf|refine Qg ?_ ξ.out)|exact HB.out))));have I:=Aside0.mk (Qp (g:= μ) (o:=.cells #[.int .i64 1,.int .i64 0,.int .i64 3,.slice none 0 0] 26 (0,0)) (by(with_reducible repeat first|apply Qb|apply Qd|apply Qc);refine Qk (cs:=#[.int .i64 1,.int .i64 0,.int .i64 3,.slice none 0 0]) ?_ 3 _ rfl;(with_reducible repeat first|apply Qb|apply Qd|apply Qc);refine Qk (cs:=#[.int .i64 1,.int .i64 0,.int .i64 0,.slice none 0 0]) ?_ 2 _ rfl;(with_reducible repeat first|apply Qb|apply Qd|apply Qc);refine Qk (cs:=#[.int .i64 1,.int .i64 0,.int .i64 0,.slice none 0 0]) ?_ 1 _ rfl;(with_reducible repeat first|apply Qb|apply Qd|apply Qc);refine Qk (cs:=#[.int .i64 0,.int .i64 0,.int .i64 0,.slice none 0 0]) ?_ 0 _ rfl;(with_reducible repeat first|apply Qb|apply Qd|apply Qc);exact B.out) hb);have O:=Aside0.mk (Qr (by repeat(first|(with_reducible first|exact HB.out|apply Qe|apply Qa|apply Qf|refine Qg ?_ ξ.out)|exact HB.out)) hb);clear B;clear HB;have dw:=D;have B:=I;have HB:=O;clear D I O;(try clear hb);(try clear az);(try clear hk);(try clear hi);(try clear θ)))
 (try simp only[Act.put,qS])
 go_cut [24] (fun g9 wc=>∃ (kq:Nat) (bv:Bool),g9 = .bool bv∧Aside0 (newellaw12_awake.j0 kq a3 bv 1 0 3=some r)∧Aside0 (kq≤k)∧Aside0 (Kd.R (Kd.int .u8) 5 wc w.heap.size (fun _=>True) fv a3)∧Aside0 (wc.heap[μ]?=some (.cells #[.int .i64 1,.int .i64 0,.int .i64 3,(.slice none 0 0)] 26 (0,0)))∧Aside0 (Below w.heap.size w wc))
 case first=>
  have H:=bw.out
  clear bw
  by_cases c6:(a3.length:Int)=7
  ·rw[if_pos c6] at H
   have c6b0:((a3.length:Int)==7)=true:=beq_iff_eq.mpr c6
   have c6b1:((a3.length:Int) != 7)=false:=bne_eq_false_iff_eq.mpr c6
   clear c6
   (first|rw[c6b0]|(simp only[Zu,Z4];rw[c6b0])|skip)
   have H':=Aside0.mk H
   clear H
   obtain⟨gt,gu,ga⟩:=Kd.Zf dw.out
   subst ga
   go_wp2
   go_meet
   case rel=>exact⟨_,((ah != 0)),qR,H',⟨by first|omega|exact Nat.le_refl _⟩,⟨by(with_reducible repeat first|apply Kd.Qi|apply Kd.Qh|apply Kd.Ql);exact dw.out⟩,⟨by(with_reducible repeat first|apply Qb|apply Qd|apply Qc);exact B.out⟩,⟨by repeat(first|(with_reducible first|exact HB.out|apply Qe|apply Qa|apply Qf|refine Qg ?_ ξ.out)|exact HB.out)⟩⟩
  ·rw[if_neg c6] at H
   exact absurd H (by simp)
 case rest=>
  clear bw
  try clear c1
  try clear p2
  try clear c6
  try clear c6b0
  try clear c6b1
  try clear ch
  try clear ci
  try clear er
  try clear ez
  try clear ck
  try clear cu
  try clear f4
  try clear fb
  obtain⟨kq,bv,rfl,HA,gv,HO_2,B,HB⟩:=hcut
  cases kq with
  |zero=>exact absurd HA.out (by simp[newellaw12_awake.j0])
  |succ ba=>
   have H:=HA.out
   clear HA
   simp only[newellaw12_awake.j0] at H
   by_cases c8:bv=true
   ·subst c8
    have H1:(none)=some r:=by rw[if_pos rfl] at H;exact H
    clear H
    have H:=H1
    clear H1
    exact absurd H (by simp)
   ·replace c8:=Bool.eq_false_iff.mpr c8
    subst c8
    have H1:((flash_Read.f ba a3).bind fun ai=>((flash_Write.f ba ([]:List Int) ([]:List Int) 1 0 3 ([]:List Int) 99).bind fun au=>((flash_Recover.f ba au.1 au.2.1).bind fun κ =>(if 5≤(a3.length:Int) then ((newelref08_Same.f ba (a3.take 5) (([6,2,0,6,0]:List Int))).bind fun av=>(if av=true then ((flash_Same.f ai.1 ai.2.1 ai.2.2.1 ai.2.2.2.1 1 0 3 ([]:List Int)).bind fun ap=>(if ap=true then (if ai.2.2.2.2=0 then (if au.2.2.1=true then (if au.2.2.2=0 then ((flash_Same.f κ.1 κ.2.1 κ.2.2.1 κ.2.2.2.1 1 0 3 ([]:List Int)).bind fun ae=>(if ae=true then (if κ.2.2.2.2.1=true then (none) else (if κ.2.2.2.2.2=0 then ((flash_Same.f ai.1 ai.2.1 ai.2.2.1 ai.2.2.2.1 0 0 0 ([]:List Int)).bind fun σ=>(some (!σ))) else (none))) else (none))) else (none)) else (none)) else (none)) else (none))) else (none))) else (none)))))=some r:=by rw[if_neg (show ¬ (false=true) by decide)] at H;exact H
    clear H
    have H:=H1
    clear H1
    replace H:=Option.bind_eq_some_iff.mp H
    obtain⟨⟨δ,ζ,ac,a0,b1⟩,fu,H⟩:=H
    replace H:((flash_Write.f ba ([]:List Int) ([]:List Int) 1 0 3 ([]:List Int) 99).bind fun au=>((flash_Recover.f ba au.1 au.2.1).bind fun κ =>(if 5≤(a3.length:Int) then ((newelref08_Same.f ba (a3.take 5) (([6,2,0,6,0]:List Int))).bind fun av=>(if av=true then ((flash_Same.f δ ζ ac a0 1 0 3 ([]:List Int)).bind fun ap=>(if ap=true then (if b1=0 then (if au.2.2.1=true then (if au.2.2.2=0 then ((flash_Same.f κ.1 κ.2.1 κ.2.2.1 κ.2.2.2.1 1 0 3 ([]:List Int)).bind fun ae=>(if ae=true then (if κ.2.2.2.2.1=true then (none) else (if κ.2.2.2.2.2=0 then ((flash_Same.f δ ζ ac a0 0 0 0 ([]:List Int)).bind fun σ=>(some (!σ))) else (none))) else (none))) else (none)) else (none)) else (none)) else (none))) else (none))) else (none))))=some r:=H
    have A9:=Aside0.mk fu
    clear fu
    replace H:=Option.bind_eq_some_iff.mp H
    obtain⟨⟨χ,τ,bj,b2⟩,bc,H⟩:=H
    replace H:((flash_Recover.f ba χ τ).bind fun κ =>(if 5≤(a3.length:Int) then ((newelref08_Same.f ba (a3.take 5) (([6,2,0,6,0]:List Int))).bind fun av=>(if av=true then ((flash_Same.f δ ζ ac a0 1 0 3 ([]:List Int)).bind fun ap=>(if ap=true then (if b1=0 then (if bj=true then (if b2=0 then ((flash_Same.f κ.1 κ.2.1 κ.2.2.1 κ.2.2.2.1 1 0 3 ([]:List Int)).bind fun ae=>(if ae=true then (if κ.2.2.2.2.1=true then (none) else (if κ.2.2.2.2.2=0 then ((flash_Same.f δ ζ ac a0 0 0 0 ([]:List Int)).bind fun σ=>(some (!σ))) else (none))) else (none))) else (none)) else (none)) else (none)) else (none))) else (none))) else (none)))=some r:=H
    have bi:=Aside0.mk bc
    clear bc
    replace H:=Option.bind_eq_some_iff.mp H
    obtain⟨⟨aj,ak,ao,a6,bf,ay⟩,fi,H⟩:=H
    replace H:(if 5≤(a3.length:Int) then ((newelref08_Same.f ba (a3.take 5) (([6,2,0,6,0]:List Int))).bind fun av=>(if av=true then ((flash_Same.f δ ζ ac a0 1 0 3 ([]:List Int)).bind fun ap=>(if ap=true then (if b1=0 then (if bj=true then (if b2=0 then ((flash_Same.f aj ak ao a6 1 0 3 ([]:List Int)).bind fun ae=>(if ae=true then (if bf=true then (none) else (if ay=0 then ((flash_Same.f δ ζ ac a0 0 0 0 ([]:List Int)).bind fun σ=>(some (!σ))) else (none))) else (none))) else (none)) else (none)) else (none)) else (none))) else (none))) else (none))=some r:=H
    have gb:=Aside0.mk fi
    clear fi
    by_cases bl:5≤(a3.length:Int)
    ·rw[if_pos bl] at H
     have c12b0:=eq_true bl
     have c12b1:decide (5≤(a3.length:Int))=true:=decide_eq_true bl
     clear bl
     obtain⟨bu,br⟩:∃ y_:List Int,y_=(a3.take 5):=⟨_,rfl⟩
     replace H:((newelref08_Same.f ba bu (([6,2,0,6,0]:List Int))).bind fun av=>(if av=true then ((flash_Same.f δ ζ ac a0 1 0 3 ([]:List Int)).bind fun ap=>(if ap=true then (if b1=0 then (if bj=true then (if b2=0 then ((flash_Same.f aj ak ao a6 1 0 3 ([]:List Int)).bind fun ae=>(if ae=true then (if bf=true then (none) else (if ay=0 then ((flash_Same.f δ ζ ac a0 0 0 0 ([]:List Int)).bind fun σ=>(some (!σ))) else (none))) else (none))) else (none)) else (none)) else (none)) else (none))) else (none)))=some r:=by first|(rw[br];with_reducible exact H)|(have φ :=(Option.bind_some _ _).symm.trans H;rw[br];with_reducible exact φ)|(have φ :=(Option.bind_some _ _).symm.trans H;with_reducible exact φ)|with_reducible exact H|(rw[br];exact H)|exact H
     have e0:=Aside0.mk br
     clear br
     obtain⟨dr,bs⟩:∃ y_:List Int,y_=(([6,2,0,6,0]:List Int)):=⟨_,rfl⟩
     replace H:((newelref08_Same.f ba bu dr).bind fun av=>(if av=true then ((flash_Same.f δ ζ ac a0 1 0 3 ([]:List Int)).bind fun ap=>(if ap=true then (if b1=0 then (if bj=true then (if b2=0 then ((flash_Same.f aj ak ao a6 1 0 3 ([]:List Int)).bind fun ae=>(if ae=true then (if bf=true then (none) else (if ay=0 then ((flash_Same.f δ ζ ac a0 0 0 0 ([]:List Int)).bind fun σ=>(some (!σ))) else (none))) else (none))) else (none)) else (none)) else (none)) else (none))) else (none)))=some r:=by first|(rw[bs];with_reducible exact H)|(have φ :=(Option.bind_some _ _).symm.trans H;rw[bs];with_reducible exact φ)|(have φ :=(Option.bind_some _ _).symm.trans H;with_reducible exact φ)|with_reducible exact H|(rw[bs];exact H)|exact H
     have e4:=Aside0.mk bs
     clear bs
     replace H:=Option.bind_eq_some_iff.mp H
     obtain⟨av,fj,H⟩:=H
     replace H:(if av=true then ((flash_Same.f δ ζ ac a0 1 0 3 ([]:List Int)).bind fun ap=>(if ap=true then (if b1=0 then (if bj=true then (if b2=0 then ((flash_Same.f aj ak ao a6 1 0 3 ([]:List Int)).bind fun ae=>(if ae=true then (if bf=true then (none) else (if ay=0 then ((flash_Same.f δ ζ ac a0 0 0 0 ([]:List Int)).bind fun σ=>(some (!σ))) else (none))) else (none))) else (none)) else (none)) else (none)) else (none))) else (none))=some r:=H
     have ge:=Aside0.mk fj
     clear fj
     by_cases ed:av=true
     ·subst ed
      have H1:((flash_Same.f δ ζ ac a0 1 0 3 ([]:List Int)).bind fun ap=>(if ap=true then (if b1=0 then (if bj=true then (if b2=0 then ((flash_Same.f aj ak ao a6 1 0 3 ([]:List Int)).bind fun ae=>(if ae=true then (if bf=true then (none) else (if ay=0 then ((flash_Same.f δ ζ ac a0 0 0 0 ([]:List Int)).bind fun σ=>(some (!σ))) else (none))) else (none))) else (none)) else (none)) else (none)) else (none)))=some r:=by rw[if_pos rfl] at H;exact H
      clear H
      have H:=H1
      clear H1
      replace H:=Option.bind_eq_some_iff.mp H
      obtain⟨ap,fk,H⟩:=H
      replace H:(if ap=true then (if b1=0 then (if bj=true then (if b2=0 then ((flash_Same.f aj ak ao a6 1 0 3 ([]:List Int)).bind fun ae=>(if ae=true then (if bf=true then (none) else (if ay=0 then ((flash_Same.f δ ζ ac a0 0 0 0 ([]:List Int)).bind fun σ=>(some (!σ))) else (none))) else (none))) else (none)) else (none)) else (none)) else (none))=some r:=H
      have en:=Aside0.mk fk
      clear fk
      by_cases dl:ap=true
      ·subst dl
       have H1:(if b1=0 then (if bj=true then (if b2=0 then ((flash_Same.f aj ak ao a6 1 0 3 ([]:List Int)).bind fun ae=>(if ae=true then (if bf=true then (none) else (if ay=0 then ((flash_Same.f δ ζ ac a0 0 0 0 ([]:List Int)).bind fun σ=>(some (!σ))) else (none))) else (none))) else (none)) else (none)) else (none))=some r:=by rw[if_pos rfl] at H;exact H
       clear H
       have H:=H1
       clear H1
       by_cases b0:b1=0
       ·rw[if_pos b0] at H
        have c17b0:(b1==0)=true:=beq_iff_eq.mpr b0
        have c17b1:(b1 != 0)=false:=bne_eq_false_iff_eq.mpr b0
        clear b0
        by_cases fe:bj=true
        ·subst fe
         have H1:(if b2=0 then ((flash_Same.f aj ak ao a6 1 0 3 ([]:List Int)).bind fun ae=>(if ae=true then (if bf=true then (none) else (if ay=0 then ((flash_Same.f δ ζ ac a0 0 0 0 ([]:List Int)).bind fun σ=>(some (!σ))) else (none))) else (none))) else (none))=some r:=by rw[if_pos rfl] at H;exact H
         clear H
         have H:=H1
         clear H1
         by_cases bp:b2=0
         ·rw[if_pos bp] at H
          have c19b0:(b2==0)=true:=beq_iff_eq.mpr bp
          have c19b1:(b2 != 0)=false:=bne_eq_false_iff_eq.mpr bp
          clear bp
          replace H:=Option.bind_eq_some_iff.mp H
          obtain⟨ae,m9,H⟩:=H
          replace H:(if ae=true then (if bf=true then (none) else (if ay=0 then ((flash_Same.f δ ζ ac a0 0 0 0 ([]:List Int)).bind fun σ=>(some (!σ))) else (none))) else (none))=some r:=H
          have cg:=Aside0.mk m9
          clear m9
          by_cases cf:ae=true
          ·subst cf
           have H1:(if bf=true then (none) else (if ay=0 then ((flash_Same.f δ ζ ac a0 0 0 0 ([]:List Int)).bind fun σ=>(some (!σ))) else (none)))=some r:=by rw[if_pos rfl] at H;exact H
           clear H
           have H:=H1
           clear H1
           by_cases b9:bf=true
           ·subst b9
            have H1:(none)=some r:=by rw[if_pos rfl] at H;exact H
            clear H
            have H:=H1
            clear H1
            exact absurd H (by simp)
           ·replace b9:=Bool.eq_false_iff.mpr b9
            subst b9
            have H1:(if ay=0 then ((flash_Same.f δ ζ ac a0 0 0 0 ([]:List Int)).bind fun σ=>(some (!σ))) else (none))=some r:=by rw[if_neg (show ¬ (false=true) by decide)] at H;exact H
            clear H
            have H:=H1
            clear H1
            by_cases bk:ay=0
            ·rw[if_pos bk] at H
             have c23b0:(ay==0)=true:=beq_iff_eq.mpr bk
             have c23b1:(ay != 0)=false:=bne_eq_false_iff_eq.mpr bk
             clear bk
             replace H:=Option.bind_eq_some_iff.mp H
             obtain⟨σ,ma,H⟩:=H
             replace H:(some (!σ))=some r:=H
             have pk:=Aside0.mk ma
             clear ma
             obtain rfl:=Option.some.inj H
             obtain⟨bg,b7,fw⟩:=Kd.Zf HO_2.out
             subst fw
             go_wp2_with (first|((with_reducible refine Qv (f:=19) rfl ?_);refine Ze (some 27) rfl rfl Tryd.func19 kr rfl #[.slice bg a3.length b7] rfl (by(try simp only[List.map_toArray,List.map_cons,List.map_nil]);first|done|rfl|(simp only[List.length_drop,List.length_take];rfl)) ?_;(with_reducible refine(flash_Read.calls ba _ _ a3 δ ζ ac a0 b1 _ ?side1 ?side2 A9.out (by first|exact HTAB.out|((repeat(first|exact HTAB.out|(with_reducible refine Laid.Zo ?_ _)|(with_reducible refine Laid.Zn ?_ _)|(with_reducible refine Laid.Zq ?_)));done)|(refine Laid.Zk HTAB.out ?_;(repeat(first|(with_reducible first|exact HB.out|apply Qe|apply Qa|apply Qf)|exact HB.out|(refine Qg ?_ (Aside0.out (by assumption)))))))).mono ?_);(case side1=>repeat(first|exact(Kd.Q4 HO_2.out).2.2|(with_reducible refine Kd.Zc ?_ _)|(with_reducible refine Kd.Za ?_ _)|(with_reducible refine Kd.Zh ?_)));(case side2=>exact(Kd.Q4 HO_2.out).2.1);rintro e sk ⟨gj,rfl,θ,hb⟩;refine⟨_,rfl, ?_⟩;have D:=Aside0.mk (Kd.Zj (by(with_reducible repeat first|apply Kd.Qi|apply Kd.Qh|apply Kd.Ql);exact HO_2.out) (Kd.Q5 θ) hb);have I:=Aside0.mk (Kd.Zd (Kd.Zi θ (Kd.Zp (by(with_reducible repeat first|apply Kd.Qi|apply Kd.Qh|apply Kd.Ql);exact HO_2.out))) (Qj (by repeat(first|(with_reducible first|exact HB.out|apply Qe|apply Qa|apply Qf|refine Qg ?_ ξ.out)|exact HB.out))));have O:=Aside0.mk (Qp (g:= μ) (o:=.cells #[.int .i64 1,.int .i64 0,.int .i64 3,.slice none 0 0] 26 (0,0)) (by(with_reducible repeat first|apply Qb|apply Qd|apply Qc);exact B.out) hb);have U:=Aside0.mk (Qr (by repeat(first|(with_reducible first|exact HB.out|apply Qe|apply Qa|apply Qf|refine Qg ?_ ξ.out)|exact HB.out)) hb);clear HO_2;clear B;clear HB;have HO_2:=D;have Y:=I;have B:=O;have HB:=U;clear D I O U;(try clear hb);(try clear az);(try clear hk);(try clear hi);(try clear θ))|((with_reducible refine Qz (N:=4) rfl ?_);refine Q7 ?hg (N:=4) ?hd (cs:=#[.int .i64 0,.int .i64 0,.int .i64 0,.slice none 0 0]) (t:=26) ?hr ?_;(case hd=>rfl);(case hg=>rfl);(case hr=>first|(go_simp;done)|(go_simp;rfl));intro J hg pj hbox hb;have D:=Aside0.mk (Kd.Q1 (by(with_reducible repeat first|apply Kd.Qi|apply Kd.Qh|apply Kd.Ql);exact HO_2.out) hb);have I:=Aside0.mk (Kd.Q1 (by(with_reducible repeat first|apply Kd.Qi|apply Kd.Qh|apply Kd.Ql);exact Y.out) hb);have O:=Aside0.mk (Qp (g:= μ) (o:=.cells #[.int .i64 1,.int .i64 0,.int .i64 3,.slice none 0 0] 26 (0,0)) (by(with_reducible repeat first|apply Qb|apply Qd|apply Qc);exact B.out) hb);have U:=Aside0.mk (Qr (by repeat(first|(with_reducible first|exact HB.out|apply Qe|apply Qa|apply Qf|refine Qg ?_ ξ.out)|exact HB.out)) hb);have ε :=Aside0.mk (hbox);have ν :=Aside0.mk ((by rw[hg];exact(Qj (by repeat(first|(with_reducible first|exact HB.out|apply Qe|apply Qa|apply Qf|refine Qg ?_ ξ.out)|exact HB.out))):w.heap.size≤J));have ρ:=Aside0.mk ((by rw[hg];exact(Qj (by repeat(first|(with_reducible first|exact HB.out|apply Qe|apply Qa|apply Qf|refine Qg ?_ ξ.out)|exact HB.out))):w.heap.size≤J));have a4:=Aside0.mk ((by rw[hg];exact Nat.ne_of_lt (Q8 (g:= μ) (o:=.cells #[.int .i64 1,.int .i64 0,.int .i64 3,.slice none 0 0] 26 (0,0)) (by(with_reducible repeat first|apply Qb|apply Qd|apply Qc);exact B.out)): μ ≠ J));have a5:=Aside0.mk ((by rw[hg];exact Nat.ne_of_gt (Q8 (g:= μ) (o:=.cells #[.int .i64 1,.int .i64 0,.int .i64 3,.slice none 0 0] 26 (0,0)) (by(with_reducible repeat first|apply Qb|apply Qd|apply Qc);exact B.out)):J ≠ μ));clear HO_2;clear Y;clear B;clear HB;have HO_2:=D;have Y:=I;have B:=O;have HB:=U;have X:= ε;have gg:= ν;have al:=ρ;have b3:=a4;have di:=a5;clear D I O U ε ν ρ a4 a5;clear hb hbox hg;have gy:=di.out;have h4:=b3.out;obtain⟨co,cp,ct,cv,cz,df,dh,dm⟩:=qD4 X.out;obtain⟨ca,cb,jc⟩:=Kd.Zf Y.out;subst jc;obtain⟨cw,cx,cy,dv,d0,d2,d3,dy⟩:=qD4 B.out)|((with_reducible refine Qv (f:=11) rfl ?_);refine Ze (some 33) rfl rfl Tryd.func11 kr rfl #[.agg #[.slice none 0 0,.slice none 0 0],.agg #[.int .i64 1,.int .i64 0,.int .i64 3,.slice none 0 0],.int .i64 99] rfl (by(try simp only[List.map_toArray,List.map_cons,List.map_nil]);first|done|rfl|(simp only[List.length_drop,List.length_take];rfl)) ?_;(refine(flash_Write.calls ba _ _ ([]:List Int) _ _ ([]:List Int) 1 0 3 _ _ ([]:List Int) 99 χ τ true b2 _ ?side1 ?side2 ?side3 ?side4 ?side5 ?side6 bi.out (by first|exact HTAB.out|((repeat(first|exact HTAB.out|(with_reducible refine Laid.Zo ?_ _)|(with_reducible refine Laid.Zn ?_ _)|(with_reducible refine Laid.Zq ?_)));done)|(refine Laid.Zk HTAB.out ?_;(repeat(first|(with_reducible first|exact HB.out|apply Qe|apply Qa|apply Qf)|exact HB.out|(refine Qg ?_ (Aside0.out (by assumption)))))))).mono ?_);(case side1=>exact Kd.Jt _ _);(case side2=>exact Nat.le_refl _);(case side3=>exact Kd.Jt _ _);(case side4=>exact Nat.le_refl _);(case side5=>exact Kd.Jt _ _);(case side6=>exact Nat.le_refl _);rintro e d1 ⟨ey,gk,rfl,θ,ce,hb⟩;refine⟨_,rfl, ?_⟩;have D:=Aside0.mk (Kd.Qu (Kd.Xa (Kd.Xa (Kd.Jd (by(with_reducible repeat first|apply Kd.Qi|apply Kd.Qh|apply Kd.Ql);exact(Kd.Qu (Kd.Qm (p:=⟨J,3,none⟩) (Kd.Qm (p:=⟨J,2,none⟩) (Kd.Qm (p:=⟨J,1,none⟩) (Kd.Qm (p:=⟨J,0,none⟩) (Kd.Qy HO_2.out X.out (by decide)) (fun _ hk=>hk.2) (.int .i64 δ)) (fun _ hk=>hk.2) (.int .i64 ζ)) (fun _ hk=>hk.2) (.int .i64 ac)) (fun _ hk=>hk.2) (.slice ca a0.length cb)) (fun _ h_=>h_.1))) hb) (Kd.Q5 θ)) (Kd.Q5 ce)) (fun _ h_=>h_.1));have I:=Aside0.mk (Kd.Qu (Kd.Xa (Kd.Xa (Kd.Jd (by(with_reducible repeat first|apply Kd.Qi|apply Kd.Qh|apply Kd.Ql);exact(Kd.Qu (Kd.Qm (p:=⟨J,3,none⟩) (Kd.Qm (p:=⟨J,2,none⟩) (Kd.Qm (p:=⟨J,1,none⟩) (Kd.Qm (p:=⟨J,0,none⟩) (Kd.Qy Y.out X.out (by decide)) (fun _ hk=>hk.2) (.int .i64 δ)) (fun _ hk=>hk.2) (.int .i64 ζ)) (fun _ hk=>hk.2) (.int .i64 ac)) (fun _ hk=>hk.2) (.slice ca a0.length cb)) (fun _ h_=>h_.1))) hb) (Kd.Q5 θ)) (Kd.Q5 ce)) (fun _ h_=>h_.1));have O:=Aside0.mk (Kd.Zd (Kd.Zi (Kd.Zi θ (Kd.Zp (by(with_reducible repeat first|apply Kd.Qi|apply Kd.Qh|apply Kd.Ql);exact(Kd.Qu (Kd.Qm (p:=⟨J,3,none⟩) (Kd.Qm (p:=⟨J,2,none⟩) (Kd.Qm (p:=⟨J,1,none⟩) (Kd.Qm (p:=⟨J,0,none⟩) (Kd.Qy HO_2.out X.out (by decide)) (fun _ hk=>hk.2) (.int .i64 δ)) (fun _ hk=>hk.2) (.int .i64 ζ)) (fun _ hk=>hk.2) (.int .i64 ac)) (fun _ hk=>hk.2) (.slice ca a0.length cb)) (fun _ h_=>h_.1))))) (Kd.Zp (by(with_reducible repeat first|apply Kd.Qi|apply Kd.Qh|apply Kd.Ql);exact(Kd.Qu (Kd.Qm (p:=⟨J,3,none⟩) (Kd.Qm (p:=⟨J,2,none⟩) (Kd.Qm (p:=⟨J,1,none⟩) (Kd.Qm (p:=⟨J,0,none⟩) (Kd.Qy Y.out X.out (by decide)) (fun _ hk=>hk.2) (.int .i64 δ)) (fun _ hk=>hk.2) (.int .i64 ζ)) (fun _ hk=>hk.2) (.int .i64 ac)) (fun _ hk=>hk.2) (.slice ca a0.length cb)) (fun _ h_=>h_.1))))) (Qj (by repeat(first|(with_reducible first|exact HB.out|apply Qe|apply Qa|apply Qf|refine Qg ?_ ξ.out|refine Qg ?_ al.out)|exact HB.out))));have U:=Aside0.mk (Kd.Zd (Kd.Zi (Kd.Zi ce (Kd.Zp (by(with_reducible repeat first|apply Kd.Qi|apply Kd.Qh|apply Kd.Ql);exact(Kd.Qu (Kd.Qm (p:=⟨J,3,none⟩) (Kd.Qm (p:=⟨J,2,none⟩) (Kd.Qm (p:=⟨J,1,none⟩) (Kd.Qm (p:=⟨J,0,none⟩) (Kd.Qy HO_2.out X.out (by decide)) (fun _ hk=>hk.2) (.int .i64 δ)) (fun _ hk=>hk.2) (.int .i64 ζ)) (fun _ hk=>hk.2) (.int .i64 ac)) (fun _ hk=>hk.2) (.slice ca a0.length cb)) (fun _ h_=>h_.1))))) (Kd.Zp (by(with_reducible repeat first|apply Kd.Qi|apply Kd.Qh|apply Kd.Ql);exact(Kd.Qu (Kd.Qm (p:=⟨J,3,none⟩) (Kd.Qm (p:=⟨J,2,none⟩) (Kd.Qm (p:=⟨J,1,none⟩) (Kd.Qm (p:=⟨J,0,none⟩) (Kd.Qy Y.out X.out (by decide)) (fun _ hk=>hk.2) (.int .i64 δ)) (fun _ hk=>hk.2) (.int .i64 ζ)) (fun _ hk=>hk.2) (.int .i64 ac)) (fun _ hk=>hk.2) (.slice ca a0.length cb)) (fun _ h_=>h_.1))))) (Qj (by repeat(first|(with_reducible first|exact HB.out|apply Qe|apply Qa|apply Qf|refine Qg ?_ ξ.out|refine Qg ?_ al.out)|exact HB.out))));have ε :=Aside0.mk (Qp (g:= μ) (o:=.cells #[.int .i64 1,.int .i64 0,.int .i64 3,.slice none 0 0] 26 (0,0)) (by(with_reducible repeat first|apply Qb|apply Qd|apply Qc);refine Qs ?_ b3.out _;(with_reducible repeat first|apply Qb|apply Qd|apply Qc);refine Qs ?_ b3.out _;(with_reducible repeat first|apply Qb|apply Qd|apply Qc);refine Qs ?_ b3.out _;(with_reducible repeat first|apply Qb|apply Qd|apply Qc);refine Qs ?_ b3.out _;(with_reducible repeat first|apply Qb|apply Qd|apply Qc);exact B.out) hb);have ν :=Aside0.mk (Qp (g:=J) (o:=.cells #[.int .i64 δ,.int .i64 ζ,.int .i64 ac,.slice ca a0.length cb] 26 (0,0)) (by(with_reducible repeat first|apply Qb|apply Qd|apply Qc);refine Qk (cs:=#[.int .i64 δ,.int .i64 ζ,.int .i64 ac,.slice none 0 0]) ?_ 3 _ rfl;(with_reducible repeat first|apply Qb|apply Qd|apply Qc);refine Qk (cs:=#[.int .i64 δ,.int .i64 ζ,.int .i64 0,.slice none 0 0]) ?_ 2 _ rfl;(with_reducible repeat first|apply Qb|apply Qd|apply Qc);refine Qk (cs:=#[.int .i64 δ,.int .i64 0,.int .i64 0,.slice none 0 0]) ?_ 1 _ rfl;(with_reducible repeat first|apply Qb|apply Qd|apply Qc);refine Qk (cs:=#[.int .i64 0,.int .i64 0,.int .i64 0,.slice none 0 0]) ?_ 0 _ rfl;(with_reducible repeat first|apply Qb|apply Qd|apply Qc);exact X.out) hb);have ρ:=Aside0.mk (Qr (by repeat(first|(with_reducible first|exact HB.out|apply Qe|apply Qa|apply Qf|refine Qg ?_ ξ.out|refine Qg ?_ al.out)|exact HB.out)) hb);clear HO_2;clear Y;clear B;clear X;clear HB;have HO_2:=D;have Y:=I;have a1:=O;have ι :=U;have B:= ε;have X:= ν;have HB:=ρ;clear D I O U ε ν ρ;(try clear hb);(try clear az);(try clear hk);(try clear hi);(try clear θ);(try clear ce))|((with_reducible refine Qz (N:=6) rfl ?_);refine Q7 ?hg (N:=6) ?hd (cs:=#[.slice none 0 0,.slice none 0 0]) (t:=24) ?hr ?_;(case hd=>rfl);(case hg=>rfl);(case hr=>first|(go_simp;done)|(go_simp;rfl));intro Z hg g8 hbox hb;have D:=Aside0.mk (Kd.Q1 (by(with_reducible repeat first|apply Kd.Qi|apply Kd.Qh|apply Kd.Ql);exact HO_2.out) hb);have I:=Aside0.mk (Kd.Q1 (by(with_reducible repeat first|apply Kd.Qi|apply Kd.Qh|apply Kd.Ql);exact Y.out) hb);have O:=Aside0.mk (Kd.Q1 (by(with_reducible repeat first|apply Kd.Qi|apply Kd.Qh|apply Kd.Ql);exact a1.out) hb);have U:=Aside0.mk (Kd.Q1 (by(with_reducible repeat first|apply Kd.Qi|apply Kd.Qh|apply Kd.Ql);exact ι.out) hb);have ε :=Aside0.mk (Qp (g:= μ) (o:=.cells #[.int .i64 1,.int .i64 0,.int .i64 3,.slice none 0 0] 26 (0,0)) (by(with_reducible repeat first|apply Qb|apply Qd|apply Qc);exact B.out) hb);have ν :=Aside0.mk (Qp (g:=J) (o:=.cells #[.int .i64 δ,.int .i64 ζ,.int .i64 ac,.slice ca a0.length cb] 26 (0,0)) (by(with_reducible repeat first|apply Qb|apply Qd|apply Qc);exact X.out) hb);have ρ:=Aside0.mk (Qr (by repeat(first|(with_reducible first|exact HB.out|apply Qe|apply Qa|apply Qf|refine Qg ?_ ξ.out|refine Qg ?_ al.out)|exact HB.out)) hb);have a4:=Aside0.mk (hbox);have a5:=Aside0.mk ((by rw[hg];exact(Qj (by repeat(first|(with_reducible first|exact HB.out|apply Qe|apply Qa|apply Qf|refine Qg ?_ ξ.out|refine Qg ?_ al.out)|exact HB.out))):w.heap.size≤Z));have ab:=Aside0.mk ((by rw[hg];exact(Qj (by repeat(first|(with_reducible first|exact HB.out|apply Qe|apply Qa|apply Qf|refine Qg ?_ ξ.out|refine Qg ?_ al.out)|exact HB.out))):w.heap.size≤Z));have am:=Aside0.mk ((by rw[hg];exact Nat.ne_of_lt (Q8 (g:= μ) (o:=.cells #[.int .i64 1,.int .i64 0,.int .i64 3,.slice none 0 0] 26 (0,0)) (by(with_reducible repeat first|apply Qb|apply Qd|apply Qc);exact B.out)): μ ≠ Z));have ar:=Aside0.mk ((by rw[hg];exact Nat.ne_of_gt (Q8 (g:= μ) (o:=.cells #[.int .i64 1,.int .i64 0,.int .i64 3,.slice none 0 0] 26 (0,0)) (by(with_reducible repeat first|apply Qb|apply Qd|apply Qc);exact B.out)):Z ≠ μ));have b8:=Aside0.mk ((by rw[hg];exact Nat.ne_of_lt (Q8 (g:=J) (o:=.cells #[.int .i64 δ,.int .i64 ζ,.int .i64 ac,.slice ca a0.length cb] 26 (0,0)) (by(with_reducible repeat first|apply Qb|apply Qd|apply Qc);exact X.out)):J≠Z));have bb:=Aside0.mk ((by rw[hg];exact Nat.ne_of_gt (Q8 (g:=J) (o:=.cells #[.int .i64 δ,.int .i64 ζ,.int .i64 ac,.slice ca a0.length cb] 26 (0,0)) (by(with_reducible repeat first|apply Qb|apply Qd|apply Qc);exact X.out)):Z≠J));clear HO_2;clear Y;clear a1;clear ι;clear B;clear X;clear HB;have HO_2:=D;have Y:=I;have a1:=O;have ι :=U;have B:= ε;have X:= ν;have HB:=ρ;have η :=a4;have gh:=a5;have aw:=ab;have bn:=am;have dj:=ar;have bo:=b8;have dk:=bb;clear D I O U ε ν ρ a4 a5 ab am ar b8 bb;clear hb hbox hg;obtain⟨a7,ψ,fx⟩:=Kd.Zf a1.out;subst fx;have fq:=dj.out;have fr:=bn.out;have fo:=dk.out;have fp:=bo.out;obtain⟨fz,g0,g1,g2⟩:=qD2 η.out;obtain⟨af,a8,fy⟩:=Kd.Zf ι.out;subst fy)|((with_reducible refine Qv (f:=14) rfl ?_);refine Ze (some 39) rfl rfl Tryd.func14 kr rfl #[.agg #[.slice a7 χ.length ψ,.slice af τ.length a8]] rfl (by(try simp only[List.map_toArray,List.map_cons,List.map_nil]);first|done|rfl|(simp only[List.length_drop,List.length_take];rfl)) ?_;(with_reducible refine(flash_Recover.calls ba _ _ χ _ _ τ aj ak ao a6 false ay _ ?side1 ?side2 ?side3 ?side4 gb.out (by first|exact HTAB.out|((repeat(first|exact HTAB.out|(with_reducible refine Laid.Zo ?_ _)|(with_reducible refine Laid.Zn ?_ _)|(with_reducible refine Laid.Zq ?_)));done)|(refine Laid.Zk HTAB.out ?_;(repeat(first|(with_reducible first|exact HB.out|apply Qe|apply Qa|apply Qf)|exact HB.out|(refine Qg ?_ (Aside0.out (by assumption)))))))).mono ?_);(case side1=>refine(Kd.Q4 (e:=5) (base:=w.heap.size) (ok:=fun k_=>((some k_≠(.slice af τ.length a8:Value).ownBlock∧some k_≠(.slice bg a3.length b7:Value).ownBlock)∧some k_≠(.slice ca a0.length cb:Value).ownBlock)) (n:= χ.length) (c:= ψ) ?_).2.2;exact(by(with_reducible repeat first|apply Kd.Qi|apply Kd.Qh|apply Kd.Ql);exact(Kd.Qu (Kd.Qm (p:=⟨Z,1,none⟩) (Kd.Qm (p:=⟨Z,0,none⟩) (Kd.Qy a1.out η.out (by decide)) (fun _ hk=>hk.2) (.slice a7 χ.length ψ)) (fun _ hk=>hk.2) (.slice af τ.length a8)) (fun _ h_=>h_.1))));(case side2=>exact(Kd.Q4 a1.out).2.1);(case side3=>refine(Kd.Q4 (e:=5) (base:=w.heap.size) (ok:=fun k_=>((some k_≠(.slice a7 χ.length ψ :Value).ownBlock∧some k_≠(.slice bg a3.length b7:Value).ownBlock)∧some k_≠(.slice ca a0.length cb:Value).ownBlock)) (n:= τ.length) (c:=a8) ?_).2.2;exact(by(with_reducible repeat first|apply Kd.Qi|apply Kd.Qh|apply Kd.Ql);exact(Kd.Qu (Kd.Qm (p:=⟨Z,1,none⟩) (Kd.Qm (p:=⟨Z,0,none⟩) (Kd.Qy ι.out η.out (by decide)) (fun _ hk=>hk.2) (.slice a7 χ.length ψ)) (fun _ hk=>hk.2) (.slice af τ.length a8)) (fun _ h_=>h_.1))));(case side4=>exact(Kd.Q4 ι.out).2.1);rintro e gw ⟨gn,rfl,θ,hb⟩;refine⟨_,rfl, ?_⟩;have D:=Aside0.mk (Kd.Zj (by(with_reducible repeat first|apply Kd.Qi|apply Kd.Qh|apply Kd.Ql);exact(Kd.Qu (Kd.Qm (p:=⟨Z,1,none⟩) (Kd.Qm (p:=⟨Z,0,none⟩) (Kd.Qy HO_2.out η.out (by decide)) (fun _ hk=>hk.2) (.slice a7 χ.length ψ)) (fun _ hk=>hk.2) (.slice af τ.length a8)) (fun _ h_=>h_.1))) (Kd.Q5 θ) hb);have I:=Aside0.mk (Kd.Zj (by(with_reducible repeat first|apply Kd.Qi|apply Kd.Qh|apply Kd.Ql);exact(Kd.Qu (Kd.Qm (p:=⟨Z,1,none⟩) (Kd.Qm (p:=⟨Z,0,none⟩) (Kd.Qy Y.out η.out (by decide)) (fun _ hk=>hk.2) (.slice a7 χ.length ψ)) (fun _ hk=>hk.2) (.slice af τ.length a8)) (fun _ h_=>h_.1))) (Kd.Q5 θ) hb);have O:=Aside0.mk (Kd.Zj (by(with_reducible repeat first|apply Kd.Qi|apply Kd.Qh|apply Kd.Ql);exact(Kd.Qu (Kd.Qm (p:=⟨Z,1,none⟩) (Kd.Qm (p:=⟨Z,0,none⟩) (Kd.Qy a1.out η.out (by decide)) (fun _ hk=>hk.2) (.slice a7 χ.length ψ)) (fun _ hk=>hk.2) (.slice af τ.length a8)) (fun _ h_=>h_.1))) (Kd.Q5 θ) hb);have U:=Aside0.mk (Kd.Zj (by(with_reducible repeat first|apply Kd.Qi|apply Kd.Qh|apply Kd.Ql);exact(Kd.Qu (Kd.Qm (p:=⟨Z,1,none⟩) (Kd.Qm (p:=⟨Z,0,none⟩) (Kd.Qy ι.out η.out (by decide)) (fun _ hk=>hk.2) (.slice a7 χ.length ψ)) (fun _ hk=>hk.2) (.slice af τ.length a8)) (fun _ h_=>h_.1))) (Kd.Q5 θ) hb);have ε :=Aside0.mk (Kd.Zd (Kd.Zi (Kd.Zi (Kd.Zi (Kd.Zi θ (Kd.Zp (by(with_reducible repeat first|apply Kd.Qi|apply Kd.Qh|apply Kd.Ql);exact(Kd.Qu (Kd.Qm (p:=⟨Z,1,none⟩) (Kd.Qm (p:=⟨Z,0,none⟩) (Kd.Qy HO_2.out η.out (by decide)) (fun _ hk=>hk.2) (.slice a7 χ.length ψ)) (fun _ hk=>hk.2) (.slice af τ.length a8)) (fun _ h_=>h_.1))))) (Kd.Zp (by(with_reducible repeat first|apply Kd.Qi|apply Kd.Qh|apply Kd.Ql);exact(Kd.Qu (Kd.Qm (p:=⟨Z,1,none⟩) (Kd.Qm (p:=⟨Z,0,none⟩) (Kd.Qy Y.out η.out (by decide)) (fun _ hk=>hk.2) (.slice a7 χ.length ψ)) (fun _ hk=>hk.2) (.slice af τ.length a8)) (fun _ h_=>h_.1))))) (Kd.Zp (by(with_reducible repeat first|apply Kd.Qi|apply Kd.Qh|apply Kd.Ql);exact(Kd.Qu (Kd.Qm (p:=⟨Z,1,none⟩) (Kd.Qm (p:=⟨Z,0,none⟩) (Kd.Qy a1.out η.out (by decide)) (fun _ hk=>hk.2) (.slice a7 χ.length ψ)) (fun _ hk=>hk.2) (.slice af τ.length a8)) (fun _ h_=>h_.1))))) (Kd.Zp (by(with_reducible repeat first|apply Kd.Qi|apply Kd.Qh|apply Kd.Ql);exact(Kd.Qu (Kd.Qm (p:=⟨Z,1,none⟩) (Kd.Qm (p:=⟨Z,0,none⟩) (Kd.Qy ι.out η.out (by decide)) (fun _ hk=>hk.2) (.slice a7 χ.length ψ)) (fun _ hk=>hk.2) (.slice af τ.length a8)) (fun _ h_=>h_.1))))) (Qj (by repeat(first|(with_reducible first|exact HB.out|apply Qe|apply Qa|apply Qf|refine Qg ?_ ξ.out|refine Qg ?_ al.out|refine Qg ?_ aw.out)|exact HB.out))));have ν :=Aside0.mk (Qp (g:= μ) (o:=.cells #[.int .i64 1,.int .i64 0,.int .i64 3,.slice none 0 0] 26 (0,0)) (by(with_reducible repeat first|apply Qb|apply Qd|apply Qc);refine Qs ?_ bn.out _;(with_reducible repeat first|apply Qb|apply Qd|apply Qc);refine Qs ?_ bn.out _;(with_reducible repeat first|apply Qb|apply Qd|apply Qc);exact B.out) hb);have ρ:=Aside0.mk (Qp (g:=J) (o:=.cells #[.int .i64 δ,.int .i64 ζ,.int .i64 ac,.slice ca a0.length cb] 26 (0,0)) (by(with_reducible repeat first|apply Qb|apply Qd|apply Qc);refine Qs ?_ bo.out _;(with_reducible repeat first|apply Qb|apply Qd|apply Qc);refine Qs ?_ bo.out _;(with_reducible repeat first|apply Qb|apply Qd|apply Qc);exact X.out) hb);have a4:=Aside0.mk (Qp (g:=Z) (o:=.cells #[.slice a7 χ.length ψ,.slice af τ.length a8] 24 (0,0)) (by(with_reducible repeat first|apply Qb|apply Qd|apply Qc);refine Qk (cs:=#[.slice a7 χ.length ψ,.slice none 0 0]) ?_ 1 _ rfl;(with_reducible repeat first|apply Qb|apply Qd|apply Qc);refine Qk (cs:=#[.slice none 0 0,.slice none 0 0]) ?_ 0 _ rfl;(with_reducible repeat first|apply Qb|apply Qd|apply Qc);exact η.out) hb);have a5:=Aside0.mk (Qr (by repeat(first|(with_reducible first|exact HB.out|apply Qe|apply Qa|apply Qf|refine Qg ?_ ξ.out|refine Qg ?_ al.out|refine Qg ?_ aw.out)|exact HB.out)) hb);clear HO_2;clear Y;clear a1;clear ι;clear B;clear X;clear η;clear HB;have HO_2:=D;have Y:=I;have a1:=O;have ι :=U;have ω := ε;have B:= ν;have X:=ρ;have η :=a4;have HB:=a5;clear D I O U ε ν ρ a4 a5;(try clear hb);(try clear az);(try clear hk);(try clear hi);(try clear θ))|((with_reducible refine Qz (N:=9) rfl ?_);refine Q7 ?hg (N:=9) ?hd (cs:=#[.int .i64 0,.int .i64 0,.int .i64 0,.slice none 0 0]) (t:=26) ?hr ?_;(case hd=>rfl);(case hg=>rfl);(case hr=>first|(go_simp;done)|(go_simp;rfl));intro γ hg fh hbox hb;have D:=Aside0.mk (Kd.Q1 (by(with_reducible repeat first|apply Kd.Qi|apply Kd.Qh|apply Kd.Ql);exact HO_2.out) hb);have I:=Aside0.mk (Kd.Q1 (by(with_reducible repeat first|apply Kd.Qi|apply Kd.Qh|apply Kd.Ql);exact Y.out) hb);have O:=Aside0.mk (Kd.Q1 (by(with_reducible repeat first|apply Kd.Qi|apply Kd.Qh|apply Kd.Ql);exact a1.out) hb);have U:=Aside0.mk (Kd.Q1 (by(with_reducible repeat first|apply Kd.Qi|apply Kd.Qh|apply Kd.Ql);exact ι.out) hb);have ε :=Aside0.mk (Kd.Q1 (by(with_reducible repeat first|apply Kd.Qi|apply Kd.Qh|apply Kd.Ql);exact ω.out) hb);have ν :=Aside0.mk (Qp (g:= μ) (o:=.cells #[.int .i64 1,.int .i64 0,.int .i64 3,.slice none 0 0] 26 (0,0)) (by(with_reducible repeat first|apply Qb|apply Qd|apply Qc);exact B.out) hb);have ρ:=Aside0.mk (Qp (g:=J) (o:=.cells #[.int .i64 δ,.int .i64 ζ,.int .i64 ac,.slice ca a0.length cb] 26 (0,0)) (by(with_reducible repeat first|apply Qb|apply Qd|apply Qc);exact X.out) hb);have a4:=Aside0.mk (Qp (g:=Z) (o:=.cells #[.slice a7 χ.length ψ,.slice af τ.length a8] 24 (0,0)) (by(with_reducible repeat first|apply Qb|apply Qd|apply Qc);exact η.out) hb);have a5:=Aside0.mk (Qr (by repeat(first|(with_reducible first|exact HB.out|apply Qe|apply Qa|apply Qf|refine Qg ?_ ξ.out|refine Qg ?_ al.out|refine Qg ?_ aw.out)|exact HB.out)) hb);have ab:=Aside0.mk (hbox);have am:=Aside0.mk ((by rw[hg];exact(Qj (by repeat(first|(with_reducible first|exact HB.out|apply Qe|apply Qa|apply Qf|refine Qg ?_ ξ.out|refine Qg ?_ al.out|refine Qg ?_ aw.out)|exact HB.out))):w.heap.size≤γ));have ar:=Aside0.mk ((by rw[hg];exact(Qj (by repeat(first|(with_reducible first|exact HB.out|apply Qe|apply Qa|apply Qf|refine Qg ?_ ξ.out|refine Qg ?_ al.out|refine Qg ?_ aw.out)|exact HB.out))):w.heap.size≤γ));have b8:=Aside0.mk ((by rw[hg];exact Nat.ne_of_lt (Q8 (g:= μ) (o:=.cells #[.int .i64 1,.int .i64 0,.int .i64 3,.slice none 0 0] 26 (0,0)) (by(with_reducible repeat first|apply Qb|apply Qd|apply Qc);exact B.out)): μ ≠ γ));have bb:=Aside0.mk ((by rw[hg];exact Nat.ne_of_gt (Q8 (g:= μ) (o:=.cells #[.int .i64 1,.int .i64 0,.int .i64 3,.slice none 0 0] 26 (0,0)) (by(with_reducible repeat first|apply Qb|apply Qd|apply Qc);exact B.out)):γ ≠ μ));have bz:=Aside0.mk ((by rw[hg];exact Nat.ne_of_lt (Q8 (g:=J) (o:=.cells #[.int .i64 δ,.int .i64 ζ,.int .i64 ac,.slice ca a0.length cb] 26 (0,0)) (by(with_reducible repeat first|apply Qb|apply Qd|apply Qc);exact X.out)):J≠γ));have cj:=Aside0.mk ((by rw[hg];exact Nat.ne_of_gt (Q8 (g:=J) (o:=.cells #[.int .i64 δ,.int .i64 ζ,.int .i64 ac,.slice ca a0.length cb] 26 (0,0)) (by(with_reducible repeat first|apply Qb|apply Qd|apply Qc);exact X.out)):γ≠J));have cr:=Aside0.mk ((by rw[hg];exact Nat.ne_of_lt (Q8 (g:=Z) (o:=.cells #[.slice a7 χ.length ψ,.slice af τ.length a8] 24 (0,0)) (by(with_reducible repeat first|apply Qb|apply Qd|apply Qc);exact η.out)):Z≠γ));have dx:=Aside0.mk ((by rw[hg];exact Nat.ne_of_gt (Q8 (g:=Z) (o:=.cells #[.slice a7 χ.length ψ,.slice af τ.length a8] 24 (0,0)) (by(with_reducible repeat first|apply Qb|apply Qd|apply Qc);exact η.out)):γ≠Z));clear HO_2;clear Y;clear a1;clear ι;clear ω;clear B;clear X;clear η;clear HB;have HO_2:=D;have Y:=I;have a1:=O;have ι :=U;have ω := ε;have B:= ν;have X:=ρ;have η :=a4;have HB:=a5;have a2:=ab;have gi:=am;have bm:=ar;have b4:=b8;have dn:=bb;have b5:=bz;have dp:=cj;have b6:=cr;have dq:=dx;clear D I O U ε ν ρ a4 a5 ab am ar b8 bb bz cj cr dx;clear hb hbox hg;have nb:=dn.out;have nc:=b4.out;have e3:=dp.out;have e6:=b5.out;have gl:=dq.out;have gm:=b6.out;obtain⟨d4,d5,d6,ev,d8,d9,da,ew⟩:=qD4 a2.out;obtain⟨a9,aa,g7⟩:=Kd.Zf ω.out;subst g7)|((with_reducible refine Xq (t:=26) (p:=9) rfl ?_);refine Xd (t:=26) (p:=9) (v:=?vo_w46) (w1:=((((fh.setCell ⟨γ,0,none⟩ (.int .i64 aj)).setCell ⟨γ,1,none⟩ (.int .i64 ak)).setCell ⟨γ,2,none⟩ (.int .i64 ao)).setCell ⟨γ,3,none⟩ (.slice a9 a6.length aa))) ?hg ?ho ?hn ?hr ?_;(case ho=>rfl);(case hg=>rfl);(case hn=>rfl);(case hr=>first|(go_simp;done)|(go_simp;rfl));intro bq hw;have D:Aside0 (Kd.R (Kd.int .u8) 5 bq w.heap.size (fun k_=>some k_≠(.slice ca a0.length cb:Value).ownBlock∧some k_≠(.slice a7 χ.length ψ :Value).ownBlock∧some k_≠(.slice af τ.length a8:Value).ownBlock∧some k_≠(.slice a9 a6.length aa:Value).ownBlock) (.slice bg a3.length b7) a3):=⟨(by rw[hw];exact(by(with_reducible repeat first|apply Kd.Qi|apply Kd.Qh|apply Kd.Ql);exact Kd.Qu (Kd.Qm (p:=⟨γ,3,none⟩) (Kd.Qm (p:=⟨γ,2,none⟩) (Kd.Qm (p:=⟨γ,1,none⟩) (Kd.Qm (p:=⟨γ,0,none⟩) (Kd.Qy HO_2.out a2.out (by decide)) (fun _ hk=>hk.2) (.int .i64 aj)) (fun _ hk=>hk.2) (.int .i64 ak)) (fun _ hk=>hk.2) (.int .i64 ao)) (fun _ hk=>hk.2) (.slice a9 a6.length aa)) (fun _ hk=>⟨hk.1.1.1.1.2,⟨hk.1.1.1.2,⟨hk.1.1.2,hk.1.2⟩⟩⟩)))⟩;have I:Aside0 (Kd.R (Kd.int .u8) 5 bq w.heap.size (fun k_=>some k_≠(.slice bg a3.length b7:Value).ownBlock∧some k_≠(.slice a7 χ.length ψ :Value).ownBlock∧some k_≠(.slice af τ.length a8:Value).ownBlock∧some k_≠(.slice a9 a6.length aa:Value).ownBlock) (.slice ca a0.length cb) a0):=⟨(by rw[hw];exact(by(with_reducible repeat first|apply Kd.Qi|apply Kd.Qh|apply Kd.Ql);exact Kd.Qu (Kd.Qm (p:=⟨γ,3,none⟩) (Kd.Qm (p:=⟨γ,2,none⟩) (Kd.Qm (p:=⟨γ,1,none⟩) (Kd.Qm (p:=⟨γ,0,none⟩) (Kd.Qy Y.out a2.out (by decide)) (fun _ hk=>hk.2) (.int .i64 aj)) (fun _ hk=>hk.2) (.int .i64 ak)) (fun _ hk=>hk.2) (.int .i64 ao)) (fun _ hk=>hk.2) (.slice a9 a6.length aa)) (fun _ hk=>⟨hk.1.1.1.1.2,⟨hk.1.1.1.2,⟨hk.1.1.2,hk.1.2⟩⟩⟩)))⟩;have O:Aside0 (Kd.R (Kd.int .u8) 5 bq w.heap.size (fun k_=>some k_≠(.slice bg a3.length b7:Value).ownBlock∧some k_≠(.slice ca a0.length cb:Value).ownBlock∧some k_≠(.slice af τ.length a8:Value).ownBlock∧some k_≠(.slice a9 a6.length aa:Value).ownBlock) (.slice a7 χ.length ψ) χ):=⟨(by rw[hw];exact(by(with_reducible repeat first|apply Kd.Qi|apply Kd.Qh|apply Kd.Ql);exact Kd.Qu (Kd.Qm (p:=⟨γ,3,none⟩) (Kd.Qm (p:=⟨γ,2,none⟩) (Kd.Qm (p:=⟨γ,1,none⟩) (Kd.Qm (p:=⟨γ,0,none⟩) (Kd.Qy a1.out a2.out (by decide)) (fun _ hk=>hk.2) (.int .i64 aj)) (fun _ hk=>hk.2) (.int .i64 ak)) (fun _ hk=>hk.2) (.int .i64 ao)) (fun _ hk=>hk.2) (.slice a9 a6.length aa)) (fun _ hk=>⟨hk.1.1.1.2,⟨hk.1.1.2,⟨hk.1.1.1.1,hk.1.2⟩⟩⟩)))⟩;have U:Aside0 (Kd.R (Kd.int .u8) 5 bq w.heap.size (fun k_=>some k_≠(.slice bg a3.length b7:Value).ownBlock∧some k_≠(.slice ca a0.length cb:Value).ownBlock∧some k_≠(.slice a7 χ.length ψ :Value).ownBlock∧some k_≠(.slice a9 a6.length aa:Value).ownBlock) (.slice af τ.length a8) τ):=⟨(by rw[hw];exact(by(with_reducible repeat first|apply Kd.Qi|apply Kd.Qh|apply Kd.Ql);exact Kd.Qu (Kd.Qm (p:=⟨γ,3,none⟩) (Kd.Qm (p:=⟨γ,2,none⟩) (Kd.Qm (p:=⟨γ,1,none⟩) (Kd.Qm (p:=⟨γ,0,none⟩) (Kd.Qy ι.out a2.out (by decide)) (fun _ hk=>hk.2) (.int .i64 aj)) (fun _ hk=>hk.2) (.int .i64 ak)) (fun _ hk=>hk.2) (.int .i64 ao)) (fun _ hk=>hk.2) (.slice a9 a6.length aa)) (fun _ hk=>⟨hk.1.1.1.2,⟨hk.1.1.2,⟨hk.1.1.1.1,hk.1.2⟩⟩⟩)))⟩;have ε :Aside0 (Kd.R (Kd.int .u8) 5 bq w.heap.size (fun k_=>some k_≠(.slice bg a3.length b7:Value).ownBlock∧some k_≠(.slice ca a0.length cb:Value).ownBlock∧some k_≠(.slice a7 χ.length ψ :Value).ownBlock∧some k_≠(.slice af τ.length a8:Value).ownBlock) (.slice a9 a6.length aa) a6):=⟨(by rw[hw];exact(by(with_reducible repeat first|apply Kd.Qi|apply Kd.Qh|apply Kd.Ql);exact Kd.Qu (Kd.Qm (p:=⟨γ,3,none⟩) (Kd.Qm (p:=⟨γ,2,none⟩) (Kd.Qm (p:=⟨γ,1,none⟩) (Kd.Qm (p:=⟨γ,0,none⟩) (Kd.Qy ω.out a2.out (by decide)) (fun _ hk=>hk.2) (.int .i64 aj)) (fun _ hk=>hk.2) (.int .i64 ak)) (fun _ hk=>hk.2) (.int .i64 ao)) (fun _ hk=>hk.2) (.slice a9 a6.length aa)) (fun _ hk=>⟨hk.1.1.1.1.2,⟨hk.1.1.1.2,⟨hk.1.1.2,hk.1.2⟩⟩⟩)))⟩;have ν :Aside0 (bq.heap[μ]?=some (.cells #[.int .i64 1,.int .i64 0,.int .i64 3,.slice none 0 0] 26 (0,0))):=⟨(by rw[hw];exact(by(with_reducible repeat first|apply Qb|apply Qd|apply Qc);refine Qs ?_ b4.out _;(with_reducible repeat first|apply Qb|apply Qd|apply Qc);refine Qs ?_ b4.out _;(with_reducible repeat first|apply Qb|apply Qd|apply Qc);refine Qs ?_ b4.out _;(with_reducible repeat first|apply Qb|apply Qd|apply Qc);refine Qs ?_ b4.out _;(with_reducible repeat first|apply Qb|apply Qd|apply Qc);exact B.out))⟩;have ρ:Aside0 (bq.heap[J]?=some (.cells #[.int .i64 δ,.int .i64 ζ,.int .i64 ac,.slice ca a0.length cb] 26 (0,0))):=⟨(by rw[hw];exact(by(with_reducible repeat first|apply Qb|apply Qd|apply Qc);refine Qs ?_ b5.out _;(with_reducible repeat first|apply Qb|apply Qd|apply Qc);refine Qs ?_ b5.out _;(with_reducible repeat first|apply Qb|apply Qd|apply Qc);refine Qs ?_ b5.out _;(with_reducible repeat first|apply Qb|apply Qd|apply Qc);refine Qs ?_ b5.out _;(with_reducible repeat first|apply Qb|apply Qd|apply Qc);exact X.out))⟩;have a4:Aside0 (bq.heap[Z]?=some (.cells #[.slice a7 χ.length ψ,.slice af τ.length a8] 24 (0,0))):=⟨(by rw[hw];exact(by(with_reducible repeat first|apply Qb|apply Qd|apply Qc);refine Qs ?_ b6.out _;(with_reducible repeat first|apply Qb|apply Qd|apply Qc);refine Qs ?_ b6.out _;(with_reducible repeat first|apply Qb|apply Qd|apply Qc);refine Qs ?_ b6.out _;(with_reducible repeat first|apply Qb|apply Qd|apply Qc);refine Qs ?_ b6.out _;(with_reducible repeat first|apply Qb|apply Qd|apply Qc);exact η.out))⟩;have a5:Aside0 (bq.heap[γ]?=some (.cells #[.int .i64 aj,.int .i64 ak,.int .i64 ao,.slice a9 a6.length aa] 26 (0,0))):=⟨(by rw[hw];exact(by(with_reducible repeat first|apply Qb|apply Qd|apply Qc);refine Qk (cs:=#[.int .i64 aj,.int .i64 ak,.int .i64 ao,.slice none 0 0]) ?_ 3 _ rfl;(with_reducible repeat first|apply Qb|apply Qd|apply Qc);refine Qk (cs:=#[.int .i64 aj,.int .i64 ak,.int .i64 0,.slice none 0 0]) ?_ 2 _ rfl;(with_reducible repeat first|apply Qb|apply Qd|apply Qc);refine Qk (cs:=#[.int .i64 aj,.int .i64 0,.int .i64 0,.slice none 0 0]) ?_ 1 _ rfl;(with_reducible repeat first|apply Qb|apply Qd|apply Qc);refine Qk (cs:=#[.int .i64 0,.int .i64 0,.int .i64 0,.slice none 0 0]) ?_ 0 _ rfl;(with_reducible repeat first|apply Qb|apply Qd|apply Qc);exact a2.out))⟩;have ab:Aside0 (Below w.heap.size w bq):=⟨(by rw[hw];exact(by repeat(first|(with_reducible first|exact HB.out|apply Qe|apply Qa|apply Qf|refine Qg ?_ ξ.out|refine Qg ?_ al.out|refine Qg ?_ aw.out|refine Qg ?_ bm.out)|exact HB.out)))⟩;clear hw;clear HO_2;clear Y;clear a1;clear ι;clear ω;clear B;clear X;clear η;clear a2;clear HB;have HO_2:=D;have Y:=I;have a1:=O;have ι :=U;have ω := ε;have B:= ν;have X:=ρ;have η :=a4;have a2:=a5;have HB:=ab;clear D I O U ε ν ρ a4 a5 ab;have fl:(5:Int)≤((a3.length:Int):Int):=of_decide_eq_true (by first|(with_reducible assumption)|assumption);obtain⟨gp,e5,_,fs,_⟩:=info_parts Zx;have hroom47:a3.length≤b7:=(Kd.Q4 HO_2.out).2.1;have fm:Kd.C (Kd.int .u8) _ bg a3.length a3:=(Kd.Q4 HO_2.out).2.2;have fn:=Yr (P:=Tryd.prog) 22 5 .i64 Tryd.underlying22 e5 bg a3.length b7 5 (by omega) fl hroom47;have dt:=Kd.Vr (m:=5) fm (by omega);have du:bu.length=(5:Int).toNat:=(by rw[e0.out,List.length_take];omega);rw[← e0.out] at dt;rw[← du] at fn;have an:=Aside0.mk dt;have ft:=Aside0.mk (show bu.length≤b7 from by omega);clear dt fm hroom47 e5 fs;have gq:=Aside0.mk du;clear du;have gr:=Aside0.mk (show 5≤a3.length from by omega);replace fl:=eq_true fl)|((with_reducible refine Qz (N:=45) rfl ?_);refine Kd.K2 (Kd.int .u8) _ 5 ?hg (N:=45) ?hd (xs:=([6,2,0,6,0]:List Int)) (inner:=[.int .u8 6,.int .u8 2,.int .u8 0,.int .u8 6,.int .u8 0]) (ok:=fun _=>True) (okp:=fun _=>True) ?hr ?hp (fun _ hk=>hk) trivial (Below.refl _ _) (Nat.le_refl _) (by simp) ?_;(case hd=>rfl);(case hg=>rfl);(case hr=>first|(go_simp;done)|(go_simp;rfl));(case hp=>exact(Reps.one (show Kd.M (Kd.int .u8) _ _ _ 6 [.int .u8 6] from rfl) (Reps.one (show Kd.M (Kd.int .u8) _ _ _ 2 [.int .u8 2] from rfl) (Reps.one (show Kd.M (Kd.int .u8) _ _ _ 0 [.int .u8 0] from rfl) (Reps.one (show Kd.M (Kd.int .u8) _ _ _ 6 [.int .u8 6] from rfl) (Reps.one (show Kd.M (Kd.int .u8) _ _ _ 0 [.int .u8 0] from rfl) (Reps.none _ _)))))));intro gs h5 bh hb hg_ hnew_;clear hg_ hnew_;(first|rw[← e4.out] at bh|(simp only[Int.reduceToNat] at bh;rw[← e4.out] at bh));have D:=Aside0.mk (Kd.Zj (by(with_reducible repeat first|apply Kd.Qi|apply Kd.Qh|apply Kd.Ql);exact HO_2.out) (Kd.Q5 bh) hb);have I:=Aside0.mk (Kd.Zj (by(with_reducible repeat first|apply Kd.Qi|apply Kd.Qh|apply Kd.Ql);exact Y.out) (Kd.Q5 bh) hb);have O:=Aside0.mk (Kd.Zj (by(with_reducible repeat first|apply Kd.Qi|apply Kd.Qh|apply Kd.Ql);exact a1.out) (Kd.Q5 bh) hb);have U:=Aside0.mk (Kd.Zj (by(with_reducible repeat first|apply Kd.Qi|apply Kd.Qh|apply Kd.Ql);exact ι.out) (Kd.Q5 bh) hb);have ε :=Aside0.mk (Kd.Zj (by(with_reducible repeat first|apply Kd.Qi|apply Kd.Qh|apply Kd.Ql);exact ω.out) (Kd.Q5 bh) hb);have ν :=Aside0.mk (Kd.Zd (Kd.Zi (Kd.Zi (Kd.Zi (Kd.Zi (Kd.Zi bh (Kd.Zp (by(with_reducible repeat first|apply Kd.Qi|apply Kd.Qh|apply Kd.Ql);exact HO_2.out))) (Kd.Zp (by(with_reducible repeat first|apply Kd.Qi|apply Kd.Qh|apply Kd.Ql);exact Y.out))) (Kd.Zp (by(with_reducible repeat first|apply Kd.Qi|apply Kd.Qh|apply Kd.Ql);exact a1.out))) (Kd.Zp (by(with_reducible repeat first|apply Kd.Qi|apply Kd.Qh|apply Kd.Ql);exact ι.out))) (Kd.Zp (by(with_reducible repeat first|apply Kd.Qi|apply Kd.Qh|apply Kd.Ql);exact ω.out))) (Qj (by repeat(first|(with_reducible first|exact HB.out|apply Qe|apply Qa|apply Qf|refine Qg ?_ ξ.out|refine Qg ?_ al.out|refine Qg ?_ aw.out|refine Qg ?_ bm.out)|exact HB.out))));have ρ:=Aside0.mk (Qp (g:= μ) (o:=.cells #[.int .i64 1,.int .i64 0,.int .i64 3,.slice none 0 0] 26 (0,0)) (by(with_reducible repeat first|apply Qb|apply Qd|apply Qc);exact B.out) hb);have a4:=Aside0.mk (Qp (g:=J) (o:=.cells #[.int .i64 δ,.int .i64 ζ,.int .i64 ac,.slice ca a0.length cb] 26 (0,0)) (by(with_reducible repeat first|apply Qb|apply Qd|apply Qc);exact X.out) hb);have a5:=Aside0.mk (Qp (g:=Z) (o:=.cells #[.slice a7 χ.length ψ,.slice af τ.length a8] 24 (0,0)) (by(with_reducible repeat first|apply Qb|apply Qd|apply Qc);exact η.out) hb);have ab:=Aside0.mk (Qp (g:=γ) (o:=.cells #[.int .i64 aj,.int .i64 ak,.int .i64 ao,.slice a9 a6.length aa] 26 (0,0)) (by(with_reducible repeat first|apply Qb|apply Qd|apply Qc);exact a2.out) hb);have am:=Aside0.mk (Kd.Zb (by repeat(first|(with_reducible exact an.out)|(with_reducible refine Kd.Zc ?_ _)|(with_reducible refine Kd.Za ?_ _)|(with_reducible refine Kd.Zh ?_)|exact an.out)) hb);have ar:=Aside0.mk (Qr (by repeat(first|(with_reducible first|exact HB.out|apply Qe|apply Qa|apply Qf|refine Qg ?_ ξ.out|refine Qg ?_ al.out|refine Qg ?_ aw.out|refine Qg ?_ bm.out)|exact HB.out)) hb);clear HO_2;clear Y;clear a1;clear ι;clear ω;clear B;clear X;clear η;clear a2;clear an;clear HB;have HO_2:=D;have Y:=I;have a1:=O;have ι :=U;have ω := ε;have ax:= ν;have B:=ρ;have X:=a4;have η :=a5;have a2:=ab;have an:=am;have HB:=ar;clear D I O U ε ν ρ a4 a5 ab am ar;clear hb bh;obtain⟨bd,be,kb⟩:=Kd.Zf ax.out;subst kb)|((with_reducible refine Qv (f:=17) rfl ?_);refine Ze (some 46) rfl rfl Tryd.func17 kr rfl #[.slice bg bu.length b7,.slice bd dr.length be] rfl (by(try simp only[List.map_toArray,List.map_cons,List.map_nil]);first|done|rfl|(simp only[List.length_drop,List.length_take];rfl)) ?_;(with_reducible refine(newelref08_Same.calls ba _ _ bu _ _ dr true _ ?side1 ?side2 ?side3 ?side4 ge.out).mono ?_);(case side1=>repeat(first|exact(by repeat(first|(with_reducible exact an.out)|(with_reducible refine Kd.Zc ?_ _)|(with_reducible refine Kd.Za ?_ _)|(with_reducible refine Kd.Zh ?_)|exact an.out))|(with_reducible refine Kd.Zc ?_ _)|(with_reducible refine Kd.Za ?_ _)|(with_reducible refine Kd.Zh ?_)));(case side2=>exact ft.out);(case side3=>repeat(first|exact(Kd.Q4 ax.out).2.2|(with_reducible refine Kd.Zc ?_ _)|(with_reducible refine Kd.Za ?_ _)|(with_reducible refine Kd.Zh ?_)));(case side4=>exact(Kd.Q4 ax.out).2.1);rintro e w' ⟨rfl,⟨nd,rfl⟩⟩;refine⟨_,rfl, ?_⟩;obtain⟨ee,ef,cm,g4,eg,eh,cn,g5⟩:=qD4 X.out;obtain⟨ea,eb,ec,g3,ei,ej,ek,g6⟩:=qD4 B.out)|(go_at_call 20;(with_reducible refine(flash_Same.Ji δ ζ ac _ _ a0 1 0 3 true _ ?side1 ?side2 en.out).mono ?_);(case side1=>repeat(first|exact(Kd.Q4 Y.out).2.2|(with_reducible refine Kd.Zc ?_ _)|(with_reducible refine Kd.Za ?_ _)|(with_reducible refine Kd.Zh ?_)));(case side2=>exact(Kd.Q4 Y.out).2.1);rintro e cd ⟨rfl,hb⟩;have D:=Aside0.mk (Kd.Q1 (by(with_reducible repeat first|apply Kd.Qi|apply Kd.Qh|apply Kd.Ql);exact HO_2.out) hb);have I:=Aside0.mk (Kd.Q1 (by(with_reducible repeat first|apply Kd.Qi|apply Kd.Qh|apply Kd.Ql);exact Y.out) hb);have O:=Aside0.mk (Kd.Q1 (by(with_reducible repeat first|apply Kd.Qi|apply Kd.Qh|apply Kd.Ql);exact a1.out) hb);have U:=Aside0.mk (Kd.Q1 (by(with_reducible repeat first|apply Kd.Qi|apply Kd.Qh|apply Kd.Ql);exact ι.out) hb);have ε :=Aside0.mk (Kd.Q1 (by(with_reducible repeat first|apply Kd.Qi|apply Kd.Qh|apply Kd.Ql);exact ω.out) hb);have ν :=Aside0.mk (Kd.Q1 (by(with_reducible repeat first|apply Kd.Qi|apply Kd.Qh|apply Kd.Ql);exact ax.out) hb);have ρ:=Aside0.mk (Qp (g:= μ) (o:=.cells #[.int .i64 1,.int .i64 0,.int .i64 3,.slice none 0 0] 26 (0,0)) (by(with_reducible repeat first|apply Qb|apply Qd|apply Qc);exact B.out) hb);have a4:=Aside0.mk (Qp (g:=J) (o:=.cells #[.int .i64 δ,.int .i64 ζ,.int .i64 ac,.slice ca a0.length cb] 26 (0,0)) (by(with_reducible repeat first|apply Qb|apply Qd|apply Qc);exact X.out) hb);have a5:=Aside0.mk (Qp (g:=Z) (o:=.cells #[.slice a7 χ.length ψ,.slice af τ.length a8] 24 (0,0)) (by(with_reducible repeat first|apply Qb|apply Qd|apply Qc);exact η.out) hb);have ab:=Aside0.mk (Qp (g:=γ) (o:=.cells #[.int .i64 aj,.int .i64 ak,.int .i64 ao,.slice a9 a6.length aa] 26 (0,0)) (by(with_reducible repeat first|apply Qb|apply Qd|apply Qc);exact a2.out) hb);have am:=Aside0.mk (Kd.Zb (by repeat(first|(with_reducible exact an.out)|(with_reducible refine Kd.Zc ?_ _)|(with_reducible refine Kd.Za ?_ _)|(with_reducible refine Kd.Zh ?_)|exact an.out)) hb);have ar:=Aside0.mk (Qr (by repeat(first|(with_reducible first|exact HB.out|apply Qe|apply Qa|apply Qf|refine Qg ?_ ξ.out|refine Qg ?_ al.out|refine Qg ?_ aw.out|refine Qg ?_ bm.out)|exact HB.out)) hb);clear HO_2;clear Y;clear a1;clear ι;clear ω;clear ax;clear B;clear X;clear η;clear a2;clear an;clear HB;have HO_2:=D;have Y:=I;have a1:=O;have ι :=U;have ω := ε;have ax:= ν;have B:=ρ;have X:=a4;have η :=a5;have a2:=ab;have an:=am;have HB:=ar;clear D I O U ε ν ρ a4 a5 ab am ar;(try clear hb);(try clear az);(try clear hk);(try clear hi);obtain⟨e7,e8,e9,el,em,eo,ep,et⟩:=qD4 a2.out;obtain⟨cq,d7,db,eu,dc,dd,de,f5⟩:=qD4 B.out)|(go_at_call 20;(with_reducible refine(flash_Same.Ji aj ak ao _ _ a6 1 0 3 true _ ?side1 ?side2 cg.out).mono ?_);(case side1=>repeat(first|exact(Kd.Q4 ω.out).2.2|(with_reducible refine Kd.Zc ?_ _)|(with_reducible refine Kd.Za ?_ _)|(with_reducible refine Kd.Zh ?_)));(case side2=>exact(Kd.Q4 ω.out).2.1);rintro e pi ⟨rfl,hb⟩;have D:=Aside0.mk (Kd.Q1 (by(with_reducible repeat first|apply Kd.Qi|apply Kd.Qh|apply Kd.Ql);exact HO_2.out) hb);have I:=Aside0.mk (Kd.Q1 (by(with_reducible repeat first|apply Kd.Qi|apply Kd.Qh|apply Kd.Ql);exact Y.out) hb);have O:=Aside0.mk (Kd.Q1 (by(with_reducible repeat first|apply Kd.Qi|apply Kd.Qh|apply Kd.Ql);exact a1.out) hb);have U:=Aside0.mk (Kd.Q1 (by(with_reducible repeat first|apply Kd.Qi|apply Kd.Qh|apply Kd.Ql);exact ι.out) hb);have ε :=Aside0.mk (Kd.Q1 (by(with_reducible repeat first|apply Kd.Qi|apply Kd.Qh|apply Kd.Ql);exact ω.out) hb);have ν :=Aside0.mk (Kd.Q1 (by(with_reducible repeat first|apply Kd.Qi|apply Kd.Qh|apply Kd.Ql);exact ax.out) hb);have ρ:=Aside0.mk (Qp (g:= μ) (o:=.cells #[.int .i64 1,.int .i64 0,.int .i64 3,.slice none 0 0] 26 (0,0)) (by(with_reducible repeat first|apply Qb|apply Qd|apply Qc);exact B.out) hb);have a4:=Aside0.mk (Qp (g:=J) (o:=.cells #[.int .i64 δ,.int .i64 ζ,.int .i64 ac,.slice ca a0.length cb] 26 (0,0)) (by(with_reducible repeat first|apply Qb|apply Qd|apply Qc);exact X.out) hb);have a5:=Aside0.mk (Qp (g:=Z) (o:=.cells #[.slice a7 χ.length ψ,.slice af τ.length a8] 24 (0,0)) (by(with_reducible repeat first|apply Qb|apply Qd|apply Qc);exact η.out) hb);have ab:=Aside0.mk (Qp (g:=γ) (o:=.cells #[.int .i64 aj,.int .i64 ak,.int .i64 ao,.slice a9 a6.length aa] 26 (0,0)) (by(with_reducible repeat first|apply Qb|apply Qd|apply Qc);exact a2.out) hb);have am:=Aside0.mk (Kd.Zb (by repeat(first|(with_reducible exact an.out)|(with_reducible refine Kd.Zc ?_ _)|(with_reducible refine Kd.Za ?_ _)|(with_reducible refine Kd.Zh ?_)|exact an.out)) hb);have ar:=Aside0.mk (Qr (by repeat(first|(with_reducible first|exact HB.out|apply Qe|apply Qa|apply Qf|refine Qg ?_ ξ.out|refine Qg ?_ al.out|refine Qg ?_ aw.out|refine Qg ?_ bm.out)|exact HB.out)) hb);clear HO_2;clear Y;clear a1;clear ι;clear ω;clear ax;clear B;clear X;clear η;clear a2;clear an;clear HB;have HO_2:=D;have Y:=I;have a1:=O;have ι :=U;have ω := ε;have ax:= ν;have B:=ρ;have X:=a4;have η :=a5;have a2:=ab;have an:=am;have HB:=ar;clear D I O U ε ν ρ a4 a5 ab am ar;(try clear hb);(try clear az);(try clear hk);(try clear hi);obtain⟨f6,f7,f8,f9,fa,fc,ff,fg⟩:=qD4 X.out)|(go_at_call 20;(with_reducible refine(flash_Same.Ji δ ζ ac _ _ a0 0 0 0 σ _ ?side1 ?side2 pk.out).mono ?_);(case side1=>repeat(first|exact(Kd.Q4 Y.out).2.2|(with_reducible refine Kd.Zc ?_ _)|(with_reducible refine Kd.Za ?_ _)|(with_reducible refine Kd.Zh ?_)));(case side2=>exact(Kd.Q4 Y.out).2.1);rintro e gx ⟨rfl,hb⟩;have D:=Aside0.mk (Kd.Q1 (by(with_reducible repeat first|apply Kd.Qi|apply Kd.Qh|apply Kd.Ql);exact HO_2.out) hb);have I:=Aside0.mk (Kd.Q1 (by(with_reducible repeat first|apply Kd.Qi|apply Kd.Qh|apply Kd.Ql);exact Y.out) hb);have O:=Aside0.mk (Kd.Q1 (by(with_reducible repeat first|apply Kd.Qi|apply Kd.Qh|apply Kd.Ql);exact a1.out) hb);have U:=Aside0.mk (Kd.Q1 (by(with_reducible repeat first|apply Kd.Qi|apply Kd.Qh|apply Kd.Ql);exact ι.out) hb);have ε :=Aside0.mk (Kd.Q1 (by(with_reducible repeat first|apply Kd.Qi|apply Kd.Qh|apply Kd.Ql);exact ω.out) hb);have ν :=Aside0.mk (Kd.Q1 (by(with_reducible repeat first|apply Kd.Qi|apply Kd.Qh|apply Kd.Ql);exact ax.out) hb);have ρ:=Aside0.mk (Qp (g:= μ) (o:=.cells #[.int .i64 1,.int .i64 0,.int .i64 3,.slice none 0 0] 26 (0,0)) (by(with_reducible repeat first|apply Qb|apply Qd|apply Qc);exact B.out) hb);have a4:=Aside0.mk (Qp (g:=J) (o:=.cells #[.int .i64 δ,.int .i64 ζ,.int .i64 ac,.slice ca a0.length cb] 26 (0,0)) (by(with_reducible repeat first|apply Qb|apply Qd|apply Qc);exact X.out) hb);have a5:=Aside0.mk (Qp (g:=Z) (o:=.cells #[.slice a7 χ.length ψ,.slice af τ.length a8] 24 (0,0)) (by(with_reducible repeat first|apply Qb|apply Qd|apply Qc);exact η.out) hb);have ab:=Aside0.mk (Qp (g:=γ) (o:=.cells #[.int .i64 aj,.int .i64 ak,.int .i64 ao,.slice a9 a6.length aa] 26 (0,0)) (by(with_reducible repeat first|apply Qb|apply Qd|apply Qc);exact a2.out) hb);have am:=Aside0.mk (Kd.Zb (by repeat(first|(with_reducible exact an.out)|(with_reducible refine Kd.Zc ?_ _)|(with_reducible refine Kd.Za ?_ _)|(with_reducible refine Kd.Zh ?_)|exact an.out)) hb);have ar:=Aside0.mk (Qr (by repeat(first|(with_reducible first|exact HB.out|apply Qe|apply Qa|apply Qf|refine Qg ?_ ξ.out|refine Qg ?_ al.out|refine Qg ?_ aw.out|refine Qg ?_ bm.out)|exact HB.out)) hb);clear HO_2;clear Y;clear a1;clear ι;clear ω;clear ax;clear B;clear X;clear η;clear a2;clear an;clear HB;have HO_2:=D;have Y:=I;have a1:=O;have ι :=U;have ω := ε;have ax:= ν;have B:=ρ;have X:=a4;have η :=a5;have a2:=ab;have an:=am;have HB:=ar;clear D I O U ε ν ρ a4 a5 ab am ar;(try clear hb);(try clear az);(try clear hk);(try clear hi)))
             go_ret
             exact⟨by first|rfl|(simp[Qo,Qn] <;> rfl)|(simp[*,Qo,Qn] <;> rfl),by repeat(first|(with_reducible first|exact HB.out|apply Qe|apply Qa|apply Qf|refine Qg ?_ ξ.out|refine Qg ?_ al.out|refine Qg ?_ aw.out|refine Qg ?_ bm.out)|exact HB.out)⟩
            ·rw[if_neg bk] at H
             exact absurd H (by simp)
          ·replace cf:=Bool.eq_false_iff.mpr cf
           subst cf
           have H1:(none)=some r:=by rw[if_neg (show ¬ (false=true) by decide)] at H;exact H
           clear H
           have H:=H1
           clear H1
           exact absurd H (by simp)
         ·rw[if_neg bp] at H
          exact absurd H (by simp)
        ·replace fe:=Bool.eq_false_iff.mpr fe
         subst fe
         have H1:(none)=some r:=by rw[if_neg (show ¬ (false=true) by decide)] at H;exact H
         clear H
         have H:=H1
         clear H1
         exact absurd H (by simp)
       ·rw[if_neg b0] at H
        exact absurd H (by simp)
      ·replace dl:=Bool.eq_false_iff.mpr dl
       subst dl
       have H1:(none)=some r:=by rw[if_neg (show ¬ (false=true) by decide)] at H;exact H
       clear H
       have H:=H1
       clear H1
       exact absurd H (by simp)
     ·replace ed:=Bool.eq_false_iff.mpr ed
      subst ed
      have H1:(none)=some r:=by rw[if_neg (show ¬ (false=true) by decide)] at H;exact H
      clear H
      have H:=H1
      clear H1
      exact absurd H (by simp)
    ·rw[if_neg bl] at H
     exact absurd H (by simp)
end Go.Proofs.YtickbejailcehaaDoor.C
namespace Go.Proofs.YtickbejailcehaaDoor.Flash
open Go.RowKit Go.Proofs.YtickbejailcehaaDoorW.PrintWords Go.Proofs.YtickbejailcehaaDoorW.PrintLast Go.Proofs.YtickbejailcehaaDoorW.PrintMore Go.Proofs.YtickbejailcehaaDoor.C
open Go.Proofs.YtickbejailcehaaDoor.Wire (In pt Yk Z9 Zt)
open Go.Proofs.YtickbejailcehaaDoor.Crc (Yg Yh By)
set_option linter.unusedVariables false
def err (p:Int×Int×Int×List Int×Int):Int:=p.2.2.2.2
def Zy (a b:List Int):Int×Int×Int×List Int×Bool×Int:=
  if err (Z6 a)≠0∧err (Z6 b)≠0 then (0,0,0,[],false,123) else
  if err (Z6 a)≠0∨(err (Z6 b)=0∧(Z6 b).1>(Z6 a).1) then ((Z6 b).1,(Z6 b).2.1,(Z6 b).2.2.1,(Z6 b).2.2.2.1,true,0)
  else ((Z6 a).1,(Z6 a).2.1,(Z6 a).2.2.1,(Z6 a).2.2.2.1,false,0)
theorem Jw (a b:List Int) (ha:∀ x ∈ a,By x) (hb:∀ x ∈ b,By x) (la:a.length≤1000000) (lb:b.length≤1000000) (k:Nat) (hk:a.length+b.length+100<k):flash_Recover.f k a b=some (Zy a b):=by
  obtain⟨k,rfl⟩:∃ m,k=m+1:=⟨k-1,by omega⟩
  unfold flash_Recover.f Zy err
  rw[J2 a ha la _ (by omega),J2 b hb lb _ (by omega)]
  simp only[Option.bind_some]
  generalize Z6 a=x
  generalize Z6 b=y
  by_cases h1:x.2.2.2.2=0
  · rw[if_pos h1,if_neg (fun h=>h.1 h1)]
    simp only[flash_Recover.j0]
    rw[if_neg (by decide),if_pos h1]
    by_cases D:y.2.2.2.2=0
    · rw[if_pos D]
      by_cases O:y.1>x.1
      · rw[if_pos O,if_pos (.inr ⟨D,O⟩)]
      · rw[if_neg O,if_neg (fun h=>h.elim (fun g=>g h1) (fun g=>O g.2))]
    · rw[if_neg D,if_neg (fun h=>h.elim (fun g=>g h1) (fun g=>D g.1))]
  · rw[if_neg h1]
    simp only[flash_Recover.j0]
    by_cases D:y.2.2.2.2=0
    · rw[if_neg (by simp[D]),if_neg h1,if_neg (fun h=>h.2 D),if_pos (.inl h1)]
    · rw[if_pos (by simp[D]),if_pos ⟨h1,D⟩]
def Yx (cut:Int) (n:Nat):Nat:=if cut≤0 then 0 else if (n:Int)≤cut then n else cut.toNat
theorem N9 (cut:Int) (n:Nat):Yx cut n≤n:=by unfold Yx;split <;> (try split) <;> omega
theorem My (cut:Int) (n:Nat) (h:cut≥(n:Int)):Yx cut n=n:=by unfold Yx;split <;> (try split) <;> omega
theorem Da (cut:Int) (n:Nat):mn (mx cut 0) (n:Int)=(Yx cut n:Int):=by
  unfold mn mx Yx
  split <;> split <;> (try split) <;> (try split) <;> omega
theorem Uh (l:List Int) (h:l.length≤1000000):bytes_Clone.f l=some l:=by
  unfold bytes_Clone.f
  rw[if_pos (by omega)]
def Ko (a b:List Int):Bool:=if (Zy a b).2.2.2.2.2=0 then (Zy a b).2.2.2.2.1 else true
def Yf (a b:List Int) (g c m:Int) (l:List Int) (cut:Int):List Int×List Int×Bool×Int:=
  if Jp g m l.length=true then
    if (Zy a b).2.2.2.2.2=0∧g≤(Zy a b).1 then ([],[],false,124) else
    (Xi (Ko a b) ((Xt g c m l).take (Yx cut (Xt g c m l).length)) a,Xi (Ko a b) b ((Xt g c m l).take (Yx cut (Xt g c m l).length)),decide (cut≥((Xt g c m l).length:Int)),0)
  else ([],[],false,120)
theorem Vu (a b:List Int) (ha:∀ x ∈ a,By x) (hb:∀ x ∈ b,By x) (la:a.length≤1000000) (lb:b.length≤1000000) {g c m:Int} {l:List Int} (hg:In g) (hc:In c) (hm:In m) (hl:∀ x ∈ l,By x) (ll:l.length≤1000000) (cut:Int) (k:Nat) (hk:a.length+b.length+l.length+200<k):
    flash_Write.f k a b g c m l cut=some (Yf a b g c m l cut):=by
  obtain⟨k,rfl⟩:∃ m,k=m+3:=⟨k-3,by omega⟩
  unfold flash_Write.f Yf
  rw[K8 hg hc hm hl ll _ (by omega)]
  simp only[Option.bind_some]
  unfold Wn
  by_cases h1:Jp g m l.length=true
  case neg=>
    rw[if_neg h1,if_neg h1]
    rfl
  rw[if_pos h1,if_pos h1,Jw a b ha hb la lb _ (by omega)]
  simp only[Option.bind_some]
  unfold Ko
  generalize Zy a b=R
  generalize Xt g c m l=q
  have j2:∀ x:Bool,flash_Write.j2 (k+1) cut q x a b=some (Xi x (q.take (Yx cut q.length)) a,Xi x b (q.take (Yx cut q.length)),decide (cut≥(q.length:Int)),0):=by
    intro x
    simp only[flash_Write.j2]
    have:=N9 cut q.length
    rw[Uh a la,Uh b lb,Da]
    simp only[Option.bind_some]
    rw[if_pos (by omega),if_pos (by omega),Int.toNat_natCast]
  have j1:∀ x:Bool,flash_Write.j1 (k+2) cut q false x a b=some (Xi x (q.take (Yx cut q.length)) a,Xi x b (q.take (Yx cut q.length)),decide (cut≥(q.length:Int)),0):=by
    intro x
    simp only[flash_Write.j1]
    cases x
    · rw[if_neg (by decide),j2]
    · rw[if_pos rfl,j2]
  have j0:∀ x:Bool,flash_Write.j0 (k+3) cut q R.2.2.2.2.1 R.2.2.2.2.2 x a b=some (if x=true then ([],[],false,124) else (Xi (if R.2.2.2.2.2=0 then R.2.2.2.2.1 else true) (q.take (Yx cut q.length)) a,Xi (if R.2.2.2.2.2=0 then R.2.2.2.2.1 else true) b (q.take (Yx cut q.length)),decide (cut≥(q.length:Int)),0)):=by
    intro x
    simp only[flash_Write.j0]
    cases x
    · have e:¬ ((false:Bool)=true):=by decide
      rw[if_neg e,if_neg e]
      by_cases h:R.2.2.2.2.2=0
      · rw[if_pos h,if_pos h,j1]
      · rw[if_neg h,if_neg h,j1]
    · rw[if_pos rfl,if_pos rfl]
  rw[if_pos trivial]
  by_cases D:R.2.2.2.2.2=0
  · rw[if_pos D,j0]
    by_cases O:g≤R.1
    · rw[decide_eq_true O,if_pos rfl,if_pos ⟨D,O⟩]
    · have e:¬ ((false:Bool)=true):=by decide
      have U:¬ (R.2.2.2.2.2=0∧g≤R.1):=fun h=>O h.2
      rw[decide_eq_false O,if_neg e,if_neg U]
  · have e:¬ ((false:Bool)=true):=by decide
    have U:¬ (R.2.2.2.2.2=0∧g≤R.1):=fun h=>D h.1
    rw[if_neg D,j0,if_neg e,if_neg U]
theorem Ur (g c m:Int) (l:List Int):flash_Same.f g c m l g c m l=some true:=by
  unfold flash_Same.f bytes_Equal.f
  rw[if_pos rfl,if_pos rfl,if_pos rfl]
  simp
theorem Ly (g c m:Int) (l:List Int) (B c2 m2:Int) (I:List Int) (h:l.length≤1000000) (k:Nat) (hk:l.length<k):newelref12_Same.f k g c m l B c2 m2 I=some (decide (g=B∧c=c2∧m=m2∧l=I)):=by
  unfold newelref12_Same.f
  by_cases h1:g=B
  · rw[if_pos h1]
    by_cases D:c=c2
    · rw[if_pos D]
      by_cases O:m=m2
      · rw[if_pos O,Wire.Jf l I k hk (by omega)]
        simp[h1,D,O]
      · rw[if_neg O,decide_eq_false (fun h=>O h.2.2.1)]
    · rw[if_neg D,decide_eq_false (fun h=>D h.2.1)]
  · rw[if_neg h1,decide_eq_false (fun h=>h1 h.1)]
theorem N3:In 1:=by unfold In;decide
theorem N4:In 0:=by unfold In;decide
theorem N2:In 3:=by unfold In;decide
theorem Ml:Jp 1 3 ([]:List Int).length=true:=by decide
theorem E6:X8 1 0 3 ([]:List Int).length = [6,2,0,6,0]:=by decide +kernel
theorem M1:(Xt 1 0 3 []).take 5 = [6,2,0,6,0]∧(Xt 1 0 3 []).length=7:=by
  have h:=E6
  constructor
  · unfold Xt
    rw[h,List.append_nil]
    unfold Yg
    rw[List.take_left']
    rfl
  · rw[Gq,h]
    rfl
theorem V7:Z6 []=(0,0,0,[],81):=by decide +kernel
theorem Uk (k:Nat) (hk:1000≤k):newellaw12_awake.f k=some true:=by
  obtain⟨k,rfl⟩:∃ m,k=m+1:=⟨k-1,by omega⟩
  have hn:∀ x ∈ ([]:List Int),By x:=fun x hx=>absurd hx (by simp)
  have hc:=Ea N3 N4 N2 hn (show([]:List Int).length≤1000000 by decide)
  have U:=M1.2
  have J:=M1.1
  have hr:=W7 N3 N4 N2 hn Ml
  have hl:(Xt 1 0 3 []).length=7:=U
  have hR:Zy [] []=(0,0,0,[],false,123):=by
    unfold Zy
    rw[V7]
    exact if_pos ⟨by decide,by decide⟩
  have hW:Yf [] [] 1 0 3 [] 99=(Xt 1 0 3 [],[],true,0):=by
    unfold Yf Ko
    rw[if_pos Ml,hR,U]
    dsimp only
    rw[if_neg (by decide),if_neg (by decide),show Yx 99 7=7 from by decide,List.take_of_length_le (by omega)]
    rfl
  have B:Zy (Xt 1 0 3 []) []=(1,0,3,[],false,0):=by
    unfold Zy err
    rw[hr,V7]
    dsimp only
    rw[if_neg (by decide),if_neg (by decide)]
  unfold newellaw12_awake.f
  rw[K8 N3 N4 N2 hn (by decide) _ (by simp;omega)]
  simp only[Option.bind_some]
  unfold Wn
  rw[if_pos Ml]
  dsimp only
  rw[if_pos (by omega)]
  simp only[newellaw12_awake.j0]
  rw[if_neg (by decide),J2 _ hc (by omega) k (by omega),hr,Vu [] [] hn hn (by decide) (by decide) N3 N4 N2 hn (by decide) 99 k (by simp;omega),hW]
  simp only[Option.bind_some]
  rw[Jw _ _ hc hn (by omega) (by decide) k (by simp;omega),B]
  simp only[Option.bind_some]
  rw[if_pos (by omega),J,Wire.Jf _ _ k (by simp;omega) (by decide)]
  simp only[Option.bind_some,decide_true,if_true]
  rw[Ur]
  simp only[Option.bind_some,if_true]
  rw[show flash_Same.f 1 0 3 [] 0 0 0 []=some false from rfl]
  simp
theorem E0 (a b:List Int) (ha:a.length≤1000000) (hb:b.length≤1000000):newellaw12_Own.f a b=some (a,b):=by
  unfold newellaw12_Own.f
  simp only[Option.bind_some,List.nil_append,List.length_nil]
  rw[if_pos (by omega),if_pos (by omega)]
theorem E7 (a b:List Int):newelref12_Few.f a b=some (decide (a.length≤5000∧b.length≤5000)):=by
  unfold newelref12_Few.f
  by_cases h1:(a.length:Int)≤5000
  · rw[if_pos h1]
    congr 1
    rw[decide_eq_decide]
    omega
  · rw[if_neg h1,decide_eq_false (by omega)]
def L4 (x y:Int×Int×Int×List Int×Int):Int×Int×Int×List Int×Bool×Int:=
  if err x≠0∧err y≠0 then (0,0,0,[],false,123) else
  if err x≠0∨(err y=0∧y.1>x.1) then (y.1,y.2.1,y.2.2.1,y.2.2.2.1,true,0)
  else (x.1,x.2.1,x.2.2.1,x.2.2.2.1,false,0)
theorem Jg (a b:List Int):Zy a b=L4 (Z6 a) (Z6 b):=rfl
theorem Kj (x y:Int×Int×Int×List Int×Int):(err x≠0∧err y≠0∧L4 x y=(0,0,0,[],false,123))∨(err y=0∧(err x=0→y.1>x.1)∧L4 x y=(y.1,y.2.1,y.2.2.1,y.2.2.2.1,true,0))∨(err x=0∧(err y=0→y.1≤x.1)∧L4 x y=(x.1,x.2.1,x.2.2.1,x.2.2.2.1,false,0)):=by
  unfold L4
  by_cases h1:err x=0
  · by_cases D:err y=0
    · by_cases O:y.1>x.1
      · refine .inr (.inl ⟨D,fun _=>O, ?_⟩)
        rw[if_neg (fun h=>h.1 h1),if_pos (.inr ⟨D,O⟩)]
      · refine .inr (.inr ⟨h1,fun _=>by omega, ?_⟩)
        rw[if_neg (fun h=>h.1 h1),if_neg (fun h=>h.elim (fun q=>q h1) (fun q=>O q.2))]
    · refine .inr (.inr ⟨h1,fun q=>absurd q D, ?_⟩)
      rw[if_neg (fun h=>h.1 h1),if_neg (fun h=>h.elim (fun q=>q h1) (fun q=>D q.1))]
  · by_cases D:err y=0
    · refine .inr (.inl ⟨D,fun q=>absurd q h1, ?_⟩)
      rw[if_neg (fun h=>h.2 D),if_pos (.inl h1)]
    · refine .inl ⟨h1,D, ?_⟩
      rw[if_pos ⟨h1,D⟩]
theorem Wr (a b:List Int) {g c m:Int} {l:List Int} (cut:Int) (n:Nat) (ha:a.length≤n) (hb:b.length≤n) (hl:l.length+100≤n):(Yf a b g c m l cut).1.length≤n∧(Yf a b g c m l cut).2.1.length≤n:=by
  have hd:=Gm g c m l.length
  have hk:=Gq g c m l
  unfold Yf
  split
  · split
    · exact⟨Nat.zero_le _,Nat.zero_le _⟩
    · cases Ko a b <;> simp only[Xi,List.length_take,if_true,Bool.false_eq_true,if_false] <;> constructor <;> omega
  · exact⟨Nat.zero_le _,Nat.zero_le _⟩
theorem M2 {g c m:Int} {l:List Int} (hg:In g) (hc:In c) (hm:In m) (hb:∀ x ∈ l,By x) (hl:l.length≤1000000) (k:Nat) (hk:10 * l.length+1000<k):newelref12_Code.f k g c m l=some (Xt g c m l):=by
  unfold newelref12_Code.f
  rw[Wire.W5 _ (in3 hg hc hm) (by simp) k (by simp;omega),Wire.Kh _ (Vg (by omega)) k (by omega)]
  simp only[Option.bind_some]
  have h1:=Wire.Gk [g,c,m]
  have D:=Wire.Y8 (l.length:Int)
  simp only[List.length_cons,List.length_nil] at h1
  rw[if_pos (by omega),if_pos (by simp only[List.length_append];omega)]
  have hd:=Gm g c m l.length
  rw[show Yk [g,c,m]++pt (l.length:Int)=X8 g c m l.length from rfl,Crc.Lx _ (Ga hg hc hm hb hl) (by simp only[List.length_append];omega) k (by simp only[List.length_append];omega)]
  rfl
theorem V9 (l:List Int) (hb:∀ x ∈ l,By x) (hl:l.length≤1000000) (k:Nat) (hk:10 * l.length+1000<k):newelref12_Read.f k l=some (Z6 l):=by
  obtain⟨k,rfl⟩:∃ m,k=m+1:=⟨k-1,by omega⟩
  unfold newelref12_Read.f Z6
  rw[Wire.G9 l hb (by omega) 0 3 (by decide) (k+1) (by omega)]
  simp only[Option.bind_some]
  generalize Zt l 0 3=p
  obtain⟨q,at_,e⟩:=p
  dsimp only
  by_cases I:e=0
  case neg=>rw[if_neg I,if_neg I]
  rw[if_pos I,if_pos I]
  by_cases h1:q.length=3
  case neg=>rw[if_neg (by omega),if_neg (fun x=>h1 x.1)]
  rw[if_pos (by omega),if_pos (by omega),if_pos (by omega),if_pos (by omega),Wj]
  simp only[Option.bind_some,List.length_nil]
  cases D:Jp (rd q 0) (rd q 2) 0
  case false=>rw[if_neg (by decide),if_neg (fun x=>Bool.noConfusion x.2)]
  rw[if_pos rfl,if_pos ⟨h1,rfl⟩,Wire.Ki l hb (by omega) at_ (k+1) (by omega)]
  simp only[Option.bind_some]
  have hg:=Wire.G5 l hb at_
  generalize Z9 l at_=p at *
  obtain⟨n,at2,U⟩:=p
  dsimp only at hg ⊢
  by_cases O:U=0
  case neg=>rw[if_neg O,if_neg O]
  obtain⟨X,B,Y,Z,_⟩:=hg O
  have w1:wrap64 ((l.length:Int)-at2)=(l.length:Int)-at2:=by unfold wrap64;omega
  have w2:∀ (b:Bool) (z0 z1 J z3:Int),b=decide (n<0∨4096<n)→newelref12_Read.j0 (k+1) l b (rd q 0) (rd q 1) (rd q 2) n at2 z0=some (if n<0∨4096<n then (0,0,0,[],120) else
          if (l.length:Int)-at2-2<n then (0,0,0,[],121) else
          if (l.length:Int)-at2-2>n then (0,0,0,[],122) else
          if (Yh l).2=0 then (rd q 0,rd q 1,rd q 2,(l.drop at2.toNat).take n.toNat,0) else (0,0,0,[],(Yh l).2)):=by
    intro b z0 _ _ _ hbb
    simp only[newelref12_Read.j0]
    by_cases c:n<0∨4096<n
    · rw[hbb,decide_eq_true c,if_pos rfl,if_pos c]
    have wn:wrap64 (n+2)=n+2:=by unfold wrap64;omega
    rw[hbb,decide_eq_false c,if_neg (by decide),if_neg c,w1,wn]
    by_cases c1:(l.length:Int)-at2-2<n
    · rw[if_pos (by omega),if_pos c1]
    rw[if_neg (by omega),if_neg c1]
    by_cases c2:(l.length:Int)-at2-2>n
    · rw[if_pos (by omega),if_pos c2]
    rw[if_neg (by omega),if_neg c2,Crc.Me l hb (by omega) k (by omega)]
    simp only[Option.bind_some]
    have wa:wrap64 (at2+n)=at2+n:=by unfold wrap64;omega
    by_cases c3:(Yh l).2=0
    · rw[if_pos c3,if_pos c3,wa,if_pos (by omega),if_pos (by omega),if_pos (by omega),List.drop_take,show(at2+n).toNat-at2.toNat=n.toNat from by omega]
    · rw[if_neg c3,if_neg c3]
  rw[if_pos O,if_pos O]
  by_cases c:n<0
  · rw[if_pos c]
    exact w2 true _ 0 0 0 (decide_eq_true (.inl c)).symm
  · rw[if_neg c]
    refine w2 _ _ 0 0 0 ?_
    rw[decide_eq_decide]
    omega
theorem Kv (a b:List Int) (ha:∀ x ∈ a,By x) (hb:∀ x ∈ b,By x) (la:a.length≤1000000) (lb:b.length≤1000000) (k:Nat) (hk:10 * (a.length+b.length)+1000<k):
    newelref12_Recover.f k a b=some ((Zy a b).1,(Zy a b).2.1,(Zy a b).2.2.1,(Zy a b).2.2.2.1,(Zy a b).2.2.2.2.1,decide ((Zy a b).2.2.2.2.2=0)):=by
  obtain⟨k,rfl⟩:∃ m,k=m+1:=⟨k-1,by omega⟩
  unfold newelref12_Recover.f
  rw[V9 a ha la _ (by omega),V9 b hb lb _ (by omega),Jg]
  simp only[Option.bind_some]
  generalize Z6 a=x
  generalize Z6 b=y
  have hj:∀ t:Bool,newelref12_Recover.j0 (k+1) t x.1 x.2.1 x.2.2.1 x.2.2.2.1 x.2.2.2.2 y.1 y.2.1 y.2.2.1 y.2.2.2.1 y.2.2.2.2=if t=true then (some (x.1,x.2.1,x.2.2.1,x.2.2.2.1,false,true)) else (if y.2.2.2.2=0 then (some (y.1,y.2.1,y.2.2.1,y.2.2.2.1,true,true)) else (some (0,0,0,([]:List Int),false,false))):=fun t=>rfl
  simp only[hj]
  rcases Kj x y with⟨h1,D,e⟩|⟨h1,D,e⟩|⟨h1,D,e⟩
  · unfold err at h1 D
    rw[e,if_neg h1,if_neg (by decide),if_neg D]
    rfl
  · unfold err at h1 D
    rw[e]
    by_cases hx:x.2.2.2.2=0
    · have:=D hx
      rw[if_pos hx,if_pos h1,decide_eq_false (by omega),if_neg (by decide),if_pos h1]
      rfl
    · rw[if_neg hx,if_neg (by decide),if_pos h1]
      rfl
  · unfold err at h1 D
    rw[e,if_pos h1]
    by_cases hy:y.2.2.2.2=0
    · rw[if_pos hy,decide_eq_true (D hy),if_pos rfl]
      rfl
    · rw[if_neg hy,if_pos trivial]
      rfl
theorem Ws (a b:List Int) (ha:∀ x ∈ a,By x) (hb:∀ x ∈ b,By x) (la:a.length≤1000000) (lb:b.length≤1000000) {g c m:Int} {l:List Int} (hg:In g) (hc:In c) (hm:In m) (hl:∀ x ∈ l,By x) (ll:l.length≤1000000) (cut:Int) (k:Nat) (hk:10 * (a.length+b.length+l.length)+2000<k):
    newelref12_Write.f k a b g c m l cut=some (Yf a b g c m l cut):=by
  obtain⟨k,rfl⟩:∃ m,k=m+2:=⟨k-2,by omega⟩
  unfold newelref12_Write.f Yf
  rw[Wj]
  simp only[Option.bind_some]
  by_cases h1:Jp g m l.length=true
  case neg=>rw[if_neg h1,if_neg h1]
  rw[if_pos h1,if_pos h1,Kv a b ha hb la lb _ (by omega)]
  simp only[Option.bind_some]
  unfold Ko
  generalize Zy a b=R
  have hcode:=M2 hg hc hm hl ll (k+1) (by omega)
  generalize Xt g c m l=q at *
  have j1:∀ n:Int,n=(if cut<0 then 0 else cut)→newelref12_Write.j1 (k+1) cut q n a b R.1 R.2.1 R.2.2.1 R.2.2.2.1 R.2.2.2.2.1 (decide (R.2.2.2.2.2=0))=some (Xi (if R.2.2.2.2.2=0 then R.2.2.2.2.1 else true) (q.take (Yx cut q.length)) a,Xi (if R.2.2.2.2.2=0 then R.2.2.2.2.1 else true) b (q.take (Yx cut q.length)),decide (cut≥(q.length:Int)),0):=by
    intro n hn
    simp only[newelref12_Write.j1]
    have I:0≤n:=by split at hn <;> omega
    have fin:∀ m:Nat,(if R.2.2.2.2.2=0 then (if R.2.2.2.2.1=true then some (q.take m,b,decide (cut≥(q.length:Int)),0) else some (a,q.take m,decide (cut≥(q.length:Int)),0)) else some (q.take m,b,decide (cut≥(q.length:Int)),(0:Int)))=some (Xi (if R.2.2.2.2.2=0 then R.2.2.2.2.1 else true) (q.take m) a,Xi (if R.2.2.2.2.2=0 then R.2.2.2.2.1 else true) b (q.take m),decide (cut≥(q.length:Int)),0):=by
      intro m
      by_cases c2:R.2.2.2.2.2=0
      · rw[if_pos c2,if_pos c2]
        cases R.2.2.2.2.1 <;> rfl
      · rw[if_neg c2,if_neg c2]
        rfl
    rw[← fin]
    by_cases c1:n>(q.length:Int)
    · have e:Yx cut q.length=q.length:=My _ _ (by split at hn <;> omega)
      have z1:(0:Int)≤(q.length:Int):=by omega
      have J:(q.length:Int)≤(q.length:Int):=Int.le_refl _
      rw[if_pos c1,e]
      simp only[if_pos z1,if_pos J,Int.toNat_natCast,decide_eq_true_eq]
    · have e:Yx cut q.length=n.toNat:=by
        unfold Yx
        split at hn <;> split <;> (try split) <;> omega
      have J:n≤(q.length:Int):=by omega
      rw[if_neg c1,e]
      simp only[if_pos I,if_pos J,decide_eq_true_eq]
  have j0:∀ x:Bool,newelref12_Write.j0 (k+2) cut x a b g c m l R.1 R.2.1 R.2.2.1 R.2.2.2.1 R.2.2.2.2.1 (decide (R.2.2.2.2.2=0))=some (if x=true then ([],[],false,124) else (Xi (if R.2.2.2.2.2=0 then R.2.2.2.2.1 else true) (q.take (Yx cut q.length)) a,Xi (if R.2.2.2.2.2=0 then R.2.2.2.2.1 else true) b (q.take (Yx cut q.length)),decide (cut≥(q.length:Int)),0)):=by
    intro x
    simp only[newelref12_Write.j0]
    cases x
    · have e:¬ ((false:Bool)=true):=by decide
      rw[if_neg e,if_neg e,hcode]
      simp only[Option.bind_some]
      by_cases h:cut<0
      · rw[if_pos h,j1 _ (by rw[if_pos h])]
      · rw[if_neg h,j1 _ (by rw[if_neg h])]
    · rw[if_pos rfl,if_pos rfl]
  by_cases D:R.2.2.2.2.2=0
  · rw[if_pos (decide_eq_true D),j0]
    by_cases O:g≤R.1
    · rw[decide_eq_true O,if_pos rfl,if_pos ⟨D,O⟩]
    · have e:¬ ((false:Bool)=true):=by decide
      have U:¬ (R.2.2.2.2.2=0∧g≤R.1):=fun h=>O h.2
      rw[decide_eq_false O,if_neg e,if_neg U]
  · have e:¬ ((false:Bool)=true):=by decide
    have U:¬ (R.2.2.2.2.2=0∧g≤R.1):=fun h=>D h.1
    rw[if_neg (by rw[decide_eq_false D];decide),j0,if_neg e,if_neg U]
end Go.Proofs.YtickbejailcehaaDoor.Flash
