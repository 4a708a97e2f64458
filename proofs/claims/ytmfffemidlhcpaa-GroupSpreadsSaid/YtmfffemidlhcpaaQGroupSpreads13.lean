/- What this law's functions come to, walked; what that is, in plain Lean. No conditions of its own. -/
import Derived.Test.YtmfffemidlhcpaaQGroupSpreads12
import Derived.WalkMore
set_option linter.unusedSimpArgs false
set_option linter.unusedVariables false
set_option maxHeartbeats 8000000
set_option maxRecDepth 100000
namespace Go.Proofs.Ytmfffemidlhcpaa.C
open Go.RowKit Go.Proofs.YtmfffemidlhcpaaW.PrintWords Go.Proofs.YtmfffemidlhcpaaW.PrintLast Go.Proofs.YtmfffemidlhcpaaW.PrintMore
attribute [local go_sem] Z2 Z0 Xb Xa Zt Zs Z1 Zz
def group_pick.l0:Nat→Int→Int→Int→Int→Int→Int→Int→Int→Int→Int→Int→Int→Int→Int→List (S31)→List (S36)→List (S86)→Int→Int→Int→Option (Int)
 |0,_,_,_,_,_,_,_,_,_,_,_,_,_,_,_,_,_,_,_,_=>none
 |k+1,Y,σ,τ,B,J,O,X,Z,γ,δ,ε,ζ,η,θ,ι,κ,μ,ν,ξ,ρ=>if B < τ then (if 0≤B then (if (Go.bits .and .i64 (shr .i64 Y B) 1)=1 then (group_pick.l0 k Y σ τ (wrap64 (B+1)) J O X Z γ δ ε ζ η θ ι κ μ ν ξ ρ) else (if σ<0 then (group_pick.l0 k Y B τ (wrap64 (B+1)) J O X Z γ δ ε ζ η θ ι κ μ ν ξ ρ) else ((group_pick_1.f k B J O X Z γ δ ε ζ η θ ι κ μ ν ξ ρ).bind fun ar=>((group_pick_1.f k σ J O X Z γ δ ε ζ η θ ι κ μ ν ξ ρ).bind fun av=>(if ar<av then (group_pick.l0 k Y B τ (wrap64 (B+1)) J O X Z γ δ ε ζ η θ ι κ μ ν ξ ρ) else (group_pick.l0 k Y σ τ (wrap64 (B+1)) J O X Z γ δ ε ζ η θ ι κ μ ν ξ ρ)))))) else (none)) else (some σ)
def group_pick.f (k:Nat) (B:Int) (J:Int) (O:Int) (Y:Int) (Z:Int) (γ:Int) (δ :Int) (ε :Int) (θ :Int) (η :Int) (l1:List (S31)) (a2:Int) (μ :List (S36)) (τ :List (S86)) (ab:Int) (ac:Int) (ae:Int):Option (Int):=group_pick.l0 k a2 (-1) (l1.length:Int) 0 B J O Y Z γ δ ε θ η l1 μ τ ab ac ae
theorem group_pick.Z6:∀ k,(∀ O X Z B Y y5 y6 y7 y8 y9 γ δ ζ η θ ι κ ε μ ν,LeO (group_pick.l0 k O X Z B Y y5 y6 y7 y8 y9 γ δ ζ η θ ι κ ε μ ν) (group_pick.l0 (k+1) O X Z B Y y5 y6 y7 y8 y9 γ δ ζ η θ ι κ ε μ ν))
 |0=>fun _ _ _ _ _ _ _ _ _ _ _ _ _ _ _ _ _ _ _ _ r h=>by simp[group_pick.l0] at h
 |k+1=>by
  have J:=group_pick.Z6 k
  ·intro O X Z B Y y5 y6 y7 y8 y9 γ δ ζ η θ ι κ ε μ ν
   unfold group_pick.l0
   repeat' first|(with_reducible first|apply J|apply group_pick_1.mono|exact LeO.refl _|exact LeO.none _|refine LeO.ite ?_ ?_|refine LeO.bind ?_ (fun _=>?_))|apply J|apply group_pick_1.mono|exact LeO.none _|refine LeO.ite ?_ ?_|refine LeO.bind ?_ (fun _=>?_)
theorem group_pick.mono:∀ B Z a2 a3 O a5 X a7 a8 a9 Y γ δ ζ ε η θ k,LeO (group_pick.f k B Z a2 a3 O a5 X a7 a8 a9 Y γ δ ζ ε η θ) (group_pick.f (k+1) B Z a2 a3 O a5 X a7 a8 a9 Y γ δ ζ ε η θ):=by
 intro B Z a2 a3 O a5 X a7 a8 a9 Y γ δ ζ ε η θ k
 have J:=group_pick.Z6 k
 unfold group_pick.f
 repeat' first|(with_reducible first|apply J|apply group_pick_1.mono|exact LeO.refl _|exact LeO.none _|refine LeO.ite ?_ ?_|refine LeO.bind ?_ (fun _=>?_))|apply J|apply group_pick_1.mono|exact LeO.none _|refine LeO.ite ?_ ?_|refine LeO.bind ?_ (fun _=>?_)
theorem group_pick.calls (k:Nat) (B:Int) (J:Int) (O:Int) (Y:Int) (Z:Int) (γ:Int) (δ :Int) (ε :Int) (θ :Int) (η :Int) (A1:Option Addr) (c1:Nat) (l1:List (S31)) (a2:Int) (a7:Option Addr) (a1:Nat) (μ :List (S36)) (a3:Option Addr) (a5:Nat) (τ :List (S86)) (ab:Int) (ac:Int) (ae:Int) (r:Int) (w:World) (ct:Kd.C k31 w A1 l1.length l1) (ch:l1.length≤c1) (dd:Kd.C k36 w a7 μ.length μ) (de: μ.length≤a1) (dh:Kd.C k86 w a3 τ.length τ) (di: τ.length≤a5) (h:group_pick.f k B J O Y Z γ δ ε θ η l1 a2 μ τ ab ac ae=some r):
 Calls Try.prog 38 #[.agg #[nI B,nI J,nI O,nI Y,nI Z,nI γ,nI δ,nI ε,nI θ,nI η],.slice A1 l1.length c1,nI a2,.agg #[.slice a7 μ.length a1,.slice a3 τ.length a5],.agg #[nI ab,nI ac,nI ae]] w fun e w'=>e = .returned (nI r)∧Below w.heap.size w w':=by
 have cj:=Try.underlying25
 have d0:=Try.underlying50
 have cg:=Try.underlying36
 have ci:=aK ct
 have da:=aK ch
 clear ct ch
 have bk:=aK dd
 have bw:=aK de
 clear dd de
 have bp:=aK dh
 have bz:=aK di
 clear dh di
 have HB:=aK (Below.refl w.heap.size w)
 have H:(group_pick.l0 k a2 (-1) (l1.length:Int) 0 B J O Y Z γ δ ε θ η l1 μ τ ab ac ae)=some r:=h
 clear h
 have H':=aK H
 clear H
 go_enter Try.func38,Try.ntmps38
 go_wp2_with (first|((with_reducible refine Qe (N:=5) rfl ?_);refine qE 5 #[nI B,nI J,nI O,nI Y,nI Z,nI γ,nI δ,nI ε,nI θ,nI η] 25 ?_;intro ν hg w6 hbox hb;have X:=aK hbox;have gf:=sGe hg;have h7:=sGe hg;replace HB:=sHb hb;clear hb hbox hg)|((with_reducible refine Qe (N:=6) rfl ?_);refine qE 6 #[.slice A1 l1.length c1] 46 ?_;intro ρ hg w7 hbox hb;have ζ :=aK hbox;have df:=sGe hg;have dk:=sGe hg;have aa:=sNl X hg;have ag:=sNg X hg;replace X:=sBk X hb;replace HB:=sHb hb;clear hb hbox hg)|((with_reducible refine Qe (N:=8) rfl ?_);refine qE 8 #[.slice a7 μ.length a1,.slice a3 τ.length a5] 50 ?_;intro a0 hg w8 hbox hb;have ι :=aK hbox;have dw:=sGe hg;have em:=sGe hg;have aw:=sNl X hg;have ax:=sNg X hg;have ai:=sNl ζ hg;have aj:=sNg ζ hg;replace X:=sBk X hb;replace ζ :=sBk ζ hb;replace HB:=sHb hb;clear hb hbox hg)|((with_reducible refine Qe (N:=9) rfl ?_);refine qE 9 #[nI ab,nI ac,nI ae] 36 ?_;intro a9 hg w9 hbox hb;have κ :=aK hbox;have en:=sGe hg;have eu:=sGe hg;have ay:=sNl X hg;have az:=sNg X hg;have al:=sNl ζ hg;have am:=sNg ζ hg;have b0:=sNl ι hg;have b1:=sNg ι hg;replace X:=sBk X hb;replace ζ :=sBk ζ hb;replace ι :=sBk ι hb;replace HB:=sHb hb;clear hb hbox hg;have cx:=ag.out;have dj:=aa.out;have du:=ai.out;have e4:=aj.out;have e0:=al.out;have e3:=am.out;obtain⟨ao,ap⟩:=qD1 ζ.out))
 go_step3
 go_wp2
 go_step3
 go_wp2
 go_loopg [12,17] k (fun kq cd bc w'=>∃ (au:Int) (ξ :Int),cd=nI au∧bc=nI ξ ∧ Aside0 (group_pick.l0 kq a2 au (l1.length:Int) ξ B J O Y Z γ δ ε θ η l1 μ τ ab ac ae=some r)∧Aside0 (kq≤k)∧Aside0 (w'.heap[ν]?=some (.cells #[nI B,nI J,nI O,nI Y,nI Z,nI γ,nI δ,nI ε,nI θ,nI η] 25 (0,0)))∧Aside0 (w'.heap[ρ]?=some (.cells #[(.slice A1 l1.length c1)] 46 (0,0)))∧Aside0 (w'.heap[a0]?=some (.cells #[(.slice a7 μ.length a1),(.slice a3 τ.length a5)] 50 (0,0)))∧Aside0 (w'.heap[a9]?=some (.cells #[nI ab,nI ac,nI ae] 36 (0,0)))∧Aside0 (Below w.heap.size w w'))
 case atStart=>exact⟨((-1)),(0),rfl,rfl,H',⟨Nat.le_refl _⟩,X,ζ,ι,κ,HB⟩
 case round=>
  clear H'
  try clear c1
  try clear ao
  try clear ap
  obtain⟨au,ξ,rfl,rfl,HA,af,X,ζ,ι,κ,HB⟩:=hrel
  cases gk with
  |zero=>exact absurd HA.out (by simp[group_pick.l0])
  |succ k1=>
   have H:=HA.out
   clear HA
   simp only[group_pick.l0] at H
   by_cases σ: ξ < (l1.length:Int)
   ·rw[if_pos σ] at H
    have c14b0:=decide_eq_true σ
    clear σ
    by_cases a8:0 ≤ ξ
    ·rw[if_pos a8] at H
     have c15b0:=eq_true a8
     have c15b1:=decide_eq_true a8
     clear a8
     obtain⟨an,b2⟩:∃ j_:Int,(shr .i64 a2 ξ)=j_:=⟨_,rfl⟩
     replace H:(if (Go.bits .and .i64 (an) 1)=1 then (group_pick.l0 k1 a2 au (l1.length:Int) (wrap64 (ξ + 1)) B J O Y Z γ δ ε θ η l1 μ τ ab ac ae) else (if au<0 then (group_pick.l0 k1 a2 ξ (l1.length:Int) (wrap64 (ξ + 1)) B J O Y Z γ δ ε θ η l1 μ τ ab ac ae) else ((group_pick_1.f k1 ξ B J O Y Z γ δ ε θ η l1 μ τ ab ac ae).bind fun ar=>((group_pick_1.f k1 au B J O Y Z γ δ ε θ η l1 μ τ ab ac ae).bind fun av=>(if ar<av then (group_pick.l0 k1 a2 ξ (l1.length:Int) (wrap64 (ξ + 1)) B J O Y Z γ δ ε θ η l1 μ τ ab ac ae) else (group_pick.l0 k1 a2 au (l1.length:Int) (wrap64 (ξ + 1)) B J O Y Z γ δ ε θ η l1 μ τ ab ac ae))))))=some r:=by first|(rw[b2] at H;exact H)|(simp only[b2] at H ⊢;exact H)
     have dc:(a2 / 2 ^ min ξ.toNat 64)=an:=b2
     have hji16z: ξ ≤ 64→(a2 / 2 ^ ξ.toNat)=an:=Gp b2
     by_cases ψ :(Go.bits .and .i64 (an) 1)=1
     ·rw[if_pos ψ] at H
      have c17b0:((Go.bits .and .i64 (an) 1)==1)=true:=beq_iff_eq.mpr ψ
      have c17b1:((Go.bits .and .i64 (an) 1) != 1)=false:=bne_eq_false_iff_eq.mpr ψ
      clear ψ
      have H':=aK H
      clear H
      go_wp2
      go_roundg k1
      case measure=>have:=af.out;omega
      case rel=>exact⟨(au),(wrap64 (ξ + 1)),rfl,rfl,H',⟨by have:=af.out;omega⟩,X,ζ,ι,κ,HB⟩
     ·rw[if_neg ψ] at H
      have c17b0:((Go.bits .and .i64 (an) 1)==1)=false:=beq_eq_false_iff_ne.mpr ψ
      have c17b1:((Go.bits .and .i64 (an) 1) != 1)=true:=bne_iff_ne.mpr ψ
      by_cases b6:au<0
      ·rw[if_pos b6] at H
       have c18b0:=decide_eq_true b6
       clear b6
       have H':=aK H
       clear H
       go_wp2
       go_roundg k1
       case measure=>have:=af.out;omega
       case rel=>exact⟨(ξ),(wrap64 (ξ + 1)),rfl,rfl,H',⟨by have:=af.out;omega⟩,X,ζ,ι,κ,HB⟩
      ·rw[if_neg b6] at H
       have c18b0:=decide_eq_false b6
       clear b6
       obtain⟨ar,gy,H⟩:=qQ H
       obtain⟨av,bl,H⟩:=qQ H
       by_cases ak:ar<av
       ·rw[if_pos ak] at H
        have c21b0:=decide_eq_true ak
        clear ak
        have H':=aK H
        clear H
        have ek:=aa.out
        have el:=ag.out
        have d2:=aw.out
        have dx:=ax.out
        have dy:=ay.out
        have dz:=az.out
        obtain⟨b8,bn,fw,gg,gh,gi,gj,b3,b5,ba,bq,br,fx,h9,ha,he,hh,b4,bb,cu⟩:=Zi X.out
        have cw:=ai.out
        have gq:=aj.out
        have fy:=al.out
        have fz:=am.out
        obtain⟨ew,ey⟩:=qD1 ζ.out
        have e7:=b0.out
        have e8:=b1.out
        obtain⟨bd,ea,eb,ec⟩:=qD2 ι.out
        obtain⟨bj,ck,dl,cn,co,dm⟩:=qD3 κ.out
        go_wp2_with (first|(go_at_call 58;(with_reducible refine(group_pick_1.calls k1 ξ B J O Y Z γ δ ε θ η _ _ l1 _ _ μ _ _ τ ab ac ae ar _ ?side1 ?side2 ?side3 ?side4 ?side5 ?side6 gy.out ν ρ a0 a9 X.out ζ.out ι.out κ.out).mono ?_);(case side1=>exact(Kd.Qw ci.out HB.out));(case side2=>exact da.out);(case side3=>exact(Kd.Qw bk.out HB.out));(case side4=>exact bw.out);(case side5=>exact(Kd.Qw bp.out HB.out));(case side6=>exact bz.out);rintro e bi ⟨rfl,hb⟩;have φ :=aK (Q1 (g:= ν) (o:=.cells #[nI B,nI J,nI O,nI Y,nI Z,nI γ,nI δ,nI ε,nI θ,nI η] 25 (0,0)) X.out hb);have χ :=aK (Q1 (g:=ρ) (o:=.cells #[.slice A1 l1.length c1] 46 (0,0)) ζ.out hb);have ω :=aK (Q1 (g:=a0) (o:=.cells #[.slice a7 μ.length a1,.slice a3 τ.length a5] 50 (0,0)) ι.out hb);have a6:=aK (Q1 (g:=a9) (o:=.cells #[nI ab,nI ac,nI ae] 36 (0,0)) κ.out hb);have ah:=aK (Q6 HB.out hb);clear X;clear ζ;clear ι;clear κ;clear HB;have X:= φ;have ζ := χ;have ι := ω;have κ :=a6;have HB:=ah;clear φ χ ω a6 ah;(try clear hb);(try clear a4);(try clear hk);(try clear hi);obtain⟨d3,d4,dt,b9,fj,gl,ho,b7,be,bf,d5,d6,er,hu,hx,hy,i0,bg,bh,bm⟩:=Zi X.out;obtain⟨cm,ed⟩:=qD1 ζ.out;obtain⟨eo,ep,et,fi⟩:=qD2 ι.out;obtain⟨dv,ee,fb,ef,eg,gw⟩:=qD3 κ.out)|(go_at_call 58;(with_reducible refine(group_pick_1.calls k1 au B J O Y Z γ δ ε θ η _ _ l1 _ _ μ _ _ τ ab ac ae av _ ?side1 ?side2 ?side3 ?side4 ?side5 ?side6 bl.out ν ρ a0 a9 X.out ζ.out ι.out κ.out).mono ?_);(case side1=>exact(Kd.Qw ci.out HB.out));(case side2=>exact da.out);(case side3=>exact(Kd.Qw bk.out HB.out));(case side4=>exact bw.out);(case side5=>exact(Kd.Qw bp.out HB.out));(case side6=>exact bz.out);rintro e ky ⟨rfl,hb⟩;have φ :=aK (Q1 (g:= ν) (o:=.cells #[nI B,nI J,nI O,nI Y,nI Z,nI γ,nI δ,nI ε,nI θ,nI η] 25 (0,0)) X.out hb);have χ :=aK (Q1 (g:=ρ) (o:=.cells #[.slice A1 l1.length c1] 46 (0,0)) ζ.out hb);have ω :=aK (Q1 (g:=a0) (o:=.cells #[.slice a7 μ.length a1,.slice a3 τ.length a5] 50 (0,0)) ι.out hb);have a6:=aK (Q1 (g:=a9) (o:=.cells #[nI ab,nI ac,nI ae] 36 (0,0)) κ.out hb);have ah:=aK (Q6 HB.out hb);clear X;clear ζ;clear ι;clear κ;clear HB;have X:= φ;have ζ := χ;have ι := ω;have κ :=a6;have HB:=ah;clear φ χ ω a6 ah;(try clear hb);(try clear a4);(try clear hk);(try clear hi)))
        go_roundg k1
        case measure=>have:=af.out;omega
        case rel=>exact⟨(ξ),(wrap64 (ξ + 1)),rfl,rfl,H',⟨by have:=af.out;omega⟩,X,ζ,ι,κ,HB⟩
       ·rw[if_neg ak] at H
        have c21b0:=decide_eq_false ak
        clear ak
        have H':=aK H
        clear H
        have eh:=aa.out
        have gt:=ag.out
        have e9:=aw.out
        have iu:=ax.out
        have cz:=ay.out
        have fo:=az.out
        obtain⟨dn,dp,gu,jc,jd,je,jf,bo,bs,bu,dq,dr,gv,jg,jh,jv,jw,bv,ca,cb⟩:=Zi X.out
        have ic:=ai.out
        have ie:=aj.out
        have ez:=al.out
        have f7:=am.out
        obtain⟨e5,e6⟩:=qD1 ζ.out
        have gm:=b0.out
        have gn:=b1.out
        obtain⟨jz,k0,k2,k3⟩:=qD2 ι.out
        obtain⟨fe,ff,fa,fg,fh,gx⟩:=qD3 κ.out
        go_wp2_with (first|(go_at_call 58;(with_reducible refine(group_pick_1.calls k1 ξ B J O Y Z γ δ ε θ η _ _ l1 _ _ μ _ _ τ ab ac ae ar _ ?side1 ?side2 ?side3 ?side4 ?side5 ?side6 gy.out ν ρ a0 a9 X.out ζ.out ι.out κ.out).mono ?_);(case side1=>exact(Kd.Qw ci.out HB.out));(case side2=>exact da.out);(case side3=>exact(Kd.Qw bk.out HB.out));(case side4=>exact bw.out);(case side5=>exact(Kd.Qw bp.out HB.out));(case side6=>exact bz.out);rintro e k4 ⟨rfl,hb⟩;have φ :=aK (Q1 (g:= ν) (o:=.cells #[nI B,nI J,nI O,nI Y,nI Z,nI γ,nI δ,nI ε,nI θ,nI η] 25 (0,0)) X.out hb);have χ :=aK (Q1 (g:=ρ) (o:=.cells #[.slice A1 l1.length c1] 46 (0,0)) ζ.out hb);have ω :=aK (Q1 (g:=a0) (o:=.cells #[.slice a7 μ.length a1,.slice a3 τ.length a5] 50 (0,0)) ι.out hb);have a6:=aK (Q1 (g:=a9) (o:=.cells #[nI ab,nI ac,nI ae] 36 (0,0)) κ.out hb);have ah:=aK (Q6 HB.out hb);clear X;clear ζ;clear ι;clear κ;clear HB;have X:= φ;have ζ := χ;have ι := ω;have κ :=a6;have HB:=ah;clear φ χ ω a6 ah;(try clear hb);(try clear a4);(try clear hk);(try clear hi);obtain⟨gz,i4,j7,j8,jb,jj,jk,ce,cf,cq,jl,jm,jn,jo,jp,jq,jr,cr,cv,cy⟩:=Zi X.out;obtain⟨fv,i3⟩:=qD1 ζ.out;obtain⟨d7,d8,d9,db⟩:=qD2 ι.out;obtain⟨cp,d1,ma,ei,ej,mb⟩:=qD3 κ.out)|(go_at_call 58;(with_reducible refine(group_pick_1.calls k1 au B J O Y Z γ δ ε θ η _ _ l1 _ _ μ _ _ τ ab ac ae av _ ?side1 ?side2 ?side3 ?side4 ?side5 ?side6 bl.out ν ρ a0 a9 X.out ζ.out ι.out κ.out).mono ?_);(case side1=>exact(Kd.Qw ci.out HB.out));(case side2=>exact da.out);(case side3=>exact(Kd.Qw bk.out HB.out));(case side4=>exact bw.out);(case side5=>exact(Kd.Qw bp.out HB.out));(case side6=>exact bz.out);rintro e f8 ⟨rfl,hb⟩;have φ :=aK (Q1 (g:= ν) (o:=.cells #[nI B,nI J,nI O,nI Y,nI Z,nI γ,nI δ,nI ε,nI θ,nI η] 25 (0,0)) X.out hb);have χ :=aK (Q1 (g:=ρ) (o:=.cells #[.slice A1 l1.length c1] 46 (0,0)) ζ.out hb);have ω :=aK (Q1 (g:=a0) (o:=.cells #[.slice a7 μ.length a1,.slice a3 τ.length a5] 50 (0,0)) ι.out hb);have a6:=aK (Q1 (g:=a9) (o:=.cells #[nI ab,nI ac,nI ae] 36 (0,0)) κ.out hb);have ah:=aK (Q6 HB.out hb);clear X;clear ζ;clear ι;clear κ;clear HB;have X:= φ;have ζ := χ;have ι := ω;have κ :=a6;have HB:=ah;clear φ χ ω a6 ah;(try clear hb);(try clear a4);(try clear hk);(try clear hi)))
        go_roundg k1
        case measure=>have:=af.out;omega
        case rel=>exact⟨(au),(wrap64 (ξ + 1)),rfl,rfl,H',⟨by have:=af.out;omega⟩,X,ζ,ι,κ,HB⟩
    ·rw[if_neg a8] at H
     exact absurd H (by simp)
   ·rw[if_neg σ] at H
    have c14b0:=decide_eq_false σ
    clear σ
    obtain rfl:=qJ H
    go_wp2
    (try rw[Exit.noGoto_ret])
    go_ret
    exact⟨rfl,HB.out⟩
def group_Pick.f (k:Nat) (B:Int) (J:Int) (O:Int) (Y:Int) (Z:Int) (γ:Int) (δ :Int) (ε :Int) (θ :Int) (η :Int) (l1:List (S31)) (a2:Int) (μ :List (S36)) (τ :List (S86)) (ab:Int) (ac:Int) (ae:Int):Option (Int×Int):=(group_Check.f k B J O Y Z γ δ ε θ η l1 μ τ).bind fun ν =>(if ν = 0 then ((group_house.f B J O Y Z γ δ ε θ η l1).bind fun aa=>((group_hall.f k aa.1 aa.2 ab ac ae).bind fun a0=>(if a0=true then ((group_pick.f k B J O Y Z γ δ ε θ η l1 a2 μ τ ab ac ae).bind fun a6=>(some (a6,0))) else (some (0,210))))) else (some (0,ν)))
theorem group_Pick.mono:∀ B Z a2 a3 O a5 X a7 a8 a9 Y γ δ ζ ε η θ k,LeO (group_Pick.f k B Z a2 a3 O a5 X a7 a8 a9 Y γ δ ζ ε η θ) (group_Pick.f (k+1) B Z a2 a3 O a5 X a7 a8 a9 Y γ δ ζ ε η θ):=by
 intro B Z a2 a3 O a5 X a7 a8 a9 Y γ δ ζ ε η θ k
 unfold group_Pick.f
 repeat' first|(with_reducible first|apply group_Check.mono|apply group_hall.mono|apply group_pick.mono|exact LeO.refl _|exact LeO.none _|refine LeO.ite ?_ ?_|refine LeO.bind ?_ (fun _=>?_))|apply group_Check.mono|apply group_hall.mono|apply group_pick.mono|exact LeO.none _|refine LeO.ite ?_ ?_|refine LeO.bind ?_ (fun _=>?_)
theorem group_Pick.calls (k:Nat) (B:Int) (J:Int) (O:Int) (Y:Int) (Z:Int) (γ:Int) (δ :Int) (ε :Int) (θ :Int) (η :Int) (A1:Option Addr) (c1:Nat) (l1:List (S31)) (a2:Int) (a7:Option Addr) (a1:Nat) (μ :List (S36)) (a3:Option Addr) (a5:Nat) (τ :List (S86)) (ab:Int) (ac:Int) (ae:Int) (r1:Int) (r2:Int) (w:World) (ct:Kd.C k31 w A1 l1.length l1) (ch:l1.length≤c1) (dd:Kd.C k36 w a7 μ.length μ) (de: μ.length≤a1) (dh:Kd.C k86 w a3 τ.length τ) (di: τ.length≤a5) (h:group_Pick.f k B J O Y Z γ δ ε θ η l1 a2 μ τ ab ac ae=some (r1,r2)):
 Calls Try.prog 14 #[.agg #[nI B,nI J,nI O,nI Y,nI Z,nI γ,nI δ,nI ε,nI θ,nI η],.slice A1 l1.length c1,nI a2,.agg #[.slice a7 μ.length a1,.slice a3 τ.length a5],.agg #[nI ab,nI ac,nI ae]] w fun e w'=>e = .returned (.tuple #[nI r1,nI r2])∧Below w.heap.size w w':=by
 have cj:=Try.underlying25
 have d0:=Try.underlying50
 have cg:=Try.underlying36
 have ci:=aK ct
 have da:=aK ch
 clear ct ch
 have bk:=aK dd
 have bw:=aK de
 clear dd de
 have bp:=aK dh
 have bz:=aK di
 clear dh di
 have HB:=aK (Below.refl w.heap.size w)
 have H:((group_Check.f k B J O Y Z γ δ ε θ η l1 μ τ).bind fun ν =>(if ν = 0 then ((group_house.f B J O Y Z γ δ ε θ η l1).bind fun aa=>((group_hall.f k aa.1 aa.2 ab ac ae).bind fun a0=>(if a0=true then ((group_pick.f k B J O Y Z γ δ ε θ η l1 a2 μ τ ab ac ae).bind fun a6=>(some (a6,0))) else (some (0,210))))) else (some (0,ν))))=some (r1,r2):=h
 clear h
 obtain⟨ν,A6,H⟩:=qQ H
 by_cases c7: ν = 0
 ·rw[if_pos c7] at H
  have c7b0:(ν == 0)=true:=beq_iff_eq.mpr c7
  have c7b1:(ν != 0)=false:=bne_eq_false_iff_eq.mpr c7
  clear c7
  obtain⟨⟨a8,a9⟩,A8,H⟩:=qQ H
  replace H:((group_hall.f k a8 a9 ab ac ae).bind fun a0=>(if a0=true then ((group_pick.f k B J O Y Z γ δ ε θ η l1 a2 μ τ ab ac ae).bind fun a6=>(some (a6,0))) else (some (0,210))))=some (r1,r2):=H
  obtain⟨a0,A9,H⟩:=qQ H
  by_cases c10:a0=true
  ·subst c10
   rw[if_pos rfl] at H
   obtain⟨a6,bu,H⟩:=qQ H
   simp only[Option.some.injEq,Prod.mk.injEq] at H
   obtain⟨rfl,rfl⟩:=H
   go_enter Try.func14,Try.ntmps14
   try go_wp2_with (first|((with_reducible refine Qe (N:=5) rfl ?_);refine qE 5 #[nI B,nI J,nI O,nI Y,nI Z,nI γ,nI δ,nI ε,nI θ,nI η] 25 ?_;intro κ hg dn hbox hb;have X:=aK hbox;have af:=sGe hg;have ah:=sGe hg;replace HB:=sHb hb;clear hb hbox hg)|((with_reducible refine Qe (N:=8) rfl ?_);refine qE 8 #[.slice a7 μ.length a1,.slice a3 τ.length a5] 50 ?_;intro al hg eh hbox hb;have ι :=aK hbox;have an:=sGe hg;have ao:=sGe hg;have ξ :=sNl X hg;have ρ:=sNg X hg;replace X:=sBk X hb;replace HB:=sHb hb;clear hb hbox hg)|((with_reducible refine Qe (N:=9) rfl ?_);refine qE 9 #[nI ab,nI ac,nI ae] 36 ?_;intro ω hg cb hbox hb;have ζ :=aK hbox;have ap:=sGe hg;have ar:=sGe hg;have σ:=sNl X hg;have φ :=sNg X hg;have χ :=sNl ι hg;have ψ :=sNg ι hg;replace X:=sBk X hb;replace ι :=sBk ι hb;replace HB:=sHb hb;clear hb hbox hg;have ge:= ξ.out;have gf:=ρ.out;have j9:=σ.out;have ja:= φ.out;obtain⟨az,b0,bl,ck,cm,co,dl,ak,bc,bd,b1,b2,ca,dm,ec,eu,ev,cn,ew,ey⟩:=Zi X.out;have db:= χ.out;have dc:= ψ.out;obtain⟨ag,ai,aj,am⟩:=qD2 ι.out)|((with_reducible refine Qf (f:=17) rfl ?_);refine Q0 (some 16) rfl rfl Try.func17 kr rfl #[.agg #[nI B,nI J,nI O,nI Y,nI Z,nI γ,nI δ,nI ε,nI θ,nI η],.slice A1 l1.length c1,.agg #[.slice a7 μ.length a1,.slice a3 τ.length a5]] rfl qM ?_;(with_reducible refine(group_Check.calls k B J O Y Z γ δ ε θ η _ _ l1 _ _ μ _ _ τ ν _ ?side1 ?side2 ?side3 ?side4 ?side5 ?side6 A6.out).mono ?_);(case side1=>exact(Kd.Qw ci.out HB.out));(case side2=>exact da.out);(case side3=>exact(Kd.Qw bk.out HB.out));(case side4=>exact bw.out);(case side5=>exact(Kd.Qw bp.out HB.out));(case side6=>exact bz.out);rintro e dw ⟨rfl,hb⟩;refine⟨_,rfl, ?_⟩;replace X:=sBk X hb;replace ι :=sBk ι hb;replace ζ :=sBk ζ hb;replace HB:=sHb hb;(try clear hb);(try clear a4);(try clear hk);(try clear hi)))
   replace X:=aK (Qd X.out)
   replace ι :=aK (Qd ι.out)
   replace ζ :=aK (Qd ζ.out)
   replace HB:=aK (Qj HB.out)
   refine Zg (n:=6) (S:=fun w'=>cI w' κ 0 B∧cI w' κ 1 J∧cI w' κ 2 O∧cI w' κ 3 Y∧cI w' κ 4 Z∧cI w' κ 5 γ∧cI w' κ 6 δ ∧ cI w' κ 7 ε ∧ cI w' κ 8 θ ∧ cI w' κ 9 η ∧ cI w' ω 0 ab∧cI w' ω 1 ac∧cI w' ω 2 ae) (ds:=[]) #[false,false,false,false,false,false] kr rfl rfl ⟨(Qa X.out 0).trans rfl,(Qa X.out 1).trans rfl,(Qa X.out 2).trans rfl,(Qa X.out 3).trans rfl,(Qa X.out 4).trans rfl,(Qa X.out 5).trans rfl,(Qa X.out 6).trans rfl,(Qa X.out 7).trans rfl,(Qa X.out 8).trans rfl,(Qa X.out 9).trans rfl,(Qa ζ.out 0).trans rfl,(Qa ζ.out 1).trans rfl,(Qa ζ.out 2).trans rfl⟩ (fun hHeld=>?_)
   generalize dw.drew=bo at X ι ζ HB hHeld ⊢
   refine qV 1 (some 21) (bN 6 2) ?_
   refine qW 0 (some 20) (bN 6 3) hHeld ?_
   refine qW 3 (some 23) (bN 6 11) hHeld ?_
   refine Kp (i:=2) (N:=some 22) (bN 6 15) rfl rfl kr (by decide) (fun K hK=>?_)
   refine Zd Try.func37 kr rfl #[.agg #[nI B,nI J,nI O,nI Y,nI Z,nI γ,nI δ,nI ε,nI θ,nI η],.slice A1 l1.length c1] (by rfl) rfl rfl qM ?_
   with_reducible refine(group_house.calls B J O Y Z γ δ ε θ η _ _ l1 a8 a9 _ ?side1 ?side2 A8.out).mono ?_
   (case side1=>exact(Kd.Qw ci.out HB.out))
   (case side2=>exact da.out)
   rintro e bj ⟨rfl,hb⟩
   refine⟨_,rfl, ?_⟩
   replace X:=sBk X hb
   replace ι :=sBk ι hb
   replace ζ :=sBk ζ hb
   replace HB:=sHb hb
   (try clear hb)
   (try clear a4)
   (try clear hk)
   (try clear hi)
   refine hK.out _ _ ⟨qc X,qc X,qc X,qc X,qc X,qc X,qc X,qc X,qc X,qc X,qc ζ,qc ζ,qc ζ⟩ (fun hHeld=>?_)
   clear hK K
   refine qN (some 22) ?_
   refine Kp (i:=4) (N:=some 24) (bN 6 31) rfl rfl kr (by decide) (fun K hK=>?_)
   refine Zd Try.func30 kr rfl #[.agg #[nI a8,nI a9],.agg #[nI ab,nI ac,nI ae]] (by rfl) rfl rfl qM ?_
   with_reducible refine(group_hall.calls k a8 a9 ab ac ae true _ A9.out).mono ?_
   rintro e bi ⟨rfl,hb⟩
   refine⟨_,rfl, ?_⟩
   replace X:=sBk X hb
   replace ι :=sBk ι hb
   replace ζ :=sBk ζ hb
   replace HB:=sHb hb
   (try clear hb)
   (try clear a4)
   (try clear hk)
   (try clear hi)
   refine hK.out _ _ ⟨qc X,qc X,qc X,qc X,qc X,qc X,qc X,qc X,qc X,qc X,qc ζ,qc ζ,qc ζ⟩ (fun hHeld=>?_)
   clear hK K
   refine qN (some 24) ?_
   refine qV 5 (some 25) (bN 6 63) ?_
   refine Zl kr ?_
   obtain⟨au,av,bs,e0,e3,e4,e5,cq,dp,dq,aw,ax,bv,e6,e7,e8,e9,dr,fw,fx⟩:=Zi X.out
   obtain⟨b8,bn,bq,br⟩:=qD2 ι.out
   obtain⟨ay,cu,df,cw,cx,dj⟩:=qD3 ζ.out
   try go_wp2_with (first|((with_reducible refine Qf (f:=38) rfl ?_);refine Q0 (some 31) rfl rfl Try.func38 kr rfl #[.agg #[nI B,nI J,nI O,nI Y,nI Z,nI γ,nI δ,nI ε,nI θ,nI η],.slice A1 l1.length c1,nI a2,.agg #[.slice a7 μ.length a1,.slice a3 τ.length a5],.agg #[nI ab,nI ac,nI ae]] rfl qM ?_;(with_reducible refine(group_pick.calls k B J O Y Z γ δ ε θ η _ _ l1 a2 _ _ μ _ _ τ ab ac ae a6 _ ?side1 ?side2 ?side3 ?side4 ?side5 ?side6 bu.out).mono ?_);(case side1=>exact(Kd.Qw ci.out HB.out));(case side2=>exact da.out);(case side3=>exact(Kd.Qw bk.out HB.out));(case side4=>exact bw.out);(case side5=>exact(Kd.Qw bp.out HB.out));(case side6=>exact bz.out);rintro e dk ⟨rfl,hb⟩;refine⟨_,rfl, ?_⟩;replace X:=sBk X hb;replace ι :=sBk ι hb;replace ζ :=sBk ζ hb;replace HB:=sHb hb;(try clear hb);(try clear a4);(try clear hk);(try clear hi)))
   go_ret2
   exact⟨rfl,HB.out⟩
  ·replace c10:=Bool.eq_false_iff.mpr c10
   subst c10
   rw[if_neg nft] at H
   simp only[Option.some.injEq,Prod.mk.injEq] at H
   obtain⟨rfl,rfl⟩:=H
   go_enter Try.func14,Try.ntmps14
   try go_wp2_with (first|((with_reducible refine Qe (N:=5) rfl ?_);refine qE 5 #[nI B,nI J,nI O,nI Y,nI Z,nI γ,nI δ,nI ε,nI θ,nI η] 25 ?_;intro κ hg ed hbox hb;have X:=aK hbox;have af:=sGe hg;have ah:=sGe hg;replace HB:=sHb hb;clear hb hbox hg)|((with_reducible refine Qe (N:=8) rfl ?_);refine qE 8 #[.slice a7 μ.length a1,.slice a3 τ.length a5] 50 ?_;intro al hg gi hbox hb;have ι :=aK hbox;have an:=sGe hg;have ao:=sGe hg;have ξ :=sNl X hg;have ρ:=sNg X hg;replace X:=sBk X hb;replace HB:=sHb hb;clear hb hbox hg)|((with_reducible refine Qe (N:=9) rfl ?_);refine qE 9 #[nI ab,nI ac,nI ae] 36 ?_;intro ω hg eb hbox hb;have ζ :=aK hbox;have ap:=sGe hg;have ar:=sGe hg;have σ:=sNl X hg;have φ :=sNg X hg;have χ :=sNl ι hg;have ψ :=sNg ι hg;replace X:=sBk X hb;replace ι :=sBk ι hb;replace HB:=sHb hb;clear hb hbox hg;have he:= ξ.out;have ii:=ρ.out;have ga:=σ.out;have gb:= φ.out;obtain⟨d3,d4,dt,b9,fj,gl,ho,b7,be,bf,d5,d6,er,hu,hx,hy,i0,bg,bh,bm⟩:=Zi X.out;have k8:= χ.out;have k9:= ψ.out;obtain⟨eo,ep,et,fi⟩:=qD2 ι.out)|((with_reducible refine Qf (f:=17) rfl ?_);refine Q0 (some 16) rfl rfl Try.func17 kr rfl #[.agg #[nI B,nI J,nI O,nI Y,nI Z,nI γ,nI δ,nI ε,nI θ,nI η],.slice A1 l1.length c1,.agg #[.slice a7 μ.length a1,.slice a3 τ.length a5]] rfl qM ?_;(with_reducible refine(group_Check.calls k B J O Y Z γ δ ε θ η _ _ l1 _ _ μ _ _ τ ν _ ?side1 ?side2 ?side3 ?side4 ?side5 ?side6 A6.out).mono ?_);(case side1=>exact(Kd.Qw ci.out HB.out));(case side2=>exact da.out);(case side3=>exact(Kd.Qw bk.out HB.out));(case side4=>exact bw.out);(case side5=>exact(Kd.Qw bp.out HB.out));(case side6=>exact bz.out);rintro e ib ⟨rfl,hb⟩;refine⟨_,rfl, ?_⟩;replace X:=sBk X hb;replace ι :=sBk ι hb;replace ζ :=sBk ζ hb;replace HB:=sHb hb;(try clear hb);(try clear a4);(try clear hk);(try clear hi)))
   replace X:=aK (Qd X.out)
   replace ι :=aK (Qd ι.out)
   replace ζ :=aK (Qd ζ.out)
   replace HB:=aK (Qj HB.out)
   refine Zg (n:=6) (S:=fun w'=>cI w' κ 0 B∧cI w' κ 1 J∧cI w' κ 2 O∧cI w' κ 3 Y∧cI w' κ 4 Z∧cI w' κ 5 γ∧cI w' κ 6 δ ∧ cI w' κ 7 ε ∧ cI w' κ 8 θ ∧ cI w' κ 9 η ∧ cI w' ω 0 ab∧cI w' ω 1 ac∧cI w' ω 2 ae) (ds:=[]) #[false,false,false,false,false,false] kr rfl rfl ⟨(Qa X.out 0).trans rfl,(Qa X.out 1).trans rfl,(Qa X.out 2).trans rfl,(Qa X.out 3).trans rfl,(Qa X.out 4).trans rfl,(Qa X.out 5).trans rfl,(Qa X.out 6).trans rfl,(Qa X.out 7).trans rfl,(Qa X.out 8).trans rfl,(Qa X.out 9).trans rfl,(Qa ζ.out 0).trans rfl,(Qa ζ.out 1).trans rfl,(Qa ζ.out 2).trans rfl⟩ (fun hHeld=>?_)
   generalize ib.drew=ky at X ι ζ HB hHeld ⊢
   refine qV 1 (some 21) (bN 6 2) ?_
   refine qW 0 (some 20) (bN 6 3) hHeld ?_
   refine qW 3 (some 23) (bN 6 11) hHeld ?_
   refine Kp (i:=2) (N:=some 22) (bN 6 15) rfl rfl kr (by decide) (fun K hK=>?_)
   refine Zd Try.func37 kr rfl #[.agg #[nI B,nI J,nI O,nI Y,nI Z,nI γ,nI δ,nI ε,nI θ,nI η],.slice A1 l1.length c1] (by rfl) rfl rfl qM ?_
   with_reducible refine(group_house.calls B J O Y Z γ δ ε θ η _ _ l1 a8 a9 _ ?side1 ?side2 A8.out).mono ?_
   (case side1=>exact(Kd.Qw ci.out HB.out))
   (case side2=>exact da.out)
   rintro e ea ⟨rfl,hb⟩
   refine⟨_,rfl, ?_⟩
   replace X:=sBk X hb
   replace ι :=sBk ι hb
   replace ζ :=sBk ζ hb
   replace HB:=sHb hb
   (try clear hb)
   (try clear a4)
   (try clear hk)
   (try clear hi)
   refine hK.out _ _ ⟨qc X,qc X,qc X,qc X,qc X,qc X,qc X,qc X,qc X,qc X,qc ζ,qc ζ,qc ζ⟩ (fun hHeld=>?_)
   clear hK K
   refine qN (some 22) ?_
   refine Kp (i:=4) (N:=some 24) (bN 6 31) rfl rfl kr (by decide) (fun K hK=>?_)
   refine Zd Try.func30 kr rfl #[.agg #[nI a8,nI a9],.agg #[nI ab,nI ac,nI ae]] (by rfl) rfl rfl qM ?_
   with_reducible refine(group_hall.calls k a8 a9 ab ac ae false _ A9.out).mono ?_
   rintro e kz ⟨rfl,hb⟩
   refine⟨_,rfl, ?_⟩
   replace X:=sBk X hb
   replace ι :=sBk ι hb
   replace ζ :=sBk ζ hb
   replace HB:=sHb hb
   (try clear hb)
   (try clear a4)
   (try clear hk)
   (try clear hi)
   refine hK.out _ _ ⟨qc X,qc X,qc X,qc X,qc X,qc X,qc X,qc X,qc X,qc X,qc ζ,qc ζ,qc ζ⟩ (fun hHeld=>?_)
   clear hK K
   refine qN (some 24) ?_
   refine qV 5 (some 25) (bN 6 63) ?_
   refine Zl kr ?_
   try go_wp2
   go_ret2
   exact⟨rfl,HB.out⟩
 ·rw[if_neg c7] at H
  have c7b0:(ν == 0)=false:=beq_eq_false_iff_ne.mpr c7
  have c7b1:(ν != 0)=true:=bne_iff_ne.mpr c7
  simp only[Option.some.injEq,Prod.mk.injEq] at H
  obtain⟨rfl,rfl⟩:=H
  go_enter Try.func14,Try.ntmps14
  go_wp2_with (first|((with_reducible refine Qe (N:=5) rfl ?_);refine qE 5 #[nI B,nI J,nI O,nI Y,nI Z,nI γ,nI δ,nI ε,nI θ,nI η] 25 ?_;intro κ hg iz hbox hb;have X:=aK hbox;have af:=sGe hg;have ah:=sGe hg;replace HB:=sHb hb;clear hb hbox hg)|((with_reducible refine Qe (N:=8) rfl ?_);refine qE 8 #[.slice a7 μ.length a1,.slice a3 τ.length a5] 50 ?_;intro al hg k6 hbox hb;have ι :=aK hbox;have an:=sGe hg;have ao:=sGe hg;have ξ :=sNl X hg;have ρ:=sNg X hg;replace X:=sBk X hb;replace HB:=sHb hb;clear hb hbox hg)|((with_reducible refine Qe (N:=9) rfl ?_);refine qE 9 #[nI ab,nI ac,nI ae] 36 ?_;intro ω hg gy hbox hb;have ζ :=aK hbox;have ap:=sGe hg;have ar:=sGe hg;have σ:=sNl X hg;have φ :=sNg X hg;have χ :=sNl ι hg;have ψ :=sNg ι hg;replace X:=sBk X hb;replace ι :=sBk ι hb;replace HB:=sHb hb;clear hb hbox hg;have ez:= ξ.out;have f7:=ρ.out;have i1:=σ.out;have i2:= φ.out;obtain⟨i3,i4,jx,kw,l5,l6,l7,du,ee,f8,i5,i6,jy,l8,l9,lb,lc,gx,iv,iw⟩:=Zi X.out;have gw:= χ.out;have gz:= ψ.out;obtain⟨fe,ff,fg,fh⟩:=qD2 ι.out)|((with_reducible refine Qf (f:=17) rfl ?_);refine Q0 (some 16) rfl rfl Try.func17 kr rfl #[.agg #[nI B,nI J,nI O,nI Y,nI Z,nI γ,nI δ,nI ε,nI θ,nI η],.slice A1 l1.length c1,.agg #[.slice a7 μ.length a1,.slice a3 τ.length a5]] rfl qM ?_;(with_reducible refine(group_Check.calls k B J O Y Z γ δ ε θ η _ _ l1 _ _ μ _ _ τ ν _ ?side1 ?side2 ?side3 ?side4 ?side5 ?side6 A6.out).mono ?_);(case side1=>exact(Kd.Qw ci.out HB.out));(case side2=>exact da.out);(case side3=>exact(Kd.Qw bk.out HB.out));(case side4=>exact bw.out);(case side5=>exact(Kd.Qw bp.out HB.out));(case side6=>exact bz.out);rintro e k4 ⟨rfl,hb⟩;refine⟨_,rfl, ?_⟩;replace X:=sBk X hb;replace ι :=sBk ι hb;replace ζ :=sBk ζ hb;replace HB:=sHb hb;(try clear hb);(try clear a4);(try clear hk);(try clear hi)))
  go_ret2
  exact⟨rfl,HB.out⟩
mutual
def group_Spread.l0:Nat→List (S31)→Int→Int→Int→Int→Int→Int→Int→Int→Int→Int→Int→Int→Int→List (S36)→List (S86)→Option ((List (S36))×(List (S86))×Int)
 |0,_,_,_,_,_,_,_,_,_,_,_,_,_,_,_,_=>none
 |k+1,J,Y,ν,μ,X,Z,γ,δ,ε,ζ,η,θ,ι,κ,B,O=>if μ < ν then (if 0 ≤ μ then (if μ < (B.length:Int) then (if ((Qb B μ).f2)≥0 then (if 0≤((Qb B μ).f2) then (if (Go.bits .and .i64 (shr .i64 Y ((Qb B μ).f2)) 1)=1 then (group_Spread.l0 k J Y ν (wrap64 (μ + 1)) X Z γ δ ε ζ η θ ι κ (B.set (μ :Int).toNat (⟨(Qb B μ).f0,(Qb B μ).f1,(-1)⟩:S36)) O) else (group_Spread.l0 k J Y ν (wrap64 (μ + 1)) X Z γ δ ε ζ η θ ι κ B O)) else (none)) else (group_Spread.l0 k J Y ν (wrap64 (μ + 1)) X Z γ δ ε ζ η θ ι κ B O)) else (none)) else (none)) else (group_Spread.l1 k J Y (B.length:Int) 0 X Z γ δ ε ζ η θ ι κ B O)
def group_Spread.l1:Nat→List (S31)→Int→Int→Int→Int→Int→Int→Int→Int→Int→Int→Int→Int→Int→List (S36)→List (S86)→Option ((List (S36))×(List (S86))×Int)
 |0,_,_,_,_,_,_,_,_,_,_,_,_,_,_,_,_=>none
 |k+1,J,Y,ν,μ,X,Z,γ,δ,ε,ζ,η,θ,ι,κ,B,O=>if μ < ν then (if 0 ≤ μ then (if μ < (B.length:Int) then (if ((Qb B μ).f2)<0 then ((group_pick.f k X Z γ δ ε ζ η θ ι κ J Y B O ((Qb B μ).f0) ((Qb B μ).f1) ((Qb B μ).f2)).bind fun dl=>(group_Spread.l1 k J Y ν (wrap64 (μ + 1)) X Z γ δ ε ζ η θ ι κ (B.set (μ :Int).toNat (⟨(Qb B μ).f0,(Qb B μ).f1,dl⟩:S36)) O)) else (group_Spread.l1 k J Y ν (wrap64 (μ + 1)) X Z γ δ ε ζ η θ ι κ B O)) else (none)) else (none)) else (some (B,O,0))
end
def group_Spread.f (k:Nat) (B:Int) (J:Int) (O:Int) (Y:Int) (Z:Int) (γ:Int) (δ :Int) (ε :Int) (θ :Int) (η :Int) (l1:List (S31)) (a2:Int) (μ :List (S36)) (τ :List (S86)):Option ((List (S36))×(List (S86))×Int):=(group_Check.f k B J O Y Z γ δ ε θ η l1 μ τ).bind fun ax=>(if ax=0 then ((some (([]:List (S36)):List (S36))).bind fun cu=>(if cu.length + μ.length<5864062014805 then ((some (cu ++ μ :List (S36))).bind fun b5=>((some (([]:List (S86)):List (S86))).bind fun bn=>(if bn.length + τ.length<8796093022208 then (group_Spread.l0 k l1 a2 (b5.length:Int) 0 B J O Y Z γ δ ε θ η b5 (bn ++ τ)) else (none)))) else (none))) else (some (([]:List (S36)),([]:List (S86)),ax)))
theorem group_Spread.Z6:∀ k,(∀ O X Z B Y y5 y6 y7 y8 y9 γ δ ζ η θ ι,LeO (group_Spread.l0 k O X Z B Y y5 y6 y7 y8 y9 γ δ ζ η θ ι) (group_Spread.l0 (k+1) O X Z B Y y5 y6 y7 y8 y9 γ δ ζ η θ ι))∧(∀ O X Z B Y y5 y6 y7 y8 y9 γ δ ζ η θ ι,LeO (group_Spread.l1 k O X Z B Y y5 y6 y7 y8 y9 γ δ ζ η θ ι) (group_Spread.l1 (k+1) O X Z B Y y5 y6 y7 y8 y9 γ δ ζ η θ ι))
 |0=>⟨fun _ _ _ _ _ _ _ _ _ _ _ _ _ _ _ _ r h=>by simp[group_Spread.l0] at h,fun _ _ _ _ _ _ _ _ _ _ _ _ _ _ _ _ r h=>by simp[group_Spread.l1] at h⟩
 |k+1=>by
  obtain⟨J,ε⟩:=group_Spread.Z6 k
  refine⟨?_, ?_⟩
  ·intro O X Z B Y y5 y6 y7 y8 y9 γ δ ζ η θ ι
   unfold group_Spread.l0
   repeat' first|(with_reducible first|apply J|apply ε |apply group_Check.mono|apply group_pick.mono|exact LeO.refl _|exact LeO.none _|refine LeO.ite ?_ ?_|refine LeO.bind ?_ (fun _=>?_))|apply J|apply ε |apply group_Check.mono|apply group_pick.mono|exact LeO.none _|refine LeO.ite ?_ ?_|refine LeO.bind ?_ (fun _=>?_)
  ·intro O X Z B Y y5 y6 y7 y8 y9 γ δ ζ η θ ι
   unfold group_Spread.l1
   repeat' first|(with_reducible first|apply J|apply ε |apply group_Check.mono|apply group_pick.mono|exact LeO.refl _|exact LeO.none _|refine LeO.ite ?_ ?_|refine LeO.bind ?_ (fun _=>?_))|apply J|apply ε |apply group_Check.mono|apply group_pick.mono|exact LeO.none _|refine LeO.ite ?_ ?_|refine LeO.bind ?_ (fun _=>?_)
theorem group_Spread.mono:∀ B Z a2 a3 O a5 X a7 a8 a9 Y γ δ ζ k,LeO (group_Spread.f k B Z a2 a3 O a5 X a7 a8 a9 Y γ δ ζ) (group_Spread.f (k+1) B Z a2 a3 O a5 X a7 a8 a9 Y γ δ ζ):=by
 intro B Z a2 a3 O a5 X a7 a8 a9 Y γ δ ζ k
 obtain⟨J,ε⟩:=group_Spread.Z6 k
 unfold group_Spread.f
 repeat' first|(with_reducible first|apply J|apply ε |apply group_Check.mono|apply group_pick.mono|exact LeO.refl _|exact LeO.none _|refine LeO.ite ?_ ?_|refine LeO.bind ?_ (fun _=>?_))|apply J|apply ε |apply group_Check.mono|apply group_pick.mono|exact LeO.none _|refine LeO.ite ?_ ?_|refine LeO.bind ?_ (fun _=>?_)
def group_Spread.T4:Bool×List (List Nat×List Nat):=(true,[([],[]),([],[]),([1],[1]),([0,2],[0,2]),([],[]),([],[]),([5],[5]),([4,6,3],[4,6]),([3,7],[3,7]),([],[]),([9,8,7,0,1,2,3,4,5,6,7,8,9],[8,9])])
def group_Spread.B4:List Nat:=[0,0,2,7,0,0,32,127,255,0,1023]
theorem group_Spread.Vf:rtab .any (opsOf Try.f21 4)=group_Spread.T4:=by kernel_rfl
theorem group_Spread.Kf:Zq group_Spread.T4.2 group_Spread.B4=true:=by kernel_rfl
def group_Spread.T15:Bool×List (List Nat×List Nat):=(true,[([],[]),([0],[0]),([],[]),([],[]),([],[]),([],[]),([],[]),([],[]),([3,4,5,6,7],[3,4,5,6,7]),([1,2,0,1,2,3,4,5,6,7,8],[1,2]),([9,0,1,2,3,4,5,6,7,8],[9]),([10,8,8,0,1,2,3,4,5,6,7,8],[8,10])])
def group_Spread.B15:List Nat:=[0,1,0,0,0,0,0,0,248,511,1023,2047]
theorem group_Spread.tab15:rtab .any (opsOf Try.f21 15)=group_Spread.T15:=by kernel_rfl
theorem group_Spread.C9:Zq group_Spread.T15.2 group_Spread.B15=true:=by kernel_rfl
theorem group_Spread.calls (k:Nat) (B:Int) (J:Int) (O:Int) (Y:Int) (Z:Int) (γ:Int) (δ :Int) (ε :Int) (θ :Int) (η :Int) (A1:Option Addr) (c1:Nat) (l1:List (S31)) (a2:Int) (a7:Option Addr) (a1:Nat) (μ :List (S36)) (a3:Option Addr) (a5:Nat) (τ :List (S86)) (r1:List (S36)) (r2:List (S86)) (r3:Int) (w:World) (ct:Kd.C k31 w A1 l1.length l1) (ch:l1.length≤c1) (dd:Kd.C k36 w a7 μ.length μ) (de: μ.length≤a1) (dh:Kd.C k86 w a3 τ.length τ) (di: τ.length≤a5) (h:group_Spread.f k B J O Y Z γ δ ε θ η l1 a2 μ τ = some (r1,r2,r3)):
 Calls Try.prog 21 #[.agg #[nI B,nI J,nI O,nI Y,nI Z,nI γ,nI δ,nI ε,nI θ,nI η],.slice A1 l1.length c1,nI a2,.agg #[.slice a7 μ.length a1,.slice a3 τ.length a5]] w fun e w'=>∃ b3 d7:Value,e = .returned (.tuple #[.agg #[b3,d7],nI r3])∧Kd.R k36 36 w' w.heap.size (fun _=>True) b3 r1∧Kd.R k86 86 w' w.heap.size (fun _=>True) d7 r2∧Below w.heap.size w w':=by
 have cj:=Try.underlying25
 have d0:=Try.underlying50
 have cg:=Try.underlying36
 have ci:=aK ct
 have da:=aK ch
 clear ct ch
 have bk:=aK dd
 have bw:=aK de
 clear dd de
 have bp:=aK dh
 have bz:=aK di
 clear dh di
 have HB:=aK (Below.refl w.heap.size w)
 have H:((group_Check.f k B J O Y Z γ δ ε θ η l1 μ τ).bind fun ax=>(if ax=0 then ((some (([]:List (S36)):List (S36))).bind fun cu=>(if cu.length + μ.length<5864062014805 then ((some (cu ++ μ :List (S36))).bind fun b5=>((some (([]:List (S86)):List (S86))).bind fun bn=>(if bn.length + τ.length<8796093022208 then (group_Spread.l0 k l1 a2 (b5.length:Int) 0 B J O Y Z γ δ ε θ η b5 (bn ++ τ)) else (none)))) else (none))) else (some (([]:List (S36)),([]:List (S86)),ax))))=some (r1,r2,r3):=h
 clear h
 obtain⟨ax,A5,H⟩:=qQ H
 by_cases c6:ax=0
 ·rw[if_pos c6] at H
  have c6b0:(ax==0)=true:=beq_iff_eq.mpr c6
  have c6b1:(ax != 0)=false:=bne_eq_false_iff_eq.mpr c6
  clear c6
  obtain⟨cu,gt⟩:∃ y_:List (S36),y_=(([]:List (S36))):=⟨_,rfl⟩
  replace H:(if cu.length + μ.length<5864062014805 then ((some (cu ++ μ :List (S36))).bind fun b5=>((some (([]:List (S86)):List (S86))).bind fun bn=>(if bn.length + τ.length<8796093022208 then (group_Spread.l0 k l1 a2 (b5.length:Int) 0 B J O Y Z γ δ ε θ η b5 (bn ++ τ)) else (none)))) else (none))=some (r1,r2,r3):=by first|(rw[gt];with_reducible exact H)|(have ag:=(Option.bind_some _ _).symm.trans H;rw[gt];with_reducible exact ag)|(have ag:=(Option.bind_some _ _).symm.trans H;with_reducible exact ag)|with_reducible exact H|(rw[gt];exact H)|exact H
  have fe:=aK gt
  clear gt
  by_cases c7:cu.length + μ.length<5864062014805
  ·rw[if_pos c7] at H
   have ki:=aK c7
   clear c7
   obtain⟨b5,h0⟩:∃ y_:List (S36),y_=(cu ++ μ):=⟨_,rfl⟩
   replace H:((some (([]:List (S86)):List (S86))).bind fun bn=>(if bn.length + τ.length<8796093022208 then (group_Spread.l0 k l1 a2 (b5.length:Int) 0 B J O Y Z γ δ ε θ η b5 (bn ++ τ)) else (none)))=some (r1,r2,r3):=by first|(rw[h0];with_reducible exact H)|(have ag:=(Option.bind_some _ _).symm.trans H;rw[h0];with_reducible exact ag)|(have ag:=(Option.bind_some _ _).symm.trans H;with_reducible exact ag)|with_reducible exact H|(rw[h0];exact H)|exact H
   have iu:=aK h0
   clear h0
   obtain⟨bn,h4⟩:∃ y_:List (S86),y_=(([]:List (S86))):=⟨_,rfl⟩
   replace H:(if bn.length + τ.length<8796093022208 then (group_Spread.l0 k l1 a2 (b5.length:Int) 0 B J O Y Z γ δ ε θ η b5 (bn ++ τ)) else (none))=some (r1,r2,r3):=by first|(rw[h4];with_reducible exact H)|(have ag:=(Option.bind_some _ _).symm.trans H;rw[h4];with_reducible exact ag)|(have ag:=(Option.bind_some _ _).symm.trans H;with_reducible exact ag)|with_reducible exact H|(rw[h4];exact H)|exact H
   have dr:=aK h4
   clear h4
   by_cases c8:bn.length + τ.length<8796093022208
   ·rw[if_pos c8] at H
    have nd:=aK c8
    clear c8
    obtain⟨bm,h5⟩:∃ y_:List (S86),y_=(bn ++ τ):=⟨_,rfl⟩
    replace H:(group_Spread.l0 k l1 a2 (b5.length:Int) 0 B J O Y Z γ δ ε θ η b5 bm)=some (r1,r2,r3):=by first|(rw[h5];with_reducible exact H)|(have ag:=(Option.bind_some _ _).symm.trans H;rw[h5];with_reducible exact ag)|(have ag:=(Option.bind_some _ _).symm.trans H;with_reducible exact ag)|with_reducible exact H|(rw[h5];exact H)|exact H
    have m5:=aK h5
    clear h5
    have H':=aK H
    clear H
    go_enter Try.func21,Try.ntmps21
    try go_wp2_with (first|((with_reducible refine Qe (N:=4) rfl ?_);refine qE 4 #[nI B,nI J,nI O,nI Y,nI Z,nI γ,nI δ,nI ε,nI θ,nI η] 25 ?_;intro ac hg w9 hbox hb;have ζ :=aK hbox;have lu:=sGe hg;have k7:=sGe hg;replace HB:=sHb hb;clear hb hbox hg)|((with_reducible refine Qe (N:=7) rfl ?_);refine qE 7 #[.slice a7 μ.length a1,.slice a3 τ.length a5] 50 ?_;intro ξ hg fj hbox hb;have X:=aK hbox;have ol:=sGe hg;have om:=sGe hg;have fm:=sNl ζ hg;have fn:=sNg ζ hg;replace ζ :=sBk ζ hb;replace HB:=sHb hb;clear hb hbox hg)|((with_reducible refine Qe (N:=8) rfl ?_);refine qE 8 #[.slice none 0 0,.slice none 0 0] 50 ?_;intro an hg d1 hbox hb;have ι :=aK hbox;have oo:=sGe hg;have oq:=sGe hg;have ff:=sNl ζ hg;have fg:=sNg ζ hg;have fh:=sNl X hg;have fi:=sNg X hg;replace ζ :=sBk ζ hb;replace X:=sBk X hb;replace HB:=sHb hb;clear hb hbox hg;have e0:=fm.out;have e3:=fn.out;have ga:=ff.out;have gb:=fg.out;obtain⟨cb,cd,db,ei,ej,ek,el,gu,i1,i2,ce,cf,dc,em,en,eo,ep,gv,i3,i4⟩:=Zi ζ.out;have ge:=fh.out;have gf:=fi.out;obtain⟨d3,d4,d5,d6⟩:=qD2 X.out)|((with_reducible refine Qf (f:=17) rfl ?_);refine Q0 (some 19) rfl rfl Try.func17 kr rfl #[.agg #[nI B,nI J,nI O,nI Y,nI Z,nI γ,nI δ,nI ε,nI θ,nI η],.slice A1 l1.length c1,.agg #[.slice a7 μ.length a1,.slice a3 τ.length a5]] rfl qM ?_;(with_reducible refine(group_Check.calls k B J O Y Z γ δ ε θ η _ _ l1 _ _ μ _ _ τ ax _ ?side1 ?side2 ?side3 ?side4 ?side5 ?side6 A5.out).mono ?_);(case side1=>exact(Kd.Qw ci.out HB.out));(case side2=>exact da.out);(case side3=>exact(Kd.Qw bk.out HB.out));(case side4=>exact bw.out);(case side5=>exact(Kd.Qw bp.out HB.out));(case side6=>exact bz.out);rintro e cv ⟨rfl,hb⟩;refine⟨_,rfl, ?_⟩;replace ζ :=sBk ζ hb;replace X:=sBk X hb;replace ι :=sBk ι hb;replace HB:=sHb hb;(try clear hb);(try clear a4);(try clear hk);(try clear hi)))
    replace ζ :=aK (Qd ζ.out)
    replace X:=aK (Qd X.out)
    replace ι :=aK (Qd ι.out)
    replace HB:=aK (Qj HB.out)
    refine Zg (n:=11) (S:=fun w'=>w'.cell? ⟨ξ,0,none⟩=some (.slice a7 μ.length a1)∧w'.cell? ⟨ξ,1,none⟩=some (.slice a3 τ.length a5)) (ds:=[]) #[false,false,false,false,false,false,false,false,false,false,false] kr rfl rfl ⟨(Qa X.out 0).trans rfl,(Qa X.out 1).trans rfl⟩ (fun hHeld=>?_);refine Zb group_Spread.Vf group_Spread.Kf (fun HT_ HW_=>?_)
    generalize cv.drew=bf at ζ X ι HB hHeld ⊢
    refine qP 1 (some 25) (bN 11 2) HT_ ?_
    refine qP 5 (some 29) (bN 11 34) HT_ ?_
    refine qT 2 (some 26) (bN 11 38) HT_ HW_ hHeld ?_
    refine qT 6 (some 30) (bN 11 102) HT_ HW_ hHeld ?_
    refine Y1 (σ:=Value×Value×Value×Value×Nat) 1 (bN 11 1023) (fun s_=>[(24,s_.1),(27,s_.2.1),(28,s_.2.2.1),(31,s_.2.2.2.1),(11,.pointer (some ⟨s_.2.2.2.2,0,none⟩)),(32,.agg #[s_.2.1,s_.2.2.2.1])]) (fun s_ w'=>(w'.cell? ⟨ξ,0,none⟩=some (.slice a7 μ.length a1)∧w'.cell? ⟨ξ,1,none⟩=some (.slice a3 τ.length a5))∧(Kd.R k36 36 w' w.heap.size (fun _=>True) s_.2.1 b5)∧(Kd.R k86 86 w' w.heap.size (fun _=>True) s_.2.2.2.1 bm)∧(w'.heap[ac]?=some (.cells #[nI B,nI J,nI O,nI Y,nI Z,nI γ,nI δ,nI ε,nI θ,nI η] 25 (0,0)))∧(w'.heap[ξ]?=some (.cells #[.slice a7 μ.length a1,.slice a3 τ.length a5] 50 (0,0)))∧(w'.heap[an]?=some (.cells #[.slice none 0 0,.slice none 0 0] 50 (0,0)))∧(w'.heap[s_.2.2.2.2]?=some (.cells #[.slice none 0 0,.slice none 0 0] 50 (0,0)))∧(w.heap.size≤s_.2.2.2.2)∧(w.heap.size≤s_.2.2.2.2)∧(ac≠s_.2.2.2.2)∧(s_.2.2.2.2≠ac)∧(ξ ≠ s_.2.2.2.2)∧(s_.2.2.2.2 ≠ ξ)∧(an≠s_.2.2.2.2)∧(s_.2.2.2.2≠an)∧(Below w.heap.size w w')) ?_ ?_
    rotate_left
    ·intro gj
     refine Y1 (σ:=Value×Value×Value×Value) 2 (bN 11 511) (fun s_=>[(24,s_.1),(27,s_.2.1),(28,s_.2.2.1),(31,s_.2.2.2),(32,.agg #[s_.2.1,s_.2.2.2])]) (fun s_ w'=>(w'.cell? ⟨ξ,0,none⟩=some (.slice a7 μ.length a1)∧w'.cell? ⟨ξ,1,none⟩=some (.slice a3 τ.length a5))∧(Kd.R k36 36 w' w.heap.size (fun _=>True) s_.2.1 b5)∧(Kd.R k86 86 w' w.heap.size (fun _=>True) s_.2.2.2 bm)∧(w'.heap[ac]?=some (.cells #[nI B,nI J,nI O,nI Y,nI Z,nI γ,nI δ,nI ε,nI θ,nI η] 25 (0,0)))∧(w'.heap[ξ]?=some (.cells #[.slice a7 μ.length a1,.slice a3 τ.length a5] 50 (0,0)))∧(w'.heap[an]?=some (.cells #[.slice none 0 0,.slice none 0 0] 50 (0,0)))∧(Below w.heap.size w w')) ?_ ?_
     rotate_left
     ·intro kt
      refine Y1 (σ:=Value×Value×Value×Nat) 3 (bN 11 639) (fun s_=>[(24,s_.1),(27,s_.2.1),(28,s_.2.2.1),(11,.pointer (some ⟨s_.2.2.2,0,none⟩))]) (fun s_ w'=>(w'.cell? ⟨ξ,0,none⟩=some (.slice a7 μ.length a1)∧w'.cell? ⟨ξ,1,none⟩=some (.slice a3 τ.length a5))∧(Kd.R k36 36 w' w.heap.size (fun _=>True) s_.2.1 b5)∧(Kd.R k86 86 w' w.heap.size (fun _=>True) s_.2.2.1 bn)∧(w'.heap[ac]?=some (.cells #[nI B,nI J,nI O,nI Y,nI Z,nI γ,nI δ,nI ε,nI θ,nI η] 25 (0,0)))∧(w'.heap[ξ]?=some (.cells #[.slice a7 μ.length a1,.slice a3 τ.length a5] 50 (0,0)))∧(w'.heap[an]?=some (.cells #[.slice none 0 0,.slice none 0 0] 50 (0,0)))∧(w'.heap[s_.2.2.2]?=some (.cells #[.slice none 0 0,.slice none 0 0] 50 (0,0)))∧(w.heap.size≤s_.2.2.2)∧(w.heap.size≤s_.2.2.2)∧(ac≠s_.2.2.2)∧(s_.2.2.2≠ac)∧(ξ ≠ s_.2.2.2)∧(s_.2.2.2 ≠ ξ)∧(an≠s_.2.2.2)∧(s_.2.2.2≠an)∧(Below w.heap.size w w')) ?_ ?_
      rotate_left
      ·intro fo
       refine Y1 (σ:=Value×Value×Value) 4 (bN 11 127) (fun s_=>[(24,s_.1),(27,s_.2.1),(28,s_.2.2)]) (fun s_ w'=>(w'.cell? ⟨ξ,0,none⟩=some (.slice a7 μ.length a1)∧w'.cell? ⟨ξ,1,none⟩=some (.slice a3 τ.length a5))∧(Kd.R k36 36 w' w.heap.size (fun _=>True) s_.2.1 b5)∧(Kd.R k86 86 w' w.heap.size (fun _=>True) s_.2.2 bn)∧(w'.heap[ac]?=some (.cells #[nI B,nI J,nI O,nI Y,nI Z,nI γ,nI δ,nI ε,nI θ,nI η] 25 (0,0)))∧(w'.heap[ξ]?=some (.cells #[.slice a7 μ.length a1,.slice a3 τ.length a5] 50 (0,0)))∧(w'.heap[an]?=some (.cells #[.slice none 0 0,.slice none 0 0] 50 (0,0)))∧(Below w.heap.size w w')) ?_ ?_
       rotate_left
       ·intro jx
        refine Y1 (σ:=Value×Value×Nat) 4 (bN 11 623) (fun s_=>[(24,s_.1),(27,s_.2.1),(11,.pointer (some ⟨s_.2.2,0,none⟩))]) (fun s_ w'=>(w'.cell? ⟨ξ,0,none⟩=some (.slice a7 μ.length a1)∧w'.cell? ⟨ξ,1,none⟩=some (.slice a3 τ.length a5))∧(Kd.R k36 36 w' w.heap.size (fun _=>True) s_.2.1 b5)∧(w'.heap[ac]?=some (.cells #[nI B,nI J,nI O,nI Y,nI Z,nI γ,nI δ,nI ε,nI θ,nI η] 25 (0,0)))∧(w'.heap[ξ]?=some (.cells #[.slice a7 μ.length a1,.slice a3 τ.length a5] 50 (0,0)))∧(w'.heap[an]?=some (.cells #[.slice none 0 0,.slice none 0 0] 50 (0,0)))∧(w'.heap[s_.2.2]?=some (.cells #[.slice none 0 0,.slice none 0 0] 50 (0,0)))∧(w.heap.size≤s_.2.2)∧(w.heap.size≤s_.2.2)∧(ac≠s_.2.2)∧(s_.2.2≠ac)∧(ξ ≠ s_.2.2)∧(s_.2.2 ≠ ξ)∧(an≠s_.2.2)∧(s_.2.2≠an)∧(Below w.heap.size w w')) ?_ ?_
        rotate_left
        ·intro jy
         refine Y1 (σ:=Value×Value×Nat) 4 (bN 11 631) (fun s_=>[(24,s_.1),(28,s_.2.1),(11,.pointer (some ⟨s_.2.2,0,none⟩))]) (fun s_ w'=>(w'.cell? ⟨ξ,0,none⟩=some (.slice a7 μ.length a1)∧w'.cell? ⟨ξ,1,none⟩=some (.slice a3 τ.length a5))∧(Kd.R k36 36 w' w.heap.size (fun _=>True) s_.1 cu)∧(Kd.R k86 86 w' w.heap.size (fun _=>True) s_.2.1 bn)∧(w'.heap[ac]?=some (.cells #[nI B,nI J,nI O,nI Y,nI Z,nI γ,nI δ,nI ε,nI θ,nI η] 25 (0,0)))∧(w'.heap[ξ]?=some (.cells #[.slice a7 μ.length a1,.slice a3 τ.length a5] 50 (0,0)))∧(w'.heap[an]?=some (.cells #[.slice none 0 0,.slice none 0 0] 50 (0,0)))∧(w'.heap[s_.2.2]?=some (.cells #[.slice none 0 0,.slice none 0 0] 50 (0,0)))∧(w.heap.size≤s_.2.2)∧(w.heap.size≤s_.2.2)∧(ac≠s_.2.2)∧(s_.2.2≠ac)∧(ξ ≠ s_.2.2)∧(s_.2.2 ≠ ξ)∧(an≠s_.2.2)∧(s_.2.2≠an)∧(Below w.heap.size w w')) ?_ ?_
         rotate_left
         ·intro ig
          refine Y1 (σ:=Value×Value) 5 (bN 11 111) (fun s_=>[(24,s_.1),(27,s_.2)]) (fun s_ w'=>(w'.cell? ⟨ξ,0,none⟩=some (.slice a7 μ.length a1)∧w'.cell? ⟨ξ,1,none⟩=some (.slice a3 τ.length a5))∧(Kd.R k36 36 w' w.heap.size (fun _=>True) s_.2 b5)∧(w'.heap[ac]?=some (.cells #[nI B,nI J,nI O,nI Y,nI Z,nI γ,nI δ,nI ε,nI θ,nI η] 25 (0,0)))∧(w'.heap[ξ]?=some (.cells #[.slice a7 μ.length a1,.slice a3 τ.length a5] 50 (0,0)))∧(w'.heap[an]?=some (.cells #[.slice none 0 0,.slice none 0 0] 50 (0,0)))∧(Below w.heap.size w w')) ?_ ?_
          rotate_left
          ·intro ot
           refine Y1 (σ:=Value×Value) 5 (bN 11 119) (fun s_=>[(24,s_.1),(28,s_.2)]) (fun s_ w'=>(w'.cell? ⟨ξ,0,none⟩=some (.slice a7 μ.length a1)∧w'.cell? ⟨ξ,1,none⟩=some (.slice a3 τ.length a5))∧(Kd.R k36 36 w' w.heap.size (fun _=>True) s_.1 cu)∧(Kd.R k86 86 w' w.heap.size (fun _=>True) s_.2 bn)∧(w'.heap[ac]?=some (.cells #[nI B,nI J,nI O,nI Y,nI Z,nI γ,nI δ,nI ε,nI θ,nI η] 25 (0,0)))∧(w'.heap[ξ]?=some (.cells #[.slice a7 μ.length a1,.slice a3 τ.length a5] 50 (0,0)))∧(w'.heap[an]?=some (.cells #[.slice none 0 0,.slice none 0 0] 50 (0,0)))∧(Below w.heap.size w w')) ?_ ?_
           rotate_left
           ·intro m6
            refine Y1 (σ:=Value×Nat) 5 (bN 11 615) (fun s_=>[(24,s_.1),(11,.pointer (some ⟨s_.2,0,none⟩))]) (fun s_ w'=>(w'.cell? ⟨ξ,0,none⟩=some (.slice a7 μ.length a1)∧w'.cell? ⟨ξ,1,none⟩=some (.slice a3 τ.length a5))∧(Kd.R k36 36 w' w.heap.size (fun _=>True) s_.1 cu)∧(w'.heap[ac]?=some (.cells #[nI B,nI J,nI O,nI Y,nI Z,nI γ,nI δ,nI ε,nI θ,nI η] 25 (0,0)))∧(w'.heap[ξ]?=some (.cells #[.slice a7 μ.length a1,.slice a3 τ.length a5] 50 (0,0)))∧(w'.heap[an]?=some (.cells #[.slice none 0 0,.slice none 0 0] 50 (0,0)))∧(w'.heap[s_.2]?=some (.cells #[.slice none 0 0,.slice none 0 0] 50 (0,0)))∧(w.heap.size≤s_.2)∧(w.heap.size≤s_.2)∧(ac≠s_.2)∧(s_.2≠ac)∧(ξ ≠ s_.2)∧(s_.2 ≠ ξ)∧(an≠s_.2)∧(s_.2≠an)∧(Below w.heap.size w w')) ?_ ?_
            rotate_left
            ·intro m7
             refine Y1 (σ:=Value×Nat) 5 (bN 11 630) (fun s_=>[(28,s_.1),(11,.pointer (some ⟨s_.2,0,none⟩))]) (fun s_ w'=>(w'.cell? ⟨ξ,0,none⟩=some (.slice a7 μ.length a1)∧w'.cell? ⟨ξ,1,none⟩=some (.slice a3 τ.length a5))∧(Kd.R k86 86 w' w.heap.size (fun _=>True) s_.1 bn)∧(w'.heap[ac]?=some (.cells #[nI B,nI J,nI O,nI Y,nI Z,nI γ,nI δ,nI ε,nI θ,nI η] 25 (0,0)))∧(w'.heap[ξ]?=some (.cells #[.slice a7 μ.length a1,.slice a3 τ.length a5] 50 (0,0)))∧(w'.heap[an]?=some (.cells #[.slice none 0 0,.slice none 0 0] 50 (0,0)))∧(w'.heap[s_.2]?=some (.cells #[.slice none 0 0,.slice none 0 0] 50 (0,0)))∧(w.heap.size≤s_.2)∧(w.heap.size≤s_.2)∧(ac≠s_.2)∧(s_.2≠ac)∧(ξ ≠ s_.2)∧(s_.2 ≠ ξ)∧(an≠s_.2)∧(s_.2≠an)∧(Below w.heap.size w w')) ?_ ?_
             rotate_left
             ·intro m8
              refine Y1 (σ:=Value) 6 (bN 11 103) (fun s_=>[(24,s_)]) (fun s_ w'=>(w'.cell? ⟨ξ,0,none⟩=some (.slice a7 μ.length a1)∧w'.cell? ⟨ξ,1,none⟩=some (.slice a3 τ.length a5))∧(Kd.R k36 36 w' w.heap.size (fun _=>True) s_ cu)∧(w'.heap[ac]?=some (.cells #[nI B,nI J,nI O,nI Y,nI Z,nI γ,nI δ,nI ε,nI θ,nI η] 25 (0,0)))∧(w'.heap[ξ]?=some (.cells #[.slice a7 μ.length a1,.slice a3 τ.length a5] 50 (0,0)))∧(w'.heap[an]?=some (.cells #[.slice none 0 0,.slice none 0 0] 50 (0,0)))∧(Below w.heap.size w w')) ?_ ?_
              rotate_left
              ·intro re
               refine Y1 (σ:=Value) 6 (bN 11 118) (fun s_=>[(28,s_)]) (fun s_ w'=>(w'.cell? ⟨ξ,0,none⟩=some (.slice a7 μ.length a1)∧w'.cell? ⟨ξ,1,none⟩=some (.slice a3 τ.length a5))∧(Kd.R k86 86 w' w.heap.size (fun _=>True) s_ bn)∧(w'.heap[ac]?=some (.cells #[nI B,nI J,nI O,nI Y,nI Z,nI γ,nI δ,nI ε,nI θ,nI η] 25 (0,0)))∧(w'.heap[ξ]?=some (.cells #[.slice a7 μ.length a1,.slice a3 τ.length a5] 50 (0,0)))∧(w'.heap[an]?=some (.cells #[.slice none 0 0,.slice none 0 0] 50 (0,0)))∧(Below w.heap.size w w')) ?_ ?_
               rotate_left
               ·intro rf
                refine Y1 (σ:=Nat) 6 (bN 11 614) (fun s_=>[(11,.pointer (some ⟨s_,0,none⟩))]) (fun s_ w'=>(w'.cell? ⟨ξ,0,none⟩=some (.slice a7 μ.length a1)∧w'.cell? ⟨ξ,1,none⟩=some (.slice a3 τ.length a5))∧(w'.heap[ac]?=some (.cells #[nI B,nI J,nI O,nI Y,nI Z,nI γ,nI δ,nI ε,nI θ,nI η] 25 (0,0)))∧(w'.heap[ξ]?=some (.cells #[.slice a7 μ.length a1,.slice a3 τ.length a5] 50 (0,0)))∧(w'.heap[an]?=some (.cells #[.slice none 0 0,.slice none 0 0] 50 (0,0)))∧(w'.heap[s_]?=some (.cells #[.slice none 0 0,.slice none 0 0] 50 (0,0)))∧(w.heap.size≤s_)∧(w.heap.size≤s_)∧(ac≠s_)∧(s_≠ac)∧(ξ ≠ s_)∧(s_ ≠ ξ)∧(an≠s_)∧(s_≠an)∧(Below w.heap.size w w')) ?_ ?_
                rotate_left
                ·intro rh
                 refine N2 (i:=0) (j:=4) (k:=9) (Ni:=some 24) (Nj:=some 28) (Nk:=some 11) #[true,true,true,false,false,true,true,false,false,false,false] #[false,true,true,false,true,true,true,false,false,false,false] #[false,true,true,false,false,true,true,false,false,true,false] rfl rfl rfl rfl rfl rfl (Wb HT_.out kr) (by decide) (by decide) (by decide) (fun K hK=>?_) (fun K hK=>?_) (fun K hK=>?_)
                 ·skip
                  refine Kd.Z7 k36 _ 36 ?hg (N:=24) ?hd (xs:=([]:List (S36))) (inner:=[]) (ok:=fun _=>True) (okp:=fun _=>True) ?hr ?hp (fun _ hk=>hk) trivial (Below.refl _ _) (Nat.le_refl _) (by simp) ?_;(case hd=>rfl);(case hg=>rfl);(case hr=>go_simp <;> rfl);(case hp=>exact(Reps.none _ _))
                  intro b4 b6 ew hb hg_ hnew_
                  clear hg_ hnew_
                  (first|rw[← fe.out] at ew|(simp only[Int.reduceToNat] at ew;rw[← fe.out] at ew))
                  have ay:=aK (Kd.Za ew (Qm HB.out))
                  replace ζ :=sBk ζ hb
                  replace X:=sBk X hb
                  replace ι :=sBk ι hb
                  replace HB:=sHb hb
                  clear hb ew
                  refine hK.out _ _ ⟨qc X,qc X⟩ (fun hHeld=>?_)
                  clear hK K
                  refine qN (some 24) ?_
                  exact Zv (by first|(simp only[Zc,Act.put,qS];done)|(simp only[Zc,Act.put,qS];rfl)) (re (b4) _ ⟨hHeld,ay.out,ζ.out,X.out,ι.out,HB.out⟩)
                 ·skip
                  refine Kd.Z7 k86 _ 86 ?hg (N:=28) ?hd (xs:=([]:List (S86))) (inner:=[]) (ok:=fun _=>True) (okp:=fun _=>True) ?hr ?hp (fun _ hk=>hk) trivial (Below.refl _ _) (Nat.le_refl _) (by simp) ?_;(case hd=>rfl);(case hg=>rfl);(case hr=>go_simp <;> rfl);(case hp=>exact(Reps.none _ _))
                  intro bd b6 ew hb hg_ hnew_
                  clear hg_ hnew_
                  (first|rw[← dr.out] at ew|(simp only[Int.reduceToNat] at ew;rw[← dr.out] at ew))
                  have av:=aK (Kd.Za ew (Qm HB.out))
                  replace ζ :=sBk ζ hb
                  replace X:=sBk X hb
                  replace ι :=sBk ι hb
                  replace HB:=sHb hb
                  clear hb ew
                  refine hK.out _ _ ⟨qc X,qc X⟩ (fun hHeld=>?_)
                  clear hK K
                  refine qN (some 28) ?_
                  exact Zv (by first|(simp only[Zc,Act.put,qS];done)|(simp only[Zc,Act.put,qS];rfl)) (rf (bd) _ ⟨hHeld,av.out,ζ.out,X.out,ι.out,HB.out⟩)
                 ·skip
                  refine Xf ?hg (N:=11) ?hd (cs:=#[.slice none 0 0,.slice none 0 0]) (t:=50) ?hr ?_;(case hd=>rfl);(case hg=>rfl);(case hr=>go_simp <;> rfl)
                  intro a0 hg b6 hbox hb
                  have ψ :=aK hbox
                  have bg:=sGe hg
                  have bh:=sGe hg
                  have ai:=sNl ζ hg
                  have aj:=sNg ζ hg
                  have ae:=sNl X hg
                  have ak:=sNg X hg
                  have al:=sNl ι hg
                  have am:=sNg ι hg
                  replace ζ :=sBk ζ hb
                  replace X:=sBk X hb
                  replace ι :=sBk ι hb
                  replace HB:=sHb hb
                  clear hb hbox hg
                  refine hK.out _ _ ⟨qc X,qc X⟩ (fun hHeld=>?_)
                  clear hK K
                  refine qN (some 11) ?_
                  exact Zv (by first|(simp only[Zc,Act.put,qS];done)|(simp only[Zc,Act.put,qS];rfl)) (rh (a0) _ ⟨hHeld,ζ.out,X.out,ι.out,ψ.out,bg.out,bh.out,ai.out,aj.out,ae.out,ak.out,al.out,am.out,HB.out⟩)
                ·skip
                 rintro a0 dw ⟨hS_,b8,b9,ba,bb,bc,bu,cw,cx,cy,cz,bq,cn,co⟩
                 have φ :Aside0 (dw.heap[ac]?=some (.cells #[nI B,nI J,nI O,nI Y,nI Z,nI γ,nI δ,nI ε,nI θ,nI η] 25 (0,0))):=⟨b8⟩
                 have χ :Aside0 (dw.heap[ξ]?=some (.cells #[.slice a7 μ.length a1,.slice a3 τ.length a5] 50 (0,0))):=⟨b9⟩
                 have ω :Aside0 (dw.heap[an]?=some (.cells #[.slice none 0 0,.slice none 0 0] 50 (0,0))):=⟨ba⟩
                 have a6:Aside0 (dw.heap[a0]?=some (.cells #[.slice none 0 0,.slice none 0 0] 50 (0,0))):=⟨bb⟩
                 have ah:Aside0 (w.heap.size≤a0):=⟨bc⟩
                 have az:Aside0 (w.heap.size≤a0):=⟨bu⟩
                 have b1:Aside0 (ac≠a0):=⟨cw⟩
                 have be:Aside0 (a0≠ac):=⟨cx⟩
                 have bl:Aside0 (ξ ≠ a0):=⟨cy⟩
                 have ca:Aside0 (a0 ≠ ξ):=⟨cz⟩
                 have br:Aside0 (an≠a0):=⟨bq⟩
                 have cp:Aside0 (a0≠an):=⟨cn⟩
                 have cq:Aside0 (Below w.heap.size w dw):=⟨co⟩
                 clear ζ
                 clear X
                 clear ι
                 clear HB
                 clear b8 b9 ba bb bc bu cw cx cy cz bq cn co
                 have ζ := φ
                 have X:= χ
                 have ι := ω
                 have ψ :=a6
                 have bg:=ah
                 have bh:=az
                 have ai:=b1
                 have aj:=be
                 have ae:=bl
                 have ak:=ca
                 have al:=br
                 have am:=cp
                 have HB:=cq
                 clear φ χ ω a6 ah az b1 be bl ca br cp cq
                 have hHeld:dw.cell? ⟨ξ,0,none⟩=some (.slice a7 μ.length a1)∧dw.cell? ⟨ξ,1,none⟩=some (.slice a3 τ.length a5):=hS_
                 refine Zv (a':=?_) ?_ ?_
                 rotate_left
                 ·simp only[Zc,Act.put,qS]
                  rfl
                 refine K4 (i:=0) (j:=4) (Ni:=some 24) (Nj:=some 28) (bN 11 615) (bN 11 630) rfl rfl rfl rfl (Yg HT_.out kr) (by decide) (by decide) (fun K hK=>?_) (fun K hK=>?_)
                 ·skip
                  refine Kd.Z7 k36 _ 36 ?hg (N:=24) ?hd (xs:=([]:List (S36))) (inner:=[]) (ok:=fun _=>True) (okp:=fun _=>True) ?hr ?hp (fun _ hk=>hk) trivial (Below.refl _ _) (Nat.le_refl _) (by simp) ?_;(case hd=>rfl);(case hg=>rfl);(case hr=>go_simp <;> rfl);(case hp=>exact(Reps.none _ _))
                  intro b4 bo ey hb hg_ hnew_
                  clear hg_ hnew_
                  (first|rw[← fe.out] at ey|(simp only[Int.reduceToNat] at ey;rw[← fe.out] at ey))
                  have ay:=aK (Kd.Za ey (Qm HB.out))
                  replace ζ :=sBk ζ hb
                  replace X:=sBk X hb
                  replace ι :=sBk ι hb
                  replace ψ :=sBk ψ hb
                  replace HB:=sHb hb
                  clear hb ey
                  refine hK.out _ _ ⟨qc X,qc X⟩ (fun hHeld=>?_)
                  clear hK K
                  refine qN (some 24) ?_
                  exact Zv (by first|(simp only[Zc,Act.put,qS];done)|(simp only[Zc,Act.put,qS];rfl)) (m7 (b4,a0) _ ⟨hHeld,ay.out,ζ.out,X.out,ι.out,ψ.out,bg.out,bh.out,ai.out,aj.out,ae.out,ak.out,al.out,am.out,HB.out⟩)
                 ·skip
                  refine Kd.Z7 k86 _ 86 ?hg (N:=28) ?hd (xs:=([]:List (S86))) (inner:=[]) (ok:=fun _=>True) (okp:=fun _=>True) ?hr ?hp (fun _ hk=>hk) trivial (Below.refl _ _) (Nat.le_refl _) (by simp) ?_;(case hd=>rfl);(case hg=>rfl);(case hr=>go_simp <;> rfl);(case hp=>exact(Reps.none _ _))
                  intro bd bo ey hb hg_ hnew_
                  clear hg_ hnew_
                  (first|rw[← dr.out] at ey|(simp only[Int.reduceToNat] at ey;rw[← dr.out] at ey))
                  have av:=aK (Kd.Za ey (Qm HB.out))
                  replace ζ :=sBk ζ hb
                  replace X:=sBk X hb
                  replace ι :=sBk ι hb
                  replace ψ :=sBk ψ hb
                  replace HB:=sHb hb
                  clear hb ey
                  refine hK.out _ _ ⟨qc X,qc X⟩ (fun hHeld=>?_)
                  clear hK K
                  refine qN (some 28) ?_
                  exact Zv (by first|(simp only[Zc,Act.put,qS];done)|(simp only[Zc,Act.put,qS];rfl)) (m8 (bd,a0) _ ⟨hHeld,av.out,ζ.out,X.out,ι.out,ψ.out,bg.out,bh.out,ai.out,aj.out,ae.out,ak.out,al.out,am.out,HB.out⟩)
               ·skip
                rintro bd bo ⟨hS_,b8,b9,ba,bb,bc⟩
                have φ :Aside0 (Kd.R k86 86 bo w.heap.size (fun _=>True) bd bn):=⟨b8⟩
                have χ :Aside0 (bo.heap[ac]?=some (.cells #[nI B,nI J,nI O,nI Y,nI Z,nI γ,nI δ,nI ε,nI θ,nI η] 25 (0,0))):=⟨b9⟩
                have ω :Aside0 (bo.heap[ξ]?=some (.cells #[.slice a7 μ.length a1,.slice a3 τ.length a5] 50 (0,0))):=⟨ba⟩
                have a6:Aside0 (bo.heap[an]?=some (.cells #[.slice none 0 0,.slice none 0 0] 50 (0,0))):=⟨bb⟩
                have ah:Aside0 (Below w.heap.size w bo):=⟨bc⟩
                clear ζ
                clear X
                clear ι
                clear HB
                clear b8 b9 ba bb bc
                have av:= φ
                have ζ := χ
                have X:= ω
                have ι :=a6
                have HB:=ah
                clear φ χ ω a6 ah
                have hHeld:bo.cell? ⟨ξ,0,none⟩=some (.slice a7 μ.length a1)∧bo.cell? ⟨ξ,1,none⟩=some (.slice a3 τ.length a5):=hS_
                refine Zv (a':=?_) ?_ ?_
                rotate_left
                ·simp only[Zc,Act.put,qS]
                 rfl
                refine K4 (i:=0) (j:=9) (Ni:=some 24) (Nj:=some 11) (bN 11 119) (bN 11 630) rfl rfl rfl rfl (Yg HT_.out kr) (by decide) (by decide) (fun K hK=>?_) (fun K hK=>?_)
                ·skip
                 refine Kd.Z7 k36 _ 36 ?hg (N:=24) ?hd (xs:=([]:List (S36))) (inner:=[]) (ok:=fun _=>True) (okp:=fun _=>True) ?hr ?hp (fun _ hk=>hk) trivial (Below.refl _ _) (Nat.le_refl _) (by simp) ?_;(case hd=>rfl);(case hg=>rfl);(case hr=>go_simp <;> rfl);(case hp=>exact(Reps.none _ _))
                 intro b4 bj dm hb hg_ hnew_
                 clear hg_ hnew_
                 (first|rw[← fe.out] at dm|(simp only[Int.reduceToNat] at dm;rw[← fe.out] at dm))
                 have ay:=aK (Kd.Za dm (Qm HB.out))
                 replace av:=sRb av hb
                 replace ζ :=sBk ζ hb
                 replace X:=sBk X hb
                 replace ι :=sBk ι hb
                 replace HB:=sHb hb
                 clear hb dm
                 refine hK.out _ _ ⟨qc X,qc X⟩ (fun hHeld=>?_)
                 clear hK K
                 refine qN (some 24) ?_
                 exact Zv (by first|(simp only[Zc,Act.put,qS];done)|(simp only[Zc,Act.put,qS];rfl)) (m6 (b4,bd) _ ⟨hHeld,ay.out,av.out,ζ.out,X.out,ι.out,HB.out⟩)
                ·skip
                 refine Xf ?hg (N:=11) ?hd (cs:=#[.slice none 0 0,.slice none 0 0]) (t:=50) ?hr ?_;(case hd=>rfl);(case hg=>rfl);(case hr=>go_simp <;> rfl)
                 intro a0 hg bj hbox hb
                 have ψ :=aK hbox
                 have bg:=sGe hg
                 have bh:=sGe hg
                 have ai:=sNl ζ hg
                 have aj:=sNg ζ hg
                 have ae:=sNl X hg
                 have ak:=sNg X hg
                 have al:=sNl ι hg
                 have am:=sNg ι hg
                 replace av:=sRb av hb
                 replace ζ :=sBk ζ hb
                 replace X:=sBk X hb
                 replace ι :=sBk ι hb
                 replace HB:=sHb hb
                 clear hb hbox hg
                 refine hK.out _ _ ⟨qc X,qc X⟩ (fun hHeld=>?_)
                 clear hK K
                 refine qN (some 11) ?_
                 exact Zv (by first|(simp only[Zc,Act.put,qS];done)|(simp only[Zc,Act.put,qS];rfl)) (m8 (bd,a0) _ ⟨hHeld,av.out,ζ.out,X.out,ι.out,ψ.out,bg.out,bh.out,ai.out,aj.out,ae.out,ak.out,al.out,am.out,HB.out⟩)
              ·skip
               rintro b4 bo ⟨hS_,b8,b9,ba,bb,bc⟩
               have φ :Aside0 (Kd.R k36 36 bo w.heap.size (fun _=>True) b4 cu):=⟨b8⟩
               have χ :Aside0 (bo.heap[ac]?=some (.cells #[nI B,nI J,nI O,nI Y,nI Z,nI γ,nI δ,nI ε,nI θ,nI η] 25 (0,0))):=⟨b9⟩
               have ω :Aside0 (bo.heap[ξ]?=some (.cells #[.slice a7 μ.length a1,.slice a3 τ.length a5] 50 (0,0))):=⟨ba⟩
               have a6:Aside0 (bo.heap[an]?=some (.cells #[.slice none 0 0,.slice none 0 0] 50 (0,0))):=⟨bb⟩
               have ah:Aside0 (Below w.heap.size w bo):=⟨bc⟩
               clear ζ
               clear X
               clear ι
               clear HB
               clear b8 b9 ba bb bc
               have ay:= φ
               have ζ := χ
               have X:= ω
               have ι :=a6
               have HB:=ah
               clear φ χ ω a6 ah
               have hHeld:bo.cell? ⟨ξ,0,none⟩=some (.slice a7 μ.length a1)∧bo.cell? ⟨ξ,1,none⟩=some (.slice a3 τ.length a5):=hS_
               refine Zv (a':=?_) ?_ ?_
               rotate_left
               ·simp only[Zc,Act.put,qS]
                rfl
               refine N2 (i:=3) (j:=4) (k:=9) (Ni:=some 27) (Nj:=some 28) (Nk:=some 11) #[true,true,true,true,false,true,true,false,false,false,false] #[true,true,true,false,true,true,true,false,false,false,false] #[true,true,true,false,false,true,true,false,false,true,false] rfl rfl rfl rfl rfl rfl (Wb HT_.out kr) (by decide) (by decide) (by decide) (fun K hK=>?_) (fun K hK=>?_) (fun K hK=>?_)
               ·skip
                refine Kd.Zp k36 (w0:=w) w.heap.size (by rfl) (.tmp 24) (.tmp 26) 47 36 (.agg #[(nI 0),(nI 0),(nI 0)]) 24 rfl Try.underlying47 Y7 rfl (by decide) (by omega) b4 cu μ _ _ _ (fun _=>True) (fun _=>False) rfl rfl ?aO ?aR (fun _ _ h=>h) (fun _ h=>h.elim) ?aF ?aB ?aS ?aL ?_
                (case aR=>exact(Kd.Qw bk.out HB.out))
                (case aB=>exact HB.out)
                (case aF=>exact(fun _ _=>trivial))
                (case aO=>exact ay.out)
                (case aS=>exact(Qm HB.out))
                (case aL=>have:=ki.out;omega)
                intro cr bj ho hb hg hat
                rw[← iu.out] at ho
                have b0:=aK ho
                replace ζ :=aK (Qy (g:=ac) (o:=.cells #[nI B,nI J,nI O,nI Y,nI Z,nI γ,nI δ,nI ε,nI θ,nI η] 25 (0,0)) ζ.out hg (Kd.Zo ay.out ζ.out (by decide)))
                replace X:=aK (Qy (g:= ξ) (o:=.cells #[.slice a7 μ.length a1,.slice a3 τ.length a5] 50 (0,0)) X.out hg (Kd.Zo ay.out X.out (by decide)))
                replace ι :=aK (Qy (g:=an) (o:=.cells #[.slice none 0 0,.slice none 0 0] 50 (0,0)) ι.out hg (Kd.Zo ay.out ι.out (by decide)))
                replace HB:=aK hb
                clear ay
                clear ho hb hg hat
                refine hK.out _ _ ⟨qc X,qc X⟩ (fun hHeld=>?_)
                clear hK K
                refine qN (some 27) ?_
                exact Zv (by first|(simp only[Zc,Act.put,qS];done)|(simp only[Zc,Act.put,qS];rfl)) (ot (b4,cr) _ ⟨hHeld,b0.out,ζ.out,X.out,ι.out,HB.out⟩)
               ·skip
                refine Kd.Z7 k86 _ 86 ?hg (N:=28) ?hd (xs:=([]:List (S86))) (inner:=[]) (ok:=fun _=>True) (okp:=fun _=>True) ?hr ?hp (fun _ hk=>hk) trivial (Below.refl _ _) (Nat.le_refl _) (by simp) ?_;(case hd=>rfl);(case hg=>rfl);(case hr=>go_simp <;> rfl);(case hp=>exact(Reps.none _ _))
                intro bd bj dm hb hg_ hnew_
                clear hg_ hnew_
                (first|rw[← dr.out] at dm|(simp only[Int.reduceToNat] at dm;rw[← dr.out] at dm))
                have av:=aK (Kd.Za dm (Qm HB.out))
                replace ay:=sRb ay hb
                replace ζ :=sBk ζ hb
                replace X:=sBk X hb
                replace ι :=sBk ι hb
                replace HB:=sHb hb
                clear hb dm
                refine hK.out _ _ ⟨qc X,qc X⟩ (fun hHeld=>?_)
                clear hK K
                refine qN (some 28) ?_
                exact Zv (by first|(simp only[Zc,Act.put,qS];done)|(simp only[Zc,Act.put,qS];rfl)) (m6 (b4,bd) _ ⟨hHeld,ay.out,av.out,ζ.out,X.out,ι.out,HB.out⟩)
               ·skip
                refine Xf ?hg (N:=11) ?hd (cs:=#[.slice none 0 0,.slice none 0 0]) (t:=50) ?hr ?_;(case hd=>rfl);(case hg=>rfl);(case hr=>go_simp <;> rfl)
                intro a0 hg bj hbox hb
                have ψ :=aK hbox
                have bg:=sGe hg
                have bh:=sGe hg
                have ai:=sNl ζ hg
                have aj:=sNg ζ hg
                have ae:=sNl X hg
                have ak:=sNg X hg
                have al:=sNl ι hg
                have am:=sNg ι hg
                replace ay:=sRb ay hb
                replace ζ :=sBk ζ hb
                replace X:=sBk X hb
                replace ι :=sBk ι hb
                replace HB:=sHb hb
                clear hb hbox hg
                refine hK.out _ _ ⟨qc X,qc X⟩ (fun hHeld=>?_)
                clear hK K
                refine qN (some 11) ?_
                exact Zv (by first|(simp only[Zc,Act.put,qS];done)|(simp only[Zc,Act.put,qS];rfl)) (m7 (b4,a0) _ ⟨hHeld,ay.out,ζ.out,X.out,ι.out,ψ.out,bg.out,bh.out,ai.out,aj.out,ae.out,ak.out,al.out,am.out,HB.out⟩)
             ·skip
              rintro⟨bd,a0⟩ bj ⟨hS_,b8,b9,ba,bb,bc,bu,cw,cx,cy,cz,bq,cn,co,d8⟩
              have φ :Aside0 (Kd.R k86 86 bj w.heap.size (fun _=>True) bd bn):=⟨b8⟩
              have χ :Aside0 (bj.heap[ac]?=some (.cells #[nI B,nI J,nI O,nI Y,nI Z,nI γ,nI δ,nI ε,nI θ,nI η] 25 (0,0))):=⟨b9⟩
              have ω :Aside0 (bj.heap[ξ]?=some (.cells #[.slice a7 μ.length a1,.slice a3 τ.length a5] 50 (0,0))):=⟨ba⟩
              have a6:Aside0 (bj.heap[an]?=some (.cells #[.slice none 0 0,.slice none 0 0] 50 (0,0))):=⟨bb⟩
              have ah:Aside0 (bj.heap[a0]?=some (.cells #[.slice none 0 0,.slice none 0 0] 50 (0,0))):=⟨bc⟩
              have az:Aside0 (w.heap.size≤a0):=⟨bu⟩
              have b1:Aside0 (w.heap.size≤a0):=⟨cw⟩
              have be:Aside0 (ac≠a0):=⟨cx⟩
              have bl:Aside0 (a0≠ac):=⟨cy⟩
              have ca:Aside0 (ξ ≠ a0):=⟨cz⟩
              have br:Aside0 (a0 ≠ ξ):=⟨bq⟩
              have cp:Aside0 (an≠a0):=⟨cn⟩
              have cq:Aside0 (a0≠an):=⟨co⟩
              have d9:Aside0 (Below w.heap.size w bj):=⟨d8⟩
              clear ζ
              clear X
              clear ι
              clear HB
              clear b8 b9 ba bb bc bu cw cx cy cz bq cn co d8
              have av:= φ
              have ζ := χ
              have X:= ω
              have ι :=a6
              have ψ :=ah
              have bg:=az
              have bh:=b1
              have ai:=be
              have aj:=bl
              have ae:=ca
              have ak:=br
              have al:=cp
              have am:=cq
              have HB:=d9
              clear φ χ ω a6 ah az b1 be bl ca br cp cq d9
              have hHeld:bj.cell? ⟨ξ,0,none⟩=some (.slice a7 μ.length a1)∧bj.cell? ⟨ξ,1,none⟩=some (.slice a3 τ.length a5):=hS_
              refine Zv (a':=?_) ?_ ?_
              rotate_left
              ·simp only[Zc,Act.put,qS]
               rfl
              refine qK 0 (some 24) (bN 11 631) HT_ fun K hK=>?_
              refine Kd.Z7 k36 _ 36 ?hg (N:=24) ?hd (xs:=([]:List (S36))) (inner:=[]) (ok:=fun _=>True) (okp:=fun _=>True) ?hr ?hp (fun _ hk=>hk) trivial (Below.refl _ _) (Nat.le_refl _) (by simp) ?_;(case hd=>rfl);(case hg=>rfl);(case hr=>go_simp <;> rfl);(case hp=>exact(Reps.none _ _))
              intro b4 bi dn hb hg_ hnew_
              clear hg_ hnew_
              (first|rw[← fe.out] at dn|(simp only[Int.reduceToNat] at dn;rw[← fe.out] at dn))
              have ay:=aK (Kd.Za dn (Qm HB.out))
              replace av:=sRb av hb
              replace ζ :=sBk ζ hb
              replace X:=sBk X hb
              replace ι :=sBk ι hb
              replace ψ :=sBk ψ hb
              replace HB:=sHb hb
              clear hb dn
              refine hK.out _ _ ⟨qc X,qc X⟩ (fun hHeld=>?_)
              clear hK K
              refine qN (some 24) ?_
              exact Zv (by first|(simp only[Zc,Act.put,qS];done)|(simp only[Zc,Act.put,qS];rfl)) (ig (b4,bd,a0) _ ⟨hHeld,ay.out,av.out,ζ.out,X.out,ι.out,ψ.out,bg.out,bh.out,ai.out,aj.out,ae.out,ak.out,al.out,am.out,HB.out⟩)
            ·skip
             rintro⟨b4,a0⟩ bj ⟨hS_,b8,b9,ba,bb,bc,bu,cw,cx,cy,cz,bq,cn,co,d8⟩
             have φ :Aside0 (Kd.R k36 36 bj w.heap.size (fun _=>True) b4 cu):=⟨b8⟩
             have χ :Aside0 (bj.heap[ac]?=some (.cells #[nI B,nI J,nI O,nI Y,nI Z,nI γ,nI δ,nI ε,nI θ,nI η] 25 (0,0))):=⟨b9⟩
             have ω :Aside0 (bj.heap[ξ]?=some (.cells #[.slice a7 μ.length a1,.slice a3 τ.length a5] 50 (0,0))):=⟨ba⟩
             have a6:Aside0 (bj.heap[an]?=some (.cells #[.slice none 0 0,.slice none 0 0] 50 (0,0))):=⟨bb⟩
             have ah:Aside0 (bj.heap[a0]?=some (.cells #[.slice none 0 0,.slice none 0 0] 50 (0,0))):=⟨bc⟩
             have az:Aside0 (w.heap.size≤a0):=⟨bu⟩
             have b1:Aside0 (w.heap.size≤a0):=⟨cw⟩
             have be:Aside0 (ac≠a0):=⟨cx⟩
             have bl:Aside0 (a0≠ac):=⟨cy⟩
             have ca:Aside0 (ξ ≠ a0):=⟨cz⟩
             have br:Aside0 (a0 ≠ ξ):=⟨bq⟩
             have cp:Aside0 (an≠a0):=⟨cn⟩
             have cq:Aside0 (a0≠an):=⟨co⟩
             have d9:Aside0 (Below w.heap.size w bj):=⟨d8⟩
             clear ζ
             clear X
             clear ι
             clear HB
             clear b8 b9 ba bb bc bu cw cx cy cz bq cn co d8
             have ay:= φ
             have ζ := χ
             have X:= ω
             have ι :=a6
             have ψ :=ah
             have bg:=az
             have bh:=b1
             have ai:=be
             have aj:=bl
             have ae:=ca
             have ak:=br
             have al:=cp
             have am:=cq
             have HB:=d9
             clear φ χ ω a6 ah az b1 be bl ca br cp cq d9
             have hHeld:bj.cell? ⟨ξ,0,none⟩=some (.slice a7 μ.length a1)∧bj.cell? ⟨ξ,1,none⟩=some (.slice a3 τ.length a5):=hS_
             refine Zv (a':=?_) ?_ ?_
             rotate_left
             ·simp only[Zc,Act.put,qS]
              rfl
             refine K4 (i:=3) (j:=4) (Ni:=some 27) (Nj:=some 28) (bN 11 623) (bN 11 631) rfl rfl rfl rfl (Yg HT_.out kr) (by decide) (by decide) (fun K hK=>?_) (fun K hK=>?_)
             ·skip
              refine Kd.Zp k36 (w0:=w) w.heap.size (by rfl) (.tmp 24) (.tmp 26) 47 36 (.agg #[(nI 0),(nI 0),(nI 0)]) 24 rfl Try.underlying47 Y7 rfl (by decide) (by omega) b4 cu μ _ _ _ (fun _=>True) (fun _=>False) rfl rfl ?aO ?aR (fun _ _ h=>h) (fun _ h=>h.elim) ?aF ?aB ?aS ?aL ?_
              (case aR=>exact(Kd.Qw bk.out HB.out))
              (case aB=>exact HB.out)
              (case aF=>exact(fun _ _=>trivial))
              (case aO=>exact ay.out)
              (case aS=>exact(Qm HB.out))
              (case aL=>have:=ki.out;omega)
              intro cr bi ho hb hg hat
              rw[← iu.out] at ho
              have b0:=aK ho
              replace ζ :=aK (Qy (g:=ac) (o:=.cells #[nI B,nI J,nI O,nI Y,nI Z,nI γ,nI δ,nI ε,nI θ,nI η] 25 (0,0)) ζ.out hg (Kd.Zo ay.out ζ.out (by decide)))
              replace X:=aK (Qy (g:= ξ) (o:=.cells #[.slice a7 μ.length a1,.slice a3 τ.length a5] 50 (0,0)) X.out hg (Kd.Zo ay.out X.out (by decide)))
              replace ι :=aK (Qy (g:=an) (o:=.cells #[.slice none 0 0,.slice none 0 0] 50 (0,0)) ι.out hg (Kd.Zo ay.out ι.out (by decide)))
              replace ψ :=aK (Qy (g:=a0) (o:=.cells #[.slice none 0 0,.slice none 0 0] 50 (0,0)) ψ.out hg (Kd.Zo ay.out ψ.out (by decide)))
              replace HB:=aK hb
              clear ay
              clear ho hb hg hat
              refine hK.out _ _ ⟨qc X,qc X⟩ (fun hHeld=>?_)
              clear hK K
              refine qN (some 27) ?_
              exact Zv (by first|(simp only[Zc,Act.put,qS];done)|(simp only[Zc,Act.put,qS];rfl)) (jy (b4,cr,a0) _ ⟨hHeld,b0.out,ζ.out,X.out,ι.out,ψ.out,bg.out,bh.out,ai.out,aj.out,ae.out,ak.out,al.out,am.out,HB.out⟩)
             ·skip
              refine Kd.Z7 k86 _ 86 ?hg (N:=28) ?hd (xs:=([]:List (S86))) (inner:=[]) (ok:=fun _=>True) (okp:=fun _=>True) ?hr ?hp (fun _ hk=>hk) trivial (Below.refl _ _) (Nat.le_refl _) (by simp) ?_;(case hd=>rfl);(case hg=>rfl);(case hr=>go_simp <;> rfl);(case hp=>exact(Reps.none _ _))
              intro bd bi dn hb hg_ hnew_
              clear hg_ hnew_
              (first|rw[← dr.out] at dn|(simp only[Int.reduceToNat] at dn;rw[← dr.out] at dn))
              have av:=aK (Kd.Za dn (Qm HB.out))
              replace ay:=sRb ay hb
              replace ζ :=sBk ζ hb
              replace X:=sBk X hb
              replace ι :=sBk ι hb
              replace ψ :=sBk ψ hb
              replace HB:=sHb hb
              clear hb dn
              refine hK.out _ _ ⟨qc X,qc X⟩ (fun hHeld=>?_)
              clear hK K
              refine qN (some 28) ?_
              exact Zv (by first|(simp only[Zc,Act.put,qS];done)|(simp only[Zc,Act.put,qS];rfl)) (ig (b4,bd,a0) _ ⟨hHeld,ay.out,av.out,ζ.out,X.out,ι.out,ψ.out,bg.out,bh.out,ai.out,aj.out,ae.out,ak.out,al.out,am.out,HB.out⟩)
           ·skip
            rintro⟨b4,bd⟩ bi ⟨hS_,b8,b9,ba,bb,bc,bu⟩
            have φ :Aside0 (Kd.R k36 36 bi w.heap.size (fun _=>True) b4 cu):=⟨b8⟩
            have χ :Aside0 (Kd.R k86 86 bi w.heap.size (fun _=>True) bd bn):=⟨b9⟩
            have ω :Aside0 (bi.heap[ac]?=some (.cells #[nI B,nI J,nI O,nI Y,nI Z,nI γ,nI δ,nI ε,nI θ,nI η] 25 (0,0))):=⟨ba⟩
            have a6:Aside0 (bi.heap[ξ]?=some (.cells #[.slice a7 μ.length a1,.slice a3 τ.length a5] 50 (0,0))):=⟨bb⟩
            have ah:Aside0 (bi.heap[an]?=some (.cells #[.slice none 0 0,.slice none 0 0] 50 (0,0))):=⟨bc⟩
            have az:Aside0 (Below w.heap.size w bi):=⟨bu⟩
            clear ζ
            clear X
            clear ι
            clear HB
            clear b8 b9 ba bb bc bu
            have ay:= φ
            have av:= χ
            have ζ := ω
            have X:=a6
            have ι :=ah
            have HB:=az
            clear φ χ ω a6 ah az
            have hHeld:bi.cell? ⟨ξ,0,none⟩=some (.slice a7 μ.length a1)∧bi.cell? ⟨ξ,1,none⟩=some (.slice a3 τ.length a5):=hS_
            refine Zv (a':=?_) ?_ ?_
            rotate_left
            ·simp only[Zc,Act.put,qS]
             rfl
            refine K4 (i:=3) (j:=9) (Ni:=some 27) (Nj:=some 11) (bN 11 127) (bN 11 631) rfl rfl rfl rfl (Yg HT_.out kr) (by decide) (by decide) (fun K hK=>?_) (fun K hK=>?_)
            ·skip
             refine Kd.Zp k36 (w0:=w) w.heap.size (by rfl) (.tmp 24) (.tmp 26) 47 36 (.agg #[(nI 0),(nI 0),(nI 0)]) 24 rfl Try.underlying47 Y7 rfl (by decide) (by omega) b4 cu μ _ _ _ (fun _=>True) (fun _=>False) rfl rfl ?aO ?aR (fun _ _ h=>h) (fun _ h=>h.elim) ?aF ?aB ?aS ?aL ?_
             (case aR=>exact(Kd.Qw bk.out HB.out))
             (case aB=>exact HB.out)
             (case aF=>exact(fun _ _=>trivial))
             (case aO=>exact ay.out)
             (case aS=>exact(Qm HB.out))
             (case aL=>have:=ki.out;omega)
             intro cr cm ho hb hg hat
             rw[← iu.out] at ho
             have b0:=aK ho
             replace ζ :=aK (Qy (g:=ac) (o:=.cells #[nI B,nI J,nI O,nI Y,nI Z,nI γ,nI δ,nI ε,nI θ,nI η] 25 (0,0)) ζ.out hg (Kd.Zo ay.out ζ.out (by decide)))
             replace X:=aK (Qy (g:= ξ) (o:=.cells #[.slice a7 μ.length a1,.slice a3 τ.length a5] 50 (0,0)) X.out hg (Kd.Zo ay.out X.out (by decide)))
             replace ι :=aK (Qy (g:=an) (o:=.cells #[.slice none 0 0,.slice none 0 0] 50 (0,0)) ι.out hg (Kd.Zo ay.out ι.out (by decide)))
             replace av:=aK (Kd.Jk av.out (Kd.Jj ay.out) (by decide) hg)
             replace HB:=aK hb
             clear ay
             clear ho hb hg hat
             refine hK.out _ _ ⟨qc X,qc X⟩ (fun hHeld=>?_)
             clear hK K
             refine qN (some 27) ?_
             exact Zv (by first|(simp only[Zc,Act.put,qS];done)|(simp only[Zc,Act.put,qS];rfl)) (jx (b4,cr,bd) _ ⟨hHeld,b0.out,av.out,ζ.out,X.out,ι.out,HB.out⟩)
            ·skip
             refine Xf ?hg (N:=11) ?hd (cs:=#[.slice none 0 0,.slice none 0 0]) (t:=50) ?hr ?_;(case hd=>rfl);(case hg=>rfl);(case hr=>go_simp <;> rfl)
             intro a0 hg cm hbox hb
             have ψ :=aK hbox
             have bg:=sGe hg
             have bh:=sGe hg
             have ai:=sNl ζ hg
             have aj:=sNg ζ hg
             have ae:=sNl X hg
             have ak:=sNg X hg
             have al:=sNl ι hg
             have am:=sNg ι hg
             replace ay:=sRb ay hb
             replace av:=sRb av hb
             replace ζ :=sBk ζ hb
             replace X:=sBk X hb
             replace ι :=sBk ι hb
             replace HB:=sHb hb
             clear hb hbox hg
             refine hK.out _ _ ⟨qc X,qc X⟩ (fun hHeld=>?_)
             clear hK K
             refine qN (some 11) ?_
             exact Zv (by first|(simp only[Zc,Act.put,qS];done)|(simp only[Zc,Act.put,qS];rfl)) (ig (b4,bd,a0) _ ⟨hHeld,ay.out,av.out,ζ.out,X.out,ι.out,ψ.out,bg.out,bh.out,ai.out,aj.out,ae.out,ak.out,al.out,am.out,HB.out⟩)
          ·skip
           rintro⟨b4,cr⟩ bj ⟨hS_,b8,b9,ba,bb,bc⟩
           have φ :Aside0 (Kd.R k36 36 bj w.heap.size (fun _=>True) cr b5):=⟨b8⟩
           have χ :Aside0 (bj.heap[ac]?=some (.cells #[nI B,nI J,nI O,nI Y,nI Z,nI γ,nI δ,nI ε,nI θ,nI η] 25 (0,0))):=⟨b9⟩
           have ω :Aside0 (bj.heap[ξ]?=some (.cells #[.slice a7 μ.length a1,.slice a3 τ.length a5] 50 (0,0))):=⟨ba⟩
           have a6:Aside0 (bj.heap[an]?=some (.cells #[.slice none 0 0,.slice none 0 0] 50 (0,0))):=⟨bb⟩
           have ah:Aside0 (Below w.heap.size w bj):=⟨bc⟩
           clear ζ
           clear X
           clear ι
           clear HB
           clear b8 b9 ba bb bc
           have b0:= φ
           have ζ := χ
           have X:= ω
           have ι :=a6
           have HB:=ah
           clear φ χ ω a6 ah
           have hHeld:bj.cell? ⟨ξ,0,none⟩=some (.slice a7 μ.length a1)∧bj.cell? ⟨ξ,1,none⟩=some (.slice a3 τ.length a5):=hS_
           refine Zv (a':=?_) ?_ ?_
           rotate_left
           ·simp only[Zc,Act.put,qS]
            rfl
           refine K4 (i:=4) (j:=9) (Ni:=some 28) (Nj:=some 11) (bN 11 127) (bN 11 623) rfl rfl rfl rfl (Yg HT_.out kr) (by decide) (by decide) (fun K hK=>?_) (fun K hK=>?_)
           ·skip
            refine Kd.Z7 k86 _ 86 ?hg (N:=28) ?hd (xs:=([]:List (S86))) (inner:=[]) (ok:=fun _=>True) (okp:=fun _=>True) ?hr ?hp (fun _ hk=>hk) trivial (Below.refl _ _) (Nat.le_refl _) (by simp) ?_;(case hd=>rfl);(case hg=>rfl);(case hr=>go_simp <;> rfl);(case hp=>exact(Reps.none _ _))
            intro bd bi dn hb hg_ hnew_
            clear hg_ hnew_
            (first|rw[← dr.out] at dn|(simp only[Int.reduceToNat] at dn;rw[← dr.out] at dn))
            have av:=aK (Kd.Za dn (Qm HB.out))
            replace b0:=sRb b0 hb
            replace ζ :=sBk ζ hb
            replace X:=sBk X hb
            replace ι :=sBk ι hb
            replace HB:=sHb hb
            clear hb dn
            refine hK.out _ _ ⟨qc X,qc X⟩ (fun hHeld=>?_)
            clear hK K
            refine qN (some 28) ?_
            exact Zv (by first|(simp only[Zc,Act.put,qS];done)|(simp only[Zc,Act.put,qS];rfl)) (jx (b4,cr,bd) _ ⟨hHeld,b0.out,av.out,ζ.out,X.out,ι.out,HB.out⟩)
           ·skip
            refine Xf ?hg (N:=11) ?hd (cs:=#[.slice none 0 0,.slice none 0 0]) (t:=50) ?hr ?_;(case hd=>rfl);(case hg=>rfl);(case hr=>go_simp <;> rfl)
            intro a0 hg bi hbox hb
            have ψ :=aK hbox
            have bg:=sGe hg
            have bh:=sGe hg
            have ai:=sNl ζ hg
            have aj:=sNg ζ hg
            have ae:=sNl X hg
            have ak:=sNg X hg
            have al:=sNl ι hg
            have am:=sNg ι hg
            replace b0:=sRb b0 hb
            replace ζ :=sBk ζ hb
            replace X:=sBk X hb
            replace ι :=sBk ι hb
            replace HB:=sHb hb
            clear hb hbox hg
            refine hK.out _ _ ⟨qc X,qc X⟩ (fun hHeld=>?_)
            clear hK K
            refine qN (some 11) ?_
            exact Zv (by first|(simp only[Zc,Act.put,qS];done)|(simp only[Zc,Act.put,qS];rfl)) (jy (b4,cr,a0) _ ⟨hHeld,b0.out,ζ.out,X.out,ι.out,ψ.out,bg.out,bh.out,ai.out,aj.out,ae.out,ak.out,al.out,am.out,HB.out⟩)
         ·skip
          rintro⟨b4,bd,a0⟩ cm ⟨hS_,b8,b9,ba,bb,bc,bu,cw,cx,cy,cz,bq,cn,co,d8,eu⟩
          have φ :Aside0 (Kd.R k36 36 cm w.heap.size (fun _=>True) b4 cu):=⟨b8⟩
          have χ :Aside0 (Kd.R k86 86 cm w.heap.size (fun _=>True) bd bn):=⟨b9⟩
          have ω :Aside0 (cm.heap[ac]?=some (.cells #[nI B,nI J,nI O,nI Y,nI Z,nI γ,nI δ,nI ε,nI θ,nI η] 25 (0,0))):=⟨ba⟩
          have a6:Aside0 (cm.heap[ξ]?=some (.cells #[.slice a7 μ.length a1,.slice a3 τ.length a5] 50 (0,0))):=⟨bb⟩
          have ah:Aside0 (cm.heap[an]?=some (.cells #[.slice none 0 0,.slice none 0 0] 50 (0,0))):=⟨bc⟩
          have az:Aside0 (cm.heap[a0]?=some (.cells #[.slice none 0 0,.slice none 0 0] 50 (0,0))):=⟨bu⟩
          have b1:Aside0 (w.heap.size≤a0):=⟨cw⟩
          have be:Aside0 (w.heap.size≤a0):=⟨cx⟩
          have bl:Aside0 (ac≠a0):=⟨cy⟩
          have ca:Aside0 (a0≠ac):=⟨cz⟩
          have br:Aside0 (ξ ≠ a0):=⟨bq⟩
          have cp:Aside0 (a0 ≠ ξ):=⟨cn⟩
          have cq:Aside0 (an≠a0):=⟨co⟩
          have d9:Aside0 (a0≠an):=⟨d8⟩
          have ev:Aside0 (Below w.heap.size w cm):=⟨eu⟩
          clear ζ
          clear X
          clear ι
          clear HB
          clear b8 b9 ba bb bc bu cw cx cy cz bq cn co d8 eu
          have ay:= φ
          have av:= χ
          have ζ := ω
          have X:=a6
          have ι :=ah
          have ψ :=az
          have bg:=b1
          have bh:=be
          have ai:=bl
          have aj:=ca
          have ae:=br
          have ak:=cp
          have al:=cq
          have am:=d9
          have HB:=ev
          clear φ χ ω a6 ah az b1 be bl ca br cp cq d9 ev
          have hHeld:cm.cell? ⟨ξ,0,none⟩=some (.slice a7 μ.length a1)∧cm.cell? ⟨ξ,1,none⟩=some (.slice a3 τ.length a5):=hS_
          refine Zv (a':=?_) ?_ ?_
          rotate_left
          ·simp only[Zc,Act.put,qS]
           rfl
          refine qK 3 (some 27) (bN 11 639) HT_ fun K hK=>?_
          refine Kd.Zp k36 (w0:=w) w.heap.size (by rfl) (.tmp 24) (.tmp 26) 47 36 (.agg #[(nI 0),(nI 0),(nI 0)]) 24 rfl Try.underlying47 Y7 rfl (by decide) (by omega) b4 cu μ _ _ _ (fun _=>True) (fun _=>False) rfl rfl ?aO ?aR (fun _ _ h=>h) (fun _ h=>h.elim) ?aF ?aB ?aS ?aL ?_
          (case aR=>exact(Kd.Qw bk.out HB.out))
          (case aB=>exact HB.out)
          (case aF=>exact(fun _ _=>trivial))
          (case aO=>exact ay.out)
          (case aS=>exact(Qm HB.out))
          (case aL=>have:=ki.out;omega)
          intro cr dt ho hb hg hat
          rw[← iu.out] at ho
          have b0:=aK ho
          replace ζ :=aK (Qy (g:=ac) (o:=.cells #[nI B,nI J,nI O,nI Y,nI Z,nI γ,nI δ,nI ε,nI θ,nI η] 25 (0,0)) ζ.out hg (Kd.Zo ay.out ζ.out (by decide)))
          replace X:=aK (Qy (g:= ξ) (o:=.cells #[.slice a7 μ.length a1,.slice a3 τ.length a5] 50 (0,0)) X.out hg (Kd.Zo ay.out X.out (by decide)))
          replace ι :=aK (Qy (g:=an) (o:=.cells #[.slice none 0 0,.slice none 0 0] 50 (0,0)) ι.out hg (Kd.Zo ay.out ι.out (by decide)))
          replace av:=aK (Kd.Jk av.out (Kd.Jj ay.out) (by decide) hg)
          replace ψ :=aK (Qy (g:=a0) (o:=.cells #[.slice none 0 0,.slice none 0 0] 50 (0,0)) ψ.out hg (Kd.Zo ay.out ψ.out (by decide)))
          replace HB:=aK hb
          clear ay
          clear ho hb hg hat
          refine hK.out _ _ ⟨qc X,qc X⟩ (fun hHeld=>?_)
          clear hK K
          refine qN (some 27) ?_
          exact Zv (by first|(simp only[Zc,Act.put,qS];done)|(simp only[Zc,Act.put,qS];rfl)) (fo (b4,cr,bd,a0) _ ⟨hHeld,b0.out,av.out,ζ.out,X.out,ι.out,ψ.out,bg.out,bh.out,ai.out,aj.out,ae.out,ak.out,al.out,am.out,HB.out⟩)
        ·skip
         rintro⟨b4,cr,a0⟩ bi ⟨hS_,b8,b9,ba,bb,bc,bu,cw,cx,cy,cz,bq,cn,co,d8⟩
         have φ :Aside0 (Kd.R k36 36 bi w.heap.size (fun _=>True) cr b5):=⟨b8⟩
         have χ :Aside0 (bi.heap[ac]?=some (.cells #[nI B,nI J,nI O,nI Y,nI Z,nI γ,nI δ,nI ε,nI θ,nI η] 25 (0,0))):=⟨b9⟩
         have ω :Aside0 (bi.heap[ξ]?=some (.cells #[.slice a7 μ.length a1,.slice a3 τ.length a5] 50 (0,0))):=⟨ba⟩
         have a6:Aside0 (bi.heap[an]?=some (.cells #[.slice none 0 0,.slice none 0 0] 50 (0,0))):=⟨bb⟩
         have ah:Aside0 (bi.heap[a0]?=some (.cells #[.slice none 0 0,.slice none 0 0] 50 (0,0))):=⟨bc⟩
         have az:Aside0 (w.heap.size≤a0):=⟨bu⟩
         have b1:Aside0 (w.heap.size≤a0):=⟨cw⟩
         have be:Aside0 (ac≠a0):=⟨cx⟩
         have bl:Aside0 (a0≠ac):=⟨cy⟩
         have ca:Aside0 (ξ ≠ a0):=⟨cz⟩
         have br:Aside0 (a0 ≠ ξ):=⟨bq⟩
         have cp:Aside0 (an≠a0):=⟨cn⟩
         have cq:Aside0 (a0≠an):=⟨co⟩
         have d9:Aside0 (Below w.heap.size w bi):=⟨d8⟩
         clear ζ
         clear X
         clear ι
         clear HB
         clear b8 b9 ba bb bc bu cw cx cy cz bq cn co d8
         have b0:= φ
         have ζ := χ
         have X:= ω
         have ι :=a6
         have ψ :=ah
         have bg:=az
         have bh:=b1
         have ai:=be
         have aj:=bl
         have ae:=ca
         have ak:=br
         have al:=cp
         have am:=cq
         have HB:=d9
         clear φ χ ω a6 ah az b1 be bl ca br cp cq d9
         have hHeld:bi.cell? ⟨ξ,0,none⟩=some (.slice a7 μ.length a1)∧bi.cell? ⟨ξ,1,none⟩=some (.slice a3 τ.length a5):=hS_
         refine Zv (a':=?_) ?_ ?_
         rotate_left
         ·simp only[Zc,Act.put,qS]
          rfl
         refine qK 4 (some 28) (bN 11 639) HT_ fun K hK=>?_
         refine Kd.Z7 k86 _ 86 ?hg (N:=28) ?hd (xs:=([]:List (S86))) (inner:=[]) (ok:=fun _=>True) (okp:=fun _=>True) ?hr ?hp (fun _ hk=>hk) trivial (Below.refl _ _) (Nat.le_refl _) (by simp) ?_;(case hd=>rfl);(case hg=>rfl);(case hr=>go_simp <;> rfl);(case hp=>exact(Reps.none _ _))
         intro bd cm jd hb hg_ hnew_
         clear hg_ hnew_
         (first|rw[← dr.out] at jd|(simp only[Int.reduceToNat] at jd;rw[← dr.out] at jd))
         have av:=aK (Kd.Za jd (Qm HB.out))
         replace b0:=sRb b0 hb
         replace ζ :=sBk ζ hb
         replace X:=sBk X hb
         replace ι :=sBk ι hb
         replace ψ :=sBk ψ hb
         replace HB:=sHb hb
         clear hb jd
         refine hK.out _ _ ⟨qc X,qc X⟩ (fun hHeld=>?_)
         clear hK K
         refine qN (some 28) ?_
         exact Zv (by first|(simp only[Zc,Act.put,qS];done)|(simp only[Zc,Act.put,qS];rfl)) (fo (b4,cr,bd,a0) _ ⟨hHeld,b0.out,av.out,ζ.out,X.out,ι.out,ψ.out,bg.out,bh.out,ai.out,aj.out,ae.out,ak.out,al.out,am.out,HB.out⟩)
       ·skip
        rintro⟨b4,cr,bd⟩ cm ⟨hS_,b8,b9,ba,bb,bc,bu⟩
        have φ :Aside0 (Kd.R k36 36 cm w.heap.size (fun _=>True) cr b5):=⟨b8⟩
        have χ :Aside0 (Kd.R k86 86 cm w.heap.size (fun _=>True) bd bn):=⟨b9⟩
        have ω :Aside0 (cm.heap[ac]?=some (.cells #[nI B,nI J,nI O,nI Y,nI Z,nI γ,nI δ,nI ε,nI θ,nI η] 25 (0,0))):=⟨ba⟩
        have a6:Aside0 (cm.heap[ξ]?=some (.cells #[.slice a7 μ.length a1,.slice a3 τ.length a5] 50 (0,0))):=⟨bb⟩
        have ah:Aside0 (cm.heap[an]?=some (.cells #[.slice none 0 0,.slice none 0 0] 50 (0,0))):=⟨bc⟩
        have az:Aside0 (Below w.heap.size w cm):=⟨bu⟩
        clear ζ
        clear X
        clear ι
        clear HB
        clear b8 b9 ba bb bc bu
        have b0:= φ
        have av:= χ
        have ζ := ω
        have X:=a6
        have ι :=ah
        have HB:=az
        clear φ χ ω a6 ah az
        have hHeld:cm.cell? ⟨ξ,0,none⟩=some (.slice a7 μ.length a1)∧cm.cell? ⟨ξ,1,none⟩=some (.slice a3 τ.length a5):=hS_
        refine Zv (a':=?_) ?_ ?_
        rotate_left
        ·simp only[Zc,Act.put,qS]
         rfl
        refine K4 (i:=7) (j:=9) (Ni:=some 31) (Nj:=some 11) (bN 11 255) (bN 11 639) rfl rfl rfl rfl (Yg HT_.out kr) (by decide) (by decide) (fun K hK=>?_) (fun K hK=>?_)
        ·skip
         refine Kd.Zp k86 (w0:=w) w.heap.size (by rfl) (.tmp 28) (.tmp 30) 48 86 (.agg #[(nI 0),(nI 0)]) 16 rfl Try.underlying48 Gt rfl (by decide) (by omega) bd bn τ _ _ _ (fun _=>True) (fun _=>False) rfl rfl ?aO ?aR (fun _ _ h=>h) (fun _ h=>h.elim) ?aF ?aB ?aS ?aL ?_
         (case aR=>exact(Kd.Qw bp.out HB.out))
         (case aB=>exact HB.out)
         (case aF=>exact(fun _ _=>trivial))
         (case aO=>exact av.out)
         (case aS=>exact(Qm HB.out))
         (case aL=>have:=nd.out;omega)
         intro je dt ho hb hg hat
         rw[← m5.out] at ho
         have dp:=aK ho
         replace ζ :=aK (Qy (g:=ac) (o:=.cells #[nI B,nI J,nI O,nI Y,nI Z,nI γ,nI δ,nI ε,nI θ,nI η] 25 (0,0)) ζ.out hg (Kd.Zo av.out ζ.out (by decide)))
         replace X:=aK (Qy (g:= ξ) (o:=.cells #[.slice a7 μ.length a1,.slice a3 τ.length a5] 50 (0,0)) X.out hg (Kd.Zo av.out X.out (by decide)))
         replace ι :=aK (Qy (g:=an) (o:=.cells #[.slice none 0 0,.slice none 0 0] 50 (0,0)) ι.out hg (Kd.Zo av.out ι.out (by decide)))
         replace b0:=aK (Kd.Jk b0.out (Kd.Jj av.out) (by decide) hg)
         replace HB:=aK hb
         clear av
         clear ho hb hg hat
         obtain⟨kz,l2,jc⟩:=Kd.Q7 dp.out
         (first|subst jc|(injection jc with a9 ao aa;have ap:=a9.symm;have ar:=aa.symm;clear a9 ao aa;subst ap;subst ar))
         obtain⟨l7,l8,jf⟩:=Kd.Q7 b0.out
         (first|subst jf|(injection jf with a9 ao aa;have ap:=a9.symm;have ar:=aa.symm;clear a9 ao aa;subst ap;subst ar))
         refine hK.out _ _ ⟨qc X,qc X⟩ (fun hHeld=>?_)
         clear hK K
         refine qN (some 31) ?_
         refine qP 8 (some 32) (bN 11 511) HT_ ?_
         exact Zv (by first|(simp only[Zc,Act.put,qS];done)|(simp only[Zc,Act.put,qS];rfl)) (kt (b4,.slice l7 b5.length l8,bd,.slice kz bm.length l2) _ ⟨hHeld,b0.out,dp.out,ζ.out,X.out,ι.out,HB.out⟩)
        ·skip
         refine Xf ?hg (N:=11) ?hd (cs:=#[.slice none 0 0,.slice none 0 0]) (t:=50) ?hr ?_;(case hd=>rfl);(case hg=>rfl);(case hr=>go_simp <;> rfl)
         intro a0 hg dt hbox hb
         have ψ :=aK hbox
         have bg:=sGe hg
         have bh:=sGe hg
         have ai:=sNl ζ hg
         have aj:=sNg ζ hg
         have ae:=sNl X hg
         have ak:=sNg X hg
         have al:=sNl ι hg
         have am:=sNg ι hg
         replace b0:=sRb b0 hb
         replace av:=sRb av hb
         replace ζ :=sBk ζ hb
         replace X:=sBk X hb
         replace ι :=sBk ι hb
         replace HB:=sHb hb
         clear hb hbox hg
         refine hK.out _ _ ⟨qc X,qc X⟩ (fun hHeld=>?_)
         clear hK K
         refine qN (some 11) ?_
         exact Zv (by first|(simp only[Zc,Act.put,qS];done)|(simp only[Zc,Act.put,qS];rfl)) (fo (b4,cr,bd,a0) _ ⟨hHeld,b0.out,av.out,ζ.out,X.out,ι.out,ψ.out,bg.out,bh.out,ai.out,aj.out,ae.out,ak.out,al.out,am.out,HB.out⟩)
      ·skip
       rintro⟨b4,cr,bd,a0⟩ dt ⟨hS_,b8,b9,ba,bb,bc,bu,cw,cx,cy,cz,bq,cn,co,d8,eu⟩
       have φ :Aside0 (Kd.R k36 36 dt w.heap.size (fun _=>True) cr b5):=⟨b8⟩
       have χ :Aside0 (Kd.R k86 86 dt w.heap.size (fun _=>True) bd bn):=⟨b9⟩
       have ω :Aside0 (dt.heap[ac]?=some (.cells #[nI B,nI J,nI O,nI Y,nI Z,nI γ,nI δ,nI ε,nI θ,nI η] 25 (0,0))):=⟨ba⟩
       have a6:Aside0 (dt.heap[ξ]?=some (.cells #[.slice a7 μ.length a1,.slice a3 τ.length a5] 50 (0,0))):=⟨bb⟩
       have ah:Aside0 (dt.heap[an]?=some (.cells #[.slice none 0 0,.slice none 0 0] 50 (0,0))):=⟨bc⟩
       have az:Aside0 (dt.heap[a0]?=some (.cells #[.slice none 0 0,.slice none 0 0] 50 (0,0))):=⟨bu⟩
       have b1:Aside0 (w.heap.size≤a0):=⟨cw⟩
       have be:Aside0 (w.heap.size≤a0):=⟨cx⟩
       have bl:Aside0 (ac≠a0):=⟨cy⟩
       have ca:Aside0 (a0≠ac):=⟨cz⟩
       have br:Aside0 (ξ ≠ a0):=⟨bq⟩
       have cp:Aside0 (a0 ≠ ξ):=⟨cn⟩
       have cq:Aside0 (an≠a0):=⟨co⟩
       have d9:Aside0 (a0≠an):=⟨d8⟩
       have ev:Aside0 (Below w.heap.size w dt):=⟨eu⟩
       clear ζ
       clear X
       clear ι
       clear HB
       clear b8 b9 ba bb bc bu cw cx cy cz bq cn co d8 eu
       have b0:= φ
       have av:= χ
       have ζ := ω
       have X:=a6
       have ι :=ah
       have ψ :=az
       have bg:=b1
       have bh:=be
       have ai:=bl
       have aj:=ca
       have ae:=br
       have ak:=cp
       have al:=cq
       have am:=d9
       have HB:=ev
       clear φ χ ω a6 ah az b1 be bl ca br cp cq d9 ev
       have hHeld:dt.cell? ⟨ξ,0,none⟩=some (.slice a7 μ.length a1)∧dt.cell? ⟨ξ,1,none⟩=some (.slice a3 τ.length a5):=hS_
       refine Zv (a':=?_) ?_ ?_
       rotate_left
       ·simp only[Zc,Act.put,qS]
        rfl
       refine qK 7 (some 31) (bN 11 767) HT_ fun K hK=>?_
       refine Kd.Zp k86 (w0:=w) w.heap.size (by rfl) (.tmp 28) (.tmp 30) 48 86 (.agg #[(nI 0),(nI 0)]) 16 rfl Try.underlying48 Gt rfl (by decide) (by omega) bd bn τ _ _ _ (fun _=>True) (fun _=>False) rfl rfl ?aO ?aR (fun _ _ h=>h) (fun _ h=>h.elim) ?aF ?aB ?aS ?aL ?_
       (case aR=>exact(Kd.Qw bp.out HB.out))
       (case aB=>exact HB.out)
       (case aF=>exact(fun _ _=>trivial))
       (case aO=>exact av.out)
       (case aS=>exact(Qm HB.out))
       (case aL=>have:=nd.out;omega)
       intro je hu ho hb hg hat
       rw[← m5.out] at ho
       have dp:=aK ho
       replace ζ :=aK (Qy (g:=ac) (o:=.cells #[nI B,nI J,nI O,nI Y,nI Z,nI γ,nI δ,nI ε,nI θ,nI η] 25 (0,0)) ζ.out hg (Kd.Zo av.out ζ.out (by decide)))
       replace X:=aK (Qy (g:= ξ) (o:=.cells #[.slice a7 μ.length a1,.slice a3 τ.length a5] 50 (0,0)) X.out hg (Kd.Zo av.out X.out (by decide)))
       replace ι :=aK (Qy (g:=an) (o:=.cells #[.slice none 0 0,.slice none 0 0] 50 (0,0)) ι.out hg (Kd.Zo av.out ι.out (by decide)))
       replace b0:=aK (Kd.Jk b0.out (Kd.Jj av.out) (by decide) hg)
       replace ψ :=aK (Qy (g:=a0) (o:=.cells #[.slice none 0 0,.slice none 0 0] 50 (0,0)) ψ.out hg (Kd.Zo av.out ψ.out (by decide)))
       replace HB:=aK hb
       clear av
       clear ho hb hg hat
       obtain⟨l7,l8,jf⟩:=Kd.Q7 dp.out
       (first|subst jf|(injection jf with a9 ao aa;have ap:=a9.symm;have ar:=aa.symm;clear a9 ao aa;subst ap;subst ar))
       obtain⟨ll,lm,jg⟩:=Kd.Q7 b0.out
       (first|subst jg|(injection jg with a9 ao aa;have ap:=a9.symm;have ar:=aa.symm;clear a9 ao aa;subst ap;subst ar))
       refine hK.out _ _ ⟨qc X,qc X⟩ (fun hHeld=>?_)
       clear hK K
       refine qN (some 31) ?_
       refine qP 8 (some 32) (bN 11 1023) HT_ ?_
       exact Zv (by first|(simp only[Zc,Act.put,qS];done)|(simp only[Zc,Act.put,qS];rfl)) (gj (b4,.slice ll b5.length lm,bd,.slice l7 bm.length l8,a0) _ ⟨hHeld,b0.out,dp.out,ζ.out,X.out,ι.out,ψ.out,bg.out,bh.out,ai.out,aj.out,ae.out,ak.out,al.out,am.out,HB.out⟩)
     ·skip
      rintro⟨b4,cr,bd,je⟩ dk ⟨hS_,b8,b9,ba,bb,bc,bu⟩
      have φ :Aside0 (Kd.R k36 36 dk w.heap.size (fun _=>True) cr b5):=⟨b8⟩
      have χ :Aside0 (Kd.R k86 86 dk w.heap.size (fun _=>True) je bm):=⟨b9⟩
      have ω :Aside0 (dk.heap[ac]?=some (.cells #[nI B,nI J,nI O,nI Y,nI Z,nI γ,nI δ,nI ε,nI θ,nI η] 25 (0,0))):=⟨ba⟩
      have a6:Aside0 (dk.heap[ξ]?=some (.cells #[.slice a7 μ.length a1,.slice a3 τ.length a5] 50 (0,0))):=⟨bb⟩
      have ah:Aside0 (dk.heap[an]?=some (.cells #[.slice none 0 0,.slice none 0 0] 50 (0,0))):=⟨bc⟩
      have az:Aside0 (Below w.heap.size w dk):=⟨bu⟩
      clear ζ
      clear X
      clear ι
      clear HB
      clear b8 b9 ba bb bc bu
      have b0:= φ
      have dp:= χ
      have ζ := ω
      have X:=a6
      have ι :=ah
      have HB:=az
      clear φ χ ω a6 ah az
      have hHeld:dk.cell? ⟨ξ,0,none⟩=some (.slice a7 μ.length a1)∧dk.cell? ⟨ξ,1,none⟩=some (.slice a3 τ.length a5):=hS_
      obtain⟨ll,lm,jg⟩:=Kd.Q7 dp.out
      (first|subst jg|(injection jg with a9 ao aa;have ap:=a9.symm;have ar:=aa.symm;clear a9 ao aa;subst ap;subst ar))
      obtain⟨bv,bs,gp⟩:=Kd.Q7 b0.out
      (first|subst gp|(injection gp with a9 ao aa;have ap:=a9.symm;have ar:=aa.symm;clear a9 ao aa;subst ap;subst ar))
      refine Zv (a':=?_) ?_ ?_
      rotate_left
      ·simp only[Zc,Act.put,qS]
       rfl
      refine qK 9 (some 11) (bN 11 1023) HT_ fun K hK=>?_
      refine Xf ?hg (N:=11) ?hd (cs:=#[.slice none 0 0,.slice none 0 0]) (t:=50) ?hr ?_;(case hd=>rfl);(case hg=>rfl);(case hr=>go_simp <;> rfl)
      intro a0 hg eb hbox hb
      have ψ :=aK hbox
      have bg:=sGe hg
      have bh:=sGe hg
      have ai:=sNl ζ hg
      have aj:=sNg ζ hg
      have ae:=sNl X hg
      have ak:=sNg X hg
      have al:=sNl ι hg
      have am:=sNg ι hg
      replace b0:=sRb b0 hb
      replace dp:=sRb dp hb
      replace ζ :=sBk ζ hb
      replace X:=sBk X hb
      replace ι :=sBk ι hb
      replace HB:=sHb hb
      clear hb hbox hg
      refine hK.out _ _ ⟨qc X,qc X⟩ (fun hHeld=>?_)
      clear hK K
      refine qN (some 11) ?_
      exact Zv (by first|(simp only[Zc,Act.put,qS];done)|(simp only[Zc,Act.put,qS];rfl)) (gj (b4,.slice bv b5.length bs,bd,.slice ll bm.length lm,a0) _ ⟨hHeld,b0.out,dp.out,ζ.out,X.out,ι.out,ψ.out,bg.out,bh.out,ai.out,aj.out,ae.out,ak.out,al.out,am.out,HB.out⟩)
    rintro⟨b4,cr,bd,je,a0⟩ ed ⟨hS_,b8,b9,ba,bb,bc,bu,cw,cx,cy,cz,bq,cn,co,d8,eu⟩
    have φ :Aside0 (Kd.R k36 36 ed w.heap.size (fun _=>True) cr b5):=⟨b8⟩
    have χ :Aside0 (Kd.R k86 86 ed w.heap.size (fun _=>True) je bm):=⟨b9⟩
    have ω :Aside0 (ed.heap[ac]?=some (.cells #[nI B,nI J,nI O,nI Y,nI Z,nI γ,nI δ,nI ε,nI θ,nI η] 25 (0,0))):=⟨ba⟩
    have a6:Aside0 (ed.heap[ξ]?=some (.cells #[.slice a7 μ.length a1,.slice a3 τ.length a5] 50 (0,0))):=⟨bb⟩
    have ah:Aside0 (ed.heap[an]?=some (.cells #[.slice none 0 0,.slice none 0 0] 50 (0,0))):=⟨bc⟩
    have az:Aside0 (ed.heap[a0]?=some (.cells #[.slice none 0 0,.slice none 0 0] 50 (0,0))):=⟨bu⟩
    have b1:Aside0 (w.heap.size≤a0):=⟨cw⟩
    have be:Aside0 (w.heap.size≤a0):=⟨cx⟩
    have bl:Aside0 (ac≠a0):=⟨cy⟩
    have ca:Aside0 (a0≠ac):=⟨cz⟩
    have br:Aside0 (ξ ≠ a0):=⟨bq⟩
    have cp:Aside0 (a0 ≠ ξ):=⟨cn⟩
    have cq:Aside0 (an≠a0):=⟨co⟩
    have d9:Aside0 (a0≠an):=⟨d8⟩
    have ev:Aside0 (Below w.heap.size w ed):=⟨eu⟩
    clear ζ
    clear X
    clear ι
    clear HB
    clear b8 b9 ba bb bc bu cw cx cy cz bq cn co d8 eu
    have b0:= φ
    have dp:= χ
    have ζ := ω
    have X:=a6
    have ι :=ah
    have ψ :=az
    have bg:=b1
    have bh:=be
    have ai:=bl
    have aj:=ca
    have ae:=br
    have ak:=cp
    have al:=cq
    have am:=d9
    have HB:=ev
    clear φ χ ω a6 ah az b1 be bl ca br cp cq d9 ev
    have hHeld:ed.cell? ⟨ξ,0,none⟩=some (.slice a7 μ.length a1)∧ed.cell? ⟨ξ,1,none⟩=some (.slice a3 τ.length a5):=hS_
    obtain⟨bv,bs,gp⟩:=Kd.Q7 dp.out
    (first|subst gp|(injection gp with a9 ao aa;have ap:=a9.symm;have ar:=aa.symm;clear a9 ao aa;subst ap;subst ar))
    obtain⟨ln,lp,ng⟩:=Kd.Q7 b0.out
    (first|subst ng|(injection ng with a9 ao aa;have ap:=a9.symm;have ar:=aa.symm;clear a9 ao aa;subst ap;subst ar))
    refine Zv (a':=?_) ?_ ?_
    rotate_left
    ·simp only[Zc,Act.put,qS]
     rfl
    refine qK 10 (none) (bN 11 2047) HT_ fun K hK=>?_
    have sp:ed.cell? ⟨a0,0,none⟩=some (.slice none 0 0):=(Qa ψ.out 0).trans rfl
    have sl:=Qg ψ.out 0
    have qp:=ai.out
    have qq:=ae.out
    have qs:=al.out
    have qt:=aj.out
    have qu:=ak.out
    have qv:=am.out
    have sq:ed.cell? ⟨a0,1,none⟩=some (.slice none 0 0):=(Qa ψ.out 1).trans rfl
    have sn:=Qg ψ.out 1
    have qw:=ai.out
    have qx:=ae.out
    have qy:=al.out
    have qz:=aj.out
    have r0:=ak.out
    have r4:=am.out
    refine K9 (w1:=?_) (by rfl) rfl ?_ ?_
    rotate_left
    ·go_simp
     rfl
    refine hK.out _ _ ⟨(cF ae ((cF ae (hHeld.1)))),(cF ae ((cF ae (hHeld.2))))⟩ (fun hHeld=>?_)
    clear hK K
    refine Zl (Ze HT_.out kr) ?_
    have gx:=aj.out
    have gy:=ai.out
    have k8:=ak.out
    have k9:=ae.out
    have ix:=am.out
    have iy:=al.out
    obtain⟨dv,ee,ef,eg⟩:=qD2 ψ.out
    try go_wp2
    go_loopg [36] k (fun kq ri w'=>∃ (ab:Int) (ν :List (S36)) (dq:Value),ri=nI ab∧Aside0 (group_Spread.l0 kq l1 a2 (b5.length:Int) ab B J O Y Z γ δ ε θ η ν bm=some (r1,r2,r3))∧Aside0 (kq≤k)∧Aside0 (Kd.R k36 36 w' w.heap.size (fun _=>True) dq ν)∧Aside0 (Kd.R k86 86 w' w.heap.size (fun _=>True) (.slice bv bm.length bs) bm)∧Aside0 (w'.heap[ac]?=some (.cells #[nI B,nI J,nI O,nI Y,nI Z,nI γ,nI δ,nI ε,nI θ,nI η] 25 (0,0)))∧Aside0 (w'.heap[ξ]?=some (.cells #[(.slice a7 μ.length a1),(.slice a3 τ.length a5)] 50 (0,0)))∧Aside0 (w'.heap[an]?=some (.cells #[(.slice none 0 0),(.slice none 0 0)] 50 (0,0)))∧Aside0 (w'.heap[a0]?=some (.cells #[dq,(.slice bv bm.length bs)] 50 (0,0)))∧Aside0 (Below w.heap.size w w')∧Aside0 (dq=(.slice ln b5.length lp)))
    case atStart=>exact⟨(0),(b5),(.slice ln b5.length lp),qR,H',⟨Nat.le_refl _⟩,⟨by(with_reducible repeat first|apply Kd.Qs|apply Kd.Qr|apply Kd.Qu);exact Kd.Qv (Kd.Qx (Kd.Qx (Kd.Q4 b0.out ψ.out (by decide)) (fun _ hk=>hk.2) _) (fun _ hk=>hk.2) _) (fun _ hk=>trivial)⟩,⟨by(with_reducible repeat first|apply Kd.Qs|apply Kd.Qr|apply Kd.Qu);exact Kd.Qv (Kd.Qx (Kd.Qx (Kd.Q4 dp.out ψ.out (by decide)) (fun _ hk=>hk.2) _) (fun _ hk=>hk.2) _) (fun _ hk=>trivial)⟩,⟨bka ζ⟩,⟨bka X⟩,⟨bka ι⟩,⟨by(with_reducible repeat first|refine Qi ?_ _|refine Qd ?_|refine Qh ?_ _);refine Qo (cs:=#[.slice ln b5.length lp,.slice none 0 0]) ?_ 1 _ rfl;(with_reducible repeat first|refine Qi ?_ _|refine Qd ?_|refine Qh ?_ _);refine Qo (cs:=#[.slice none 0 0,.slice none 0 0]) ?_ 0 _ rfl;(with_reducible repeat first|refine Qi ?_ _|refine Qd ?_|refine Qh ?_ _);exact ψ.out⟩,⟨bel⟩,⟨rfl⟩⟩
    case round=>
     clear H'
     try clear dv
     try clear ee
     try clear ef
     try clear eg
     obtain⟨ab,ν,dq,rfl,HA,af,ρ,au,ζ,X,ι,ψ,HB,h6⟩:=hrel
     cases gk with
     |zero=>exact absurd HA.out (by simp[group_Spread.l0])
     |succ k1=>
      have H:=HA.out
      clear HA
      simp only[group_Spread.l0] at H
      by_cases df:ab<(b5.length:Int)
      ·rw[if_pos df] at H
       have c37b0:=decide_eq_true df
       clear df
       by_cases m9:0≤ab
       ·rw[if_pos m9] at H
        have c38b0:=decide_eq_true m9
        clear m9
        by_cases et:ab<(ν.length:Int)
        ·rw[if_pos et] at H
         have c39b0:=decide_eq_true et
         clear et
         by_cases ea:((Qb ν ab).f2)≥0
         ·rw[if_pos ea] at H
          have c40b0:decide (0≤((Qb ν ab).f2))=true:=decide_eq_true ea
          clear ea
          by_cases ku:0≤((Qb ν ab).f2)
          ·rw[if_pos ku] at H
           have c41b0:=eq_true ku
           have c41b1:=decide_eq_true ku
           clear ku
           obtain⟨fp,iz⟩:∃ j_:Int,(shr .i64 a2 ((Qb ν ab).f2))=j_:=⟨_,rfl⟩
           replace H:(if (Go.bits .and .i64 (fp) 1)=1 then (group_Spread.l0 k1 l1 a2 (b5.length:Int) (wrap64 (ab+1)) B J O Y Z γ δ ε θ η (ν.set (ab:Int).toNat (⟨(Qb ν ab).f0,(Qb ν ab).f1,(-1)⟩:S36)) bm) else (group_Spread.l0 k1 l1 a2 (b5.length:Int) (wrap64 (ab+1)) B J O Y Z γ δ ε θ η ν bm))=some (r1,r2,r3):=by first|(rw[iz] at H;exact H)|(simp only[iz] at H ⊢;exact H)
           have rj:(a2 / 2 ^ min ((Qb ν ab).f2).toNat 64)=fp:=iz
           have hji42z:((Qb ν ab).f2)≤64→(a2 / 2 ^ ((Qb ν ab).f2).toNat)=fp:=Gp iz
           by_cases fl:(Go.bits .and .i64 (fp) 1)=1
           ·rw[if_pos fl] at H
            have c43b0:((Go.bits .and .i64 (fp) 1)==1)=true:=beq_iff_eq.mpr fl
            have c43b1:((Go.bits .and .i64 (fp) 1) != 1)=false:=bne_eq_false_iff_eq.mpr fl
            clear fl
            obtain⟨lq,h7⟩:∃ y_:List (S36),y_=(ν.set (ab:Int).toNat (⟨(Qb ν ab).f0,(Qb ν ab).f1,(-1)⟩:S36)):=⟨_,rfl⟩
            replace H:(group_Spread.l0 k1 l1 a2 (b5.length:Int) (wrap64 (ab+1)) B J O Y Z γ δ ε θ η lq bm)=some (r1,r2,r3):=by first|(rw[h7];with_reducible exact H)|(have ag:=(Option.bind_some _ _).symm.trans H;rw[h7];with_reducible exact ag)|(have ag:=(Option.bind_some _ _).symm.trans H;with_reducible exact ag)|with_reducible exact H|(rw[h7];exact H)|exact H
            have ou:=aK h7
            clear h7
            have H':=aK H
            clear H
            have gm:=aj.out
            have gn:=ai.out
            have gw:=ak.out
            have gz:=ae.out
            have m3:=am.out
            have m4:=al.out
            obtain⟨i5,i6,i7,i9⟩:=qD2 ψ.out
            obtain⟨sr,gq,p6⟩:=Kd.Q7 ρ.out
            subst p6
            have ez:0≤(ab:Int):=of_decide_eq_true (by assumption)
            have f7:ab<(ν.length:Int):=of_decide_eq_true (by assumption)
            obtain⟨gi,jh,ih,il,im⟩:=Z4 (Kd.Qt ρ.out).2.2 ab ez f7
            cases jh
            replace ez:=eq_true ez
            replace f7:=eq_true f7
            (try rewrite[← h6.out])
            go_wp2_with (first|((with_reducible refine Qe (N:=13) rfl ?_);refine qE 13 #[nI 0,nI 0,nI 0] 36 ?_;intro d2 hg rk hbox hb;have dj:=aK hbox;have ma:=sGe hg;have mb:=sGe hg;have e5:=sNl ζ hg;have e6:=sNg ζ hg;have e7:=sNl X hg;have e8:=sNg X hg;have e9:=sNl ι hg;have ec:=sNg ι hg;have eh:=sNl ψ hg;have er:=sNg ψ hg;replace ρ:=aK (Kd.Zn (Kd.Yd (kra ρ) d2 (Nat.le_of_eq hg.symm)) hb);replace au:=sRb au hb;replace ζ :=sBk ζ hb;replace X:=sBk X hb;replace ι :=sBk ι hb;replace ψ :=sBk ψ hb;replace HB:=sHb hb;clear hb hbox hg;have gg:=e6.out;have gh:=e5.out;have iv:=e8.out;have iw:=e7.out;have o0:=ec.out;have o1:=e9.out;have o8:=er.out;have o9:=eh.out;obtain⟨ia,ib,kp,ic,ie,ks⟩:=qD3 dj.out)|((with_reducible refine Y8 (t:=36) (p:=13) rfl ?_);refine Yy (t:=36) (p:=13) (v:=?vo_w56) (w1:=(((rk.setCell ⟨d2,0,none⟩ (nI ((Qb ν ab).f0))).setCell ⟨d2,1,none⟩ (nI ((Qb ν ab).f1))).setCell ⟨d2,2,none⟩ (nI ((Qb ν ab).f2)))) ?hg ?ho ?hn ?hr ?_;(case ho=>rfl);(case hg=>rfl);(case hn=>rfl);(case hr=>go_simp <;> rfl);intro du hw;have φ :Aside0 (Kd.R k36 36 du w.heap.size (fun k_=>k_≠d2) (.slice (some gi) ν.length gq) ν):=⟨(by rw[hw];exact(by(with_reducible repeat first|apply Kd.Qs|apply Kd.Qr|apply Kd.Qu);exact Kd.Qv (Kd.Qx (Kd.Qx (Kd.Qx (Kd.Qv ρ.out (fun k_ hk=>(⟨hk,hk.2⟩:_∧k_≠d2))) (fun _ hk=>hk.2) (nI ((Qb ν ab).f0))) (fun _ hk=>hk.2) (nI ((Qb ν ab).f1))) (fun _ hk=>hk.2) (nI ((Qb ν ab).f2))) (fun _ hk=>hk.1.2)))⟩;have χ :Aside0 (Kd.R k86 86 du w.heap.size (fun _=>True) (.slice bv bm.length bs) bm):=⟨(by rw[hw];exact(by(with_reducible repeat first|apply Kd.Qs|apply Kd.Qr|apply Kd.Qu);exact Kd.Qv (Kd.Qx (Kd.Qx (Kd.Qx (Kd.Q4 au.out dj.out (by decide)) (fun _ hk=>hk.2) (nI ((Qb ν ab).f0))) (fun _ hk=>hk.2) (nI ((Qb ν ab).f1))) (fun _ hk=>hk.2) (nI ((Qb ν ab).f2))) (fun _ hk=>trivial)))⟩;have ω :Aside0 (du.heap[ac]?=some (.cells #[nI B,nI J,nI O,nI Y,nI Z,nI γ,nI δ,nI ε,nI θ,nI η] 25 (0,0))):=⟨(by rw[hw];exact(bka ζ))⟩;have a6:Aside0 (du.heap[ξ]?=some (.cells #[.slice a7 μ.length a1,.slice a3 τ.length a5] 50 (0,0))):=⟨(by rw[hw];exact(bka X))⟩;have ah:Aside0 (du.heap[an]?=some (.cells #[.slice none 0 0,.slice none 0 0] 50 (0,0))):=⟨(by rw[hw];exact(bka ι))⟩;have az:Aside0 (du.heap[a0]?=some (.cells #[.slice (some gi) ν.length gq,.slice bv bm.length bs] 50 (0,0))):=⟨(by rw[hw];exact(bka ψ))⟩;have b1:Aside0 (du.heap[d2]?=some (.cells #[nI ((Qb ν ab).f0),nI ((Qb ν ab).f1),nI ((Qb ν ab).f2)] 36 (0,0))):=⟨(by rw[hw];exact(by(with_reducible repeat first|refine Qi ?_ _|refine Qd ?_|refine Qh ?_ _);refine Qo (cs:=#[nI ((Qb ν ab).f0),nI ((Qb ν ab).f1),nI 0]) ?_ 2 _ rfl;(with_reducible repeat first|refine Qi ?_ _|refine Qd ?_|refine Qh ?_ _);refine Qo (cs:=#[nI ((Qb ν ab).f0),nI 0,nI 0]) ?_ 1 _ rfl;(with_reducible repeat first|refine Qi ?_ _|refine Qd ?_|refine Qh ?_ _);refine Qo (cs:=#[nI 0,nI 0,nI 0]) ?_ 0 _ rfl;(with_reducible repeat first|refine Qi ?_ _|refine Qd ?_|refine Qh ?_ _);exact dj.out))⟩;have be:Aside0 (Below w.heap.size w du):=⟨(by rw[hw];exact bel)⟩;clear hw;clear ρ;clear au;clear ζ;clear X;clear ι;clear ψ;clear dj;clear HB;have ρ:= φ;have au:= χ;have ζ := ω;have X:=a6;have ι :=ah;have ψ :=az;have dj:=b1;have HB:=be;clear φ χ ω a6 ah az b1 be;obtain⟨iq,ir,kn,jb,jo,ko⟩:=qD3 dj.out;obtain⟨r5,r6,r7,r8⟩:=qD2 ψ.out;have p44:0≤(ab:Int):=of_decide_eq_true (by assumption);have nh:(ab:Int)<((ν.length:Int):Int):=of_decide_eq_true (by assumption);obtain⟨e4,fk,f8,ni,p7,ss,nj⟩:=Kd.U2 ρ.out (by omega);(first|cases f8|(injection f8 with ea_ en_ ec_;(first|subst ea_|(injection ea_ with ea_;subst ea_));subst ec_;clear en_));have p8:=aK ni;have st:=aK nj;clear ni p7 nj;(first|simp only[add_plain] at ih|skip);(first|simp only[add_plain] at il|skip);(first|simp only[add_plain] at im|skip);obtain⟨su,ov,nk,j3,j4⟩:=Kd.J3 ρ.out z36 (ab:Int) p44 nh;obtain rfl:=Yt nk;have rl:du.cell? ⟨e4,(ab:Int).toNat * 3,none⟩=some (nI ((Qb ν ab).f0)):=j3 0 _ rfl;have rm:du.cell? ⟨e4,(ab:Int).toNat * 3+1,none⟩=some (nI ((Qb ν ab).f1)):=j3 1 _ rfl;have rn:du.cell? ⟨e4,(ab:Int).toNat * 3+2,none⟩=some (nI ((Qb ν ab).f2)):=j3 2 _ rfl;have rp:du.frozen? ⟨e4,(ab:Int).toNat * 3,none⟩=false:=j4 0;have rq:du.frozen? ⟨e4,(ab:Int).toNat * 3+1,none⟩=false:=j4 1;have rr:du.frozen? ⟨e4,(ab:Int).toNat * 3+2,none⟩=false:=j4 2;clear ov j3 j4 nk;replace p44:=eq_true p44;replace nh:=eq_true nh;have nl:=aK (show Kd.R k36 36 du w.heap.size (fun k_=>k_≠d2) (.slice (some ⟨e4,0,none⟩) ν.length gq) ν from(kra ρ));obtain⟨sv,mc,nm,kj,me⟩:=Kd.J3 nl.out z36 (ab:Int) (of_decide_eq_true (by assumption)) (by have h_:(ab:Int)<((ν.length:Int):Int):=of_decide_eq_true (by assumption);first|exact h_|(have e_:=(Kd.Qt ρ.out).1;omega)|simpa using h_);obtain rfl:=Yt nm;have lr:=Kd.Mm nl.out (ab:Int) (of_decide_eq_true (by assumption)) (by have h_:(ab:Int)<((ν.length:Int):Int):=of_decide_eq_true (by assumption);first|exact h_|(have e_:=(Kd.Qt ρ.out).1;omega)|simpa using h_) (seg:=[nI (-1)]) (j:=2) mc kj (show 3≤3 from by decide) (x':=(⟨(Qb ν ab).f0,(Qb ν ab).f1,(-1)⟩:S36)) (Jh _ _ _ (⟨(Qb ν ab).f0,(Qb ν ab).f1,(-1)⟩:S36)) (fun _ hk=>hk);have nn:=kj 2 _ rfl;(try simp only[show(k36).sz=3 from rfl,Nat.mul_one,Nat.add_zero] at nn);have no:=me 2;(try simp only[show(k36).sz=3 from rfl,Nat.mul_one,Nat.add_zero] at no);clear mc kj me nm)|((with_reducible refine Y8 (t:=3) (p:=56) rfl ?_);refine Yy (t:=3) (p:=56) (v:=?vo_w60) (w1:=(du.setCell ⟨e4,(ab:Int).toNat * 3+2,none⟩ (nI (-1)))) ?hg ?ho ?hn ?hr ?_;(case ho=>rfl);(case hg=>rfl);(case hn=>rfl);(case hr=>go_simp <;> rfl);intro ls hw;have hg:du.grownBy ls (some e4):=(by rw[hw];exact lr.2);have hp_:Kd.R k36 36 ls w.heap.size (fun k_=>k_≠d2) (.slice (some ⟨e4,0,none⟩) ν.length gq) lq:=(by rw[hw,ou.out];exact lr.1);clear lr;replace au:=aK (Kd.Jk (v:=(.slice (some ⟨e4,0,none⟩) ν.length gq)) (kra au) (Kd.Jj ρ.out) (by decide) hg);replace ζ :=aK (Qy (g:=ac) (o:=.cells #[nI B,nI J,nI O,nI Y,nI Z,nI γ,nI δ,nI ε,nI θ,nI η] 25 (0,0)) (bka ζ) hg (Kd.Zo ρ.out ζ.out (by decide)));replace X:=aK (Qy (g:= ξ) (o:=.cells #[.slice a7 μ.length a1,.slice a3 τ.length a5] 50 (0,0)) (bka X) hg (Kd.Zo ρ.out X.out (by decide)));replace ι :=aK (Qy (g:=an) (o:=.cells #[.slice none 0 0,.slice none 0 0] 50 (0,0)) (bka ι) hg (Kd.Zo ρ.out ι.out (by decide)));replace ψ :=aK (Qy (g:=a0) (o:=.cells #[.slice (some ⟨e4,0,none⟩) ν.length gq,.slice bv bm.length bs] 50 (0,0)) (bka ψ) hg (Kd.Zo ρ.out ψ.out (by decide)));replace dj:=aK (Qy (g:=d2) (o:=.cells #[nI ((Qb ν ab).f0),nI ((Qb ν ab).f1),nI ((Qb ν ab).f2)] 36 (0,0)) (bka dj) hg (Kd.J4 ρ.out (fun _ hk=>hk)));replace ρ:=aK hp_;replace HB:=aK ((by rw[hw];exact Qz (HB.out) p8.out:Below w.heap.size w ls));clear hg hw hp_))
            rewrite[h6.out]
            go_roundg k1
            case measure=>have:=af.out;omega
            case rel=>exact⟨(wrap64 (ab+1)),(lq),(.slice (some ⟨e4,0,none⟩) ν.length gq),rfl,H',⟨by have:=af.out;omega⟩,⟨by(with_reducible repeat first|apply Kd.Qs|apply Kd.Qr|apply Kd.Qu);exact Kd.Qv ρ.out (fun _ hk=>trivial)⟩,⟨by(with_reducible repeat first|apply Kd.Qs|apply Kd.Qr|apply Kd.Qu);exact au.out⟩,ζ,X,ι,ψ,HB,h6⟩
           ·rw[if_neg fl] at H
            have c43b0:((Go.bits .and .i64 (fp) 1)==1)=false:=beq_eq_false_iff_ne.mpr fl
            have c43b1:((Go.bits .and .i64 (fp) 1) != 1)=true:=bne_iff_ne.mpr fl
            have H':=aK H
            clear H
            have jm:=aj.out
            have jn:=ai.out
            have kf:=ak.out
            have kg:=ae.out
            have ji:=am.out
            have jj:=al.out
            obtain⟨hj,jp,jq,jr⟩:=qD2 ψ.out
            obtain⟨sw,p9,pa⟩:=Kd.Q7 ρ.out
            subst pa
            have ez:0≤(ab:Int):=of_decide_eq_true (by assumption)
            have f7:ab<(ν.length:Int):=of_decide_eq_true (by assumption)
            obtain⟨gi,jh,ih,il,im⟩:=Z4 (Kd.Qt ρ.out).2.2 ab ez f7
            cases jh
            replace ez:=eq_true ez
            replace f7:=eq_true f7
            (try rewrite[← h6.out])
            go_wp2_with (first|((with_reducible refine Qe (N:=13) rfl ?_);refine qE 13 #[nI 0,nI 0,nI 0] 36 ?_;intro d2 hg n0 hbox hb;have dj:=aK hbox;have ma:=sGe hg;have mb:=sGe hg;have e5:=sNl ζ hg;have e6:=sNg ζ hg;have e7:=sNl X hg;have e8:=sNg X hg;have e9:=sNl ι hg;have ec:=sNg ι hg;have eh:=sNl ψ hg;have er:=sNg ψ hg;replace ρ:=aK (Kd.Zn (Kd.Yd ρ.out d2 (Nat.le_of_eq hg.symm)) hb);replace au:=sRb au hb;replace ζ :=sBk ζ hb;replace X:=sBk X hb;replace ι :=sBk ι hb;replace ψ :=sBk ψ hb;replace HB:=sHb hb;clear hb hbox hg;have ka:=e6.out;have kb:=e5.out;have io:=e8.out;have ip:=e7.out;have lv:=ec.out;have lw:=e9.out;have lx:=er.out;have ly:=eh.out;obtain⟨hh,hl,ju,hx,hy,jv⟩:=qD3 dj.out))
            rewrite[h6.out]
            go_roundg k1
            case measure=>have:=af.out;omega
            case rel=>exact⟨(wrap64 (ab+1)),(ν),(.slice (some gi) ν.length p9),qR,H',⟨by have:=af.out;omega⟩,⟨by(with_reducible repeat first|apply Kd.Qs|apply Kd.Qr|apply Kd.Qu);exact Kd.Qv (Kd.Qx (Kd.Qx (Kd.Qx (Kd.Qv ρ.out (fun k_ hk=>(⟨hk,hk.2⟩:_∧k_≠d2))) (fun _ hk=>hk.2) (nI ((Qb ν ab).f0))) (fun _ hk=>hk.2) (nI ((Qb ν ab).f1))) (fun _ hk=>hk.2) (nI ((Qb ν ab).f2))) (fun _ hk=>trivial)⟩,⟨by(with_reducible repeat first|apply Kd.Qs|apply Kd.Qr|apply Kd.Qu);exact Kd.Qv (Kd.Qx (Kd.Qx (Kd.Qx (Kd.Q4 au.out dj.out (by decide)) (fun _ hk=>hk.2) (nI ((Qb ν ab).f0))) (fun _ hk=>hk.2) (nI ((Qb ν ab).f1))) (fun _ hk=>hk.2) (nI ((Qb ν ab).f2))) (fun _ hk=>trivial)⟩,⟨bka ζ⟩,⟨bka X⟩,⟨bka ι⟩,⟨bka ψ⟩,⟨bel⟩,h6⟩
          ·rw[if_neg ku] at H
           exact absurd H (by simp)
         ·rw[if_neg ea] at H
          have c40b0:decide (0≤((Qb ν ab).f2))=false:=decide_eq_false ea
          clear ea
          have H':=aK H
          clear H
          have ny:=aj.out
          have nz:=ai.out
          have oa:=ak.out
          have ob:=ae.out
          have m1:=am.out
          have m2:=al.out
          obtain⟨mj,ml,mm,mo⟩:=qD2 ψ.out
          obtain⟨sx,pb,pc⟩:=Kd.Q7 ρ.out
          subst pc
          have ez:0≤(ab:Int):=of_decide_eq_true (by assumption)
          have f7:ab<(ν.length:Int):=of_decide_eq_true (by assumption)
          obtain⟨gi,jh,ih,il,im⟩:=Z4 (Kd.Qt ρ.out).2.2 ab ez f7
          cases jh
          replace ez:=eq_true ez
          replace f7:=eq_true f7
          (try rewrite[← h6.out])
          go_wp2_with (first|((with_reducible refine Qe (N:=13) rfl ?_);refine qE 13 #[nI 0,nI 0,nI 0] 36 ?_;intro d2 hg t8 hbox hb;have dj:=aK hbox;have ma:=sGe hg;have mb:=sGe hg;have e5:=sNl ζ hg;have e6:=sNg ζ hg;have e7:=sNl X hg;have e8:=sNg X hg;have e9:=sNl ι hg;have ec:=sNg ι hg;have eh:=sNl ψ hg;have er:=sNg ψ hg;replace ρ:=aK (Kd.Zn (Kd.Yd ρ.out d2 (Nat.le_of_eq hg.symm)) hb);replace au:=sRb au hb;replace ζ :=sBk ζ hb;replace X:=sBk X hb;replace ι :=sBk ι hb;replace ψ :=sBk ψ hb;replace HB:=sHb hb;clear hb hbox hg;have o2:=e6.out;have o3:=e5.out;have jk:=e8.out;have jl:=e7.out;have h9:=ec.out;have ha:=e9.out;have kc:=er.out;have kd:=eh.out;obtain⟨jw,jz,k0,k3,k4,k5⟩:=qD3 dj.out))
          rewrite[h6.out]
          go_roundg k1
          case measure=>have:=af.out;omega
          case rel=>exact⟨(wrap64 (ab+1)),(ν),(.slice (some gi) ν.length pb),qR,H',⟨by have:=af.out;omega⟩,⟨by(with_reducible repeat first|apply Kd.Qs|apply Kd.Qr|apply Kd.Qu);exact Kd.Qv (Kd.Qx (Kd.Qx (Kd.Qx (Kd.Qv ρ.out (fun k_ hk=>(⟨hk,hk.2⟩:_∧k_≠d2))) (fun _ hk=>hk.2) (nI ((Qb ν ab).f0))) (fun _ hk=>hk.2) (nI ((Qb ν ab).f1))) (fun _ hk=>hk.2) (nI ((Qb ν ab).f2))) (fun _ hk=>trivial)⟩,⟨by(with_reducible repeat first|apply Kd.Qs|apply Kd.Qr|apply Kd.Qu);exact Kd.Qv (Kd.Qx (Kd.Qx (Kd.Qx (Kd.Q4 au.out dj.out (by decide)) (fun _ hk=>hk.2) (nI ((Qb ν ab).f0))) (fun _ hk=>hk.2) (nI ((Qb ν ab).f1))) (fun _ hk=>hk.2) (nI ((Qb ν ab).f2))) (fun _ hk=>trivial)⟩,⟨bka ζ⟩,⟨bka X⟩,⟨bka ι⟩,⟨bka ψ⟩,⟨bel⟩,h6⟩
        ·rw[if_neg et] at H
         exact absurd H (by simp)
       ·rw[if_neg m9] at H
        exact absurd H (by simp)
      ·rw[if_neg df] at H
       have c37b0:=decide_eq_false df
       clear df
       have H':=aK H
       clear H
       have o6:=aj.out
       have o7:=ai.out
       have oc:=ak.out
       have od:=ae.out
       have oe:=am.out
       have oh:=al.out
       obtain⟨i0,ii,ij,ik⟩:=qD2 ψ.out
       obtain⟨np,nq,pd⟩:=Kd.Q7 ρ.out
       subst pd
       go_wp2
       go_loopg [61] k1 (fun kq rs w'=>∃ (a8:Int) (κ :List (S36)) (dq:Value),rs=nI a8∧Aside0 (group_Spread.l1 kq l1 a2 (ν.length:Int) a8 B J O Y Z γ δ ε θ η κ bm=some (r1,r2,r3))∧Aside0 (kq≤k1)∧Aside0 (Kd.R k36 36 w' w.heap.size (fun _=>True) dq κ)∧Aside0 (Kd.R k86 86 w' w.heap.size (fun _=>True) (.slice bv bm.length bs) bm)∧Aside0 (w'.heap[ac]?=some (.cells #[nI B,nI J,nI O,nI Y,nI Z,nI γ,nI δ,nI ε,nI θ,nI η] 25 (0,0)))∧Aside0 (w'.heap[ξ]?=some (.cells #[(.slice a7 μ.length a1),(.slice a3 τ.length a5)] 50 (0,0)))∧Aside0 (w'.heap[an]?=some (.cells #[(.slice none 0 0),(.slice none 0 0)] 50 (0,0)))∧Aside0 (w'.heap[a0]?=some (.cells #[dq,(.slice bv bm.length bs)] 50 (0,0)))∧Aside0 (Below w.heap.size w w')∧Aside0 (dq=(.slice np ν.length nq)))
       case atStart=>exact⟨(0),(ν),(.slice np ν.length nq),rfl,H',⟨Nat.le_refl _⟩,⟨by(with_reducible repeat first|apply Kd.Qs|apply Kd.Qr|apply Kd.Qu);exact ρ.out⟩,⟨by(with_reducible repeat first|apply Kd.Qs|apply Kd.Qr|apply Kd.Qu);exact au.out⟩,ζ,X,ι,ψ,HB,⟨rfl⟩⟩
       case round=>
        clear H'
        try clear c37b0
        try clear dv
        try clear ee
        try clear i0
        try clear ii
        try clear ef
        try clear eg
        try clear ij
        try clear ik
        obtain⟨a8,κ,dq,rfl,HA,b7,ρ,au,ζ,X,ι,ψ,HB,js⟩:=hrel
        cases gk with
        |zero=>exact absurd HA.out (by simp[group_Spread.l1])
        |succ k2=>
         have H:=HA.out
         clear HA
         simp only[group_Spread.l1] at H
         by_cases fc:a8<(ν.length:Int)
         ·rw[if_pos fc] at H
          have c88b0:=decide_eq_true fc
          clear fc
          by_cases gr:0≤a8
          ·rw[if_pos gr] at H
           have c89b0:=decide_eq_true gr
           clear gr
           by_cases mf:a8<(κ.length:Int)
           ·rw[if_pos mf] at H
            have c90b0:=decide_eq_true mf
            clear mf
            by_cases k6:((Qb κ a8).f2)<0
            ·rw[if_pos k6] at H
             have c91b0:=decide_eq_true k6
             clear k6
             obtain⟨dl,rt,H⟩:=qQ H
             obtain⟨nr,h8⟩:∃ y_:List (S36),y_=(κ.set (a8:Int).toNat (⟨(Qb κ a8).f0,(Qb κ a8).f1,dl⟩:S36)):=⟨_,rfl⟩
             replace H:(group_Spread.l1 k2 l1 a2 (ν.length:Int) (wrap64 (a8+1)) B J O Y Z γ δ ε θ η nr bm)=some (r1,r2,r3):=by first|(rw[h8];with_reducible exact H)|(have ag:=(Option.bind_some _ _).symm.trans H;rw[h8];with_reducible exact ag)|(have ag:=(Option.bind_some _ _).symm.trans H;with_reducible exact ag)|with_reducible exact H|(rw[h8];exact H)|exact H
             have ow:=aK h8
             clear h8
             have H':=aK H
             clear H
             have lz:=aj.out
             have m0:=ai.out
             have o4:=ak.out
             have o5:=ae.out
             have oi:=am.out
             have oj:=al.out
             obtain⟨r9,ra,rb,rc⟩:=qD2 ψ.out
             obtain⟨mq,gl,ky⟩:=Kd.Q7 ρ.out
             subst ky
             have fa:0≤(a8:Int):=of_decide_eq_true (by assumption)
             have fb:a8<(κ.length:Int):=of_decide_eq_true (by assumption)
             obtain⟨aw,jt,dx,dy,dz⟩:=Z4 (Kd.Qt ρ.out).2.2 a8 fa fb
             cases jt
             replace fa:=eq_true fa
             replace fb:=eq_true fb
             (try rewrite[← js.out])
             try go_wp2_with (first|((with_reducible refine Qe (N:=15) rfl ?_);refine qE 15 #[nI 0,nI 0,nI 0] 36 ?_;intro b2 hg he hbox hb;have ck:=aK hbox;have ox:=sGe hg;have oy:=sGe hg;have fq:=sNl ζ hg;have fr:=sNg ζ hg;have ft:=sNl X hg;have fu:=sNg X hg;have fv:=sNl ι hg;have fw:=sNg ι hg;have fx:=sNl ψ hg;have fy:=sNg ψ hg;replace ρ:=aK (Kd.Zn (Kd.Yd ρ.out b2 (Nat.le_of_eq hg.symm)) hb);replace au:=sRb au hb;replace ζ :=sBk ζ hb;replace X:=sBk X hb;replace ι :=sBk ι hb;replace ψ :=sBk ψ hb;replace HB:=sHb hb;clear hb hbox hg;have mr:=fr.out;have ms:=fq.out;have mt:=fu.out;have mu:=ft.out;have kl:=fw.out;have km:=fv.out;have mz:=fy.out;have n1:=fx.out;obtain⟨pe,pf,pg,pi,pj,pk⟩:=qD3 ck.out))
             have φ :Aside0 (Kd.R k36 36 (((he.setCell ⟨b2,0,none⟩ (nI ((Qb κ a8).f0))).setCell ⟨b2,1,none⟩ (nI ((Qb κ a8).f1))).setCell ⟨b2,2,none⟩ (nI ((Qb κ a8).f2))) w.heap.size (fun k_=>k_≠b2) (.slice (some aw) κ.length gl) κ):=⟨by(with_reducible repeat first|apply Kd.Qs|apply Kd.Qr|apply Kd.Qu);exact Kd.Qv (Kd.Qx (Kd.Qx (Kd.Qx (Kd.Qv ρ.out (fun k_ hk=>(⟨hk,hk.2⟩:_∧k_≠b2))) (fun _ hk=>hk.2) (nI ((Qb κ a8).f0))) (fun _ hk=>hk.2) (nI ((Qb κ a8).f1))) (fun _ hk=>hk.2) (nI ((Qb κ a8).f2))) (fun _ hk=>hk.1.2)⟩
             have χ :Aside0 (Kd.R k86 86 (((he.setCell ⟨b2,0,none⟩ (nI ((Qb κ a8).f0))).setCell ⟨b2,1,none⟩ (nI ((Qb κ a8).f1))).setCell ⟨b2,2,none⟩ (nI ((Qb κ a8).f2))) w.heap.size (fun _=>True) (.slice bv bm.length bs) bm):=⟨by(with_reducible repeat first|apply Kd.Qs|apply Kd.Qr|apply Kd.Qu);exact Kd.Qv (Kd.Qx (Kd.Qx (Kd.Qx (Kd.Q4 au.out ck.out (by decide)) (fun _ hk=>hk.2) (nI ((Qb κ a8).f0))) (fun _ hk=>hk.2) (nI ((Qb κ a8).f1))) (fun _ hk=>hk.2) (nI ((Qb κ a8).f2))) (fun _ hk=>trivial)⟩
             have ω :Aside0 ((((he.setCell ⟨b2,0,none⟩ (nI ((Qb κ a8).f0))).setCell ⟨b2,1,none⟩ (nI ((Qb κ a8).f1))).setCell ⟨b2,2,none⟩ (nI ((Qb κ a8).f2))).heap[ac]?=some (.cells #[nI B,nI J,nI O,nI Y,nI Z,nI γ,nI δ,nI ε,nI θ,nI η] 25 (0,0))):=⟨bka ζ⟩
             have a6:Aside0 ((((he.setCell ⟨b2,0,none⟩ (nI ((Qb κ a8).f0))).setCell ⟨b2,1,none⟩ (nI ((Qb κ a8).f1))).setCell ⟨b2,2,none⟩ (nI ((Qb κ a8).f2))).heap[ξ]?=some (.cells #[.slice a7 μ.length a1,.slice a3 τ.length a5] 50 (0,0))):=⟨bka X⟩
             have ah:Aside0 ((((he.setCell ⟨b2,0,none⟩ (nI ((Qb κ a8).f0))).setCell ⟨b2,1,none⟩ (nI ((Qb κ a8).f1))).setCell ⟨b2,2,none⟩ (nI ((Qb κ a8).f2))).heap[an]?=some (.cells #[.slice none 0 0,.slice none 0 0] 50 (0,0))):=⟨bka ι⟩
             have az:Aside0 ((((he.setCell ⟨b2,0,none⟩ (nI ((Qb κ a8).f0))).setCell ⟨b2,1,none⟩ (nI ((Qb κ a8).f1))).setCell ⟨b2,2,none⟩ (nI ((Qb κ a8).f2))).heap[a0]?=some (.cells #[.slice (some aw) κ.length gl,.slice bv bm.length bs] 50 (0,0))):=⟨bka ψ⟩
             have b1:Aside0 ((((he.setCell ⟨b2,0,none⟩ (nI ((Qb κ a8).f0))).setCell ⟨b2,1,none⟩ (nI ((Qb κ a8).f1))).setCell ⟨b2,2,none⟩ (nI ((Qb κ a8).f2))).heap[b2]?=some (.cells #[nI ((Qb κ a8).f0),nI ((Qb κ a8).f1),nI ((Qb κ a8).f2)] 36 (0,0))):=⟨by refine Qo (cs:=#[nI ((Qb κ a8).f0),nI ((Qb κ a8).f1),nI 0]) ?_ 2 _ rfl;refine Qo (cs:=#[nI ((Qb κ a8).f0),nI 0,nI 0]) ?_ 1 _ rfl;refine Qo (cs:=#[nI 0,nI 0,nI 0]) ?_ 0 _ rfl;exact ck.out⟩
             have be:Aside0 (Below w.heap.size w (((he.setCell ⟨b2,0,none⟩ (nI ((Qb κ a8).f0))).setCell ⟨b2,1,none⟩ (nI ((Qb κ a8).f1))).setCell ⟨b2,2,none⟩ (nI ((Qb κ a8).f2)))):=⟨bel⟩
             (try clear ρ)
             (try clear au)
             (try clear ζ)
             (try clear X)
             (try clear ι)
             (try clear ψ)
             (try clear ck)
             (try clear HB)
             generalize(((he.setCell ⟨b2,0,none⟩ (nI ((Qb κ a8).f0))).setCell ⟨b2,1,none⟩ (nI ((Qb κ a8).f1))).setCell ⟨b2,2,none⟩ (nI ((Qb κ a8).f2)))=pm at φ χ ω a6 ah az b1 be ⊢
             have ρ:= φ
             have au:= χ
             have ζ := ω
             have X:=a6
             have ι :=ah
             have ψ :=az
             have ck:=b1
             have HB:=be
             clear φ χ ω a6 ah az b1 be
             replace ρ:=aK (Kd.Qu ρ.out)
             replace au:=aK (Kd.Qu au.out)
             replace ζ :=aK (Qd ζ.out)
             replace X:=aK (Qd X.out)
             replace ι :=aK (Qd ι.out)
             replace ψ :=aK (Qd ψ.out)
             replace ck:=aK (Qd ck.out)
             replace HB:=aK (Qj HB.out)
             refine Zg (n:=12) (S:=fun w'=>w'.cell? ⟨a0,0,none⟩=some (.slice (some aw) κ.length gl)∧w'.cell? ⟨a0,1,none⟩=some (.slice bv bm.length bs)∧cI w' ac 0 B∧cI w' ac 1 J∧cI w' ac 2 O∧cI w' ac 3 Y∧cI w' ac 4 Z∧cI w' ac 5 γ∧cI w' ac 6 δ ∧ cI w' ac 7 ε ∧ cI w' ac 8 θ ∧ cI w' ac 9 η ∧ cI w' b2 0 ((Qb κ a8).f0)∧cI w' b2 1 ((Qb κ a8).f1)∧cI w' b2 2 ((Qb κ a8).f2)) (ds:=[11]) #[false,false,false,false,false,false,false,false,false,false,false,false] kr rfl rfl ⟨(Qa ψ.out 0).trans rfl,(Qa ψ.out 1).trans rfl,(Qa ζ.out 0).trans rfl,(Qa ζ.out 1).trans rfl,(Qa ζ.out 2).trans rfl,(Qa ζ.out 3).trans rfl,(Qa ζ.out 4).trans rfl,(Qa ζ.out 5).trans rfl,(Qa ζ.out 6).trans rfl,(Qa ζ.out 7).trans rfl,(Qa ζ.out 8).trans rfl,(Qa ζ.out 9).trans rfl,(Qa ck.out 0).trans rfl,(Qa ck.out 1).trans rfl,(Qa ck.out 2).trans rfl⟩ (fun hHeld=>?_);refine Zb group_Spread.tab15 group_Spread.C9 (fun HT_ HW_=>?_)
             generalize pm.drew=sy at ρ au ζ X ι ψ ck HB hHeld ⊢
             refine qP 0 (some 69) (bN 12 1) HT_ ?_
             refine qP 2 (some 71) (bN 12 5) HT_ ?_
             refine qP 4 (some 73) (bN 12 21) HT_ ?_
             refine qP 5 (some 74) (bN 12 53) HT_ ?_
             refine qT 1 (some 70) (bN 12 55) HT_ HW_ hHeld ?_
             refine qT 3 (some 72) (bN 12 63) HT_ HW_ hHeld ?_
             refine qT 6 (some 75) (bN 12 127) HT_ HW_ hHeld ?_
             refine qT 7 (some 76) (bN 12 255) HT_ HW_ hHeld ?_
             refine qK 8 (some 77) (bN 12 511) HT_ fun K hK=>?_
             refine Zd Try.func38 kr rfl #[.agg #[nI B,nI J,nI O,nI Y,nI Z,nI γ,nI δ,nI ε,nI θ,nI η],.slice A1 l1.length c1,nI a2,.agg #[.slice (some aw) κ.length gl,.slice bv bm.length bs],.agg #[nI ((Qb κ a8).f0),nI ((Qb κ a8).f1),nI ((Qb κ a8).f2)]] (by rfl) rfl rfl qM ?_
             with_reducible refine(group_pick.calls k2 B J O Y Z γ δ ε θ η _ _ l1 a2 _ _ κ _ _ bm ((Qb κ a8).f0) ((Qb κ a8).f1) ((Qb κ a8).f2) dl _ ?side1 ?side2 ?side3 ?side4 ?side5 ?side6 rt.out).mono ?_
             (case side1=>exact(Kd.Qw ci.out HB.out))
             (case side2=>exact da.out)
             (case side3=>exact(Kd.Qt ρ.out).2.2)
             (case side4=>exact(Kd.Qt ρ.out).2.1)
             (case side5=>exact(Kd.Qt au.out).2.2)
             (case side6=>exact(Kd.Qt au.out).2.1)
             rintro e t0 ⟨rfl,hb⟩
             refine⟨_,rfl, ?_⟩
             replace ρ:=sRb ρ hb
             replace au:=sRb au hb
             replace ζ :=sBk ζ hb
             replace X:=sBk X hb
             replace ι :=sBk ι hb
             replace ψ :=sBk ψ hb
             replace ck:=sBk ck hb
             replace HB:=sHb hb
             (try clear hb)
             (try clear a4)
             (try clear hk)
             (try clear hi)
             have ns:0≤(a8:Int):=of_decide_eq_true (by assumption)
             have nt:(a8:Int)<((κ.length:Int):Int):=of_decide_eq_true (by assumption)
             obtain⟨fz,lb,kh,nu,pn,t1,nv⟩:=Kd.U2 ρ.out (by omega)
             (first|cases kh|(injection kh with ea_ en_ ec_;(first|subst ea_|(injection ea_ with ea_;subst ea_));subst ec_;clear en_))
             have t2:=aK nu
             have po:=aK nv
             clear nu pn nv
             (first|simp only[add_plain] at dx|skip)
             (first|simp only[add_plain] at dy|skip)
             (first|simp only[add_plain] at dz|skip)
             obtain⟨t3,oz,nw,j5,j6⟩:=Kd.J3 ρ.out z36 (a8:Int) ns nt
             obtain rfl:=Yt nw
             have ru:World.cell? _ ⟨fz,(a8:Int).toNat * 3,none⟩=some (nI ((Qb κ a8).f0)):=j5 0 _ rfl
             have rv:World.cell? _ ⟨fz,(a8:Int).toNat * 3+1,none⟩=some (nI ((Qb κ a8).f1)):=j5 1 _ rfl
             have rx:World.cell? _ ⟨fz,(a8:Int).toNat * 3+2,none⟩=some (nI ((Qb κ a8).f2)):=j5 2 _ rfl
             have ry:World.frozen? _ ⟨fz,(a8:Int).toNat * 3,none⟩=false:=j6 0
             have rz:World.frozen? _ ⟨fz,(a8:Int).toNat * 3+1,none⟩=false:=j6 1
             have s0:World.frozen? _ ⟨fz,(a8:Int).toNat * 3+2,none⟩=false:=j6 2
             clear oz j5 j6 nw
             replace ns:=eq_true ns
             replace nt:=eq_true nt
             (try rewrite[← js.out])
             obtain⟨so,kv,mg,kx,nx⟩:=Kd.J3 ρ.out z36 (a8:Int) (of_decide_eq_true (by assumption)) (by have h_:(a8:Int)<((κ.length:Int):Int):=of_decide_eq_true (by assumption);first|exact h_|(have e_:=(Kd.Qt ρ.out).1;omega)|simpa using h_)
             obtain rfl:=Yt mg
             have kk:=(Kd.Mm ρ.out (a8:Int) (of_decide_eq_true (by assumption)) (by have h_:(a8:Int)<((κ.length:Int):Int):=of_decide_eq_true (by assumption);first|exact h_|(have e_:=(Kd.Qt ρ.out).1;omega)|simpa using h_) (seg:=[nI dl]) (j:=2) kv kx (show 3≤3 from by decide) (x':=(⟨(Qb κ a8).f0,(Qb κ a8).f1,dl⟩:S36)) (Jh _ _ _ (⟨(Qb κ a8).f0,(Qb κ a8).f1,dl⟩:S36)) (fun _ hk=>hk)).1
             rw[← ow.out] at kk
             have p0:=aK kk
             clear kv kx nx mg kk
             refine hK.out _ _ ⟨qc ψ,qc ψ,qc ζ,qc ζ,qc ζ,qc ζ,qc ζ,qc ζ,qc ζ,qc ζ,qc ζ,qc ζ,qc ck,qc ck,qc ck⟩ (fun hHeld=>?_)
             clear hK K
             refine qN (some 77) ?_
             refine qP 9 (some 78) (bN 12 1023) HT_ ?_
             refine qP 10 (some 79) (bN 12 2047) HT_ ?_
             refine Cs (i:=11) (N:=none) #[true,true,true,true,true,true,true,true,true,true,true,true] rfl rfl (Lx HT_.out kr) (by decide) (fun K hK=>?_)
             refine K9 (w1:=?_) (by rfl) rfl ?_ ?_
             rotate_left
             ·go_simp
              rfl
             refine hK.out _ _ ?_
             clear hK K
             refine Zl (Ze HT_.out kr) ?_
             try go_wp2
             rewrite[js.out]
             go_roundg k2
             case measure=>have:=af.out;have:=b7.out;omega
             case rel=>exact⟨(wrap64 (a8+1)),(nr),(.slice (some ⟨fz,0,none⟩) κ.length gl),qR,H',⟨by have:=af.out;have:=b7.out;omega⟩,⟨by(with_reducible repeat first|apply Kd.Qs|apply Kd.Qr|apply Kd.Qu);exact Kd.Qv p0.out (fun _ hk=>trivial)⟩,⟨by(with_reducible repeat first|apply Kd.Qs|apply Kd.Qr|apply Kd.Qu);exact Kd.Qv (Kd.Qx (p:=⟨fz,(a8:Int).toNat * 3+2,none⟩) (Kd.Q4 au.out po.out (by decide)) (fun _ hk=>hk.2) (nI dl)) (fun _ hk=>trivial)⟩,⟨by(with_reducible repeat first|refine Qi ?_ _|refine Qd ?_|refine Qh ?_ _);refine Ym ?_ (by have h_:=Kd.Zo ρ.out ζ.out (by decide);intro e_;exact h_ (by rw[e_];rfl)) _;(with_reducible repeat first|refine Qi ?_ _|refine Qd ?_|refine Qh ?_ _);exact ζ.out⟩,⟨by(with_reducible repeat first|refine Qi ?_ _|refine Qd ?_|refine Qh ?_ _);refine Ym ?_ (by have h_:=Kd.Zo ρ.out X.out (by decide);intro e_;exact h_ (by rw[e_];rfl)) _;(with_reducible repeat first|refine Qi ?_ _|refine Qd ?_|refine Qh ?_ _);exact X.out⟩,⟨by(with_reducible repeat first|refine Qi ?_ _|refine Qd ?_|refine Qh ?_ _);refine Ym ?_ (by have h_:=Kd.Zo ρ.out ι.out (by decide);intro e_;exact h_ (by rw[e_];rfl)) _;(with_reducible repeat first|refine Qi ?_ _|refine Qd ?_|refine Qh ?_ _);exact ι.out⟩,⟨by(with_reducible repeat first|refine Qi ?_ _|refine Qd ?_|refine Qh ?_ _);refine Ym ?_ (by have h_:=Kd.Zo ρ.out ψ.out (by decide);intro e_;exact h_ (by rw[e_];rfl)) _;(with_reducible repeat first|refine Qi ?_ _|refine Qd ?_|refine Qh ?_ _);exact ψ.out⟩,⟨bel⟩,js⟩
            ·rw[if_neg k6] at H
             have c91b0:=decide_eq_false k6
             clear k6
             have H':=aK H
             clear H
             have kw:=aj.out
             have l9:=ai.out
             have s1:=ak.out
             have s2:=ae.out
             have mw:=am.out
             have my:=al.out
             obtain⟨j7,j8,j9,ja⟩:=qD2 ψ.out
             obtain⟨it,gs,ke⟩:=Kd.Q7 ρ.out
             subst ke
             have fa:0≤(a8:Int):=of_decide_eq_true (by assumption)
             have fb:a8<(κ.length:Int):=of_decide_eq_true (by assumption)
             obtain⟨aw,jt,dx,dy,dz⟩:=Z4 (Kd.Qt ρ.out).2.2 a8 fa fb
             cases jt
             replace fa:=eq_true fa
             replace fb:=eq_true fb
             (try rewrite[← js.out])
             go_wp2_with (first|((with_reducible refine Qe (N:=15) rfl ?_);refine qE 15 #[nI 0,nI 0,nI 0] 36 ?_;intro b2 hg p5 hbox hb;have ck:=aK hbox;have ox:=sGe hg;have oy:=sGe hg;have fq:=sNl ζ hg;have fr:=sNg ζ hg;have ft:=sNl X hg;have fu:=sNg X hg;have fv:=sNl ι hg;have fw:=sNg ι hg;have fx:=sNl ψ hg;have fy:=sNg ψ hg;replace ρ:=aK (Kd.Zn (Kd.Yd ρ.out b2 (Nat.le_of_eq hg.symm)) hb);replace au:=sRb au hb;replace ζ :=sBk ζ hb;replace X:=sBk X hb;replace ι :=sBk ι hb;replace ψ :=sBk ψ hb;replace HB:=sHb hb;clear hb hbox hg;have s3:=fr.out;have s4:=fq.out;have s5:=fu.out;have s6:=ft.out;have n2:=fw.out;have n3:=fv.out;have na:=fy.out;have nb:=fx.out;obtain⟨l3,l4,pp,l5,l6,pq⟩:=qD3 ck.out))
             rewrite[js.out]
             go_roundg k2
             case measure=>have:=af.out;have:=b7.out;omega
             case rel=>exact⟨(wrap64 (a8+1)),(κ),(.slice (some aw) κ.length gs),qR,H',⟨by have:=af.out;have:=b7.out;omega⟩,⟨by(with_reducible repeat first|apply Kd.Qs|apply Kd.Qr|apply Kd.Qu);exact Kd.Qv (Kd.Qx (Kd.Qx (Kd.Qx (Kd.Qv ρ.out (fun k_ hk=>(⟨hk,hk.2⟩:_∧k_≠b2))) (fun _ hk=>hk.2) (nI ((Qb κ a8).f0))) (fun _ hk=>hk.2) (nI ((Qb κ a8).f1))) (fun _ hk=>hk.2) (nI ((Qb κ a8).f2))) (fun _ hk=>trivial)⟩,⟨by(with_reducible repeat first|apply Kd.Qs|apply Kd.Qr|apply Kd.Qu);exact Kd.Qv (Kd.Qx (Kd.Qx (Kd.Qx (Kd.Q4 au.out ck.out (by decide)) (fun _ hk=>hk.2) (nI ((Qb κ a8).f0))) (fun _ hk=>hk.2) (nI ((Qb κ a8).f1))) (fun _ hk=>hk.2) (nI ((Qb κ a8).f2))) (fun _ hk=>trivial)⟩,⟨bka ζ⟩,⟨bka X⟩,⟨bka ι⟩,⟨bka ψ⟩,⟨bel⟩,js⟩
           ·rw[if_neg mf] at H
            exact absurd H (by simp)
          ·rw[if_neg gr] at H
           exact absurd H (by simp)
         ·rw[if_neg fc] at H
          have c88b0:=decide_eq_false fc
          clear fc
          simp only[Option.some.injEq,Prod.mk.injEq] at H
          obtain⟨rfl,rfl,rfl⟩:=H
          have nc:=aj.out
          have nf:=ai.out
          have s7:=ak.out
          have s8:=ae.out
          have s9:=am.out
          have sa:=al.out
          obtain⟨lc,lf,lg,lh⟩:=qD2 ψ.out
          obtain⟨mh,mi,p1⟩:=Kd.Q7 ρ.out
          subst p1
          have sb:=fg.out
          have sc:=ff.out
          have sd:=fi.out
          have se:=fh.out
          obtain⟨pr,pt,pu,pv⟩:=qD2 ι.out
          go_wp2
          refine bodyPost_ret (Xe rfl _ _ an 50 #[.slice mh κ.length mi,.slice bv bm.length bs] (0,0) _ rfl (by refine Qo (cs:=#[.slice mh κ.length mi,.slice none 0 0]) ?_ 1 _ rfl;refine Qo (cs:=#[.slice none 0 0,.slice none 0 0]) ?_ 0 _ rfl;exact ι.out) Try.underlying50 rfl kr) rfl ?_
          exact⟨_,_,by first|rfl|(simp[Ql,Qk] <;> rfl)|(simp[*,Ql,Qk] <;> rfl),by(with_reducible repeat first|apply Kd.Qs|apply Kd.Qr|apply Kd.Qu);exact Kd.Qv (Kd.Qx (Kd.Qx (Kd.Q4 ρ.out ι.out (by decide)) (fun _ hk=>hk.2) _) (fun _ hk=>hk.2) _) (fun _ hk=>trivial),by(with_reducible repeat first|apply Kd.Qs|apply Kd.Qr|apply Kd.Qu);exact Kd.Qv (Kd.Qx (Kd.Qx (Kd.Q4 au.out ι.out (by decide)) (fun _ hk=>hk.2) _) (fun _ hk=>hk.2) _) (fun _ hk=>trivial),bel⟩
   ·rw[if_neg c8] at H
    exact absurd H (by simp)
  ·rw[if_neg c7] at H
   exact absurd H (by simp)
 ·rw[if_neg c6] at H
  have c6b0:(ax==0)=false:=beq_eq_false_iff_ne.mpr c6
  have c6b1:(ax != 0)=true:=bne_iff_ne.mpr c6
  simp only[Option.some.injEq,Prod.mk.injEq] at H
  obtain⟨rfl,rfl,rfl⟩:=H
  go_enter Try.func21,Try.ntmps21
  go_wp2_with (first|((with_reducible refine Qe (N:=4) rfl ?_);refine qE 4 #[nI B,nI J,nI O,nI Y,nI Z,nI γ,nI δ,nI ε,nI θ,nI η] 25 ?_;intro ac hg t4 hbox hb;have ζ :=aK hbox;have lu:=sGe hg;have k7:=sGe hg;replace HB:=sHb hb;clear hb hbox hg)|((with_reducible refine Qe (N:=7) rfl ?_);refine qE 7 #[.slice a7 μ.length a1,.slice a3 τ.length a5] 50 ?_;intro ξ hg t5 hbox hb;have X:=aK hbox;have ol:=sGe hg;have om:=sGe hg;have fm:=sNl ζ hg;have fn:=sNg ζ hg;replace ζ :=sBk ζ hb;replace HB:=sHb hb;clear hb hbox hg)|((with_reducible refine Qe (N:=8) rfl ?_);refine qE 8 #[.slice none 0 0,.slice none 0 0] 50 ?_;intro an hg t6 hbox hb;have ι :=aK hbox;have oo:=sGe hg;have oq:=sGe hg;have ff:=sNl ζ hg;have fg:=sNg ζ hg;have fh:=sNl X hg;have fi:=sNg X hg;replace ζ :=sBk ζ hb;replace X:=sBk X hb;replace HB:=sHb hb;clear hb hbox hg;have sf:=fm.out;have sg:=fn.out;have sh:=ff.out;have si:=fg.out;obtain⟨pw,px,py,pz,q0,q1,q2,q3,q4,q5,q6,q7,q8,q9,qa,qb,qd,qe,qf,qg⟩:=Zi ζ.out;have sj:=fh.out;have sk:=fi.out;obtain⟨qh,qi,qj,qk⟩:=qD2 X.out)|((with_reducible refine Qf (f:=17) rfl ?_);refine Q0 (some 19) rfl rfl Try.func17 kr rfl #[.agg #[nI B,nI J,nI O,nI Y,nI Z,nI γ,nI δ,nI ε,nI θ,nI η],.slice A1 l1.length c1,.agg #[.slice a7 μ.length a1,.slice a3 τ.length a5]] rfl qM ?_;(with_reducible refine(group_Check.calls k B J O Y Z γ δ ε θ η _ _ l1 _ _ μ _ _ τ ax _ ?side1 ?side2 ?side3 ?side4 ?side5 ?side6 A5.out).mono ?_);(case side1=>exact(Kd.Qw ci.out HB.out));(case side2=>exact da.out);(case side3=>exact(Kd.Qw bk.out HB.out));(case side4=>exact bw.out);(case side5=>exact(Kd.Qw bp.out HB.out));(case side6=>exact bz.out);rintro e t7 ⟨rfl,hb⟩;refine⟨_,rfl, ?_⟩;replace ζ :=sBk ζ hb;replace X:=sBk X hb;replace ι :=sBk ι hb;replace HB:=sHb hb;(try clear hb);(try clear a4);(try clear hk);(try clear hi);obtain⟨ql,qm,qn,qo⟩:=qD2 ι.out))
  refine bodyPost_ret (Xe rfl _ _ an 50 #[.slice none 0 0,.slice none 0 0] (0,0) _ rfl (by refine Qo (cs:=#[.slice none 0 0,.slice none 0 0]) ?_ 1 _ rfl;refine Qo (cs:=#[.slice none 0 0,.slice none 0 0]) ?_ 0 _ rfl;exact ι.out) Try.underlying50 rfl kr) rfl ?_
  exact⟨_,_,by first|rfl|(simp[Ql,Qk] <;> rfl)|(simp[*,Ql,Qk] <;> rfl),by first|exact Kd.Xy _ _ _ _ _|exact Kd.Yr _ _ _ _ _|exact Kd.Yo _ _ _ _ _|exact Kd.Yq _ _ _ _ _|exact Kd.Yp _ _ _ _ _,by first|exact Kd.Xy _ _ _ _ _|exact Kd.Yr _ _ _ _ _|exact Kd.Yo _ _ _ _ _|exact Kd.Yq _ _ _ _ _|exact Kd.Yp _ _ _ _ _,bel⟩
end Go.Proofs.Ytmfffemidlhcpaa.C
