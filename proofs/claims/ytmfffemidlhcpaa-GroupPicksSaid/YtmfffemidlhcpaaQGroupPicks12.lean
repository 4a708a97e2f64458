/- Texts of this claim, one behind the other: what the law's functions come to, walked (printed by a program, with the words that the print uses), and what that is, in plain Lean. No conditions of their own. -/
import Derived.Test.YtmfffemidlhcpaaQGroupPicks11
import Derived.WalkMore
namespace Go.Proofs.Ytmfffemidlhcpaa.C
open Go.RowKit Go.Proofs.YtmfffemidlhcpaaW.PrintWords Go.Proofs.YtmfffemidlhcpaaW.PrintLast Go.Proofs.YtmfffemidlhcpaaW.PrintMore
attribute [local go_sem] Z0 Zy Z6 Z5 Zr Zq Zz Zx
set_option linter.unusedVariables false
set_option linter.unusedSimpArgs false
def group_pick.l0:Nat→Int→Int→Int→Int→Int→Int→Int→Int→Int→Int→Int→Int→Int→Int→List (S31)→List (S36)→List (S86)→Int→Int→Int→Option (Int)
 |0,_,_,_,_,_,_,_,_,_,_,_,_,_,_,_,_,_,_,_,_=>none
 |k+1,X,σ,τ,B,J,O,Y,Z,γ,δ,ε,ζ,η,θ,ι,κ,μ,ν,ξ,ρ=>if B < τ then (if 0≤B then (if (Go.bits .and .i64 (shr .i64 X B) 1)=1 then (group_pick.l0 k X σ τ (wrap64 (B+1)) J O Y Z γ δ ε ζ η θ ι κ μ ν ξ ρ) else (if σ<0 then (group_pick.l0 k X B τ (wrap64 (B+1)) J O Y Z γ δ ε ζ η θ ι κ μ ν ξ ρ) else ((group_pick_1.f k B J O Y Z γ δ ε ζ η θ ι κ μ ν ξ ρ).bind fun au=>((group_pick_1.f k σ J O Y Z γ δ ε ζ η θ ι κ μ ν ξ ρ).bind fun av=>(if au<av then (group_pick.l0 k X B τ (wrap64 (B+1)) J O Y Z γ δ ε ζ η θ ι κ μ ν ξ ρ) else (group_pick.l0 k X σ τ (wrap64 (B+1)) J O Y Z γ δ ε ζ η θ ι κ μ ν ξ ρ)))))) else (none)) else (some σ)
def group_pick.f (k:Nat) (B:Int) (J:Int) (O:Int) (X:Int) (Y:Int) (Z:Int) (γ:Int) (ζ :Int) (θ :Int) (η :Int) (l1:List (S31)) (a2:Int) (χ :List (S36)) (φ :List (S86)) (a9:Int) (aa:Int) (ab:Int):Option (Int):=group_pick.l0 k a2 (-1) (l1.length:Int) 0 B J O X Y Z γ ζ θ η l1 χ φ a9 aa ab
theorem group_pick.Zu:∀ k,(∀ O Y Z B X y5 y6 y7 y8 y9 γ δ ζ η θ ι κ ε μ ν,LeO (group_pick.l0 k O Y Z B X y5 y6 y7 y8 y9 γ δ ζ η θ ι κ ε μ ν) (group_pick.l0 (k+1) O Y Z B X y5 y6 y7 y8 y9 γ δ ζ η θ ι κ ε μ ν))
 |0=>fun _ _ _ _ _ _ _ _ _ _ _ _ _ _ _ _ _ _ _ _ r h=>by simp[group_pick.l0] at h
 |k+1=>by
  have J:=group_pick.Zu k
  ·intro O Y Z B X y5 y6 y7 y8 y9 γ δ ζ η θ ι κ ε μ ν
   unfold group_pick.l0
   repeat' first|(with_reducible first|apply J|apply group_pick_1.mono|exact LeO.refl _|exact LeO.none _|refine LeO.ite ?_ ?_|refine LeO.bind ?_ (fun _=>?_))|apply J|apply group_pick_1.mono|exact LeO.none _|refine LeO.ite ?_ ?_|refine LeO.bind ?_ (fun _=>?_)
theorem group_pick.mono:∀ B X a2 a3 O a5 Y a7 a8 a9 Z γ δ ζ ε η θ k,LeO (group_pick.f k B X a2 a3 O a5 Y a7 a8 a9 Z γ δ ζ ε η θ) (group_pick.f (k+1) B X a2 a3 O a5 Y a7 a8 a9 Z γ δ ζ ε η θ):=by
 intro B X a2 a3 O a5 Y a7 a8 a9 Z γ δ ζ ε η θ k
 have J:=group_pick.Zu k
 unfold group_pick.f
 repeat' first|(with_reducible first|apply J|apply group_pick_1.mono|exact LeO.refl _|exact LeO.none _|refine LeO.ite ?_ ?_|refine LeO.bind ?_ (fun _=>?_))|apply J|apply group_pick_1.mono|exact LeO.none _|refine LeO.ite ?_ ?_|refine LeO.bind ?_ (fun _=>?_)
set_option maxHeartbeats 8000000 in
set_option maxRecDepth 100000 in
theorem group_pick.calls (k:Nat) (B:Int) (J:Int) (O:Int) (X:Int) (Y:Int) (Z:Int) (γ:Int) (ζ :Int) (θ :Int) (η :Int) (A1:Option Addr) (c1:Nat) (l1:List (S31)) (a2:Int) (a5:Option Addr) (a6:Nat) (χ :List (S36)) (a7:Option Addr) (a8:Nat) (φ :List (S86)) (a9:Int) (aa:Int) (ab:Int) (r:Int) (w:World) (cw:Kd.C k31 w A1 l1.length l1) (cr:l1.length≤c1) (d7:Kd.C k36 w a5 χ.length χ) (de: χ.length≤a6) (df:Kd.C k86 w a7 φ.length φ) (dh: φ.length≤a8) (h:group_pick.f k B J O X Y Z γ ζ θ η l1 a2 χ φ a9 aa ab=some r):
 Calls Try.prog 38 #[.agg #[.int .i64 B,.int .i64 J,.int .i64 O,.int .i64 X,.int .i64 Y,.int .i64 Z,.int .i64 γ,.int .i64 ζ,.int .i64 θ,.int .i64 η],.slice A1 l1.length c1,.int .i64 a2,.agg #[.slice a5 χ.length a6,.slice a7 φ.length a8],.agg #[.int .i64 a9,.int .i64 aa,.int .i64 ab]] w fun e w'=>e = .returned (.int .i64 r)∧Below w.heap.size w w':=by
 have cg:=Try.underlying25
 have dc:=Try.underlying50
 have ch:=Try.underlying36
 have ci:=aK cw
 have dj:=aK cr
 clear cw cr
 have bk:=aK d7
 have bu:=aK de
 clear d7 de
 have bo:=aK df
 have bv:=aK dh
 clear df dh
 have HB:=aK (Below.refl w.heap.size w)
 have H:(group_pick.l0 k a2 (-1) (l1.length:Int) 0 B J O X Y Z γ ζ θ η l1 χ φ a9 aa ab)=some r:=h
 clear h
 have H':=aK H
 clear H
 go_enter Try.func38,Try.ntmps38
 go_wp2_with (first|((with_reducible refine Qe (N:=5) rfl ?_);refine qE 5 #[.int .i64 B,.int .i64 J,.int .i64 O,.int .i64 X,.int .i64 Y,.int .i64 Z,.int .i64 γ,.int .i64 ζ,.int .i64 θ,.int .i64 η] 25 ?_;intro μ hg w6 hbox hb;have δ :=aK hbox;have gs:=sGe hg;have gt:=sGe hg;replace HB:=sHb hb;clear hb hbox hg)|((with_reducible refine Qe (N:=6) rfl ?_);refine qE 6 #[.slice A1 l1.length c1] 46 ?_;intro ξ hg w7 hbox hb;have ε :=aK hbox;have d1:=sGe hg;have d4:=sGe hg;have ah:=sNl δ hg;have ai:=sNg δ hg;replace δ :=sBk δ hb;replace HB:=sHb hb;clear hb hbox hg)|((with_reducible refine Qe (N:=8) rfl ?_);refine qE 8 #[.slice a5 χ.length a6,.slice a7 φ.length a8] 50 ?_;intro a0 hg w8 hbox hb;have ι :=aK hbox;have d5:=sGe hg;have d6:=sGe hg;have aw:=sNl δ hg;have ax:=sNg δ hg;have aj:=sNl ε hg;have ak:=sNg ε hg;replace δ :=sBk δ hb;replace ε :=sBk ε hb;replace HB:=sHb hb;clear hb hbox hg)|((with_reducible refine Qe (N:=9) rfl ?_);refine qE 9 #[.int .i64 a9,.int .i64 aa,.int .i64 ab] 36 ?_;intro ag hg w9 hbox hb;have κ :=aK hbox;have di:=sGe hg;have dr:=sGe hg;have ay:=sNl δ hg;have az:=sNg δ hg;have al:=sNl ε hg;have ap:=sNg ε hg;have b0:=sNl ι hg;have b1:=sNg ι hg;replace δ :=sBk δ hb;replace ε :=sBk ε hb;replace ι :=sBk ι hb;replace HB:=sHb hb;clear hb hbox hg;have cf:=ai.out;have cj:=ah.out;have et:=aj.out;have fi:=ak.out;have ev:=al.out;have f7:=ap.out;obtain⟨af,ba⟩:=qD1 ε.out))
 go_step3
 go_wp2
 go_step3
 go_wp2
 go_loopg [12,17] k (fun kq cn bl w'=>∃ (ao:Int) (ν :Int),cn = .int .i64 ao∧bl = .int .i64 ν ∧ Aside0 (group_pick.l0 kq a2 ao (l1.length:Int) ν B J O X Y Z γ ζ θ η l1 χ φ a9 aa ab=some r)∧Aside0 (kq≤k)∧Aside0 (w'.heap[μ]?=some (.cells #[.int .i64 B,.int .i64 J,.int .i64 O,.int .i64 X,.int .i64 Y,.int .i64 Z,.int .i64 γ,.int .i64 ζ,.int .i64 θ,.int .i64 η] 25 (0,0)))∧Aside0 (w'.heap[ξ]?=some (.cells #[(.slice A1 l1.length c1)] 46 (0,0)))∧Aside0 (w'.heap[a0]?=some (.cells #[(.slice a5 χ.length a6),(.slice a7 φ.length a8)] 50 (0,0)))∧Aside0 (w'.heap[ag]?=some (.cells #[.int .i64 a9,.int .i64 aa,.int .i64 ab] 36 (0,0)))∧Aside0 (Below w.heap.size w w'))
 case atStart=>exact⟨((-1)),(0),rfl,rfl,H',⟨Nat.le_refl _⟩,δ,ε,ι,κ,HB⟩
 case round=>
  clear H'
  try clear c1
  try clear af
  try clear ba
  obtain⟨ao,ν,rfl,rfl,HA,am,δ,ε,ι,κ,HB⟩:=hrel
  cases gk with
  |zero=>exact absurd HA.out (by simp[group_pick.l0])
  |succ k1=>
   have H:=HA.out
   clear HA
   simp only[group_pick.l0] at H
   by_cases ae: ν < (l1.length:Int)
   ·rw[if_pos ae] at H
    have c14b0:=decide_eq_true ae
    clear ae
    by_cases a1:0 ≤ ν
    ·rw[if_pos a1] at H
     have c15b0:=eq_true a1
     have c15b1:=decide_eq_true a1
     clear a1
     obtain⟨ar,b2⟩:∃ j_:Int,(shr .i64 a2 ν)=j_:=⟨_,rfl⟩
     replace H:(if (Go.bits .and .i64 (ar) 1)=1 then (group_pick.l0 k1 a2 ao (l1.length:Int) (wrap64 (ν + 1)) B J O X Y Z γ ζ θ η l1 χ φ a9 aa ab) else (if ao<0 then (group_pick.l0 k1 a2 ν (l1.length:Int) (wrap64 (ν + 1)) B J O X Y Z γ ζ θ η l1 χ φ a9 aa ab) else ((group_pick_1.f k1 ν B J O X Y Z γ ζ θ η l1 χ φ a9 aa ab).bind fun au=>((group_pick_1.f k1 ao B J O X Y Z γ ζ θ η l1 χ φ a9 aa ab).bind fun av=>(if au<av then (group_pick.l0 k1 a2 ν (l1.length:Int) (wrap64 (ν + 1)) B J O X Y Z γ ζ θ η l1 χ φ a9 aa ab) else (group_pick.l0 k1 a2 ao (l1.length:Int) (wrap64 (ν + 1)) B J O X Y Z γ ζ θ η l1 χ φ a9 aa ab))))))=some r:=by first|(rw[b2] at H;exact H)|(simp only[b2] at H ⊢;exact H)
     have cz:(a2 / 2 ^ min ν.toNat 64)=ar:=b2
     have hji16z: ν ≤ 64→(a2 / 2 ^ ν.toNat)=ar:=K8 b2
     by_cases σ:(Go.bits .and .i64 (ar) 1)=1
     ·rw[if_pos σ] at H
      have c17b0:((Go.bits .and .i64 (ar) 1)==1)=true:=beq_iff_eq.mpr σ
      have c17b1:((Go.bits .and .i64 (ar) 1) != 1)=false:=bne_eq_false_iff_eq.mpr σ
      clear σ
      have H':=aK H
      clear H
      go_wp2
      go_roundg k1
      case measure=>have:=am.out;omega
      case rel=>exact⟨(ao),(wrap64 (ν + 1)),rfl,rfl,H',⟨by have:=am.out;omega⟩,δ,ε,ι,κ,HB⟩
     ·rw[if_neg σ] at H
      have c17b0:((Go.bits .and .i64 (ar) 1)==1)=false:=beq_eq_false_iff_ne.mpr σ
      have c17b1:((Go.bits .and .i64 (ar) 1) != 1)=true:=bne_iff_ne.mpr σ
      by_cases ψ :ao<0
      ·rw[if_pos ψ] at H
       have c18b0:=decide_eq_true ψ
       clear ψ
       have H':=aK H
       clear H
       go_wp2
       go_roundg k1
       case measure=>have:=am.out;omega
       case rel=>exact⟨(ν),(wrap64 (ν + 1)),rfl,rfl,H',⟨by have:=am.out;omega⟩,δ,ε,ι,κ,HB⟩
      ·rw[if_neg ψ] at H
       have c18b0:=decide_eq_false ψ
       clear ψ
       obtain⟨au,b3,H⟩:=qO H
       have bb:=aK b3
       clear b3
       obtain⟨av,b4,H⟩:=qO H
       have bs:=aK b4
       clear b4
       by_cases ac:au<av
       ·rw[if_pos ac] at H
        have c21b0:=decide_eq_true ac
        clear ac
        have H':=aK H
        clear H
        have el:=ah.out
        have em:=ai.out
        have dl:=aw.out
        have dy:=ax.out
        have ff:=ay.out
        have fn:=az.out
        obtain⟨d8,d9,dt,h0,h4,h5,h6,b5,b9,bg,da,db,gf,h7,h8,h9,ha,b8,bh,bi⟩:=Zg δ.out
        have dd:=aj.out
        have dk:=ak.out
        have b6:=al.out
        have b7:=ap.out
        obtain⟨fq,fr⟩:=qD1 ε.out
        have fj:=b0.out
        have fk:=b1.out
        obtain⟨e7,e8,e9,ea⟩:=qD2 ι.out
        obtain⟨dm,dn,ew,dp,dq,ey⟩:=qD3 κ.out
        go_wp2_with (first|(go_at_call 58;(with_reducible refine(group_pick_1.calls k1 ν B J O X Y Z γ ζ θ η _ _ l1 _ _ χ _ _ φ a9 aa ab au _ ?side1 ?side2 ?side3 ?side4 ?side5 ?side6 bb.out μ ξ a0 ag δ.out ε.out ι.out κ.out).mono ?_);(case side1=>exact(Kd.Qs ci.out HB.out));(case side2=>exact dj.out);(case side3=>exact(Kd.Qs bk.out HB.out));(case side4=>exact bu.out);(case side5=>exact(Kd.Qs bo.out HB.out));(case side6=>exact bv.out);rintro e hh ⟨rfl,hb⟩;have ρ:=aK (Qz (g:= μ) (o:=.cells #[.int .i64 B,.int .i64 J,.int .i64 O,.int .i64 X,.int .i64 Y,.int .i64 Z,.int .i64 γ,.int .i64 ζ,.int .i64 θ,.int .i64 η] 25 (0,0)) δ.out hb);have τ :=aK (Qz (g:= ξ) (o:=.cells #[.slice A1 l1.length c1] 46 (0,0)) ε.out hb);have ω :=aK (Qz (g:=a0) (o:=.cells #[.slice a5 χ.length a6,.slice a7 φ.length a8] 50 (0,0)) ι.out hb);have a3:=aK (Qz (g:=ag) (o:=.cells #[.int .i64 a9,.int .i64 aa,.int .i64 ab] 36 (0,0)) κ.out hb);have an:=aK (Q2 HB.out hb);clear δ;clear ε;clear ι;clear κ;clear HB;have δ :=ρ;have ε := τ;have ι := ω;have κ :=a3;have HB:=an;clear ρ τ ω a3 an;(try clear hb);(try clear a4);(try clear hk);(try clear hi);obtain⟨d0,eb,fh,cm,cx,ho,hu,bc,bf,bn,ec,ed,gg,hx,hy,i0,i1,ca,cb,co⟩:=Zg δ.out;obtain⟨gb,ge⟩:=qD1 ε.out;obtain⟨gm,gn,gp,gq⟩:=qD2 ι.out;obtain⟨ee,en,bj,eo,ep,e5⟩:=qD3 κ.out)|(go_at_call 58;(with_reducible refine(group_pick_1.calls k1 ao B J O X Y Z γ ζ θ η _ _ l1 _ _ χ _ _ φ a9 aa ab av _ ?side1 ?side2 ?side3 ?side4 ?side5 ?side6 bs.out μ ξ a0 ag δ.out ε.out ι.out κ.out).mono ?_);(case side1=>exact(Kd.Qs ci.out HB.out));(case side2=>exact dj.out);(case side3=>exact(Kd.Qs bk.out HB.out));(case side4=>exact bu.out);(case side5=>exact(Kd.Qs bo.out HB.out));(case side6=>exact bv.out);rintro e fc ⟨rfl,hb⟩;have ρ:=aK (Qz (g:= μ) (o:=.cells #[.int .i64 B,.int .i64 J,.int .i64 O,.int .i64 X,.int .i64 Y,.int .i64 Z,.int .i64 γ,.int .i64 ζ,.int .i64 θ,.int .i64 η] 25 (0,0)) δ.out hb);have τ :=aK (Qz (g:= ξ) (o:=.cells #[.slice A1 l1.length c1] 46 (0,0)) ε.out hb);have ω :=aK (Qz (g:=a0) (o:=.cells #[.slice a5 χ.length a6,.slice a7 φ.length a8] 50 (0,0)) ι.out hb);have a3:=aK (Qz (g:=ag) (o:=.cells #[.int .i64 a9,.int .i64 aa,.int .i64 ab] 36 (0,0)) κ.out hb);have an:=aK (Q2 HB.out hb);clear δ;clear ε;clear ι;clear κ;clear HB;have δ :=ρ;have ε := τ;have ι := ω;have κ :=a3;have HB:=an;clear ρ τ ω a3 an;(try clear hb);(try clear a4);(try clear hk);(try clear hi)))
        go_roundg k1
        case measure=>have:=am.out;omega
        case rel=>exact⟨(ν),(wrap64 (ν + 1)),rfl,rfl,H',⟨by have:=am.out;omega⟩,δ,ε,ι,κ,HB⟩
       ·rw[if_neg ac] at H
        have c21b0:=decide_eq_false ac
        clear ac
        have H':=aK H
        clear H
        have he:=ah.out
        have im:=ai.out
        have fl:=aw.out
        have fm:=ax.out
        have f8:=ay.out
        have fa:=az.out
        obtain⟨dz,e0,e6,jl,jo,jp,jq,bd,bm,bp,e3,e4,gh,jr,js,jt,ju,bq,br,bw⟩:=Zg δ.out
        have ft:=aj.out
        have ic:=ak.out
        have d2:=al.out
        have d3:=ap.out
        obtain⟨ej,ek⟩:=qD1 ε.out
        have gx:=b0.out
        have gy:=b1.out
        obtain⟨j6,j7,j8,j9⟩:=qD2 ι.out
        obtain⟨er,fz,ez,ga,gv,gw⟩:=qD3 κ.out
        go_wp2_with (first|(go_at_call 58;(with_reducible refine(group_pick_1.calls k1 ν B J O X Y Z γ ζ θ η _ _ l1 _ _ χ _ _ φ a9 aa ab au _ ?side1 ?side2 ?side3 ?side4 ?side5 ?side6 bb.out μ ξ a0 ag δ.out ε.out ι.out κ.out).mono ?_);(case side1=>exact(Kd.Qs ci.out HB.out));(case side2=>exact dj.out);(case side3=>exact(Kd.Qs bk.out HB.out));(case side4=>exact bu.out);(case side5=>exact(Kd.Qs bo.out HB.out));(case side6=>exact bv.out);rintro e fv ⟨rfl,hb⟩;have ρ:=aK (Qz (g:= μ) (o:=.cells #[.int .i64 B,.int .i64 J,.int .i64 O,.int .i64 X,.int .i64 Y,.int .i64 Z,.int .i64 γ,.int .i64 ζ,.int .i64 θ,.int .i64 η] 25 (0,0)) δ.out hb);have τ :=aK (Qz (g:= ξ) (o:=.cells #[.slice A1 l1.length c1] 46 (0,0)) ε.out hb);have ω :=aK (Qz (g:=a0) (o:=.cells #[.slice a5 χ.length a6,.slice a7 φ.length a8] 50 (0,0)) ι.out hb);have a3:=aK (Qz (g:=ag) (o:=.cells #[.int .i64 a9,.int .i64 aa,.int .i64 ab] 36 (0,0)) κ.out hb);have an:=aK (Q2 HB.out hb);clear δ;clear ε;clear ι;clear κ;clear HB;have δ :=ρ;have ε := τ;have ι := ω;have κ :=a3;have HB:=an;clear ρ τ ω a3 an;(try clear hb);(try clear a4);(try clear hk);(try clear hi);obtain⟨iu,iv,iw,ix,iy,iz,j4,bz,cd,ce,j5,jv,jw,k2,k3,k4,k5,ck,cp,cq⟩:=Zg δ.out;obtain⟨fg,ii⟩:=qD1 ε.out;obtain⟨ct,cu,cv,cy⟩:=qD2 ι.out;obtain⟨ef,eg,ln,eh,ei,lp⟩:=qD3 κ.out)|(go_at_call 58;(with_reducible refine(group_pick_1.calls k1 ao B J O X Y Z γ ζ θ η _ _ l1 _ _ χ _ _ φ a9 aa ab av _ ?side1 ?side2 ?side3 ?side4 ?side5 ?side6 bs.out μ ξ a0 ag δ.out ε.out ι.out κ.out).mono ?_);(case side1=>exact(Kd.Qs ci.out HB.out));(case side2=>exact dj.out);(case side3=>exact(Kd.Qs bk.out HB.out));(case side4=>exact bu.out);(case side5=>exact(Kd.Qs bo.out HB.out));(case side6=>exact bv.out);rintro e fu ⟨rfl,hb⟩;have ρ:=aK (Qz (g:= μ) (o:=.cells #[.int .i64 B,.int .i64 J,.int .i64 O,.int .i64 X,.int .i64 Y,.int .i64 Z,.int .i64 γ,.int .i64 ζ,.int .i64 θ,.int .i64 η] 25 (0,0)) δ.out hb);have τ :=aK (Qz (g:= ξ) (o:=.cells #[.slice A1 l1.length c1] 46 (0,0)) ε.out hb);have ω :=aK (Qz (g:=a0) (o:=.cells #[.slice a5 χ.length a6,.slice a7 φ.length a8] 50 (0,0)) ι.out hb);have a3:=aK (Qz (g:=ag) (o:=.cells #[.int .i64 a9,.int .i64 aa,.int .i64 ab] 36 (0,0)) κ.out hb);have an:=aK (Q2 HB.out hb);clear δ;clear ε;clear ι;clear κ;clear HB;have δ :=ρ;have ε := τ;have ι := ω;have κ :=a3;have HB:=an;clear ρ τ ω a3 an;(try clear hb);(try clear a4);(try clear hk);(try clear hi)))
        go_roundg k1
        case measure=>have:=am.out;omega
        case rel=>exact⟨(ao),(wrap64 (ν + 1)),rfl,rfl,H',⟨by have:=am.out;omega⟩,δ,ε,ι,κ,HB⟩
    ·rw[if_neg a1] at H
     exact absurd H (by simp)
   ·rw[if_neg ae] at H
    have c14b0:=decide_eq_false ae
    clear ae
    obtain rfl:=Option.some.inj H
    go_wp2
    (try rw[Exit.noGoto_ret])
    go_ret
    exact⟨rfl,HB.out⟩
def group_Pick.f (k:Nat) (B:Int) (J:Int) (O:Int) (X:Int) (Y:Int) (Z:Int) (γ:Int) (ζ :Int) (θ :Int) (η :Int) (l1:List (S31)) (a2:Int) (χ :List (S36)) (φ :List (S86)) (a9:Int) (aa:Int) (ab:Int):Option (Int×Int):=(group_Check.f k B J O X Y Z γ ζ θ η l1 χ φ).bind fun μ =>(if μ = 0 then ((group_house.f B J O X Y Z γ ζ θ η l1).bind fun ae=>((group_hall.f k ae.1 ae.2 a9 aa ab).bind fun a0=>(if a0=true then ((group_pick.f k B J O X Y Z γ ζ θ η l1 a2 χ φ a9 aa ab).bind fun a1=>(some (a1,0))) else (some (0,210))))) else (some (0,μ)))
theorem group_Pick.mono:∀ B X a2 a3 O a5 Y a7 a8 a9 Z γ δ ζ ε η θ k,LeO (group_Pick.f k B X a2 a3 O a5 Y a7 a8 a9 Z γ δ ζ ε η θ) (group_Pick.f (k+1) B X a2 a3 O a5 Y a7 a8 a9 Z γ δ ζ ε η θ):=by
 intro B X a2 a3 O a5 Y a7 a8 a9 Z γ δ ζ ε η θ k
 unfold group_Pick.f
 repeat' first|(with_reducible first|apply group_Check.mono|apply group_hall.mono|apply group_pick.mono|exact LeO.refl _|exact LeO.none _|refine LeO.ite ?_ ?_|refine LeO.bind ?_ (fun _=>?_))|apply group_Check.mono|apply group_hall.mono|apply group_pick.mono|exact LeO.none _|refine LeO.ite ?_ ?_|refine LeO.bind ?_ (fun _=>?_)
set_option maxHeartbeats 8000000 in
set_option maxRecDepth 100000 in
theorem group_Pick.calls (k:Nat) (B:Int) (J:Int) (O:Int) (X:Int) (Y:Int) (Z:Int) (γ:Int) (ζ :Int) (θ :Int) (η :Int) (A1:Option Addr) (c1:Nat) (l1:List (S31)) (a2:Int) (a5:Option Addr) (a6:Nat) (χ :List (S36)) (a7:Option Addr) (a8:Nat) (φ :List (S86)) (a9:Int) (aa:Int) (ab:Int) (r1:Int) (r2:Int) (w:World) (cw:Kd.C k31 w A1 l1.length l1) (cr:l1.length≤c1) (d7:Kd.C k36 w a5 χ.length χ) (de: χ.length≤a6) (df:Kd.C k86 w a7 φ.length φ) (dh: φ.length≤a8) (h:group_Pick.f k B J O X Y Z γ ζ θ η l1 a2 χ φ a9 aa ab=some (r1,r2)):
 Calls Try.prog 14 #[.agg #[.int .i64 B,.int .i64 J,.int .i64 O,.int .i64 X,.int .i64 Y,.int .i64 Z,.int .i64 γ,.int .i64 ζ,.int .i64 θ,.int .i64 η],.slice A1 l1.length c1,.int .i64 a2,.agg #[.slice a5 χ.length a6,.slice a7 φ.length a8],.agg #[.int .i64 a9,.int .i64 aa,.int .i64 ab]] w fun e w'=>e = .returned (.tuple #[.int .i64 r1,.int .i64 r2])∧Below w.heap.size w w':=by
 have cg:=Try.underlying25
 have dc:=Try.underlying50
 have ch:=Try.underlying36
 have ci:=aK cw
 have dj:=aK cr
 clear cw cr
 have bk:=aK d7
 have bu:=aK de
 clear d7 de
 have bo:=aK df
 have bv:=aK dh
 clear df dh
 have HB:=aK (Below.refl w.heap.size w)
 have H:((group_Check.f k B J O X Y Z γ ζ θ η l1 χ φ).bind fun μ =>(if μ = 0 then ((group_house.f B J O X Y Z γ ζ θ η l1).bind fun ae=>((group_hall.f k ae.1 ae.2 a9 aa ab).bind fun a0=>(if a0=true then ((group_pick.f k B J O X Y Z γ ζ θ η l1 a2 χ φ a9 aa ab).bind fun a1=>(some (a1,0))) else (some (0,210))))) else (some (0,μ))))=some (r1,r2):=h
 clear h
 obtain⟨μ,ao,H⟩:=qO H
 have A6:=aK ao
 clear ao
 by_cases c7: μ = 0
 ·rw[if_pos c7] at H
  have c7b0:(μ == 0)=true:=beq_iff_eq.mpr c7
  have c7b1:(μ != 0)=false:=bne_eq_false_iff_eq.mpr c7
  clear c7
  obtain⟨⟨a3,ac⟩,cn,H⟩:=qO H
  replace H:((group_hall.f k a3 ac a9 aa ab).bind fun a0=>(if a0=true then ((group_pick.f k B J O X Y Z γ ζ θ η l1 a2 χ φ a9 aa ab).bind fun a1=>(some (a1,0))) else (some (0,210))))=some (r1,r2):=H
  have A8:=aK cn
  clear cn
  obtain⟨a0,bw,H⟩:=qO H
  have A9:=aK bw
  clear bw
  by_cases c10:a0=true
  ·subst c10
   rw[if_pos rfl] at H
   obtain⟨a1,bd,H⟩:=qO H
   have cy:=aK bd
   clear bd
   simp only[Option.some.injEq,Prod.mk.injEq] at H
   obtain⟨rfl,rfl⟩:=H
   go_enter Try.func14,Try.ntmps14
   try go_wp2_with (first|((with_reducible refine Qe (N:=5) rfl ?_);refine qE 5 #[.int .i64 B,.int .i64 J,.int .i64 O,.int .i64 X,.int .i64 Y,.int .i64 Z,.int .i64 γ,.int .i64 ζ,.int .i64 θ,.int .i64 η] 25 ?_;intro κ hg e7 hbox hb;have δ :=aK hbox;have af:=sGe hg;have al:=sGe hg;replace HB:=sHb hb;clear hb hbox hg)|((with_reducible refine Qe (N:=8) rfl ?_);refine qE 8 #[.slice a5 χ.length a6,.slice a7 φ.length a8] 50 ?_;intro aw hg ba hbox hb;have ι :=aK hbox;have ax:=sGe hg;have b3:=sGe hg;have ν :=sNl δ hg;have ξ :=sNg δ hg;replace δ :=sBk δ hb;replace HB:=sHb hb;clear hb hbox hg)|((with_reducible refine Qe (N:=9) rfl ?_);refine qE 9 #[.int .i64 a9,.int .i64 aa,.int .i64 ab] 36 ?_;intro ω hg bz hbox hb;have ε :=aK hbox;have b4:=sGe hg;have b6:=sGe hg;have ρ:=sNl δ hg;have σ:=sNg δ hg;have τ :=sNl ι hg;have ψ :=sNg ι hg;replace δ :=sBk δ hb;replace ι :=sBk ι hb;replace HB:=sHb hb;clear hb hbox hg;have gt:= ν.out;have gu:= ξ.out;have ee:=ρ.out;have ep:=σ.out;obtain⟨ap,ar,bg,bl,bm,bp,bq,an,dq,dw,au,av,bh,br,dm,dn,dp,dz,e0,e3⟩:=Zg δ.out;have d5:= τ.out;have d6:= ψ.out;obtain⟨ag,ah,ai,aj⟩:=qD2 ι.out)|((with_reducible refine Qf (f:=17) rfl ?_);refine Qt (some 16) rfl rfl Try.func17 kr rfl #[.agg #[.int .i64 B,.int .i64 J,.int .i64 O,.int .i64 X,.int .i64 Y,.int .i64 Z,.int .i64 γ,.int .i64 ζ,.int .i64 θ,.int .i64 η],.slice A1 l1.length c1,.agg #[.slice a5 χ.length a6,.slice a7 φ.length a8]] rfl qM ?_;(with_reducible refine(group_Check.calls k B J O X Y Z γ ζ θ η _ _ l1 _ _ χ _ _ φ μ _ ?side1 ?side2 ?side3 ?side4 ?side5 ?side6 A6.out).mono ?_);(case side1=>exact(Kd.Qs ci.out HB.out));(case side2=>exact dj.out);(case side3=>exact(Kd.Qs bk.out HB.out));(case side4=>exact bu.out);(case side5=>exact(Kd.Qs bo.out HB.out));(case side6=>exact bv.out);rintro e dx ⟨rfl,hb⟩;refine⟨_,rfl, ?_⟩;replace δ :=sBk δ hb;replace ι :=sBk ι hb;replace ε :=sBk ε hb;replace HB:=sHb hb;(try clear hb);(try clear a4);(try clear hk);(try clear hi)))
   replace δ :=aK (Qd δ.out)
   replace ι :=aK (Qd ι.out)
   replace ε :=aK (Qd ε.out)
   replace HB:=aK (Qg HB.out)
   refine Ze (n:=6) (S:=fun w'=>w'.cell? ⟨κ,0,none⟩=some (.int .i64 B)∧w'.cell? ⟨κ,1,none⟩=some (.int .i64 J)∧w'.cell? ⟨κ,2,none⟩=some (.int .i64 O)∧w'.cell? ⟨κ,3,none⟩=some (.int .i64 X)∧w'.cell? ⟨κ,4,none⟩=some (.int .i64 Y)∧w'.cell? ⟨κ,5,none⟩=some (.int .i64 Z)∧w'.cell? ⟨κ,6,none⟩=some (.int .i64 γ)∧w'.cell? ⟨κ,7,none⟩=some (.int .i64 ζ)∧w'.cell? ⟨κ,8,none⟩=some (.int .i64 θ)∧w'.cell? ⟨κ,9,none⟩=some (.int .i64 η)∧w'.cell? ⟨ω,0,none⟩=some (.int .i64 a9)∧w'.cell? ⟨ω,1,none⟩=some (.int .i64 aa)∧w'.cell? ⟨ω,2,none⟩=some (.int .i64 ab)) (ds:=[]) #[false,false,false,false,false,false] kr rfl rfl ⟨(Qa δ.out 0).trans rfl,(Qa δ.out 1).trans rfl,(Qa δ.out 2).trans rfl,(Qa δ.out 3).trans rfl,(Qa δ.out 4).trans rfl,(Qa δ.out 5).trans rfl,(Qa δ.out 6).trans rfl,(Qa δ.out 7).trans rfl,(Qa δ.out 8).trans rfl,(Qa δ.out 9).trans rfl,(Qa ε.out 0).trans rfl,(Qa ε.out 1).trans rfl,(Qa ε.out 2).trans rfl⟩ (fun hHeld=>?_)
   generalize dx.drew=b2 at δ ι ε HB hHeld ⊢
   refine Xe (i:=1) (N:=some 21) (v:=?_) (a':=?_) (bN 6 2) rfl rfl kr (fun _ _ _ h=>h) (Or.inl ⟨by rfl, ?_⟩) ?_ ?_
   rotate_left
   ·intro w'
    go_simp
    with_reducible rfl
   rotate_left
   ·simp only[Act.put,qS,Za,Zb]
    rfl
   refine X2 (i:=0) (N:=some 20) (v:=?_) (a':=?_) (bN 6 3) rfl rfl kr (fun _ _ _ h=>h) (Or.inl ⟨by rfl, ?_⟩) hHeld ?_ ?_
   rotate_left
   ·rintro w' ⟨s0,s1,s2,s3,s4,s5,s6,s7,s8,s9,ak,am,b5⟩
    go_simp
    with_reducible rfl
   rotate_left
   ·simp only[Act.put,qS,Za,Zb]
    rfl
   refine X2 (i:=3) (N:=some 23) (v:=?_) (a':=?_) (bN 6 11) rfl rfl kr (fun _ _ _ h=>h) (Or.inl ⟨by rfl, ?_⟩) hHeld ?_ ?_
   rotate_left
   ·rintro w' ⟨s0,s1,s2,s3,s4,s5,s6,s7,s8,s9,ak,am,b5⟩
    go_simp
    with_reducible rfl
   rotate_left
   ·simp only[Act.put,qS,Za,Zb]
    rfl
   refine Zf (i:=2) (N:=some 22) (bN 6 15) rfl rfl kr (by decide) (fun K hK=>?_)
   refine Zd Try.func37 kr rfl #[.agg #[.int .i64 B,.int .i64 J,.int .i64 O,.int .i64 X,.int .i64 Y,.int .i64 Z,.int .i64 γ,.int .i64 ζ,.int .i64 θ,.int .i64 η],.slice A1 l1.length c1] (by rfl) rfl rfl qM ?_
   with_reducible refine(group_house.calls B J O X Y Z γ ζ θ η _ _ l1 a3 ac _ ?side1 ?side2 A8.out).mono ?_
   (case side1=>exact(Kd.Qs ci.out HB.out))
   (case side2=>exact dj.out)
   rintro e bj ⟨rfl,hb⟩
   refine⟨_,rfl, ?_⟩
   replace δ :=sBk δ hb
   replace ι :=sBk ι hb
   replace ε :=sBk ε hb
   replace HB:=sHb hb
   (try clear hb)
   (try clear a4)
   (try clear hk)
   (try clear hi)
   refine hK.out _ _ ⟨qc δ,qc δ,qc δ,qc δ,qc δ,qc δ,qc δ,qc δ,qc δ,qc δ,qc ε,qc ε,qc ε⟩ (fun hHeld=>?_)
   clear hK K
   refine qN (some 22) ?_
   refine Zf (i:=4) (N:=some 24) (bN 6 31) rfl rfl kr (by decide) (fun K hK=>?_)
   refine Zd Try.func30 kr rfl #[.agg #[.int .i64 a3,.int .i64 ac],.agg #[.int .i64 a9,.int .i64 aa,.int .i64 ab]] (by rfl) rfl rfl qM ?_
   with_reducible refine(group_hall.calls k a3 ac a9 aa ab true _ A9.out).mono ?_
   rintro e bb ⟨rfl,hb⟩
   refine⟨_,rfl, ?_⟩
   replace δ :=sBk δ hb
   replace ι :=sBk ι hb
   replace ε :=sBk ε hb
   replace HB:=sHb hb
   (try clear hb)
   (try clear a4)
   (try clear hk)
   (try clear hi)
   refine hK.out _ _ ⟨qc δ,qc δ,qc δ,qc δ,qc δ,qc δ,qc δ,qc δ,qc δ,qc δ,qc ε,qc ε,qc ε⟩ (fun hHeld=>?_)
   clear hK K
   refine qN (some 24) ?_
   refine Xe (i:=5) (N:=some 25) (v:=?_) (a':=?_) (bN 6 63) rfl rfl kr (fun _ _ _ h=>h) (Or.inl ⟨by rfl, ?_⟩) ?_ ?_
   rotate_left
   ·intro w'
    go_simp
    with_reducible rfl
   rotate_left
   ·simp only[Act.put,qS,Za,Zb]
    rfl
   refine Zi kr ?_
   obtain⟨ay,az,cd,fi,fj,fk,fl,gf,h0,h4,b0,b1,ce,fm,fn,fo,fp,h5,h6,h7⟩:=Zg δ.out
   obtain⟨d8,d9,da,db⟩:=qD2 ι.out
   obtain⟨b9,cf,dd,cj,ck,dk⟩:=qD3 ε.out
   try go_wp2_with (first|((with_reducible refine Qf (f:=38) rfl ?_);refine Qt (some 31) rfl rfl Try.func38 kr rfl #[.agg #[.int .i64 B,.int .i64 J,.int .i64 O,.int .i64 X,.int .i64 Y,.int .i64 Z,.int .i64 γ,.int .i64 ζ,.int .i64 θ,.int .i64 η],.slice A1 l1.length c1,.int .i64 a2,.agg #[.slice a5 χ.length a6,.slice a7 φ.length a8],.agg #[.int .i64 a9,.int .i64 aa,.int .i64 ab]] rfl qM ?_;(with_reducible refine(group_pick.calls k B J O X Y Z γ ζ θ η _ _ l1 a2 _ _ χ _ _ φ a9 aa ab a1 _ ?side1 ?side2 ?side3 ?side4 ?side5 ?side6 cy.out).mono ?_);(case side1=>exact(Kd.Qs ci.out HB.out));(case side2=>exact dj.out);(case side3=>exact(Kd.Qs bk.out HB.out));(case side4=>exact bu.out);(case side5=>exact(Kd.Qs bo.out HB.out));(case side6=>exact bv.out);rintro e di ⟨rfl,hb⟩;refine⟨_,rfl, ?_⟩;replace δ :=sBk δ hb;replace ι :=sBk ι hb;replace ε :=sBk ε hb;replace HB:=sHb hb;(try clear hb);(try clear a4);(try clear hk);(try clear hi)))
   go_ret2
   exact⟨rfl,HB.out⟩
  ·replace c10:=Bool.eq_false_iff.mpr c10
   subst c10
   rw[if_neg nft] at H
   simp only[Option.some.injEq,Prod.mk.injEq] at H
   obtain⟨rfl,rfl⟩:=H
   go_enter Try.func14,Try.ntmps14
   try go_wp2_with (first|((with_reducible refine Qe (N:=5) rfl ?_);refine qE 5 #[.int .i64 B,.int .i64 J,.int .i64 O,.int .i64 X,.int .i64 Y,.int .i64 Z,.int .i64 γ,.int .i64 ζ,.int .i64 θ,.int .i64 η] 25 ?_;intro κ hg du hbox hb;have δ :=aK hbox;have af:=sGe hg;have al:=sGe hg;replace HB:=sHb hb;clear hb hbox hg)|((with_reducible refine Qe (N:=8) rfl ?_);refine qE 8 #[.slice a5 χ.length a6,.slice a7 φ.length a8] 50 ?_;intro aw hg h8 hbox hb;have ι :=aK hbox;have ax:=sGe hg;have b3:=sGe hg;have ν :=sNl δ hg;have ξ :=sNg δ hg;replace δ :=sBk δ hb;replace HB:=sHb hb;clear hb hbox hg)|((with_reducible refine Qe (N:=9) rfl ?_);refine qE 9 #[.int .i64 a9,.int .i64 aa,.int .i64 ab] 36 ?_;intro ω hg e8 hbox hb;have ε :=aK hbox;have b4:=sGe hg;have b6:=sGe hg;have ρ:=sNl δ hg;have σ:=sNg δ hg;have τ :=sNl ι hg;have ψ :=sNg ι hg;replace δ :=sBk δ hb;replace ι :=sBk ι hb;replace HB:=sHb hb;clear hb hbox hg;have gb:= ν.out;have ge:= ξ.out;have dr:=ρ.out;have ez:=σ.out;obtain⟨d0,eb,fh,cm,cx,ho,hu,bc,bf,bn,ec,ed,gg,hx,hy,i0,i1,ca,cb,co⟩:=Zg δ.out;have jx:= τ.out;have jy:= ψ.out;obtain⟨gm,gn,gp,gq⟩:=qD2 ι.out)|((with_reducible refine Qf (f:=17) rfl ?_);refine Qt (some 16) rfl rfl Try.func17 kr rfl #[.agg #[.int .i64 B,.int .i64 J,.int .i64 O,.int .i64 X,.int .i64 Y,.int .i64 Z,.int .i64 γ,.int .i64 ζ,.int .i64 θ,.int .i64 η],.slice A1 l1.length c1,.agg #[.slice a5 χ.length a6,.slice a7 φ.length a8]] rfl qM ?_;(with_reducible refine(group_Check.calls k B J O X Y Z γ ζ θ η _ _ l1 _ _ χ _ _ φ μ _ ?side1 ?side2 ?side3 ?side4 ?side5 ?side6 A6.out).mono ?_);(case side1=>exact(Kd.Qs ci.out HB.out));(case side2=>exact dj.out);(case side3=>exact(Kd.Qs bk.out HB.out));(case side4=>exact bu.out);(case side5=>exact(Kd.Qs bo.out HB.out));(case side6=>exact bv.out);rintro e h9 ⟨rfl,hb⟩;refine⟨_,rfl, ?_⟩;replace δ :=sBk δ hb;replace ι :=sBk ι hb;replace ε :=sBk ε hb;replace HB:=sHb hb;(try clear hb);(try clear a4);(try clear hk);(try clear hi)))
   replace δ :=aK (Qd δ.out)
   replace ι :=aK (Qd ι.out)
   replace ε :=aK (Qd ε.out)
   replace HB:=aK (Qg HB.out)
   refine Ze (n:=6) (S:=fun w'=>w'.cell? ⟨κ,0,none⟩=some (.int .i64 B)∧w'.cell? ⟨κ,1,none⟩=some (.int .i64 J)∧w'.cell? ⟨κ,2,none⟩=some (.int .i64 O)∧w'.cell? ⟨κ,3,none⟩=some (.int .i64 X)∧w'.cell? ⟨κ,4,none⟩=some (.int .i64 Y)∧w'.cell? ⟨κ,5,none⟩=some (.int .i64 Z)∧w'.cell? ⟨κ,6,none⟩=some (.int .i64 γ)∧w'.cell? ⟨κ,7,none⟩=some (.int .i64 ζ)∧w'.cell? ⟨κ,8,none⟩=some (.int .i64 θ)∧w'.cell? ⟨κ,9,none⟩=some (.int .i64 η)∧w'.cell? ⟨ω,0,none⟩=some (.int .i64 a9)∧w'.cell? ⟨ω,1,none⟩=some (.int .i64 aa)∧w'.cell? ⟨ω,2,none⟩=some (.int .i64 ab)) (ds:=[]) #[false,false,false,false,false,false] kr rfl rfl ⟨(Qa δ.out 0).trans rfl,(Qa δ.out 1).trans rfl,(Qa δ.out 2).trans rfl,(Qa δ.out 3).trans rfl,(Qa δ.out 4).trans rfl,(Qa δ.out 5).trans rfl,(Qa δ.out 6).trans rfl,(Qa δ.out 7).trans rfl,(Qa δ.out 8).trans rfl,(Qa δ.out 9).trans rfl,(Qa ε.out 0).trans rfl,(Qa ε.out 1).trans rfl,(Qa ε.out 2).trans rfl⟩ (fun hHeld=>?_)
   generalize h9.drew=fc at δ ι ε HB hHeld ⊢
   refine Xe (i:=1) (N:=some 21) (v:=?_) (a':=?_) (bN 6 2) rfl rfl kr (fun _ _ _ h=>h) (Or.inl ⟨by rfl, ?_⟩) ?_ ?_
   rotate_left
   ·intro w'
    go_simp
    with_reducible rfl
   rotate_left
   ·simp only[Act.put,qS,Za,Zb]
    rfl
   refine X2 (i:=0) (N:=some 20) (v:=?_) (a':=?_) (bN 6 3) rfl rfl kr (fun _ _ _ h=>h) (Or.inl ⟨by rfl, ?_⟩) hHeld ?_ ?_
   rotate_left
   ·rintro w' ⟨s0,s1,s2,s3,s4,s5,s6,s7,s8,s9,ak,am,b5⟩
    go_simp
    with_reducible rfl
   rotate_left
   ·simp only[Act.put,qS,Za,Zb]
    rfl
   refine X2 (i:=3) (N:=some 23) (v:=?_) (a':=?_) (bN 6 11) rfl rfl kr (fun _ _ _ h=>h) (Or.inl ⟨by rfl, ?_⟩) hHeld ?_ ?_
   rotate_left
   ·rintro w' ⟨s0,s1,s2,s3,s4,s5,s6,s7,s8,s9,ak,am,b5⟩
    go_simp
    with_reducible rfl
   rotate_left
   ·simp only[Act.put,qS,Za,Zb]
    rfl
   refine Zf (i:=2) (N:=some 22) (bN 6 15) rfl rfl kr (by decide) (fun K hK=>?_)
   refine Zd Try.func37 kr rfl #[.agg #[.int .i64 B,.int .i64 J,.int .i64 O,.int .i64 X,.int .i64 Y,.int .i64 Z,.int .i64 γ,.int .i64 ζ,.int .i64 θ,.int .i64 η],.slice A1 l1.length c1] (by rfl) rfl rfl qM ?_
   with_reducible refine(group_house.calls B J O X Y Z γ ζ θ η _ _ l1 a3 ac _ ?side1 ?side2 A8.out).mono ?_
   (case side1=>exact(Kd.Qs ci.out HB.out))
   (case side2=>exact dj.out)
   rintro e ku ⟨rfl,hb⟩
   refine⟨_,rfl, ?_⟩
   replace δ :=sBk δ hb
   replace ι :=sBk ι hb
   replace ε :=sBk ε hb
   replace HB:=sHb hb
   (try clear hb)
   (try clear a4)
   (try clear hk)
   (try clear hi)
   refine hK.out _ _ ⟨qc δ,qc δ,qc δ,qc δ,qc δ,qc δ,qc δ,qc δ,qc δ,qc δ,qc ε,qc ε,qc ε⟩ (fun hHeld=>?_)
   clear hK K
   refine qN (some 22) ?_
   refine Zf (i:=4) (N:=some 24) (bN 6 31) rfl rfl kr (by decide) (fun K hK=>?_)
   refine Zd Try.func30 kr rfl #[.agg #[.int .i64 a3,.int .i64 ac],.agg #[.int .i64 a9,.int .i64 aa,.int .i64 ab]] (by rfl) rfl rfl qM ?_
   with_reducible refine(group_hall.calls k a3 ac a9 aa ab false _ A9.out).mono ?_
   rintro e gh ⟨rfl,hb⟩
   refine⟨_,rfl, ?_⟩
   replace δ :=sBk δ hb
   replace ι :=sBk ι hb
   replace ε :=sBk ε hb
   replace HB:=sHb hb
   (try clear hb)
   (try clear a4)
   (try clear hk)
   (try clear hi)
   refine hK.out _ _ ⟨qc δ,qc δ,qc δ,qc δ,qc δ,qc δ,qc δ,qc δ,qc δ,qc δ,qc ε,qc ε,qc ε⟩ (fun hHeld=>?_)
   clear hK K
   refine qN (some 24) ?_
   refine Xe (i:=5) (N:=some 25) (v:=?_) (a':=?_) (bN 6 63) rfl rfl kr (fun _ _ _ h=>h) (Or.inl ⟨by rfl, ?_⟩) ?_ ?_
   rotate_left
   ·intro w'
    go_simp
    with_reducible rfl
   rotate_left
   ·simp only[Act.put,qS,Za,Zb]
    rfl
   refine Zi kr ?_
   try go_wp2
   go_ret2
   exact⟨rfl,HB.out⟩
 ·rw[if_neg c7] at H
  have c7b0:(μ == 0)=false:=beq_eq_false_iff_ne.mpr c7
  have c7b1:(μ != 0)=true:=bne_iff_ne.mpr c7
  simp only[Option.some.injEq,Prod.mk.injEq] at H
  obtain⟨rfl,rfl⟩:=H
  go_enter Try.func14,Try.ntmps14
  go_wp2_with (first|((with_reducible refine Qe (N:=5) rfl ?_);refine qE 5 #[.int .i64 B,.int .i64 J,.int .i64 O,.int .i64 X,.int .i64 Y,.int .i64 Z,.int .i64 γ,.int .i64 ζ,.int .i64 θ,.int .i64 η] 25 ?_;intro κ hg kp hbox hb;have δ :=aK hbox;have af:=sGe hg;have al:=sGe hg;replace HB:=sHb hb;clear hb hbox hg)|((with_reducible refine Qe (N:=8) rfl ?_);refine qE 8 #[.slice a5 χ.length a6,.slice a7 φ.length a8] 50 ?_;intro aw hg b7 hbox hb;have ι :=aK hbox;have ax:=sGe hg;have b3:=sGe hg;have ν :=sNl δ hg;have ξ :=sNg δ hg;replace δ :=sBk δ hb;replace HB:=sHb hb;clear hb hbox hg)|((with_reducible refine Qe (N:=9) rfl ?_);refine qE 9 #[.int .i64 a9,.int .i64 aa,.int .i64 ab] 36 ?_;intro ω hg ks hbox hb;have ε :=aK hbox;have b4:=sGe hg;have b6:=sGe hg;have ρ:=sNl δ hg;have σ:=sNg δ hg;have τ :=sNl ι hg;have ψ :=sNg ι hg;replace δ :=sBk δ hb;replace ι :=sBk ι hb;replace HB:=sHb hb;clear hb hbox hg;have d2:= ν.out;have d3:= ξ.out;have k9:=ρ.out;have ka:=σ.out;obtain⟨i2,iz,jv,l6,l7,l8,l9,cz,e5,im,j4,j5,jw,lb,lc,lf,lg,kl,km,kn⟩:=Zg δ.out;have k0:= τ.out;have k3:= ψ.out;obtain⟨er,fz,ga,gv⟩:=qD2 ι.out)|((with_reducible refine Qf (f:=17) rfl ?_);refine Qt (some 16) rfl rfl Try.func17 kr rfl #[.agg #[.int .i64 B,.int .i64 J,.int .i64 O,.int .i64 X,.int .i64 Y,.int .i64 Z,.int .i64 γ,.int .i64 ζ,.int .i64 θ,.int .i64 η],.slice A1 l1.length c1,.agg #[.slice a5 χ.length a6,.slice a7 φ.length a8]] rfl qM ?_;(with_reducible refine(group_Check.calls k B J O X Y Z γ ζ θ η _ _ l1 _ _ χ _ _ φ μ _ ?side1 ?side2 ?side3 ?side4 ?side5 ?side6 A6.out).mono ?_);(case side1=>exact(Kd.Qs ci.out HB.out));(case side2=>exact dj.out);(case side3=>exact(Kd.Qs bk.out HB.out));(case side4=>exact bu.out);(case side5=>exact(Kd.Qs bo.out HB.out));(case side6=>exact bv.out);rintro e fv ⟨rfl,hb⟩;refine⟨_,rfl, ?_⟩;replace δ :=sBk δ hb;replace ι :=sBk ι hb;replace ε :=sBk ε hb;replace HB:=sHb hb;(try clear hb);(try clear a4);(try clear hk);(try clear hi)))
  go_ret2
  exact⟨rfl,HB.out⟩
mutual
def group_Spread.l0:Nat→List (S31)→Int→Int→Int→Int→Int→Int→Int→Int→Int→Int→Int→Int→Int→List (S36)→List (S86)→Option ((List (S36))×(List (S86))×Int)
 |0,_,_,_,_,_,_,_,_,_,_,_,_,_,_,_,_=>none
 |k+1,J,X,ν,μ,Y,Z,γ,δ,ε,ζ,η,θ,ι,κ,B,O=>if μ < ν then (if 0 ≤ μ then (if μ < (B.length:Int) then (if ((Qc B μ).f2)≥0 then (if 0≤((Qc B μ).f2) then (if (Go.bits .and .i64 (shr .i64 X ((Qc B μ).f2)) 1)=1 then (group_Spread.l0 k J X ν (wrap64 (μ + 1)) Y Z γ δ ε ζ η θ ι κ (B.set (μ :Int).toNat (⟨(Qc B μ).f0,(Qc B μ).f1,(-1)⟩:S36)) O) else (group_Spread.l0 k J X ν (wrap64 (μ + 1)) Y Z γ δ ε ζ η θ ι κ B O)) else (none)) else (group_Spread.l0 k J X ν (wrap64 (μ + 1)) Y Z γ δ ε ζ η θ ι κ B O)) else (none)) else (none)) else (group_Spread.l1 k J X (B.length:Int) 0 Y Z γ δ ε ζ η θ ι κ B O)
def group_Spread.l1:Nat→List (S31)→Int→Int→Int→Int→Int→Int→Int→Int→Int→Int→Int→Int→Int→List (S36)→List (S86)→Option ((List (S36))×(List (S86))×Int)
 |0,_,_,_,_,_,_,_,_,_,_,_,_,_,_,_,_=>none
 |k+1,J,X,ν,μ,Y,Z,γ,δ,ε,ζ,η,θ,ι,κ,B,O=>if μ < ν then (if 0 ≤ μ then (if μ < (B.length:Int) then (if ((Qc B μ).f2)<0 then ((group_pick.f k Y Z γ δ ε ζ η θ ι κ J X B O ((Qc B μ).f0) ((Qc B μ).f1) ((Qc B μ).f2)).bind fun dm=>(group_Spread.l1 k J X ν (wrap64 (μ + 1)) Y Z γ δ ε ζ η θ ι κ (B.set (μ :Int).toNat (⟨(Qc B μ).f0,(Qc B μ).f1,dm⟩:S36)) O)) else (group_Spread.l1 k J X ν (wrap64 (μ + 1)) Y Z γ δ ε ζ η θ ι κ B O)) else (none)) else (none)) else (some (B,O,0))
end
def group_Spread.f (k:Nat) (B:Int) (J:Int) (O:Int) (X:Int) (Y:Int) (Z:Int) (γ:Int) (ζ :Int) (θ :Int) (η :Int) (l1:List (S31)) (a2:Int) (χ :List (S36)) (φ :List (S86)):Option ((List (S36))×(List (S86))×Int):=(group_Check.f k B J O X Y Z γ ζ θ η l1 χ φ).bind fun au=>(if au=0 then ((some (([]:List (S36)):List (S36))).bind fun cu=>(if cu.length + χ.length<5864062014805 then ((some (cu ++ χ :List (S36))).bind fun b4=>((some (([]:List (S86)):List (S86))).bind fun bm=>(if bm.length + φ.length<8796093022208 then (group_Spread.l0 k l1 a2 (b4.length:Int) 0 B J O X Y Z γ ζ θ η b4 (bm ++ φ)) else (none)))) else (none))) else (some (([]:List (S36)),([]:List (S86)),au)))
theorem group_Spread.Zu:∀ k,(∀ O Y Z B X y5 y6 y7 y8 y9 γ δ ζ η θ ι,LeO (group_Spread.l0 k O Y Z B X y5 y6 y7 y8 y9 γ δ ζ η θ ι) (group_Spread.l0 (k+1) O Y Z B X y5 y6 y7 y8 y9 γ δ ζ η θ ι))∧(∀ O Y Z B X y5 y6 y7 y8 y9 γ δ ζ η θ ι,LeO (group_Spread.l1 k O Y Z B X y5 y6 y7 y8 y9 γ δ ζ η θ ι) (group_Spread.l1 (k+1) O Y Z B X y5 y6 y7 y8 y9 γ δ ζ η θ ι))
 |0=>⟨fun _ _ _ _ _ _ _ _ _ _ _ _ _ _ _ _ r h=>by simp[group_Spread.l0] at h,fun _ _ _ _ _ _ _ _ _ _ _ _ _ _ _ _ r h=>by simp[group_Spread.l1] at h⟩
 |k+1=>by
  obtain⟨J,ε⟩:=group_Spread.Zu k
  refine⟨?_, ?_⟩
  ·intro O Y Z B X y5 y6 y7 y8 y9 γ δ ζ η θ ι
   unfold group_Spread.l0
   repeat' first|(with_reducible first|apply J|apply ε |apply group_Check.mono|apply group_pick.mono|exact LeO.refl _|exact LeO.none _|refine LeO.ite ?_ ?_|refine LeO.bind ?_ (fun _=>?_))|apply J|apply ε |apply group_Check.mono|apply group_pick.mono|exact LeO.none _|refine LeO.ite ?_ ?_|refine LeO.bind ?_ (fun _=>?_)
  ·intro O Y Z B X y5 y6 y7 y8 y9 γ δ ζ η θ ι
   unfold group_Spread.l1
   repeat' first|(with_reducible first|apply J|apply ε |apply group_Check.mono|apply group_pick.mono|exact LeO.refl _|exact LeO.none _|refine LeO.ite ?_ ?_|refine LeO.bind ?_ (fun _=>?_))|apply J|apply ε |apply group_Check.mono|apply group_pick.mono|exact LeO.none _|refine LeO.ite ?_ ?_|refine LeO.bind ?_ (fun _=>?_)
theorem group_Spread.mono:∀ B X a2 a3 O a5 Y a7 a8 a9 Z γ δ ζ k,LeO (group_Spread.f k B X a2 a3 O a5 Y a7 a8 a9 Z γ δ ζ) (group_Spread.f (k+1) B X a2 a3 O a5 Y a7 a8 a9 Z γ δ ζ):=by
 intro B X a2 a3 O a5 Y a7 a8 a9 Z γ δ ζ k
 obtain⟨J,ε⟩:=group_Spread.Zu k
 unfold group_Spread.f
 repeat' first|(with_reducible first|apply J|apply ε |apply group_Check.mono|apply group_pick.mono|exact LeO.refl _|exact LeO.none _|refine LeO.ite ?_ ?_|refine LeO.bind ?_ (fun _=>?_))|apply J|apply ε |apply group_Check.mono|apply group_pick.mono|exact LeO.none _|refine LeO.ite ?_ ?_|refine LeO.bind ?_ (fun _=>?_)
def group_Spread.T4:Bool×List (List Nat×List Nat):=(true,[([],[]),([],[]),([1],[1]),([0,2],[0,2]),([],[]),([],[]),([5],[5]),([4,6,3],[4,6]),([3,7],[3,7]),([],[]),([9,8,7,0,1,2,3,4,5,6,7,8,9],[8,9])])
def group_Spread.B4:List Nat:=[0,0,2,7,0,0,32,127,255,0,1023]
theorem group_Spread.Gv:rtab .any (opsOf Try.f21 4)=group_Spread.T4:=by kernel_rfl
theorem group_Spread.Jz:Zk group_Spread.T4.2 group_Spread.B4=true:=by kernel_rfl
def group_Spread.T15:Bool×List (List Nat×List Nat):=(true,[([],[]),([0],[0]),([],[]),([],[]),([],[]),([],[]),([],[]),([],[]),([3,4,5,6,7],[3,4,5,6,7]),([1,2,0,1,2,3,4,5,6,7,8],[1,2]),([9,0,1,2,3,4,5,6,7,8],[9]),([10,8,8,0,1,2,3,4,5,6,7,8],[8,10])])
def group_Spread.B15:List Nat:=[0,1,0,0,0,0,0,0,248,511,1023,2047]
theorem group_Spread.tab15:rtab .any (opsOf Try.f21 15)=group_Spread.T15:=by kernel_rfl
theorem group_Spread.Ci:Zk group_Spread.T15.2 group_Spread.B15=true:=by kernel_rfl
set_option maxHeartbeats 8000000 in
set_option maxRecDepth 100000 in
theorem group_Spread.calls (k:Nat) (B:Int) (J:Int) (O:Int) (X:Int) (Y:Int) (Z:Int) (γ:Int) (ζ :Int) (θ :Int) (η :Int) (A1:Option Addr) (c1:Nat) (l1:List (S31)) (a2:Int) (a5:Option Addr) (a6:Nat) (χ :List (S36)) (a7:Option Addr) (a8:Nat) (φ :List (S86)) (r1:List (S36)) (r2:List (S86)) (r3:Int) (w:World) (cw:Kd.C k31 w A1 l1.length l1) (cr:l1.length≤c1) (d7:Kd.C k36 w a5 χ.length χ) (de: χ.length≤a6) (df:Kd.C k86 w a7 φ.length φ) (dh: φ.length≤a8) (h:group_Spread.f k B J O X Y Z γ ζ θ η l1 a2 χ φ = some (r1,r2,r3)):
 Calls Try.prog 21 #[.agg #[.int .i64 B,.int .i64 J,.int .i64 O,.int .i64 X,.int .i64 Y,.int .i64 Z,.int .i64 γ,.int .i64 ζ,.int .i64 θ,.int .i64 η],.slice A1 l1.length c1,.int .i64 a2,.agg #[.slice a5 χ.length a6,.slice a7 φ.length a8]] w fun e w'=>∃ b8 dv:Value,e = .returned (.tuple #[.agg #[b8,dv],.int .i64 r3])∧Kd.R k36 36 w' w.heap.size (fun _=>True) b8 r1∧Kd.R k86 86 w' w.heap.size (fun _=>True) dv r2∧Below w.heap.size w w':=by
 have cg:=Try.underlying25
 have dc:=Try.underlying50
 have ch:=Try.underlying36
 have ci:=aK cw
 have dj:=aK cr
 clear cw cr
 have bk:=aK d7
 have bu:=aK de
 clear d7 de
 have bo:=aK df
 have bv:=aK dh
 clear df dh
 have HB:=aK (Below.refl w.heap.size w)
 have H:((group_Check.f k B J O X Y Z γ ζ θ η l1 χ φ).bind fun au=>(if au=0 then ((some (([]:List (S36)):List (S36))).bind fun cu=>(if cu.length + χ.length<5864062014805 then ((some (cu ++ χ :List (S36))).bind fun b4=>((some (([]:List (S86)):List (S86))).bind fun bm=>(if bm.length + φ.length<8796093022208 then (group_Spread.l0 k l1 a2 (b4.length:Int) 0 B J O X Y Z γ ζ θ η b4 (bm ++ φ)) else (none)))) else (none))) else (some (([]:List (S36)),([]:List (S86)),au))))=some (r1,r2,r3):=h
 clear h
 obtain⟨au,bc,H⟩:=qO H
 have A5:=aK bc
 clear bc
 by_cases c6:au=0
 ·rw[if_pos c6] at H
  have c6b0:(au==0)=true:=beq_iff_eq.mpr c6
  have c6b1:(au != 0)=false:=bne_eq_false_iff_eq.mpr c6
  clear c6
  obtain⟨cu,gv⟩:∃ y_:List (S36),y_=(([]:List (S36))):=⟨_,rfl⟩
  replace H:(if cu.length + χ.length<5864062014805 then ((some (cu ++ χ :List (S36))).bind fun b4=>((some (([]:List (S86)):List (S86))).bind fun bm=>(if bm.length + φ.length<8796093022208 then (group_Spread.l0 k l1 a2 (b4.length:Int) 0 B J O X Y Z γ ζ θ η b4 (bm ++ φ)) else (none)))) else (none))=some (r1,r2,r3):=by first|(rw[gv];with_reducible exact H)|(have al:=(Option.bind_some _ _).symm.trans H;rw[gv];with_reducible exact al)|(have al:=(Option.bind_some _ _).symm.trans H;with_reducible exact al)|with_reducible exact H|(rw[gv];exact H)|exact H
  have fe:=aK gv
  clear gv
  by_cases c7:cu.length + χ.length<5864062014805
  ·rw[if_pos c7] at H
   have jv:=aK c7
   clear c7
   obtain⟨b4,gw⟩:∃ y_:List (S36),y_=(cu ++ χ):=⟨_,rfl⟩
   replace H:((some (([]:List (S86)):List (S86))).bind fun bm=>(if bm.length + φ.length<8796093022208 then (group_Spread.l0 k l1 a2 (b4.length:Int) 0 B J O X Y Z γ ζ θ η b4 (bm ++ φ)) else (none)))=some (r1,r2,r3):=by first|(rw[gw];with_reducible exact H)|(have al:=(Option.bind_some _ _).symm.trans H;rw[gw];with_reducible exact al)|(have al:=(Option.bind_some _ _).symm.trans H;with_reducible exact al)|with_reducible exact H|(rw[gw];exact H)|exact H
   have i5:=aK gw
   clear gw
   obtain⟨bm,gz⟩:∃ y_:List (S86),y_=(([]:List (S86))):=⟨_,rfl⟩
   replace H:(if bm.length + φ.length<8796093022208 then (group_Spread.l0 k l1 a2 (b4.length:Int) 0 B J O X Y Z γ ζ θ η b4 (bm ++ φ)) else (none))=some (r1,r2,r3):=by first|(rw[gz];with_reducible exact H)|(have al:=(Option.bind_some _ _).symm.trans H;rw[gz];with_reducible exact al)|(have al:=(Option.bind_some _ _).symm.trans H;with_reducible exact al)|with_reducible exact H|(rw[gz];exact H)|exact H
   have dw:=aK gz
   clear gz
   by_cases c8:bm.length + φ.length<8796093022208
   ·rw[if_pos c8] at H
    have n2:=aK c8
    clear c8
    obtain⟨bl,h0⟩:∃ y_:List (S86),y_=(bm ++ φ):=⟨_,rfl⟩
    replace H:(group_Spread.l0 k l1 a2 (b4.length:Int) 0 B J O X Y Z γ ζ θ η b4 bl)=some (r1,r2,r3):=by first|(rw[h0];with_reducible exact H)|(have al:=(Option.bind_some _ _).symm.trans H;rw[h0];with_reducible exact al)|(have al:=(Option.bind_some _ _).symm.trans H;with_reducible exact al)|with_reducible exact H|(rw[h0];exact H)|exact H
    have lv:=aK h0
    clear h0
    have H':=aK H
    clear H
    go_enter Try.func21,Try.ntmps21
    try go_wp2_with (first|((with_reducible refine Qe (N:=4) rfl ?_);refine qE 4 #[.int .i64 B,.int .i64 J,.int .i64 O,.int .i64 X,.int .i64 Y,.int .i64 Z,.int .i64 γ,.int .i64 ζ,.int .i64 θ,.int .i64 η] 25 ?_;intro aa hg w9 hbox hb;have ε :=aK hbox;have kv:=sGe hg;have ju:=sGe hg;replace HB:=sHb hb;clear hb hbox hg)|((with_reducible refine Qe (N:=7) rfl ?_);refine qE 7 #[.slice a5 χ.length a6,.slice a7 φ.length a8] 50 ?_;intro ν hg fj hbox hb;have δ :=aK hbox;have o9:=sGe hg;have oa:=sGe hg;have fn:=sNl ε hg;have fo:=sNg ε hg;replace ε :=sBk ε hb;replace HB:=sHb hb;clear hb hbox hg)|((with_reducible refine Qe (N:=8) rfl ?_);refine qE 8 #[.slice none 0 0,.slice none 0 0] 50 ?_;intro ai hg d4 hbox hb;have ι :=aK hbox;have ob:=sGe hg;have oc:=sGe hg;have ff:=sNl ε hg;have fg:=sNg ε hg;have fh:=sNl δ hg;have fi:=sNg δ hg;replace ε :=sBk ε hb;replace δ :=sBk δ hb;replace HB:=sHb hb;clear hb hbox hg;have ev:=fn.out;have f7:=fo.out;have gp:=ff.out;have gq:=fg.out;obtain⟨bw,bz,d5,ef,eg,eh,ei,gg,he,hu,ca,cb,d6,ej,ek,el,em,gh,hx,hy⟩:=Zg ε.out;have gt:=fh.out;have gu:=fi.out;obtain⟨cx,cy,cz,d0⟩:=qD2 δ.out)|((with_reducible refine Qf (f:=17) rfl ?_);refine Qt (some 19) rfl rfl Try.func17 kr rfl #[.agg #[.int .i64 B,.int .i64 J,.int .i64 O,.int .i64 X,.int .i64 Y,.int .i64 Z,.int .i64 γ,.int .i64 ζ,.int .i64 θ,.int .i64 η],.slice A1 l1.length c1,.agg #[.slice a5 χ.length a6,.slice a7 φ.length a8]] rfl qM ?_;(with_reducible refine(group_Check.calls k B J O X Y Z γ ζ θ η _ _ l1 _ _ χ _ _ φ au _ ?side1 ?side2 ?side3 ?side4 ?side5 ?side6 A5.out).mono ?_);(case side1=>exact(Kd.Qs ci.out HB.out));(case side2=>exact dj.out);(case side3=>exact(Kd.Qs bk.out HB.out));(case side4=>exact bu.out);(case side5=>exact(Kd.Qs bo.out HB.out));(case side6=>exact bv.out);rintro e d1 ⟨rfl,hb⟩;refine⟨_,rfl, ?_⟩;replace ε :=sBk ε hb;replace δ :=sBk δ hb;replace ι :=sBk ι hb;replace HB:=sHb hb;(try clear hb);(try clear a4);(try clear hk);(try clear hi)))
    replace ε :=aK (Qd ε.out)
    replace δ :=aK (Qd δ.out)
    replace ι :=aK (Qd ι.out)
    replace HB:=aK (Qg HB.out)
    refine Ze (n:=11) (S:=fun w'=>w'.cell? ⟨ν,0,none⟩=some (.slice a5 χ.length a6)∧w'.cell? ⟨ν,1,none⟩=some (.slice a7 φ.length a8)) (ds:=[]) #[false,false,false,false,false,false,false,false,false,false,false] kr rfl rfl ⟨(Qa δ.out 0).trans rfl,(Qa δ.out 1).trans rfl⟩ (fun hHeld=>?_);refine Q5 group_Spread.Gv group_Spread.Jz (fun HT_ HW_=>?_)
    generalize d1.drew=ft at ε δ ι HB hHeld ⊢
    refine qP 1 (some 25) (bN 11 2) HT_ ?_
    refine qP 5 (some 29) (bN 11 34) HT_ ?_
    refine qT 2 (some 26) (bN 11 38) HT_ HW_ hHeld ?_
    refine qT 6 (some 30) (bN 11 102) HT_ HW_ hHeld ?_
    refine Yu (σ:=Value×Value×Value×Value×Nat) 1 (bN 11 1023) (fun s_=>[(24,s_.1),(27,s_.2.1),(28,s_.2.2.1),(31,s_.2.2.2.1),(11,.pointer (some ⟨s_.2.2.2.2,0,none⟩)),(32,.agg #[s_.2.1,s_.2.2.2.1])]) (fun s_ w'=>(w'.cell? ⟨ν,0,none⟩=some (.slice a5 χ.length a6)∧w'.cell? ⟨ν,1,none⟩=some (.slice a7 φ.length a8))∧(Kd.R k36 36 w' w.heap.size (fun _=>True) s_.2.1 b4)∧(Kd.R k86 86 w' w.heap.size (fun _=>True) s_.2.2.2.1 bl)∧(w'.heap[aa]?=some (.cells #[.int .i64 B,.int .i64 J,.int .i64 O,.int .i64 X,.int .i64 Y,.int .i64 Z,.int .i64 γ,.int .i64 ζ,.int .i64 θ,.int .i64 η] 25 (0,0)))∧(w'.heap[ν]?=some (.cells #[.slice a5 χ.length a6,.slice a7 φ.length a8] 50 (0,0)))∧(w'.heap[ai]?=some (.cells #[.slice none 0 0,.slice none 0 0] 50 (0,0)))∧(w'.heap[s_.2.2.2.2]?=some (.cells #[.slice none 0 0,.slice none 0 0] 50 (0,0)))∧(w.heap.size≤s_.2.2.2.2)∧(w.heap.size≤s_.2.2.2.2)∧(aa≠s_.2.2.2.2)∧(s_.2.2.2.2≠aa)∧(ν ≠ s_.2.2.2.2)∧(s_.2.2.2.2 ≠ ν)∧(ai≠s_.2.2.2.2)∧(s_.2.2.2.2≠ai)∧(Below w.heap.size w w')) ?_ ?_
    rotate_left
    ·intro gi
     refine Yu (σ:=Value×Value×Value×Value) 2 (bN 11 511) (fun s_=>[(24,s_.1),(27,s_.2.1),(28,s_.2.2.1),(31,s_.2.2.2),(32,.agg #[s_.2.1,s_.2.2.2])]) (fun s_ w'=>(w'.cell? ⟨ν,0,none⟩=some (.slice a5 χ.length a6)∧w'.cell? ⟨ν,1,none⟩=some (.slice a7 φ.length a8))∧(Kd.R k36 36 w' w.heap.size (fun _=>True) s_.2.1 b4)∧(Kd.R k86 86 w' w.heap.size (fun _=>True) s_.2.2.2 bl)∧(w'.heap[aa]?=some (.cells #[.int .i64 B,.int .i64 J,.int .i64 O,.int .i64 X,.int .i64 Y,.int .i64 Z,.int .i64 γ,.int .i64 ζ,.int .i64 θ,.int .i64 η] 25 (0,0)))∧(w'.heap[ν]?=some (.cells #[.slice a5 χ.length a6,.slice a7 φ.length a8] 50 (0,0)))∧(w'.heap[ai]?=some (.cells #[.slice none 0 0,.slice none 0 0] 50 (0,0)))∧(Below w.heap.size w w')) ?_ ?_
     rotate_left
     ·intro k5
      refine Yu (σ:=Value×Value×Value×Nat) 3 (bN 11 639) (fun s_=>[(24,s_.1),(27,s_.2.1),(28,s_.2.2.1),(11,.pointer (some ⟨s_.2.2.2,0,none⟩))]) (fun s_ w'=>(w'.cell? ⟨ν,0,none⟩=some (.slice a5 χ.length a6)∧w'.cell? ⟨ν,1,none⟩=some (.slice a7 φ.length a8))∧(Kd.R k36 36 w' w.heap.size (fun _=>True) s_.2.1 b4)∧(Kd.R k86 86 w' w.heap.size (fun _=>True) s_.2.2.1 bm)∧(w'.heap[aa]?=some (.cells #[.int .i64 B,.int .i64 J,.int .i64 O,.int .i64 X,.int .i64 Y,.int .i64 Z,.int .i64 γ,.int .i64 ζ,.int .i64 θ,.int .i64 η] 25 (0,0)))∧(w'.heap[ν]?=some (.cells #[.slice a5 χ.length a6,.slice a7 φ.length a8] 50 (0,0)))∧(w'.heap[ai]?=some (.cells #[.slice none 0 0,.slice none 0 0] 50 (0,0)))∧(w'.heap[s_.2.2.2]?=some (.cells #[.slice none 0 0,.slice none 0 0] 50 (0,0)))∧(w.heap.size≤s_.2.2.2)∧(w.heap.size≤s_.2.2.2)∧(aa≠s_.2.2.2)∧(s_.2.2.2≠aa)∧(ν ≠ s_.2.2.2)∧(s_.2.2.2 ≠ ν)∧(ai≠s_.2.2.2)∧(s_.2.2.2≠ai)∧(Below w.heap.size w w')) ?_ ?_
      rotate_left
      ·intro fp
       refine Yu (σ:=Value×Value×Value) 4 (bN 11 127) (fun s_=>[(24,s_.1),(27,s_.2.1),(28,s_.2.2)]) (fun s_ w'=>(w'.cell? ⟨ν,0,none⟩=some (.slice a5 χ.length a6)∧w'.cell? ⟨ν,1,none⟩=some (.slice a7 φ.length a8))∧(Kd.R k36 36 w' w.heap.size (fun _=>True) s_.2.1 b4)∧(Kd.R k86 86 w' w.heap.size (fun _=>True) s_.2.2 bm)∧(w'.heap[aa]?=some (.cells #[.int .i64 B,.int .i64 J,.int .i64 O,.int .i64 X,.int .i64 Y,.int .i64 Z,.int .i64 γ,.int .i64 ζ,.int .i64 θ,.int .i64 η] 25 (0,0)))∧(w'.heap[ν]?=some (.cells #[.slice a5 χ.length a6,.slice a7 φ.length a8] 50 (0,0)))∧(w'.heap[ai]?=some (.cells #[.slice none 0 0,.slice none 0 0] 50 (0,0)))∧(Below w.heap.size w w')) ?_ ?_
       rotate_left
       ·intro jr
        refine Yu (σ:=Value×Value×Nat) 4 (bN 11 623) (fun s_=>[(24,s_.1),(27,s_.2.1),(11,.pointer (some ⟨s_.2.2,0,none⟩))]) (fun s_ w'=>(w'.cell? ⟨ν,0,none⟩=some (.slice a5 χ.length a6)∧w'.cell? ⟨ν,1,none⟩=some (.slice a7 φ.length a8))∧(Kd.R k36 36 w' w.heap.size (fun _=>True) s_.2.1 b4)∧(w'.heap[aa]?=some (.cells #[.int .i64 B,.int .i64 J,.int .i64 O,.int .i64 X,.int .i64 Y,.int .i64 Z,.int .i64 γ,.int .i64 ζ,.int .i64 θ,.int .i64 η] 25 (0,0)))∧(w'.heap[ν]?=some (.cells #[.slice a5 χ.length a6,.slice a7 φ.length a8] 50 (0,0)))∧(w'.heap[ai]?=some (.cells #[.slice none 0 0,.slice none 0 0] 50 (0,0)))∧(w'.heap[s_.2.2]?=some (.cells #[.slice none 0 0,.slice none 0 0] 50 (0,0)))∧(w.heap.size≤s_.2.2)∧(w.heap.size≤s_.2.2)∧(aa≠s_.2.2)∧(s_.2.2≠aa)∧(ν ≠ s_.2.2)∧(s_.2.2 ≠ ν)∧(ai≠s_.2.2)∧(s_.2.2≠ai)∧(Below w.heap.size w w')) ?_ ?_
        rotate_left
        ·intro js
         refine Yu (σ:=Value×Value×Nat) 4 (bN 11 631) (fun s_=>[(24,s_.1),(28,s_.2.1),(11,.pointer (some ⟨s_.2.2,0,none⟩))]) (fun s_ w'=>(w'.cell? ⟨ν,0,none⟩=some (.slice a5 χ.length a6)∧w'.cell? ⟨ν,1,none⟩=some (.slice a7 φ.length a8))∧(Kd.R k36 36 w' w.heap.size (fun _=>True) s_.1 cu)∧(Kd.R k86 86 w' w.heap.size (fun _=>True) s_.2.1 bm)∧(w'.heap[aa]?=some (.cells #[.int .i64 B,.int .i64 J,.int .i64 O,.int .i64 X,.int .i64 Y,.int .i64 Z,.int .i64 γ,.int .i64 ζ,.int .i64 θ,.int .i64 η] 25 (0,0)))∧(w'.heap[ν]?=some (.cells #[.slice a5 χ.length a6,.slice a7 φ.length a8] 50 (0,0)))∧(w'.heap[ai]?=some (.cells #[.slice none 0 0,.slice none 0 0] 50 (0,0)))∧(w'.heap[s_.2.2]?=some (.cells #[.slice none 0 0,.slice none 0 0] 50 (0,0)))∧(w.heap.size≤s_.2.2)∧(w.heap.size≤s_.2.2)∧(aa≠s_.2.2)∧(s_.2.2≠aa)∧(ν ≠ s_.2.2)∧(s_.2.2 ≠ ν)∧(ai≠s_.2.2)∧(s_.2.2≠ai)∧(Below w.heap.size w w')) ?_ ?_
         rotate_left
         ·intro i0
          refine Yu (σ:=Value×Value) 5 (bN 11 111) (fun s_=>[(24,s_.1),(27,s_.2)]) (fun s_ w'=>(w'.cell? ⟨ν,0,none⟩=some (.slice a5 χ.length a6)∧w'.cell? ⟨ν,1,none⟩=some (.slice a7 φ.length a8))∧(Kd.R k36 36 w' w.heap.size (fun _=>True) s_.2 b4)∧(w'.heap[aa]?=some (.cells #[.int .i64 B,.int .i64 J,.int .i64 O,.int .i64 X,.int .i64 Y,.int .i64 Z,.int .i64 γ,.int .i64 ζ,.int .i64 θ,.int .i64 η] 25 (0,0)))∧(w'.heap[ν]?=some (.cells #[.slice a5 χ.length a6,.slice a7 φ.length a8] 50 (0,0)))∧(w'.heap[ai]?=some (.cells #[.slice none 0 0,.slice none 0 0] 50 (0,0)))∧(Below w.heap.size w w')) ?_ ?_
          rotate_left
          ·intro od
           refine Yu (σ:=Value×Value) 5 (bN 11 119) (fun s_=>[(24,s_.1),(28,s_.2)]) (fun s_ w'=>(w'.cell? ⟨ν,0,none⟩=some (.slice a5 χ.length a6)∧w'.cell? ⟨ν,1,none⟩=some (.slice a7 φ.length a8))∧(Kd.R k36 36 w' w.heap.size (fun _=>True) s_.1 cu)∧(Kd.R k86 86 w' w.heap.size (fun _=>True) s_.2 bm)∧(w'.heap[aa]?=some (.cells #[.int .i64 B,.int .i64 J,.int .i64 O,.int .i64 X,.int .i64 Y,.int .i64 Z,.int .i64 γ,.int .i64 ζ,.int .i64 θ,.int .i64 η] 25 (0,0)))∧(w'.heap[ν]?=some (.cells #[.slice a5 χ.length a6,.slice a7 φ.length a8] 50 (0,0)))∧(w'.heap[ai]?=some (.cells #[.slice none 0 0,.slice none 0 0] 50 (0,0)))∧(Below w.heap.size w w')) ?_ ?_
           rotate_left
           ·intro lw
            refine Yu (σ:=Value×Nat) 5 (bN 11 615) (fun s_=>[(24,s_.1),(11,.pointer (some ⟨s_.2,0,none⟩))]) (fun s_ w'=>(w'.cell? ⟨ν,0,none⟩=some (.slice a5 χ.length a6)∧w'.cell? ⟨ν,1,none⟩=some (.slice a7 φ.length a8))∧(Kd.R k36 36 w' w.heap.size (fun _=>True) s_.1 cu)∧(w'.heap[aa]?=some (.cells #[.int .i64 B,.int .i64 J,.int .i64 O,.int .i64 X,.int .i64 Y,.int .i64 Z,.int .i64 γ,.int .i64 ζ,.int .i64 θ,.int .i64 η] 25 (0,0)))∧(w'.heap[ν]?=some (.cells #[.slice a5 χ.length a6,.slice a7 φ.length a8] 50 (0,0)))∧(w'.heap[ai]?=some (.cells #[.slice none 0 0,.slice none 0 0] 50 (0,0)))∧(w'.heap[s_.2]?=some (.cells #[.slice none 0 0,.slice none 0 0] 50 (0,0)))∧(w.heap.size≤s_.2)∧(w.heap.size≤s_.2)∧(aa≠s_.2)∧(s_.2≠aa)∧(ν ≠ s_.2)∧(s_.2 ≠ ν)∧(ai≠s_.2)∧(s_.2≠ai)∧(Below w.heap.size w w')) ?_ ?_
            rotate_left
            ·intro lx
             refine Yu (σ:=Value×Nat) 5 (bN 11 630) (fun s_=>[(28,s_.1),(11,.pointer (some ⟨s_.2,0,none⟩))]) (fun s_ w'=>(w'.cell? ⟨ν,0,none⟩=some (.slice a5 χ.length a6)∧w'.cell? ⟨ν,1,none⟩=some (.slice a7 φ.length a8))∧(Kd.R k86 86 w' w.heap.size (fun _=>True) s_.1 bm)∧(w'.heap[aa]?=some (.cells #[.int .i64 B,.int .i64 J,.int .i64 O,.int .i64 X,.int .i64 Y,.int .i64 Z,.int .i64 γ,.int .i64 ζ,.int .i64 θ,.int .i64 η] 25 (0,0)))∧(w'.heap[ν]?=some (.cells #[.slice a5 χ.length a6,.slice a7 φ.length a8] 50 (0,0)))∧(w'.heap[ai]?=some (.cells #[.slice none 0 0,.slice none 0 0] 50 (0,0)))∧(w'.heap[s_.2]?=some (.cells #[.slice none 0 0,.slice none 0 0] 50 (0,0)))∧(w.heap.size≤s_.2)∧(w.heap.size≤s_.2)∧(aa≠s_.2)∧(s_.2≠aa)∧(ν ≠ s_.2)∧(s_.2 ≠ ν)∧(ai≠s_.2)∧(s_.2≠ai)∧(Below w.heap.size w w')) ?_ ?_
             rotate_left
             ·intro ly
              refine Yu (σ:=Value) 6 (bN 11 103) (fun s_=>[(24,s_)]) (fun s_ w'=>(w'.cell? ⟨ν,0,none⟩=some (.slice a5 χ.length a6)∧w'.cell? ⟨ν,1,none⟩=some (.slice a7 φ.length a8))∧(Kd.R k36 36 w' w.heap.size (fun _=>True) s_ cu)∧(w'.heap[aa]?=some (.cells #[.int .i64 B,.int .i64 J,.int .i64 O,.int .i64 X,.int .i64 Y,.int .i64 Z,.int .i64 γ,.int .i64 ζ,.int .i64 θ,.int .i64 η] 25 (0,0)))∧(w'.heap[ν]?=some (.cells #[.slice a5 χ.length a6,.slice a7 φ.length a8] 50 (0,0)))∧(w'.heap[ai]?=some (.cells #[.slice none 0 0,.slice none 0 0] 50 (0,0)))∧(Below w.heap.size w w')) ?_ ?_
              rotate_left
              ·intro qy
               refine Yu (σ:=Value) 6 (bN 11 118) (fun s_=>[(28,s_)]) (fun s_ w'=>(w'.cell? ⟨ν,0,none⟩=some (.slice a5 χ.length a6)∧w'.cell? ⟨ν,1,none⟩=some (.slice a7 φ.length a8))∧(Kd.R k86 86 w' w.heap.size (fun _=>True) s_ bm)∧(w'.heap[aa]?=some (.cells #[.int .i64 B,.int .i64 J,.int .i64 O,.int .i64 X,.int .i64 Y,.int .i64 Z,.int .i64 γ,.int .i64 ζ,.int .i64 θ,.int .i64 η] 25 (0,0)))∧(w'.heap[ν]?=some (.cells #[.slice a5 χ.length a6,.slice a7 φ.length a8] 50 (0,0)))∧(w'.heap[ai]?=some (.cells #[.slice none 0 0,.slice none 0 0] 50 (0,0)))∧(Below w.heap.size w w')) ?_ ?_
               rotate_left
               ·intro qz
                refine Yu (σ:=Nat) 6 (bN 11 614) (fun s_=>[(11,.pointer (some ⟨s_,0,none⟩))]) (fun s_ w'=>(w'.cell? ⟨ν,0,none⟩=some (.slice a5 χ.length a6)∧w'.cell? ⟨ν,1,none⟩=some (.slice a7 φ.length a8))∧(w'.heap[aa]?=some (.cells #[.int .i64 B,.int .i64 J,.int .i64 O,.int .i64 X,.int .i64 Y,.int .i64 Z,.int .i64 γ,.int .i64 ζ,.int .i64 θ,.int .i64 η] 25 (0,0)))∧(w'.heap[ν]?=some (.cells #[.slice a5 χ.length a6,.slice a7 φ.length a8] 50 (0,0)))∧(w'.heap[ai]?=some (.cells #[.slice none 0 0,.slice none 0 0] 50 (0,0)))∧(w'.heap[s_]?=some (.cells #[.slice none 0 0,.slice none 0 0] 50 (0,0)))∧(w.heap.size≤s_)∧(w.heap.size≤s_)∧(aa≠s_)∧(s_≠aa)∧(ν ≠ s_)∧(s_ ≠ ν)∧(ai≠s_)∧(s_≠ai)∧(Below w.heap.size w w')) ?_ ?_
                rotate_left
                ·intro r0
                 refine M6 (i:=0) (j:=4) (k:=9) (Ni:=some 24) (Nj:=some 28) (Nk:=some 11) #[true,true,true,false,false,true,true,false,false,false,false] #[false,true,true,false,true,true,true,false,false,false,false] #[false,true,true,false,false,true,true,false,false,true,false] rfl rfl rfl rfl rfl rfl (Ux HT_.out kr) (by decide) (by decide) (by decide) (fun K hK=>?_) (fun K hK=>?_) (fun K hK=>?_)
                 ·skip
                  refine Kd.Zv k36 _ 36 ?hg (N:=24) ?hd (xs:=([]:List (S36))) (inner:=[]) (ok:=fun _=>True) (okp:=fun _=>True) ?hr ?hp (fun _ hk=>hk) trivial (Below.refl _ _) (Nat.le_refl _) (by simp) ?_;(case hd=>rfl);(case hg=>rfl);(case hr=>go_simp <;> rfl);(case hp=>exact(Reps.none _ _))
                  intro b3 b5 er hb hg_ hnew_
                  clear hg_ hnew_
                  (first|rw[← fe.out] at er|(simp only[Int.reduceToNat] at er;rw[← fe.out] at er))
                  have av:=aK (Kd.Q8 er (Qn HB.out))
                  replace ε :=sBk ε hb
                  replace δ :=sBk δ hb
                  replace ι :=sBk ι hb
                  replace HB:=sHb hb
                  clear hb er
                  refine hK.out _ _ ⟨qc δ,qc δ⟩ (fun hHeld=>?_)
                  clear hK K
                  refine qN (some 24) ?_
                  exact Zw (by first|(simp only[Q9,Act.put,qS];done)|(simp only[Q9,Act.put,qS];rfl)) (qy (b3) _ ⟨hHeld,av.out,ε.out,δ.out,ι.out,HB.out⟩)
                 ·skip
                  refine Kd.Zv k86 _ 86 ?hg (N:=28) ?hd (xs:=([]:List (S86))) (inner:=[]) (ok:=fun _=>True) (okp:=fun _=>True) ?hr ?hp (fun _ hk=>hk) trivial (Below.refl _ _) (Nat.le_refl _) (by simp) ?_;(case hd=>rfl);(case hg=>rfl);(case hr=>go_simp <;> rfl);(case hp=>exact(Reps.none _ _))
                  intro b6 b5 er hb hg_ hnew_
                  clear hg_ hnew_
                  (first|rw[← dw.out] at er|(simp only[Int.reduceToNat] at er;rw[← dw.out] at er))
                  have ap:=aK (Kd.Q8 er (Qn HB.out))
                  replace ε :=sBk ε hb
                  replace δ :=sBk δ hb
                  replace ι :=sBk ι hb
                  replace HB:=sHb hb
                  clear hb er
                  refine hK.out _ _ ⟨qc δ,qc δ⟩ (fun hHeld=>?_)
                  clear hK K
                  refine qN (some 28) ?_
                  exact Zw (by first|(simp only[Q9,Act.put,qS];done)|(simp only[Q9,Act.put,qS];rfl)) (qz (b6) _ ⟨hHeld,ap.out,ε.out,δ.out,ι.out,HB.out⟩)
                 ·skip
                  refine X0 ?hg (N:=11) ?hd (cs:=#[.slice none 0 0,.slice none 0 0]) (t:=50) ?hr ?_;(case hd=>rfl);(case hg=>rfl);(case hr=>go_simp <;> rfl)
                  intro a0 hg b5 hbox hb
                  have ψ :=aK hbox
                  have b9:=sGe hg
                  have ba:=sGe hg
                  have ac:=sNl ε hg
                  have ae:=sNg ε hg
                  have ab:=sNl δ hg
                  have af:=sNg δ hg
                  have ag:=sNl ι hg
                  have ah:=sNg ι hg
                  replace ε :=sBk ε hb
                  replace δ :=sBk δ hb
                  replace ι :=sBk ι hb
                  replace HB:=sHb hb
                  clear hb hbox hg
                  refine hK.out _ _ ⟨qc δ,qc δ⟩ (fun hHeld=>?_)
                  clear hK K
                  refine qN (some 11) ?_
                  exact Zw (by first|(simp only[Q9,Act.put,qS];done)|(simp only[Q9,Act.put,qS];rfl)) (r0 (a0) _ ⟨hHeld,ε.out,δ.out,ι.out,ψ.out,b9.out,ba.out,ac.out,ae.out,ab.out,af.out,ag.out,ah.out,HB.out⟩)
                ·skip
                 rintro a0 dx ⟨hS_,bd,bf,bg,bh,bi,cf,d9,da,db,dk,cj,ck,cm⟩
                 have ρ:Aside0 (dx.heap[aa]?=some (.cells #[.int .i64 B,.int .i64 J,.int .i64 O,.int .i64 X,.int .i64 Y,.int .i64 Z,.int .i64 γ,.int .i64 ζ,.int .i64 θ,.int .i64 η] 25 (0,0))):=⟨bd⟩
                 have τ :Aside0 (dx.heap[ν]?=some (.cells #[.slice a5 χ.length a6,.slice a7 φ.length a8] 50 (0,0))):=⟨bf⟩
                 have ω :Aside0 (dx.heap[ai]?=some (.cells #[.slice none 0 0,.slice none 0 0] 50 (0,0))):=⟨bg⟩
                 have a3:Aside0 (dx.heap[a0]?=some (.cells #[.slice none 0 0,.slice none 0 0] 50 (0,0))):=⟨bh⟩
                 have an:Aside0 (w.heap.size≤a0):=⟨bi⟩
                 have b1:Aside0 (w.heap.size≤a0):=⟨cf⟩
                 have b7:Aside0 (aa≠a0):=⟨d9⟩
                 have br:Aside0 (a0≠aa):=⟨da⟩
                 have ct:Aside0 (ν ≠ a0):=⟨db⟩
                 have dl:Aside0 (a0 ≠ ν):=⟨dk⟩
                 have cn:Aside0 (ai≠a0):=⟨cj⟩
                 have co:Aside0 (a0≠ai):=⟨ck⟩
                 have cp:Aside0 (Below w.heap.size w dx):=⟨cm⟩
                 clear ε
                 clear δ
                 clear ι
                 clear HB
                 clear bd bf bg bh bi cf d9 da db dk cj ck cm
                 have ε :=ρ
                 have δ := τ
                 have ι := ω
                 have ψ :=a3
                 have b9:=an
                 have ba:=b1
                 have ac:=b7
                 have ae:=br
                 have ab:=ct
                 have af:=dl
                 have ag:=cn
                 have ah:=co
                 have HB:=cp
                 clear ρ τ ω a3 an b1 b7 br ct dl cn co cp
                 have hHeld:dx.cell? ⟨ν,0,none⟩=some (.slice a5 χ.length a6)∧dx.cell? ⟨ν,1,none⟩=some (.slice a7 φ.length a8):=hS_
                 refine Zw (a':=?_) ?_ ?_
                 rotate_left
                 ·simp only[Q9,Act.put,qS]
                  rfl
                 refine Vo (i:=0) (j:=4) (Ni:=some 24) (Nj:=some 28) (bN 11 615) (bN 11 630) rfl rfl rfl rfl (Y9 HT_.out kr) (by decide) (by decide) (fun K hK=>?_) (fun K hK=>?_)
                 ·skip
                  refine Kd.Zv k36 _ 36 ?hg (N:=24) ?hd (xs:=([]:List (S36))) (inner:=[]) (ok:=fun _=>True) (okp:=fun _=>True) ?hr ?hp (fun _ hk=>hk) trivial (Below.refl _ _) (Nat.le_refl _) (by simp) ?_;(case hd=>rfl);(case hg=>rfl);(case hr=>go_simp <;> rfl);(case hp=>exact(Reps.none _ _))
                  intro b3 b2 ey hb hg_ hnew_
                  clear hg_ hnew_
                  (first|rw[← fe.out] at ey|(simp only[Int.reduceToNat] at ey;rw[← fe.out] at ey))
                  have av:=aK (Kd.Q8 ey (Qn HB.out))
                  replace ε :=sBk ε hb
                  replace δ :=sBk δ hb
                  replace ι :=sBk ι hb
                  replace ψ :=sBk ψ hb
                  replace HB:=sHb hb
                  clear hb ey
                  refine hK.out _ _ ⟨qc δ,qc δ⟩ (fun hHeld=>?_)
                  clear hK K
                  refine qN (some 24) ?_
                  exact Zw (by first|(simp only[Q9,Act.put,qS];done)|(simp only[Q9,Act.put,qS];rfl)) (lx (b3,a0) _ ⟨hHeld,av.out,ε.out,δ.out,ι.out,ψ.out,b9.out,ba.out,ac.out,ae.out,ab.out,af.out,ag.out,ah.out,HB.out⟩)
                 ·skip
                  refine Kd.Zv k86 _ 86 ?hg (N:=28) ?hd (xs:=([]:List (S86))) (inner:=[]) (ok:=fun _=>True) (okp:=fun _=>True) ?hr ?hp (fun _ hk=>hk) trivial (Below.refl _ _) (Nat.le_refl _) (by simp) ?_;(case hd=>rfl);(case hg=>rfl);(case hr=>go_simp <;> rfl);(case hp=>exact(Reps.none _ _))
                  intro b6 b2 ey hb hg_ hnew_
                  clear hg_ hnew_
                  (first|rw[← dw.out] at ey|(simp only[Int.reduceToNat] at ey;rw[← dw.out] at ey))
                  have ap:=aK (Kd.Q8 ey (Qn HB.out))
                  replace ε :=sBk ε hb
                  replace δ :=sBk δ hb
                  replace ι :=sBk ι hb
                  replace ψ :=sBk ψ hb
                  replace HB:=sHb hb
                  clear hb ey
                  refine hK.out _ _ ⟨qc δ,qc δ⟩ (fun hHeld=>?_)
                  clear hK K
                  refine qN (some 28) ?_
                  exact Zw (by first|(simp only[Q9,Act.put,qS];done)|(simp only[Q9,Act.put,qS];rfl)) (ly (b6,a0) _ ⟨hHeld,ap.out,ε.out,δ.out,ι.out,ψ.out,b9.out,ba.out,ac.out,ae.out,ab.out,af.out,ag.out,ah.out,HB.out⟩)
               ·skip
                rintro b6 b2 ⟨hS_,bd,bf,bg,bh,bi⟩
                have ρ:Aside0 (Kd.R k86 86 b2 w.heap.size (fun _=>True) b6 bm):=⟨bd⟩
                have τ :Aside0 (b2.heap[aa]?=some (.cells #[.int .i64 B,.int .i64 J,.int .i64 O,.int .i64 X,.int .i64 Y,.int .i64 Z,.int .i64 γ,.int .i64 ζ,.int .i64 θ,.int .i64 η] 25 (0,0))):=⟨bf⟩
                have ω :Aside0 (b2.heap[ν]?=some (.cells #[.slice a5 χ.length a6,.slice a7 φ.length a8] 50 (0,0))):=⟨bg⟩
                have a3:Aside0 (b2.heap[ai]?=some (.cells #[.slice none 0 0,.slice none 0 0] 50 (0,0))):=⟨bh⟩
                have an:Aside0 (Below w.heap.size w b2):=⟨bi⟩
                clear ε
                clear δ
                clear ι
                clear HB
                clear bd bf bg bh bi
                have ap:=ρ
                have ε := τ
                have δ := ω
                have ι :=a3
                have HB:=an
                clear ρ τ ω a3 an
                have hHeld:b2.cell? ⟨ν,0,none⟩=some (.slice a5 χ.length a6)∧b2.cell? ⟨ν,1,none⟩=some (.slice a7 φ.length a8):=hS_
                refine Zw (a':=?_) ?_ ?_
                rotate_left
                ·simp only[Q9,Act.put,qS]
                 rfl
                refine Vo (i:=0) (j:=9) (Ni:=some 24) (Nj:=some 11) (bN 11 119) (bN 11 630) rfl rfl rfl rfl (Y9 HT_.out kr) (by decide) (by decide) (fun K hK=>?_) (fun K hK=>?_)
                ·skip
                 refine Kd.Zv k36 _ 36 ?hg (N:=24) ?hd (xs:=([]:List (S36))) (inner:=[]) (ok:=fun _=>True) (okp:=fun _=>True) ?hr ?hp (fun _ hk=>hk) trivial (Below.refl _ _) (Nat.le_refl _) (by simp) ?_;(case hd=>rfl);(case hg=>rfl);(case hr=>go_simp <;> rfl);(case hp=>exact(Reps.none _ _))
                 intro b3 bj dn hb hg_ hnew_
                 clear hg_ hnew_
                 (first|rw[← fe.out] at dn|(simp only[Int.reduceToNat] at dn;rw[← fe.out] at dn))
                 have av:=aK (Kd.Q8 dn (Qn HB.out))
                 replace ap:=sRb ap hb
                 replace ε :=sBk ε hb
                 replace δ :=sBk δ hb
                 replace ι :=sBk ι hb
                 replace HB:=sHb hb
                 clear hb dn
                 refine hK.out _ _ ⟨qc δ,qc δ⟩ (fun hHeld=>?_)
                 clear hK K
                 refine qN (some 24) ?_
                 exact Zw (by first|(simp only[Q9,Act.put,qS];done)|(simp only[Q9,Act.put,qS];rfl)) (lw (b3,b6) _ ⟨hHeld,av.out,ap.out,ε.out,δ.out,ι.out,HB.out⟩)
                ·skip
                 refine X0 ?hg (N:=11) ?hd (cs:=#[.slice none 0 0,.slice none 0 0]) (t:=50) ?hr ?_;(case hd=>rfl);(case hg=>rfl);(case hr=>go_simp <;> rfl)
                 intro a0 hg bj hbox hb
                 have ψ :=aK hbox
                 have b9:=sGe hg
                 have ba:=sGe hg
                 have ac:=sNl ε hg
                 have ae:=sNg ε hg
                 have ab:=sNl δ hg
                 have af:=sNg δ hg
                 have ag:=sNl ι hg
                 have ah:=sNg ι hg
                 replace ap:=sRb ap hb
                 replace ε :=sBk ε hb
                 replace δ :=sBk δ hb
                 replace ι :=sBk ι hb
                 replace HB:=sHb hb
                 clear hb hbox hg
                 refine hK.out _ _ ⟨qc δ,qc δ⟩ (fun hHeld=>?_)
                 clear hK K
                 refine qN (some 11) ?_
                 exact Zw (by first|(simp only[Q9,Act.put,qS];done)|(simp only[Q9,Act.put,qS];rfl)) (ly (b6,a0) _ ⟨hHeld,ap.out,ε.out,δ.out,ι.out,ψ.out,b9.out,ba.out,ac.out,ae.out,ab.out,af.out,ag.out,ah.out,HB.out⟩)
              ·skip
               rintro b3 b2 ⟨hS_,bd,bf,bg,bh,bi⟩
               have ρ:Aside0 (Kd.R k36 36 b2 w.heap.size (fun _=>True) b3 cu):=⟨bd⟩
               have τ :Aside0 (b2.heap[aa]?=some (.cells #[.int .i64 B,.int .i64 J,.int .i64 O,.int .i64 X,.int .i64 Y,.int .i64 Z,.int .i64 γ,.int .i64 ζ,.int .i64 θ,.int .i64 η] 25 (0,0))):=⟨bf⟩
               have ω :Aside0 (b2.heap[ν]?=some (.cells #[.slice a5 χ.length a6,.slice a7 φ.length a8] 50 (0,0))):=⟨bg⟩
               have a3:Aside0 (b2.heap[ai]?=some (.cells #[.slice none 0 0,.slice none 0 0] 50 (0,0))):=⟨bh⟩
               have an:Aside0 (Below w.heap.size w b2):=⟨bi⟩
               clear ε
               clear δ
               clear ι
               clear HB
               clear bd bf bg bh bi
               have av:=ρ
               have ε := τ
               have δ := ω
               have ι :=a3
               have HB:=an
               clear ρ τ ω a3 an
               have hHeld:b2.cell? ⟨ν,0,none⟩=some (.slice a5 χ.length a6)∧b2.cell? ⟨ν,1,none⟩=some (.slice a7 φ.length a8):=hS_
               refine Zw (a':=?_) ?_ ?_
               rotate_left
               ·simp only[Q9,Act.put,qS]
                rfl
               refine M6 (i:=3) (j:=4) (k:=9) (Ni:=some 27) (Nj:=some 28) (Nk:=some 11) #[true,true,true,true,false,true,true,false,false,false,false] #[true,true,true,false,true,true,true,false,false,false,false] #[true,true,true,false,false,true,true,false,false,true,false] rfl rfl rfl rfl rfl rfl (Ux HT_.out kr) (by decide) (by decide) (by decide) (fun K hK=>?_) (fun K hK=>?_) (fun K hK=>?_)
               ·skip
                refine Kd.Zl k36 (w0:=w) w.heap.size (by rfl) (.tmp 24) (.tmp 26) 47 36 (.agg #[(.int .i64 0),(.int .i64 0),(.int .i64 0)]) 24 rfl Try.underlying47 Jy rfl (by decide) (by omega) b3 cu χ _ _ _ (fun _=>True) (fun _=>False) rfl rfl ?aO ?aR (fun _ _ h=>h) (fun _ h=>h.elim) ?aF ?aB ?aS ?aL ?_
                (case aR=>exact(Kd.Qs bk.out HB.out))
                (case aB=>exact HB.out)
                (case aF=>exact(fun _ _=>trivial))
                (case aO=>exact av.out)
                (case aS=>exact(Qn HB.out))
                (case aL=>have:=jv.out;omega)
                intro cq bj ho hb hg hat
                rw[← i5.out] at ho
                have az:=aK ho
                replace ε :=aK (Q0 (g:=aa) (o:=.cells #[.int .i64 B,.int .i64 J,.int .i64 O,.int .i64 X,.int .i64 Y,.int .i64 Z,.int .i64 γ,.int .i64 ζ,.int .i64 θ,.int .i64 η] 25 (0,0)) ε.out hg (Kd.Zo av.out ε.out (by decide)))
                replace δ :=aK (Q0 (g:= ν) (o:=.cells #[.slice a5 χ.length a6,.slice a7 φ.length a8] 50 (0,0)) δ.out hg (Kd.Zo av.out δ.out (by decide)))
                replace ι :=aK (Q0 (g:=ai) (o:=.cells #[.slice none 0 0,.slice none 0 0] 50 (0,0)) ι.out hg (Kd.Zo av.out ι.out (by decide)))
                replace HB:=aK hb
                clear av
                clear ho hb hg hat
                refine hK.out _ _ ⟨qc δ,qc δ⟩ (fun hHeld=>?_)
                clear hK K
                refine qN (some 27) ?_
                exact Zw (by first|(simp only[Q9,Act.put,qS];done)|(simp only[Q9,Act.put,qS];rfl)) (od (b3,cq) _ ⟨hHeld,az.out,ε.out,δ.out,ι.out,HB.out⟩)
               ·skip
                refine Kd.Zv k86 _ 86 ?hg (N:=28) ?hd (xs:=([]:List (S86))) (inner:=[]) (ok:=fun _=>True) (okp:=fun _=>True) ?hr ?hp (fun _ hk=>hk) trivial (Below.refl _ _) (Nat.le_refl _) (by simp) ?_;(case hd=>rfl);(case hg=>rfl);(case hr=>go_simp <;> rfl);(case hp=>exact(Reps.none _ _))
                intro b6 bj dn hb hg_ hnew_
                clear hg_ hnew_
                (first|rw[← dw.out] at dn|(simp only[Int.reduceToNat] at dn;rw[← dw.out] at dn))
                have ap:=aK (Kd.Q8 dn (Qn HB.out))
                replace av:=sRb av hb
                replace ε :=sBk ε hb
                replace δ :=sBk δ hb
                replace ι :=sBk ι hb
                replace HB:=sHb hb
                clear hb dn
                refine hK.out _ _ ⟨qc δ,qc δ⟩ (fun hHeld=>?_)
                clear hK K
                refine qN (some 28) ?_
                exact Zw (by first|(simp only[Q9,Act.put,qS];done)|(simp only[Q9,Act.put,qS];rfl)) (lw (b3,b6) _ ⟨hHeld,av.out,ap.out,ε.out,δ.out,ι.out,HB.out⟩)
               ·skip
                refine X0 ?hg (N:=11) ?hd (cs:=#[.slice none 0 0,.slice none 0 0]) (t:=50) ?hr ?_;(case hd=>rfl);(case hg=>rfl);(case hr=>go_simp <;> rfl)
                intro a0 hg bj hbox hb
                have ψ :=aK hbox
                have b9:=sGe hg
                have ba:=sGe hg
                have ac:=sNl ε hg
                have ae:=sNg ε hg
                have ab:=sNl δ hg
                have af:=sNg δ hg
                have ag:=sNl ι hg
                have ah:=sNg ι hg
                replace av:=sRb av hb
                replace ε :=sBk ε hb
                replace δ :=sBk δ hb
                replace ι :=sBk ι hb
                replace HB:=sHb hb
                clear hb hbox hg
                refine hK.out _ _ ⟨qc δ,qc δ⟩ (fun hHeld=>?_)
                clear hK K
                refine qN (some 11) ?_
                exact Zw (by first|(simp only[Q9,Act.put,qS];done)|(simp only[Q9,Act.put,qS];rfl)) (lx (b3,a0) _ ⟨hHeld,av.out,ε.out,δ.out,ι.out,ψ.out,b9.out,ba.out,ac.out,ae.out,ab.out,af.out,ag.out,ah.out,HB.out⟩)
             ·skip
              rintro⟨b6,a0⟩ bj ⟨hS_,bd,bf,bg,bh,bi,cf,d9,da,db,dk,cj,ck,cm,d2⟩
              have ρ:Aside0 (Kd.R k86 86 bj w.heap.size (fun _=>True) b6 bm):=⟨bd⟩
              have τ :Aside0 (bj.heap[aa]?=some (.cells #[.int .i64 B,.int .i64 J,.int .i64 O,.int .i64 X,.int .i64 Y,.int .i64 Z,.int .i64 γ,.int .i64 ζ,.int .i64 θ,.int .i64 η] 25 (0,0))):=⟨bf⟩
              have ω :Aside0 (bj.heap[ν]?=some (.cells #[.slice a5 χ.length a6,.slice a7 φ.length a8] 50 (0,0))):=⟨bg⟩
              have a3:Aside0 (bj.heap[ai]?=some (.cells #[.slice none 0 0,.slice none 0 0] 50 (0,0))):=⟨bh⟩
              have an:Aside0 (bj.heap[a0]?=some (.cells #[.slice none 0 0,.slice none 0 0] 50 (0,0))):=⟨bi⟩
              have b1:Aside0 (w.heap.size≤a0):=⟨cf⟩
              have b7:Aside0 (w.heap.size≤a0):=⟨d9⟩
              have br:Aside0 (aa≠a0):=⟨da⟩
              have ct:Aside0 (a0≠aa):=⟨db⟩
              have dl:Aside0 (ν ≠ a0):=⟨dk⟩
              have cn:Aside0 (a0 ≠ ν):=⟨cj⟩
              have co:Aside0 (ai≠a0):=⟨ck⟩
              have cp:Aside0 (a0≠ai):=⟨cm⟩
              have d3:Aside0 (Below w.heap.size w bj):=⟨d2⟩
              clear ε
              clear δ
              clear ι
              clear HB
              clear bd bf bg bh bi cf d9 da db dk cj ck cm d2
              have ap:=ρ
              have ε := τ
              have δ := ω
              have ι :=a3
              have ψ :=an
              have b9:=b1
              have ba:=b7
              have ac:=br
              have ae:=ct
              have ab:=dl
              have af:=cn
              have ag:=co
              have ah:=cp
              have HB:=d3
              clear ρ τ ω a3 an b1 b7 br ct dl cn co cp d3
              have hHeld:bj.cell? ⟨ν,0,none⟩=some (.slice a5 χ.length a6)∧bj.cell? ⟨ν,1,none⟩=some (.slice a7 φ.length a8):=hS_
              refine Zw (a':=?_) ?_ ?_
              rotate_left
              ·simp only[Q9,Act.put,qS]
               rfl
              refine Zf (i:=0) (N:=some 24) (bN 11 631) rfl rfl (Q3 HT_.out kr) (by decide) (fun K hK=>?_)
              refine Kd.Zv k36 _ 36 ?hg (N:=24) ?hd (xs:=([]:List (S36))) (inner:=[]) (ok:=fun _=>True) (okp:=fun _=>True) ?hr ?hp (fun _ hk=>hk) trivial (Below.refl _ _) (Nat.le_refl _) (by simp) ?_;(case hd=>rfl);(case hg=>rfl);(case hr=>go_simp <;> rfl);(case hp=>exact(Reps.none _ _))
              intro b3 bb dp hb hg_ hnew_
              clear hg_ hnew_
              (first|rw[← fe.out] at dp|(simp only[Int.reduceToNat] at dp;rw[← fe.out] at dp))
              have av:=aK (Kd.Q8 dp (Qn HB.out))
              replace ap:=sRb ap hb
              replace ε :=sBk ε hb
              replace δ :=sBk δ hb
              replace ι :=sBk ι hb
              replace ψ :=sBk ψ hb
              replace HB:=sHb hb
              clear hb dp
              refine hK.out _ _ ⟨qc δ,qc δ⟩ (fun hHeld=>?_)
              clear hK K
              refine qN (some 24) ?_
              exact Zw (by first|(simp only[Q9,Act.put,qS];done)|(simp only[Q9,Act.put,qS];rfl)) (i0 (b3,b6,a0) _ ⟨hHeld,av.out,ap.out,ε.out,δ.out,ι.out,ψ.out,b9.out,ba.out,ac.out,ae.out,ab.out,af.out,ag.out,ah.out,HB.out⟩)
            ·skip
             rintro⟨b3,a0⟩ bj ⟨hS_,bd,bf,bg,bh,bi,cf,d9,da,db,dk,cj,ck,cm,d2⟩
             have ρ:Aside0 (Kd.R k36 36 bj w.heap.size (fun _=>True) b3 cu):=⟨bd⟩
             have τ :Aside0 (bj.heap[aa]?=some (.cells #[.int .i64 B,.int .i64 J,.int .i64 O,.int .i64 X,.int .i64 Y,.int .i64 Z,.int .i64 γ,.int .i64 ζ,.int .i64 θ,.int .i64 η] 25 (0,0))):=⟨bf⟩
             have ω :Aside0 (bj.heap[ν]?=some (.cells #[.slice a5 χ.length a6,.slice a7 φ.length a8] 50 (0,0))):=⟨bg⟩
             have a3:Aside0 (bj.heap[ai]?=some (.cells #[.slice none 0 0,.slice none 0 0] 50 (0,0))):=⟨bh⟩
             have an:Aside0 (bj.heap[a0]?=some (.cells #[.slice none 0 0,.slice none 0 0] 50 (0,0))):=⟨bi⟩
             have b1:Aside0 (w.heap.size≤a0):=⟨cf⟩
             have b7:Aside0 (w.heap.size≤a0):=⟨d9⟩
             have br:Aside0 (aa≠a0):=⟨da⟩
             have ct:Aside0 (a0≠aa):=⟨db⟩
             have dl:Aside0 (ν ≠ a0):=⟨dk⟩
             have cn:Aside0 (a0 ≠ ν):=⟨cj⟩
             have co:Aside0 (ai≠a0):=⟨ck⟩
             have cp:Aside0 (a0≠ai):=⟨cm⟩
             have d3:Aside0 (Below w.heap.size w bj):=⟨d2⟩
             clear ε
             clear δ
             clear ι
             clear HB
             clear bd bf bg bh bi cf d9 da db dk cj ck cm d2
             have av:=ρ
             have ε := τ
             have δ := ω
             have ι :=a3
             have ψ :=an
             have b9:=b1
             have ba:=b7
             have ac:=br
             have ae:=ct
             have ab:=dl
             have af:=cn
             have ag:=co
             have ah:=cp
             have HB:=d3
             clear ρ τ ω a3 an b1 b7 br ct dl cn co cp d3
             have hHeld:bj.cell? ⟨ν,0,none⟩=some (.slice a5 χ.length a6)∧bj.cell? ⟨ν,1,none⟩=some (.slice a7 φ.length a8):=hS_
             refine Zw (a':=?_) ?_ ?_
             rotate_left
             ·simp only[Q9,Act.put,qS]
              rfl
             refine Vo (i:=3) (j:=4) (Ni:=some 27) (Nj:=some 28) (bN 11 623) (bN 11 631) rfl rfl rfl rfl (Y9 HT_.out kr) (by decide) (by decide) (fun K hK=>?_) (fun K hK=>?_)
             ·skip
              refine Kd.Zl k36 (w0:=w) w.heap.size (by rfl) (.tmp 24) (.tmp 26) 47 36 (.agg #[(.int .i64 0),(.int .i64 0),(.int .i64 0)]) 24 rfl Try.underlying47 Jy rfl (by decide) (by omega) b3 cu χ _ _ _ (fun _=>True) (fun _=>False) rfl rfl ?aO ?aR (fun _ _ h=>h) (fun _ h=>h.elim) ?aF ?aB ?aS ?aL ?_
              (case aR=>exact(Kd.Qs bk.out HB.out))
              (case aB=>exact HB.out)
              (case aF=>exact(fun _ _=>trivial))
              (case aO=>exact av.out)
              (case aS=>exact(Qn HB.out))
              (case aL=>have:=jv.out;omega)
              intro cq bb ho hb hg hat
              rw[← i5.out] at ho
              have az:=aK ho
              replace ε :=aK (Q0 (g:=aa) (o:=.cells #[.int .i64 B,.int .i64 J,.int .i64 O,.int .i64 X,.int .i64 Y,.int .i64 Z,.int .i64 γ,.int .i64 ζ,.int .i64 θ,.int .i64 η] 25 (0,0)) ε.out hg (Kd.Zo av.out ε.out (by decide)))
              replace δ :=aK (Q0 (g:= ν) (o:=.cells #[.slice a5 χ.length a6,.slice a7 φ.length a8] 50 (0,0)) δ.out hg (Kd.Zo av.out δ.out (by decide)))
              replace ι :=aK (Q0 (g:=ai) (o:=.cells #[.slice none 0 0,.slice none 0 0] 50 (0,0)) ι.out hg (Kd.Zo av.out ι.out (by decide)))
              replace ψ :=aK (Q0 (g:=a0) (o:=.cells #[.slice none 0 0,.slice none 0 0] 50 (0,0)) ψ.out hg (Kd.Zo av.out ψ.out (by decide)))
              replace HB:=aK hb
              clear av
              clear ho hb hg hat
              refine hK.out _ _ ⟨qc δ,qc δ⟩ (fun hHeld=>?_)
              clear hK K
              refine qN (some 27) ?_
              exact Zw (by first|(simp only[Q9,Act.put,qS];done)|(simp only[Q9,Act.put,qS];rfl)) (js (b3,cq,a0) _ ⟨hHeld,az.out,ε.out,δ.out,ι.out,ψ.out,b9.out,ba.out,ac.out,ae.out,ab.out,af.out,ag.out,ah.out,HB.out⟩)
             ·skip
              refine Kd.Zv k86 _ 86 ?hg (N:=28) ?hd (xs:=([]:List (S86))) (inner:=[]) (ok:=fun _=>True) (okp:=fun _=>True) ?hr ?hp (fun _ hk=>hk) trivial (Below.refl _ _) (Nat.le_refl _) (by simp) ?_;(case hd=>rfl);(case hg=>rfl);(case hr=>go_simp <;> rfl);(case hp=>exact(Reps.none _ _))
              intro b6 bb dp hb hg_ hnew_
              clear hg_ hnew_
              (first|rw[← dw.out] at dp|(simp only[Int.reduceToNat] at dp;rw[← dw.out] at dp))
              have ap:=aK (Kd.Q8 dp (Qn HB.out))
              replace av:=sRb av hb
              replace ε :=sBk ε hb
              replace δ :=sBk δ hb
              replace ι :=sBk ι hb
              replace ψ :=sBk ψ hb
              replace HB:=sHb hb
              clear hb dp
              refine hK.out _ _ ⟨qc δ,qc δ⟩ (fun hHeld=>?_)
              clear hK K
              refine qN (some 28) ?_
              exact Zw (by first|(simp only[Q9,Act.put,qS];done)|(simp only[Q9,Act.put,qS];rfl)) (i0 (b3,b6,a0) _ ⟨hHeld,av.out,ap.out,ε.out,δ.out,ι.out,ψ.out,b9.out,ba.out,ac.out,ae.out,ab.out,af.out,ag.out,ah.out,HB.out⟩)
           ·skip
            rintro⟨b3,b6⟩ bb ⟨hS_,bd,bf,bg,bh,bi,cf⟩
            have ρ:Aside0 (Kd.R k36 36 bb w.heap.size (fun _=>True) b3 cu):=⟨bd⟩
            have τ :Aside0 (Kd.R k86 86 bb w.heap.size (fun _=>True) b6 bm):=⟨bf⟩
            have ω :Aside0 (bb.heap[aa]?=some (.cells #[.int .i64 B,.int .i64 J,.int .i64 O,.int .i64 X,.int .i64 Y,.int .i64 Z,.int .i64 γ,.int .i64 ζ,.int .i64 θ,.int .i64 η] 25 (0,0))):=⟨bg⟩
            have a3:Aside0 (bb.heap[ν]?=some (.cells #[.slice a5 χ.length a6,.slice a7 φ.length a8] 50 (0,0))):=⟨bh⟩
            have an:Aside0 (bb.heap[ai]?=some (.cells #[.slice none 0 0,.slice none 0 0] 50 (0,0))):=⟨bi⟩
            have b1:Aside0 (Below w.heap.size w bb):=⟨cf⟩
            clear ε
            clear δ
            clear ι
            clear HB
            clear bd bf bg bh bi cf
            have av:=ρ
            have ap:= τ
            have ε := ω
            have δ :=a3
            have ι :=an
            have HB:=b1
            clear ρ τ ω a3 an b1
            have hHeld:bb.cell? ⟨ν,0,none⟩=some (.slice a5 χ.length a6)∧bb.cell? ⟨ν,1,none⟩=some (.slice a7 φ.length a8):=hS_
            refine Zw (a':=?_) ?_ ?_
            rotate_left
            ·simp only[Q9,Act.put,qS]
             rfl
            refine Vo (i:=3) (j:=9) (Ni:=some 27) (Nj:=some 11) (bN 11 127) (bN 11 631) rfl rfl rfl rfl (Y9 HT_.out kr) (by decide) (by decide) (fun K hK=>?_) (fun K hK=>?_)
            ·skip
             refine Kd.Zl k36 (w0:=w) w.heap.size (by rfl) (.tmp 24) (.tmp 26) 47 36 (.agg #[(.int .i64 0),(.int .i64 0),(.int .i64 0)]) 24 rfl Try.underlying47 Jy rfl (by decide) (by omega) b3 cu χ _ _ _ (fun _=>True) (fun _=>False) rfl rfl ?aO ?aR (fun _ _ h=>h) (fun _ h=>h.elim) ?aF ?aB ?aS ?aL ?_
             (case aR=>exact(Kd.Qs bk.out HB.out))
             (case aB=>exact HB.out)
             (case aF=>exact(fun _ _=>trivial))
             (case aO=>exact av.out)
             (case aS=>exact(Qn HB.out))
             (case aL=>have:=jv.out;omega)
             intro cq cd ho hb hg hat
             rw[← i5.out] at ho
             have az:=aK ho
             replace ε :=aK (Q0 (g:=aa) (o:=.cells #[.int .i64 B,.int .i64 J,.int .i64 O,.int .i64 X,.int .i64 Y,.int .i64 Z,.int .i64 γ,.int .i64 ζ,.int .i64 θ,.int .i64 η] 25 (0,0)) ε.out hg (Kd.Zo av.out ε.out (by decide)))
             replace δ :=aK (Q0 (g:= ν) (o:=.cells #[.slice a5 χ.length a6,.slice a7 φ.length a8] 50 (0,0)) δ.out hg (Kd.Zo av.out δ.out (by decide)))
             replace ι :=aK (Q0 (g:=ai) (o:=.cells #[.slice none 0 0,.slice none 0 0] 50 (0,0)) ι.out hg (Kd.Zo av.out ι.out (by decide)))
             replace ap:=aK (Kd.Y8 ap.out (Kd.Y7 av.out) (by decide) hg)
             replace HB:=aK hb
             clear av
             clear ho hb hg hat
             refine hK.out _ _ ⟨qc δ,qc δ⟩ (fun hHeld=>?_)
             clear hK K
             refine qN (some 27) ?_
             exact Zw (by first|(simp only[Q9,Act.put,qS];done)|(simp only[Q9,Act.put,qS];rfl)) (jr (b3,cq,b6) _ ⟨hHeld,az.out,ap.out,ε.out,δ.out,ι.out,HB.out⟩)
            ·skip
             refine X0 ?hg (N:=11) ?hd (cs:=#[.slice none 0 0,.slice none 0 0]) (t:=50) ?hr ?_;(case hd=>rfl);(case hg=>rfl);(case hr=>go_simp <;> rfl)
             intro a0 hg cd hbox hb
             have ψ :=aK hbox
             have b9:=sGe hg
             have ba:=sGe hg
             have ac:=sNl ε hg
             have ae:=sNg ε hg
             have ab:=sNl δ hg
             have af:=sNg δ hg
             have ag:=sNl ι hg
             have ah:=sNg ι hg
             replace av:=sRb av hb
             replace ap:=sRb ap hb
             replace ε :=sBk ε hb
             replace δ :=sBk δ hb
             replace ι :=sBk ι hb
             replace HB:=sHb hb
             clear hb hbox hg
             refine hK.out _ _ ⟨qc δ,qc δ⟩ (fun hHeld=>?_)
             clear hK K
             refine qN (some 11) ?_
             exact Zw (by first|(simp only[Q9,Act.put,qS];done)|(simp only[Q9,Act.put,qS];rfl)) (i0 (b3,b6,a0) _ ⟨hHeld,av.out,ap.out,ε.out,δ.out,ι.out,ψ.out,b9.out,ba.out,ac.out,ae.out,ab.out,af.out,ag.out,ah.out,HB.out⟩)
          ·skip
           rintro⟨b3,cq⟩ bj ⟨hS_,bd,bf,bg,bh,bi⟩
           have ρ:Aside0 (Kd.R k36 36 bj w.heap.size (fun _=>True) cq b4):=⟨bd⟩
           have τ :Aside0 (bj.heap[aa]?=some (.cells #[.int .i64 B,.int .i64 J,.int .i64 O,.int .i64 X,.int .i64 Y,.int .i64 Z,.int .i64 γ,.int .i64 ζ,.int .i64 θ,.int .i64 η] 25 (0,0))):=⟨bf⟩
           have ω :Aside0 (bj.heap[ν]?=some (.cells #[.slice a5 χ.length a6,.slice a7 φ.length a8] 50 (0,0))):=⟨bg⟩
           have a3:Aside0 (bj.heap[ai]?=some (.cells #[.slice none 0 0,.slice none 0 0] 50 (0,0))):=⟨bh⟩
           have an:Aside0 (Below w.heap.size w bj):=⟨bi⟩
           clear ε
           clear δ
           clear ι
           clear HB
           clear bd bf bg bh bi
           have az:=ρ
           have ε := τ
           have δ := ω
           have ι :=a3
           have HB:=an
           clear ρ τ ω a3 an
           have hHeld:bj.cell? ⟨ν,0,none⟩=some (.slice a5 χ.length a6)∧bj.cell? ⟨ν,1,none⟩=some (.slice a7 φ.length a8):=hS_
           refine Zw (a':=?_) ?_ ?_
           rotate_left
           ·simp only[Q9,Act.put,qS]
            rfl
           refine Vo (i:=4) (j:=9) (Ni:=some 28) (Nj:=some 11) (bN 11 127) (bN 11 623) rfl rfl rfl rfl (Y9 HT_.out kr) (by decide) (by decide) (fun K hK=>?_) (fun K hK=>?_)
           ·skip
            refine Kd.Zv k86 _ 86 ?hg (N:=28) ?hd (xs:=([]:List (S86))) (inner:=[]) (ok:=fun _=>True) (okp:=fun _=>True) ?hr ?hp (fun _ hk=>hk) trivial (Below.refl _ _) (Nat.le_refl _) (by simp) ?_;(case hd=>rfl);(case hg=>rfl);(case hr=>go_simp <;> rfl);(case hp=>exact(Reps.none _ _))
            intro b6 bb dp hb hg_ hnew_
            clear hg_ hnew_
            (first|rw[← dw.out] at dp|(simp only[Int.reduceToNat] at dp;rw[← dw.out] at dp))
            have ap:=aK (Kd.Q8 dp (Qn HB.out))
            replace az:=sRb az hb
            replace ε :=sBk ε hb
            replace δ :=sBk δ hb
            replace ι :=sBk ι hb
            replace HB:=sHb hb
            clear hb dp
            refine hK.out _ _ ⟨qc δ,qc δ⟩ (fun hHeld=>?_)
            clear hK K
            refine qN (some 28) ?_
            exact Zw (by first|(simp only[Q9,Act.put,qS];done)|(simp only[Q9,Act.put,qS];rfl)) (jr (b3,cq,b6) _ ⟨hHeld,az.out,ap.out,ε.out,δ.out,ι.out,HB.out⟩)
           ·skip
            refine X0 ?hg (N:=11) ?hd (cs:=#[.slice none 0 0,.slice none 0 0]) (t:=50) ?hr ?_;(case hd=>rfl);(case hg=>rfl);(case hr=>go_simp <;> rfl)
            intro a0 hg bb hbox hb
            have ψ :=aK hbox
            have b9:=sGe hg
            have ba:=sGe hg
            have ac:=sNl ε hg
            have ae:=sNg ε hg
            have ab:=sNl δ hg
            have af:=sNg δ hg
            have ag:=sNl ι hg
            have ah:=sNg ι hg
            replace az:=sRb az hb
            replace ε :=sBk ε hb
            replace δ :=sBk δ hb
            replace ι :=sBk ι hb
            replace HB:=sHb hb
            clear hb hbox hg
            refine hK.out _ _ ⟨qc δ,qc δ⟩ (fun hHeld=>?_)
            clear hK K
            refine qN (some 11) ?_
            exact Zw (by first|(simp only[Q9,Act.put,qS];done)|(simp only[Q9,Act.put,qS];rfl)) (js (b3,cq,a0) _ ⟨hHeld,az.out,ε.out,δ.out,ι.out,ψ.out,b9.out,ba.out,ac.out,ae.out,ab.out,af.out,ag.out,ah.out,HB.out⟩)
         ·skip
          rintro⟨b3,b6,a0⟩ cd ⟨hS_,bd,bf,bg,bh,bi,cf,d9,da,db,dk,cj,ck,cm,d2,et⟩
          have ρ:Aside0 (Kd.R k36 36 cd w.heap.size (fun _=>True) b3 cu):=⟨bd⟩
          have τ :Aside0 (Kd.R k86 86 cd w.heap.size (fun _=>True) b6 bm):=⟨bf⟩
          have ω :Aside0 (cd.heap[aa]?=some (.cells #[.int .i64 B,.int .i64 J,.int .i64 O,.int .i64 X,.int .i64 Y,.int .i64 Z,.int .i64 γ,.int .i64 ζ,.int .i64 θ,.int .i64 η] 25 (0,0))):=⟨bg⟩
          have a3:Aside0 (cd.heap[ν]?=some (.cells #[.slice a5 χ.length a6,.slice a7 φ.length a8] 50 (0,0))):=⟨bh⟩
          have an:Aside0 (cd.heap[ai]?=some (.cells #[.slice none 0 0,.slice none 0 0] 50 (0,0))):=⟨bi⟩
          have b1:Aside0 (cd.heap[a0]?=some (.cells #[.slice none 0 0,.slice none 0 0] 50 (0,0))):=⟨cf⟩
          have b7:Aside0 (w.heap.size≤a0):=⟨d9⟩
          have br:Aside0 (w.heap.size≤a0):=⟨da⟩
          have ct:Aside0 (aa≠a0):=⟨db⟩
          have dl:Aside0 (a0≠aa):=⟨dk⟩
          have cn:Aside0 (ν ≠ a0):=⟨cj⟩
          have co:Aside0 (a0 ≠ ν):=⟨ck⟩
          have cp:Aside0 (ai≠a0):=⟨cm⟩
          have d3:Aside0 (a0≠ai):=⟨d2⟩
          have ew:Aside0 (Below w.heap.size w cd):=⟨et⟩
          clear ε
          clear δ
          clear ι
          clear HB
          clear bd bf bg bh bi cf d9 da db dk cj ck cm d2 et
          have av:=ρ
          have ap:= τ
          have ε := ω
          have δ :=a3
          have ι :=an
          have ψ :=b1
          have b9:=b7
          have ba:=br
          have ac:=ct
          have ae:=dl
          have ab:=cn
          have af:=co
          have ag:=cp
          have ah:=d3
          have HB:=ew
          clear ρ τ ω a3 an b1 b7 br ct dl cn co cp d3 ew
          have hHeld:cd.cell? ⟨ν,0,none⟩=some (.slice a5 χ.length a6)∧cd.cell? ⟨ν,1,none⟩=some (.slice a7 φ.length a8):=hS_
          refine Zw (a':=?_) ?_ ?_
          rotate_left
          ·simp only[Q9,Act.put,qS]
           rfl
          refine Zf (i:=3) (N:=some 27) (bN 11 639) rfl rfl (Q3 HT_.out kr) (by decide) (fun K hK=>?_)
          refine Kd.Zl k36 (w0:=w) w.heap.size (by rfl) (.tmp 24) (.tmp 26) 47 36 (.agg #[(.int .i64 0),(.int .i64 0),(.int .i64 0)]) 24 rfl Try.underlying47 Jy rfl (by decide) (by omega) b3 cu χ _ _ _ (fun _=>True) (fun _=>False) rfl rfl ?aO ?aR (fun _ _ h=>h) (fun _ h=>h.elim) ?aF ?aB ?aS ?aL ?_
          (case aR=>exact(Kd.Qs bk.out HB.out))
          (case aB=>exact HB.out)
          (case aF=>exact(fun _ _=>trivial))
          (case aO=>exact av.out)
          (case aS=>exact(Qn HB.out))
          (case aL=>have:=jv.out;omega)
          intro cq dt ho hb hg hat
          rw[← i5.out] at ho
          have az:=aK ho
          replace ε :=aK (Q0 (g:=aa) (o:=.cells #[.int .i64 B,.int .i64 J,.int .i64 O,.int .i64 X,.int .i64 Y,.int .i64 Z,.int .i64 γ,.int .i64 ζ,.int .i64 θ,.int .i64 η] 25 (0,0)) ε.out hg (Kd.Zo av.out ε.out (by decide)))
          replace δ :=aK (Q0 (g:= ν) (o:=.cells #[.slice a5 χ.length a6,.slice a7 φ.length a8] 50 (0,0)) δ.out hg (Kd.Zo av.out δ.out (by decide)))
          replace ι :=aK (Q0 (g:=ai) (o:=.cells #[.slice none 0 0,.slice none 0 0] 50 (0,0)) ι.out hg (Kd.Zo av.out ι.out (by decide)))
          replace ap:=aK (Kd.Y8 ap.out (Kd.Y7 av.out) (by decide) hg)
          replace ψ :=aK (Q0 (g:=a0) (o:=.cells #[.slice none 0 0,.slice none 0 0] 50 (0,0)) ψ.out hg (Kd.Zo av.out ψ.out (by decide)))
          replace HB:=aK hb
          clear av
          clear ho hb hg hat
          refine hK.out _ _ ⟨qc δ,qc δ⟩ (fun hHeld=>?_)
          clear hK K
          refine qN (some 27) ?_
          exact Zw (by first|(simp only[Q9,Act.put,qS];done)|(simp only[Q9,Act.put,qS];rfl)) (fp (b3,cq,b6,a0) _ ⟨hHeld,az.out,ap.out,ε.out,δ.out,ι.out,ψ.out,b9.out,ba.out,ac.out,ae.out,ab.out,af.out,ag.out,ah.out,HB.out⟩)
        ·skip
         rintro⟨b3,cq,a0⟩ bb ⟨hS_,bd,bf,bg,bh,bi,cf,d9,da,db,dk,cj,ck,cm,d2⟩
         have ρ:Aside0 (Kd.R k36 36 bb w.heap.size (fun _=>True) cq b4):=⟨bd⟩
         have τ :Aside0 (bb.heap[aa]?=some (.cells #[.int .i64 B,.int .i64 J,.int .i64 O,.int .i64 X,.int .i64 Y,.int .i64 Z,.int .i64 γ,.int .i64 ζ,.int .i64 θ,.int .i64 η] 25 (0,0))):=⟨bf⟩
         have ω :Aside0 (bb.heap[ν]?=some (.cells #[.slice a5 χ.length a6,.slice a7 φ.length a8] 50 (0,0))):=⟨bg⟩
         have a3:Aside0 (bb.heap[ai]?=some (.cells #[.slice none 0 0,.slice none 0 0] 50 (0,0))):=⟨bh⟩
         have an:Aside0 (bb.heap[a0]?=some (.cells #[.slice none 0 0,.slice none 0 0] 50 (0,0))):=⟨bi⟩
         have b1:Aside0 (w.heap.size≤a0):=⟨cf⟩
         have b7:Aside0 (w.heap.size≤a0):=⟨d9⟩
         have br:Aside0 (aa≠a0):=⟨da⟩
         have ct:Aside0 (a0≠aa):=⟨db⟩
         have dl:Aside0 (ν ≠ a0):=⟨dk⟩
         have cn:Aside0 (a0 ≠ ν):=⟨cj⟩
         have co:Aside0 (ai≠a0):=⟨ck⟩
         have cp:Aside0 (a0≠ai):=⟨cm⟩
         have d3:Aside0 (Below w.heap.size w bb):=⟨d2⟩
         clear ε
         clear δ
         clear ι
         clear HB
         clear bd bf bg bh bi cf d9 da db dk cj ck cm d2
         have az:=ρ
         have ε := τ
         have δ := ω
         have ι :=a3
         have ψ :=an
         have b9:=b1
         have ba:=b7
         have ac:=br
         have ae:=ct
         have ab:=dl
         have af:=cn
         have ag:=co
         have ah:=cp
         have HB:=d3
         clear ρ τ ω a3 an b1 b7 br ct dl cn co cp d3
         have hHeld:bb.cell? ⟨ν,0,none⟩=some (.slice a5 χ.length a6)∧bb.cell? ⟨ν,1,none⟩=some (.slice a7 φ.length a8):=hS_
         refine Zw (a':=?_) ?_ ?_
         rotate_left
         ·simp only[Q9,Act.put,qS]
          rfl
         refine Zf (i:=4) (N:=some 28) (bN 11 639) rfl rfl (Q3 HT_.out kr) (by decide) (fun K hK=>?_)
         refine Kd.Zv k86 _ 86 ?hg (N:=28) ?hd (xs:=([]:List (S86))) (inner:=[]) (ok:=fun _=>True) (okp:=fun _=>True) ?hr ?hp (fun _ hk=>hk) trivial (Below.refl _ _) (Nat.le_refl _) (by simp) ?_;(case hd=>rfl);(case hg=>rfl);(case hr=>go_simp <;> rfl);(case hp=>exact(Reps.none _ _))
         intro b6 cd ix hb hg_ hnew_
         clear hg_ hnew_
         (first|rw[← dw.out] at ix|(simp only[Int.reduceToNat] at ix;rw[← dw.out] at ix))
         have ap:=aK (Kd.Q8 ix (Qn HB.out))
         replace az:=sRb az hb
         replace ε :=sBk ε hb
         replace δ :=sBk δ hb
         replace ι :=sBk ι hb
         replace ψ :=sBk ψ hb
         replace HB:=sHb hb
         clear hb ix
         refine hK.out _ _ ⟨qc δ,qc δ⟩ (fun hHeld=>?_)
         clear hK K
         refine qN (some 28) ?_
         exact Zw (by first|(simp only[Q9,Act.put,qS];done)|(simp only[Q9,Act.put,qS];rfl)) (fp (b3,cq,b6,a0) _ ⟨hHeld,az.out,ap.out,ε.out,δ.out,ι.out,ψ.out,b9.out,ba.out,ac.out,ae.out,ab.out,af.out,ag.out,ah.out,HB.out⟩)
       ·skip
        rintro⟨b3,cq,b6⟩ cd ⟨hS_,bd,bf,bg,bh,bi,cf⟩
        have ρ:Aside0 (Kd.R k36 36 cd w.heap.size (fun _=>True) cq b4):=⟨bd⟩
        have τ :Aside0 (Kd.R k86 86 cd w.heap.size (fun _=>True) b6 bm):=⟨bf⟩
        have ω :Aside0 (cd.heap[aa]?=some (.cells #[.int .i64 B,.int .i64 J,.int .i64 O,.int .i64 X,.int .i64 Y,.int .i64 Z,.int .i64 γ,.int .i64 ζ,.int .i64 θ,.int .i64 η] 25 (0,0))):=⟨bg⟩
        have a3:Aside0 (cd.heap[ν]?=some (.cells #[.slice a5 χ.length a6,.slice a7 φ.length a8] 50 (0,0))):=⟨bh⟩
        have an:Aside0 (cd.heap[ai]?=some (.cells #[.slice none 0 0,.slice none 0 0] 50 (0,0))):=⟨bi⟩
        have b1:Aside0 (Below w.heap.size w cd):=⟨cf⟩
        clear ε
        clear δ
        clear ι
        clear HB
        clear bd bf bg bh bi cf
        have az:=ρ
        have ap:= τ
        have ε := ω
        have δ :=a3
        have ι :=an
        have HB:=b1
        clear ρ τ ω a3 an b1
        have hHeld:cd.cell? ⟨ν,0,none⟩=some (.slice a5 χ.length a6)∧cd.cell? ⟨ν,1,none⟩=some (.slice a7 φ.length a8):=hS_
        refine Zw (a':=?_) ?_ ?_
        rotate_left
        ·simp only[Q9,Act.put,qS]
         rfl
        refine Vo (i:=7) (j:=9) (Ni:=some 31) (Nj:=some 11) (bN 11 255) (bN 11 639) rfl rfl rfl rfl (Y9 HT_.out kr) (by decide) (by decide) (fun K hK=>?_) (fun K hK=>?_)
        ·skip
         refine Kd.Zl k86 (w0:=w) w.heap.size (by rfl) (.tmp 28) (.tmp 30) 48 86 (.agg #[(.int .i64 0),(.int .i64 0)]) 16 rfl Try.underlying48 Gc rfl (by decide) (by omega) b6 bm φ _ _ _ (fun _=>True) (fun _=>False) rfl rfl ?aO ?aR (fun _ _ h=>h) (fun _ h=>h.elim) ?aF ?aB ?aS ?aL ?_
         (case aR=>exact(Kd.Qs bo.out HB.out))
         (case aB=>exact HB.out)
         (case aF=>exact(fun _ _=>trivial))
         (case aO=>exact ap.out)
         (case aS=>exact(Qn HB.out))
         (case aL=>have:=n2.out;omega)
         intro iy dt ho hb hg hat
         rw[← lv.out] at ho
         have dq:=aK ho
         replace ε :=aK (Q0 (g:=aa) (o:=.cells #[.int .i64 B,.int .i64 J,.int .i64 O,.int .i64 X,.int .i64 Y,.int .i64 Z,.int .i64 γ,.int .i64 ζ,.int .i64 θ,.int .i64 η] 25 (0,0)) ε.out hg (Kd.Zo ap.out ε.out (by decide)))
         replace δ :=aK (Q0 (g:= ν) (o:=.cells #[.slice a5 χ.length a6,.slice a7 φ.length a8] 50 (0,0)) δ.out hg (Kd.Zo ap.out δ.out (by decide)))
         replace ι :=aK (Q0 (g:=ai) (o:=.cells #[.slice none 0 0,.slice none 0 0] 50 (0,0)) ι.out hg (Kd.Zo ap.out ι.out (by decide)))
         replace az:=aK (Kd.Y8 az.out (Kd.Y7 ap.out) (by decide) hg)
         replace HB:=aK hb
         clear ap
         clear ho hb hg hat
         obtain⟨iv,iw,fm⟩:=Kd.Q7 dq.out
         (first|subst fm|(injection fm with aj aw ak;have ax:=aj.symm;have ay:=ak.symm;clear aj aw ak;subst ax;subst ay))
         obtain⟨iz,j4,fq⟩:=Kd.Q7 az.out
         (first|subst fq|(injection fq with aj aw ak;have ax:=aj.symm;have ay:=ak.symm;clear aj aw ak;subst ax;subst ay))
         refine hK.out _ _ ⟨qc δ,qc δ⟩ (fun hHeld=>?_)
         clear hK K
         refine qN (some 31) ?_
         refine qP 8 (some 32) (bN 11 511) HT_ ?_
         exact Zw (by first|(simp only[Q9,Act.put,qS];done)|(simp only[Q9,Act.put,qS];rfl)) (k5 (b3,.slice iz b4.length j4,b6,.slice iv bl.length iw) _ ⟨hHeld,az.out,dq.out,ε.out,δ.out,ι.out,HB.out⟩)
        ·skip
         refine X0 ?hg (N:=11) ?hd (cs:=#[.slice none 0 0,.slice none 0 0]) (t:=50) ?hr ?_;(case hd=>rfl);(case hg=>rfl);(case hr=>go_simp <;> rfl)
         intro a0 hg dt hbox hb
         have ψ :=aK hbox
         have b9:=sGe hg
         have ba:=sGe hg
         have ac:=sNl ε hg
         have ae:=sNg ε hg
         have ab:=sNl δ hg
         have af:=sNg δ hg
         have ag:=sNl ι hg
         have ah:=sNg ι hg
         replace az:=sRb az hb
         replace ap:=sRb ap hb
         replace ε :=sBk ε hb
         replace δ :=sBk δ hb
         replace ι :=sBk ι hb
         replace HB:=sHb hb
         clear hb hbox hg
         refine hK.out _ _ ⟨qc δ,qc δ⟩ (fun hHeld=>?_)
         clear hK K
         refine qN (some 11) ?_
         exact Zw (by first|(simp only[Q9,Act.put,qS];done)|(simp only[Q9,Act.put,qS];rfl)) (fp (b3,cq,b6,a0) _ ⟨hHeld,az.out,ap.out,ε.out,δ.out,ι.out,ψ.out,b9.out,ba.out,ac.out,ae.out,ab.out,af.out,ag.out,ah.out,HB.out⟩)
      ·skip
       rintro⟨b3,cq,b6,a0⟩ dt ⟨hS_,bd,bf,bg,bh,bi,cf,d9,da,db,dk,cj,ck,cm,d2,et⟩
       have ρ:Aside0 (Kd.R k36 36 dt w.heap.size (fun _=>True) cq b4):=⟨bd⟩
       have τ :Aside0 (Kd.R k86 86 dt w.heap.size (fun _=>True) b6 bm):=⟨bf⟩
       have ω :Aside0 (dt.heap[aa]?=some (.cells #[.int .i64 B,.int .i64 J,.int .i64 O,.int .i64 X,.int .i64 Y,.int .i64 Z,.int .i64 γ,.int .i64 ζ,.int .i64 θ,.int .i64 η] 25 (0,0))):=⟨bg⟩
       have a3:Aside0 (dt.heap[ν]?=some (.cells #[.slice a5 χ.length a6,.slice a7 φ.length a8] 50 (0,0))):=⟨bh⟩
       have an:Aside0 (dt.heap[ai]?=some (.cells #[.slice none 0 0,.slice none 0 0] 50 (0,0))):=⟨bi⟩
       have b1:Aside0 (dt.heap[a0]?=some (.cells #[.slice none 0 0,.slice none 0 0] 50 (0,0))):=⟨cf⟩
       have b7:Aside0 (w.heap.size≤a0):=⟨d9⟩
       have br:Aside0 (w.heap.size≤a0):=⟨da⟩
       have ct:Aside0 (aa≠a0):=⟨db⟩
       have dl:Aside0 (a0≠aa):=⟨dk⟩
       have cn:Aside0 (ν ≠ a0):=⟨cj⟩
       have co:Aside0 (a0 ≠ ν):=⟨ck⟩
       have cp:Aside0 (ai≠a0):=⟨cm⟩
       have d3:Aside0 (a0≠ai):=⟨d2⟩
       have ew:Aside0 (Below w.heap.size w dt):=⟨et⟩
       clear ε
       clear δ
       clear ι
       clear HB
       clear bd bf bg bh bi cf d9 da db dk cj ck cm d2 et
       have az:=ρ
       have ap:= τ
       have ε := ω
       have δ :=a3
       have ι :=an
       have ψ :=b1
       have b9:=b7
       have ba:=br
       have ac:=ct
       have ae:=dl
       have ab:=cn
       have af:=co
       have ag:=cp
       have ah:=d3
       have HB:=ew
       clear ρ τ ω a3 an b1 b7 br ct dl cn co cp d3 ew
       have hHeld:dt.cell? ⟨ν,0,none⟩=some (.slice a5 χ.length a6)∧dt.cell? ⟨ν,1,none⟩=some (.slice a7 φ.length a8):=hS_
       refine Zw (a':=?_) ?_ ?_
       rotate_left
       ·simp only[Q9,Act.put,qS]
        rfl
       refine Zf (i:=7) (N:=some 31) (bN 11 767) rfl rfl (Q3 HT_.out kr) (by decide) (fun K hK=>?_)
       refine Kd.Zl k86 (w0:=w) w.heap.size (by rfl) (.tmp 28) (.tmp 30) 48 86 (.agg #[(.int .i64 0),(.int .i64 0)]) 16 rfl Try.underlying48 Gc rfl (by decide) (by omega) b6 bm φ _ _ _ (fun _=>True) (fun _=>False) rfl rfl ?aO ?aR (fun _ _ h=>h) (fun _ h=>h.elim) ?aF ?aB ?aS ?aL ?_
       (case aR=>exact(Kd.Qs bo.out HB.out))
       (case aB=>exact HB.out)
       (case aF=>exact(fun _ _=>trivial))
       (case aO=>exact ap.out)
       (case aS=>exact(Qn HB.out))
       (case aL=>have:=n2.out;omega)
       intro iy ij ho hb hg hat
       rw[← lv.out] at ho
       have dq:=aK ho
       replace ε :=aK (Q0 (g:=aa) (o:=.cells #[.int .i64 B,.int .i64 J,.int .i64 O,.int .i64 X,.int .i64 Y,.int .i64 Z,.int .i64 γ,.int .i64 ζ,.int .i64 θ,.int .i64 η] 25 (0,0)) ε.out hg (Kd.Zo ap.out ε.out (by decide)))
       replace δ :=aK (Q0 (g:= ν) (o:=.cells #[.slice a5 χ.length a6,.slice a7 φ.length a8] 50 (0,0)) δ.out hg (Kd.Zo ap.out δ.out (by decide)))
       replace ι :=aK (Q0 (g:=ai) (o:=.cells #[.slice none 0 0,.slice none 0 0] 50 (0,0)) ι.out hg (Kd.Zo ap.out ι.out (by decide)))
       replace az:=aK (Kd.Y8 az.out (Kd.Y7 ap.out) (by decide) hg)
       replace ψ :=aK (Q0 (g:=a0) (o:=.cells #[.slice none 0 0,.slice none 0 0] 50 (0,0)) ψ.out hg (Kd.Zo ap.out ψ.out (by decide)))
       replace HB:=aK hb
       clear ap
       clear ho hb hg hat
       obtain⟨iz,j4,fq⟩:=Kd.Q7 dq.out
       (first|subst fq|(injection fq with aj aw ak;have ax:=aj.symm;have ay:=ak.symm;clear aj aw ak;subst ax;subst ay))
       obtain⟨k9,ka,j5⟩:=Kd.Q7 az.out
       (first|subst j5|(injection j5 with aj aw ak;have ax:=aj.symm;have ay:=ak.symm;clear aj aw ak;subst ax;subst ay))
       refine hK.out _ _ ⟨qc δ,qc δ⟩ (fun hHeld=>?_)
       clear hK K
       refine qN (some 31) ?_
       refine qP 8 (some 32) (bN 11 1023) HT_ ?_
       exact Zw (by first|(simp only[Q9,Act.put,qS];done)|(simp only[Q9,Act.put,qS];rfl)) (gi (b3,.slice k9 b4.length ka,b6,.slice iz bl.length j4,a0) _ ⟨hHeld,az.out,dq.out,ε.out,δ.out,ι.out,ψ.out,b9.out,ba.out,ac.out,ae.out,ab.out,af.out,ag.out,ah.out,HB.out⟩)
     ·skip
      rintro⟨b3,cq,b6,iy⟩ di ⟨hS_,bd,bf,bg,bh,bi,cf⟩
      have ρ:Aside0 (Kd.R k36 36 di w.heap.size (fun _=>True) cq b4):=⟨bd⟩
      have τ :Aside0 (Kd.R k86 86 di w.heap.size (fun _=>True) iy bl):=⟨bf⟩
      have ω :Aside0 (di.heap[aa]?=some (.cells #[.int .i64 B,.int .i64 J,.int .i64 O,.int .i64 X,.int .i64 Y,.int .i64 Z,.int .i64 γ,.int .i64 ζ,.int .i64 θ,.int .i64 η] 25 (0,0))):=⟨bg⟩
      have a3:Aside0 (di.heap[ν]?=some (.cells #[.slice a5 χ.length a6,.slice a7 φ.length a8] 50 (0,0))):=⟨bh⟩
      have an:Aside0 (di.heap[ai]?=some (.cells #[.slice none 0 0,.slice none 0 0] 50 (0,0))):=⟨bi⟩
      have b1:Aside0 (Below w.heap.size w di):=⟨cf⟩
      clear ε
      clear δ
      clear ι
      clear HB
      clear bd bf bg bh bi cf
      have az:=ρ
      have dq:= τ
      have ε := ω
      have δ :=a3
      have ι :=an
      have HB:=b1
      clear ρ τ ω a3 an b1
      have hHeld:di.cell? ⟨ν,0,none⟩=some (.slice a5 χ.length a6)∧di.cell? ⟨ν,1,none⟩=some (.slice a7 φ.length a8):=hS_
      obtain⟨k9,ka,j5⟩:=Kd.Q7 dq.out
      (first|subst j5|(injection j5 with aj aw ak;have ax:=aj.symm;have ay:=ak.symm;clear aj aw ak;subst ax;subst ay))
      obtain⟨bq,bp,gm⟩:=Kd.Q7 az.out
      (first|subst gm|(injection gm with aj aw ak;have ax:=aj.symm;have ay:=ak.symm;clear aj aw ak;subst ax;subst ay))
      refine Zw (a':=?_) ?_ ?_
      rotate_left
      ·simp only[Q9,Act.put,qS]
       rfl
      refine Zf (i:=9) (N:=some 11) (bN 11 1023) rfl rfl (Q3 HT_.out kr) (by decide) (fun K hK=>?_)
      refine X0 ?hg (N:=11) ?hd (cs:=#[.slice none 0 0,.slice none 0 0]) (t:=50) ?hr ?_;(case hd=>rfl);(case hg=>rfl);(case hr=>go_simp <;> rfl)
      intro a0 hg e8 hbox hb
      have ψ :=aK hbox
      have b9:=sGe hg
      have ba:=sGe hg
      have ac:=sNl ε hg
      have ae:=sNg ε hg
      have ab:=sNl δ hg
      have af:=sNg δ hg
      have ag:=sNl ι hg
      have ah:=sNg ι hg
      replace az:=sRb az hb
      replace dq:=sRb dq hb
      replace ε :=sBk ε hb
      replace δ :=sBk δ hb
      replace ι :=sBk ι hb
      replace HB:=sHb hb
      clear hb hbox hg
      refine hK.out _ _ ⟨qc δ,qc δ⟩ (fun hHeld=>?_)
      clear hK K
      refine qN (some 11) ?_
      exact Zw (by first|(simp only[Q9,Act.put,qS];done)|(simp only[Q9,Act.put,qS];rfl)) (gi (b3,.slice bq b4.length bp,b6,.slice k9 bl.length ka,a0) _ ⟨hHeld,az.out,dq.out,ε.out,δ.out,ι.out,ψ.out,b9.out,ba.out,ac.out,ae.out,ab.out,af.out,ag.out,ah.out,HB.out⟩)
    rintro⟨b3,cq,b6,iy,a0⟩ du ⟨hS_,bd,bf,bg,bh,bi,cf,d9,da,db,dk,cj,ck,cm,d2,et⟩
    have ρ:Aside0 (Kd.R k36 36 du w.heap.size (fun _=>True) cq b4):=⟨bd⟩
    have τ :Aside0 (Kd.R k86 86 du w.heap.size (fun _=>True) iy bl):=⟨bf⟩
    have ω :Aside0 (du.heap[aa]?=some (.cells #[.int .i64 B,.int .i64 J,.int .i64 O,.int .i64 X,.int .i64 Y,.int .i64 Z,.int .i64 γ,.int .i64 ζ,.int .i64 θ,.int .i64 η] 25 (0,0))):=⟨bg⟩
    have a3:Aside0 (du.heap[ν]?=some (.cells #[.slice a5 χ.length a6,.slice a7 φ.length a8] 50 (0,0))):=⟨bh⟩
    have an:Aside0 (du.heap[ai]?=some (.cells #[.slice none 0 0,.slice none 0 0] 50 (0,0))):=⟨bi⟩
    have b1:Aside0 (du.heap[a0]?=some (.cells #[.slice none 0 0,.slice none 0 0] 50 (0,0))):=⟨cf⟩
    have b7:Aside0 (w.heap.size≤a0):=⟨d9⟩
    have br:Aside0 (w.heap.size≤a0):=⟨da⟩
    have ct:Aside0 (aa≠a0):=⟨db⟩
    have dl:Aside0 (a0≠aa):=⟨dk⟩
    have cn:Aside0 (ν ≠ a0):=⟨cj⟩
    have co:Aside0 (a0 ≠ ν):=⟨ck⟩
    have cp:Aside0 (ai≠a0):=⟨cm⟩
    have d3:Aside0 (a0≠ai):=⟨d2⟩
    have ew:Aside0 (Below w.heap.size w du):=⟨et⟩
    clear ε
    clear δ
    clear ι
    clear HB
    clear bd bf bg bh bi cf d9 da db dk cj ck cm d2 et
    have az:=ρ
    have dq:= τ
    have ε := ω
    have δ :=a3
    have ι :=an
    have ψ :=b1
    have b9:=b7
    have ba:=br
    have ac:=ct
    have ae:=dl
    have ab:=cn
    have af:=co
    have ag:=cp
    have ah:=d3
    have HB:=ew
    clear ρ τ ω a3 an b1 b7 br ct dl cn co cp d3 ew
    have hHeld:du.cell? ⟨ν,0,none⟩=some (.slice a5 χ.length a6)∧du.cell? ⟨ν,1,none⟩=some (.slice a7 φ.length a8):=hS_
    obtain⟨bq,bp,gm⟩:=Kd.Q7 dq.out
    (first|subst gm|(injection gm with aj aw ak;have ax:=aj.symm;have ay:=ak.symm;clear aj aw ak;subst ax;subst ay))
    obtain⟨kn,ko,n3⟩:=Kd.Q7 az.out
    (first|subst n3|(injection n3 with aj aw ak;have ax:=aj.symm;have ay:=ak.symm;clear aj aw ak;subst ax;subst ay))
    refine Zw (a':=?_) ?_ ?_
    rotate_left
    ·simp only[Q9,Act.put,qS]
     rfl
    refine Zf (i:=10) (N:=none) (bN 11 2047) rfl rfl (Q3 HT_.out kr) (by decide) (fun K hK=>?_)
    have sr:du.cell? ⟨a0,0,none⟩=some (.slice none 0 0):=(Qa ψ.out 0).trans rfl
    have sb:=Qh ψ.out 0
    have qh:=ac.out
    have qi:=ab.out
    have qj:=ag.out
    have qk:=ae.out
    have ql:=af.out
    have qm:=ah.out
    have ss:du.cell? ⟨a0,1,none⟩=some (.slice none 0 0):=(Qa ψ.out 1).trans rfl
    have sc:=Qh ψ.out 1
    have qn:=ac.out
    have qo:=ab.out
    have qp:=ag.out
    have qq:=ae.out
    have qs:=af.out
    have qt:=ah.out
    refine Gx (w1:=?_) (by rfl) rfl ?_ ?_
    rotate_left
    ·go_simp
     rfl
    refine hK.out _ _ ⟨((cell_far (p:=⟨a0,_,none⟩) ab.out _).trans (((cell_far (p:=⟨a0,_,none⟩) ab.out _).trans (hHeld.1)))),((cell_far (p:=⟨a0,_,none⟩) ab.out _).trans (((cell_far (p:=⟨a0,_,none⟩) ab.out _).trans (hHeld.2))))⟩ (fun hHeld=>?_)
    clear hK K
    refine Zi (Zc HT_.out kr) ?_
    have i9:=ae.out
    have ia:=ac.out
    have jx:=af.out
    have jy:=ab.out
    have kb:=ah.out
    have kf:=ag.out
    obtain⟨ee,en,eo,ep⟩:=qD2 ψ.out
    try go_wp2
    go_loopg [36] k (fun kq r4 w'=>∃ (a9:Int) (μ :List (S36)) (dr:Value),r4 = .int .i64 a9∧Aside0 (group_Spread.l0 kq l1 a2 (b4.length:Int) a9 B J O X Y Z γ ζ θ η μ bl=some (r1,r2,r3))∧Aside0 (kq≤k)∧Aside0 (Kd.R k36 36 w' w.heap.size (fun _=>True) dr μ)∧Aside0 (Kd.R k86 86 w' w.heap.size (fun _=>True) (.slice bq bl.length bp) bl)∧Aside0 (w'.heap[aa]?=some (.cells #[.int .i64 B,.int .i64 J,.int .i64 O,.int .i64 X,.int .i64 Y,.int .i64 Z,.int .i64 γ,.int .i64 ζ,.int .i64 θ,.int .i64 η] 25 (0,0)))∧Aside0 (w'.heap[ν]?=some (.cells #[(.slice a5 χ.length a6),(.slice a7 φ.length a8)] 50 (0,0)))∧Aside0 (w'.heap[ai]?=some (.cells #[(.slice none 0 0),(.slice none 0 0)] 50 (0,0)))∧Aside0 (w'.heap[a0]?=some (.cells #[dr,(.slice bq bl.length bp)] 50 (0,0)))∧Aside0 (Below w.heap.size w w')∧Aside0 (dr=(.slice kn b4.length ko)))
    case atStart=>exact⟨(0),(b4),(.slice kn b4.length ko),qR,H',⟨Nat.le_refl _⟩,⟨by(with_reducible repeat first|apply Kd.Qv|apply Kd.Qu|apply Kd.Qy);exact Kd.Q1 (Kd.Qx (Kd.Qx (Kd.Q4 az.out ψ.out (by decide)) (fun _ hk=>hk.2) _) (fun _ hk=>hk.2) _) (fun _ hk=>trivial)⟩,⟨by(with_reducible repeat first|apply Kd.Qv|apply Kd.Qu|apply Kd.Qy);exact Kd.Q1 (Kd.Qx (Kd.Qx (Kd.Q4 dq.out ψ.out (by decide)) (fun _ hk=>hk.2) _) (fun _ hk=>hk.2) _) (fun _ hk=>trivial)⟩,⟨bka ε⟩,⟨bka δ⟩,⟨bka ι⟩,⟨by(with_reducible repeat first|refine Qm ?_ _|refine Qd ?_|refine Ql ?_ _);refine Qq (cs:=#[.slice kn b4.length ko,.slice none 0 0]) ?_ 1 _ rfl;(with_reducible repeat first|refine Qm ?_ _|refine Qd ?_|refine Ql ?_ _);refine Qq (cs:=#[.slice none 0 0,.slice none 0 0]) ?_ 0 _ rfl;(with_reducible repeat first|refine Qm ?_ _|refine Qd ?_|refine Ql ?_ _);exact ψ.out⟩,⟨bel⟩,⟨rfl⟩⟩
    case round=>
     clear H'
     try clear ee
     try clear en
     try clear eo
     try clear ep
     obtain⟨a9,μ,dr,rfl,HA,am,ξ,ao,ε,δ,ι,ψ,HB,h4⟩:=hrel
     cases gk with
     |zero=>exact absurd HA.out (by simp[group_Spread.l0])
     |succ k1=>
      have H:=HA.out
      clear HA
      simp only[group_Spread.l0] at H
      by_cases dd:a9<(b4.length:Int)
      ·rw[if_pos dd] at H
       have c37b0:=decide_eq_true dd
       clear dd
       by_cases fk:0≤a9
       ·rw[if_pos fk] at H
        have c38b0:=decide_eq_true fk
        clear fk
        by_cases eu:a9<(μ.length:Int)
        ·rw[if_pos eu] at H
         have c39b0:=decide_eq_true eu
         clear eu
         by_cases e7:((Qc μ a9).f2)≥0
         ·rw[if_pos e7] at H
          have c40b0:decide (0≤((Qc μ a9).f2))=true:=decide_eq_true e7
          clear e7
          by_cases gj:0≤((Qc μ a9).f2)
          ·rw[if_pos gj] at H
           have c41b0:=eq_true gj
           have c41b1:=decide_eq_true gj
           clear gj
           obtain⟨fr,i6⟩:∃ j_:Int,(shr .i64 a2 ((Qc μ a9).f2))=j_:=⟨_,rfl⟩
           replace H:(if (Go.bits .and .i64 (fr) 1)=1 then (group_Spread.l0 k1 l1 a2 (b4.length:Int) (wrap64 (a9+1)) B J O X Y Z γ ζ θ η (μ.set (a9:Int).toNat (⟨(Qc μ a9).f0,(Qc μ a9).f1,(-1)⟩:S36)) bl) else (group_Spread.l0 k1 l1 a2 (b4.length:Int) (wrap64 (a9+1)) B J O X Y Z γ ζ θ η μ bl))=some (r1,r2,r3):=by first|(rw[i6] at H;exact H)|(simp only[i6] at H ⊢;exact H)
           have r5:(a2 / 2 ^ min ((Qc μ a9).f2).toNat 64)=fr:=i6
           have hji42z:((Qc μ a9).f2)≤64→(a2 / 2 ^ ((Qc μ a9).f2).toNat)=fr:=K8 i6
           by_cases fl:(Go.bits .and .i64 (fr) 1)=1
           ·rw[if_pos fl] at H
            have c43b0:((Go.bits .and .i64 (fr) 1)==1)=true:=beq_iff_eq.mpr fl
            have c43b1:((Go.bits .and .i64 (fr) 1) != 1)=false:=bne_eq_false_iff_eq.mpr fl
            clear fl
            obtain⟨kp,h5⟩:∃ y_:List (S36),y_=(μ.set (a9:Int).toNat (⟨(Qc μ a9).f0,(Qc μ a9).f1,(-1)⟩:S36)):=⟨_,rfl⟩
            replace H:(group_Spread.l0 k1 l1 a2 (b4.length:Int) (wrap64 (a9+1)) B J O X Y Z γ ζ θ η kp bl)=some (r1,r2,r3):=by first|(rw[h5];with_reducible exact H)|(have al:=(Option.bind_some _ _).symm.trans H;rw[h5];with_reducible exact al)|(have al:=(Option.bind_some _ _).symm.trans H;with_reducible exact al)|with_reducible exact H|(rw[h5];exact H)|exact H
            have oe:=aK h5
            clear h5
            have H':=aK H
            clear H
            have gx:=ae.out
            have gy:=ac.out
            have k0:=af.out
            have k3:=ab.out
            have lq:=ah.out
            have lr:=ag.out
            obtain⟨hh,hj,hl,i2⟩:=qD2 ψ.out
            obtain⟨st,gn,ov⟩:=Kd.Q7 ξ.out
            subst ov
            have ez:0≤(a9:Int):=of_decide_eq_true (by assumption)
            have f8:a9<(μ.length:Int):=of_decide_eq_true (by assumption)
            obtain⟨gf,j6,i1,i3,i4⟩:=Xc (Kd.Qw ξ.out).2.2 a9 ez f8
            cases j6
            replace ez:=eq_true ez
            replace f8:=eq_true f8
            (try rewrite[← h4.out])
            go_wp2_with (first|((with_reducible refine Qe (N:=13) rfl ?_);refine qE 13 #[.int .i64 0,.int .i64 0,.int .i64 0] 36 ?_;intro cv hg r6 hbox hb;have d8:=aK hbox;have lz:=sGe hg;have m0:=sGe hg;have e0:=sNl ε hg;have e3:=sNg ε hg;have e4:=sNl δ hg;have e9:=sNg δ hg;have ea:=sNl ι hg;have eb:=sNg ι hg;have ec:=sNl ψ hg;have ed:=sNg ψ hg;replace ξ :=aK (Kd.Z8 (Kd.Yz (kra ξ) cv (Nat.le_of_eq hg.symm)) hb);replace ao:=sRb ao hb;replace ε :=sBk ε hb;replace δ :=sBk δ hb;replace ι :=sBk ι hb;replace ψ :=sBk ψ hb;replace HB:=sHb hb;clear hb hbox hg;have ib:=e3.out;have ik:=e0.out;have kt:=e9.out;have lh:=e4.out;have nx:=eb.out;have ny:=ea.out;have sd:=ed.out;have se:=ec.out;obtain⟨ic,ie,kc,ig,ih,ku⟩:=qD3 d8.out)|((with_reducible refine Jk (t:=36) (p:=13) rfl ?_);refine Y1 (t:=36) (p:=13) (v:=?vo_w56) (w1:=(((r6.setCell ⟨cv,0,none⟩ (.int .i64 ((Qc μ a9).f0))).setCell ⟨cv,1,none⟩ (.int .i64 ((Qc μ a9).f1))).setCell ⟨cv,2,none⟩ (.int .i64 ((Qc μ a9).f2)))) ?hg ?ho ?hn ?hr ?_;(case ho=>rfl);(case hg=>rfl);(case hn=>rfl);(case hr=>go_simp <;> rfl);intro bs hw;have ρ:Aside0 (Kd.R k36 36 bs w.heap.size (fun k_=>k_≠cv) (.slice (some gf) μ.length gn) μ):=⟨(by rw[hw];exact(by(with_reducible repeat first|apply Kd.Qv|apply Kd.Qu|apply Kd.Qy);exact Kd.Q1 (Kd.Qx (Kd.Qx (Kd.Qx (Kd.Q1 ξ.out (fun k_ hk=>(⟨hk,hk.2⟩:_∧k_≠cv))) (fun _ hk=>hk.2) (.int .i64 ((Qc μ a9).f0))) (fun _ hk=>hk.2) (.int .i64 ((Qc μ a9).f1))) (fun _ hk=>hk.2) (.int .i64 ((Qc μ a9).f2))) (fun _ hk=>hk.1.2)))⟩;have τ :Aside0 (Kd.R k86 86 bs w.heap.size (fun _=>True) (.slice bq bl.length bp) bl):=⟨(by rw[hw];exact(by(with_reducible repeat first|apply Kd.Qv|apply Kd.Qu|apply Kd.Qy);exact Kd.Q1 (Kd.Qx (Kd.Qx (Kd.Qx (Kd.Q4 ao.out d8.out (by decide)) (fun _ hk=>hk.2) (.int .i64 ((Qc μ a9).f0))) (fun _ hk=>hk.2) (.int .i64 ((Qc μ a9).f1))) (fun _ hk=>hk.2) (.int .i64 ((Qc μ a9).f2))) (fun _ hk=>trivial)))⟩;have ω :Aside0 (bs.heap[aa]?=some (.cells #[.int .i64 B,.int .i64 J,.int .i64 O,.int .i64 X,.int .i64 Y,.int .i64 Z,.int .i64 γ,.int .i64 ζ,.int .i64 θ,.int .i64 η] 25 (0,0))):=⟨(by rw[hw];exact(bka ε))⟩;have a3:Aside0 (bs.heap[ν]?=some (.cells #[.slice a5 χ.length a6,.slice a7 φ.length a8] 50 (0,0))):=⟨(by rw[hw];exact(bka δ))⟩;have an:Aside0 (bs.heap[ai]?=some (.cells #[.slice none 0 0,.slice none 0 0] 50 (0,0))):=⟨(by rw[hw];exact(bka ι))⟩;have b1:Aside0 (bs.heap[a0]?=some (.cells #[.slice (some gf) μ.length gn,.slice bq bl.length bp] 50 (0,0))):=⟨(by rw[hw];exact(bka ψ))⟩;have b7:Aside0 (bs.heap[cv]?=some (.cells #[.int .i64 ((Qc μ a9).f0),.int .i64 ((Qc μ a9).f1),.int .i64 ((Qc μ a9).f2)] 36 (0,0))):=⟨(by rw[hw];exact(by(with_reducible repeat first|refine Qm ?_ _|refine Qd ?_|refine Ql ?_ _);refine Qq (cs:=#[.int .i64 ((Qc μ a9).f0),.int .i64 ((Qc μ a9).f1),.int .i64 0]) ?_ 2 _ rfl;(with_reducible repeat first|refine Qm ?_ _|refine Qd ?_|refine Ql ?_ _);refine Qq (cs:=#[.int .i64 ((Qc μ a9).f0),.int .i64 0,.int .i64 0]) ?_ 1 _ rfl;(with_reducible repeat first|refine Qm ?_ _|refine Qd ?_|refine Ql ?_ _);refine Qq (cs:=#[.int .i64 0,.int .i64 0,.int .i64 0]) ?_ 0 _ rfl;(with_reducible repeat first|refine Qm ?_ _|refine Qd ?_|refine Ql ?_ _);exact d8.out))⟩;have br:Aside0 (Below w.heap.size w bs):=⟨(by rw[hw];exact bel)⟩;clear hw;clear ξ;clear ao;clear ε;clear δ;clear ι;clear ψ;clear d8;clear HB;have ξ :=ρ;have ao:= τ;have ε := ω;have δ :=a3;have ι :=an;have ψ :=b1;have d8:=b7;have HB:=br;clear ρ τ ω a3 an b1 b7 br;obtain⟨jm,jn,l2,l3,l4,l5⟩:=qD3 d8.out;obtain⟨mb,mc,me,mf⟩:=qD2 ψ.out;have p44:0≤(a9:Int):=of_decide_eq_true (by assumption);have na:(a9:Int)<((μ.length:Int):Int):=of_decide_eq_true (by assumption);obtain⟨dz,su,nb,nc,ow,sv,nd⟩:=Kd.Uo ξ.out (by omega);(first|cases nb|(injection nb with ea_ en_ ec_;(first|subst ea_|(injection ea_ with ea_;subst ea_));subst ec_;clear en_));have ox:=aK nc;have sw:=aK nd;clear nc ow nd;(first|simp only[add_plain] at i1|skip);(first|simp only[add_plain] at i3|skip);(first|simp only[add_plain] at i4|skip);obtain⟨sx,oh,nf,i7,im⟩:=Kd.Jo ξ.out z36 (a9:Int) p44 na;obtain rfl:=Yh nf;have r7:bs.cell? ⟨dz,(a9:Int).toNat * 3,none⟩=some (.int .i64 ((Qc μ a9).f0)):=i7 0 _ rfl;have r8:bs.cell? ⟨dz,(a9:Int).toNat * 3+1,none⟩=some (.int .i64 ((Qc μ a9).f1)):=i7 1 _ rfl;have r9:bs.cell? ⟨dz,(a9:Int).toNat * 3+2,none⟩=some (.int .i64 ((Qc μ a9).f2)):=i7 2 _ rfl;have ra:bs.frozen? ⟨dz,(a9:Int).toNat * 3,none⟩=false:=im 0;have rb:bs.frozen? ⟨dz,(a9:Int).toNat * 3+1,none⟩=false:=im 1;have rc:bs.frozen? ⟨dz,(a9:Int).toNat * 3+2,none⟩=false:=im 2;clear oh i7 im nf;replace p44:=eq_true p44;replace na:=eq_true na;have ng:=aK (show Kd.R k36 36 bs w.heap.size (fun k_=>k_≠cv) (.slice (some ⟨dz,0,none⟩) μ.length gn) μ from(kra ξ));obtain⟨sy,m1,nh,jw,m2⟩:=Kd.Jo ng.out z36 (a9:Int) (of_decide_eq_true (by assumption)) (by have h_:(a9:Int)<((μ.length:Int):Int):=of_decide_eq_true (by assumption);first|exact h_|(have e_:=(Kd.Qw ξ.out).1;omega)|simpa using h_);obtain rfl:=Yh nh;have ks:=Kd.Lx ng.out (a9:Int) (of_decide_eq_true (by assumption)) (by have h_:(a9:Int)<((μ.length:Int):Int):=of_decide_eq_true (by assumption);first|exact h_|(have e_:=(Kd.Qw ξ.out).1;omega)|simpa using h_) (seg:=[.int .i64 (-1)]) (j:=2) m1 jw (show 3≤3 from by decide) (x':=(⟨(Qc μ a9).f0,(Qc μ a9).f1,(-1)⟩:S36)) (K2 _ _ _ (⟨(Qc μ a9).f0,(Qc μ a9).f1,(-1)⟩:S36)) (fun _ hk=>hk);have ni:=jw 2 _ rfl;(try simp only[show(k36).sz=3 from rfl,Nat.mul_one,Nat.add_zero] at ni);have nj:=m2 2;(try simp only[show(k36).sz=3 from rfl,Nat.mul_one,Nat.add_zero] at nj);clear m1 jw m2 nh)|((with_reducible refine Jk (t:=3) (p:=56) rfl ?_);refine Y1 (t:=3) (p:=56) (v:=?vo_w60) (w1:=(bs.setCell ⟨dz,(a9:Int).toNat * 3+2,none⟩ (.int .i64 (-1)))) ?hg ?ho ?hn ?hr ?_;(case ho=>rfl);(case hg=>rfl);(case hn=>rfl);(case hr=>go_simp <;> rfl);intro k7 hw;have hg:bs.grownBy k7 (some dz):=(by rw[hw];exact ks.2);have hp_:Kd.R k36 36 k7 w.heap.size (fun k_=>k_≠cv) (.slice (some ⟨dz,0,none⟩) μ.length gn) kp:=(by rw[hw,oe.out];exact ks.1);clear ks;replace ao:=aK (Kd.Y8 (v:=(.slice (some ⟨dz,0,none⟩) μ.length gn)) (kra ao) (Kd.Y7 ξ.out) (by decide) hg);replace ε :=aK (Q0 (g:=aa) (o:=.cells #[.int .i64 B,.int .i64 J,.int .i64 O,.int .i64 X,.int .i64 Y,.int .i64 Z,.int .i64 γ,.int .i64 ζ,.int .i64 θ,.int .i64 η] 25 (0,0)) (bka ε) hg (Kd.Zo ξ.out ε.out (by decide)));replace δ :=aK (Q0 (g:= ν) (o:=.cells #[.slice a5 χ.length a6,.slice a7 φ.length a8] 50 (0,0)) (bka δ) hg (Kd.Zo ξ.out δ.out (by decide)));replace ι :=aK (Q0 (g:=ai) (o:=.cells #[.slice none 0 0,.slice none 0 0] 50 (0,0)) (bka ι) hg (Kd.Zo ξ.out ι.out (by decide)));replace ψ :=aK (Q0 (g:=a0) (o:=.cells #[.slice (some ⟨dz,0,none⟩) μ.length gn,.slice bq bl.length bp] 50 (0,0)) (bka ψ) hg (Kd.Zo ξ.out ψ.out (by decide)));replace d8:=aK (Q0 (g:=cv) (o:=.cells #[.int .i64 ((Qc μ a9).f0),.int .i64 ((Qc μ a9).f1),.int .i64 ((Qc μ a9).f2)] 36 (0,0)) (bka d8) hg (Kd.Lf ξ.out (fun _ hk=>hk)));replace ξ :=aK hp_;replace HB:=aK ((by rw[hw];exact Qr (HB.out) ox.out:Below w.heap.size w k7));clear hg hw hp_))
            rewrite[h4.out]
            go_roundg k1
            case measure=>have:=am.out;omega
            case rel=>exact⟨(wrap64 (a9+1)),(kp),(.slice (some ⟨dz,0,none⟩) μ.length gn),rfl,H',⟨by have:=am.out;omega⟩,⟨by(with_reducible repeat first|apply Kd.Qv|apply Kd.Qu|apply Kd.Qy);exact Kd.Q1 ξ.out (fun _ hk=>trivial)⟩,⟨by(with_reducible repeat first|apply Kd.Qv|apply Kd.Qu|apply Kd.Qy);exact ao.out⟩,ε,δ,ι,ψ,HB,h4⟩
           ·rw[if_neg fl] at H
            have c43b0:((Go.bits .and .i64 (fr) 1)==1)=false:=beq_eq_false_iff_ne.mpr fl
            have c43b1:((Go.bits .and .i64 (fr) 1) != 1)=true:=bne_iff_ne.mpr fl
            have H':=aK H
            clear H
            have lb:=ae.out
            have lc:=ac.out
            have o5:=af.out
            have o6:=ab.out
            have lf:=ah.out
            have lg:=ag.out
            obtain⟨h8,h9,ha,ii⟩:=qD2 ψ.out
            obtain⟨t0,oy,oz⟩:=Kd.Q7 ξ.out
            subst oz
            have ez:0≤(a9:Int):=of_decide_eq_true (by assumption)
            have f8:a9<(μ.length:Int):=of_decide_eq_true (by assumption)
            obtain⟨gf,j6,i1,i3,i4⟩:=Xc (Kd.Qw ξ.out).2.2 a9 ez f8
            cases j6
            replace ez:=eq_true ez
            replace f8:=eq_true f8
            (try rewrite[← h4.out])
            go_wp2_with (first|((with_reducible refine Qe (N:=13) rfl ?_);refine qE 13 #[.int .i64 0,.int .i64 0,.int .i64 0] 36 ?_;intro cv hg ot hbox hb;have d8:=aK hbox;have lz:=sGe hg;have m0:=sGe hg;have e0:=sNl ε hg;have e3:=sNg ε hg;have e4:=sNl δ hg;have e9:=sNg δ hg;have ea:=sNl ι hg;have eb:=sNg ι hg;have ec:=sNl ψ hg;have ed:=sNg ψ hg;replace ξ :=aK (Kd.Z8 (Kd.Yz ξ.out cv (Nat.le_of_eq hg.symm)) hb);replace ao:=sRb ao hb;replace ε :=sBk ε hb;replace δ :=sBk δ hb;replace ι :=sBk ι hb;replace ψ :=sBk ψ hb;replace HB:=sHb hb;clear hb hbox hg;have kw:=e3.out;have kx:=e0.out;have l6:=e9.out;have l7:=e4.out;have ky:=eb.out;have kz:=ea.out;have nz:=ed.out;have o0:=ec.out;obtain⟨j9,ja,jb,jc,jd,je⟩:=qD3 d8.out))
            rewrite[h4.out]
            go_roundg k1
            case measure=>have:=am.out;omega
            case rel=>exact⟨(wrap64 (a9+1)),(μ),(.slice (some gf) μ.length oy),qR,H',⟨by have:=am.out;omega⟩,⟨by(with_reducible repeat first|apply Kd.Qv|apply Kd.Qu|apply Kd.Qy);exact Kd.Q1 (Kd.Qx (Kd.Qx (Kd.Qx (Kd.Q1 ξ.out (fun k_ hk=>(⟨hk,hk.2⟩:_∧k_≠cv))) (fun _ hk=>hk.2) (.int .i64 ((Qc μ a9).f0))) (fun _ hk=>hk.2) (.int .i64 ((Qc μ a9).f1))) (fun _ hk=>hk.2) (.int .i64 ((Qc μ a9).f2))) (fun _ hk=>trivial)⟩,⟨by(with_reducible repeat first|apply Kd.Qv|apply Kd.Qu|apply Kd.Qy);exact Kd.Q1 (Kd.Qx (Kd.Qx (Kd.Qx (Kd.Q4 ao.out d8.out (by decide)) (fun _ hk=>hk.2) (.int .i64 ((Qc μ a9).f0))) (fun _ hk=>hk.2) (.int .i64 ((Qc μ a9).f1))) (fun _ hk=>hk.2) (.int .i64 ((Qc μ a9).f2))) (fun _ hk=>trivial)⟩,⟨bka ε⟩,⟨bka δ⟩,⟨bka ι⟩,⟨bka ψ⟩,⟨bel⟩,h4⟩
          ·rw[if_neg gj] at H
           exact absurd H (by simp)
         ·rw[if_neg e7] at H
          have c40b0:decide (0≤((Qc μ a9).f2))=false:=decide_eq_false e7
          clear e7
          have H':=aK H
          clear H
          have nv:=ae.out
          have nw:=ac.out
          have sf:=af.out
          have sg:=ab.out
          have o7:=ah.out
          have o8:=ag.out
          obtain⟨m7,m8,m9,ma⟩:=qD2 ψ.out
          obtain⟨t1,p0,p1⟩:=Kd.Q7 ξ.out
          subst p1
          have ez:0≤(a9:Int):=of_decide_eq_true (by assumption)
          have f8:a9<(μ.length:Int):=of_decide_eq_true (by assumption)
          obtain⟨gf,j6,i1,i3,i4⟩:=Xc (Kd.Qw ξ.out).2.2 a9 ez f8
          cases j6
          replace ez:=eq_true ez
          replace f8:=eq_true f8
          (try rewrite[← h4.out])
          go_wp2_with (first|((with_reducible refine Qe (N:=13) rfl ?_);refine qE 13 #[.int .i64 0,.int .i64 0,.int .i64 0] 36 ?_;intro cv hg tc hbox hb;have d8:=aK hbox;have lz:=sGe hg;have m0:=sGe hg;have e0:=sNl ε hg;have e3:=sNg ε hg;have e4:=sNl δ hg;have e9:=sNg δ hg;have ea:=sNl ι hg;have eb:=sNg ι hg;have ec:=sNl ψ hg;have ed:=sNg ψ hg;replace ξ :=aK (Kd.Z8 (Kd.Yz ξ.out cv (Nat.le_of_eq hg.symm)) hb);replace ao:=sRb ao hb;replace ε :=sBk ε hb;replace δ :=sBk δ hb;replace ι :=sBk ι hb;replace ψ :=sBk ψ hb;replace HB:=sHb hb;clear hb hbox hg;have o1:=e3.out;have o2:=e0.out;have ls:=e9.out;have lu:=e4.out;have l8:=eb.out;have l9:=ea.out;have ll:=ed.out;have lm:=ec.out;obtain⟨jf,jg,jh,ji,jj,jk⟩:=qD3 d8.out))
          rewrite[h4.out]
          go_roundg k1
          case measure=>have:=am.out;omega
          case rel=>exact⟨(wrap64 (a9+1)),(μ),(.slice (some gf) μ.length p0),qR,H',⟨by have:=am.out;omega⟩,⟨by(with_reducible repeat first|apply Kd.Qv|apply Kd.Qu|apply Kd.Qy);exact Kd.Q1 (Kd.Qx (Kd.Qx (Kd.Qx (Kd.Q1 ξ.out (fun k_ hk=>(⟨hk,hk.2⟩:_∧k_≠cv))) (fun _ hk=>hk.2) (.int .i64 ((Qc μ a9).f0))) (fun _ hk=>hk.2) (.int .i64 ((Qc μ a9).f1))) (fun _ hk=>hk.2) (.int .i64 ((Qc μ a9).f2))) (fun _ hk=>trivial)⟩,⟨by(with_reducible repeat first|apply Kd.Qv|apply Kd.Qu|apply Kd.Qy);exact Kd.Q1 (Kd.Qx (Kd.Qx (Kd.Qx (Kd.Q4 ao.out d8.out (by decide)) (fun _ hk=>hk.2) (.int .i64 ((Qc μ a9).f0))) (fun _ hk=>hk.2) (.int .i64 ((Qc μ a9).f1))) (fun _ hk=>hk.2) (.int .i64 ((Qc μ a9).f2))) (fun _ hk=>trivial)⟩,⟨bka ε⟩,⟨bka δ⟩,⟨bka ι⟩,⟨bka ψ⟩,⟨bel⟩,h4⟩
        ·rw[if_neg eu] at H
         exact absurd H (by simp)
       ·rw[if_neg fk] at H
        exact absurd H (by simp)
      ·rw[if_neg dd] at H
       have c37b0:=decide_eq_false dd
       clear dd
       have H':=aK H
       clear H
       have sh:=ae.out
       have si:=ac.out
       have sj:=af.out
       have sk:=ab.out
       have sl:=ah.out
       have sn:=ag.out
       obtain⟨jl,jo,jp,jq⟩:=qD2 ψ.out
       obtain⟨nk,nl,p5⟩:=Kd.Q7 ξ.out
       subst p5
       go_wp2
       go_loopg [61] k1 (fun kq re w'=>∃ (a1:Int) (κ :List (S36)) (dr:Value),re = .int .i64 a1∧Aside0 (group_Spread.l1 kq l1 a2 (μ.length:Int) a1 B J O X Y Z γ ζ θ η κ bl=some (r1,r2,r3))∧Aside0 (kq≤k1)∧Aside0 (Kd.R k36 36 w' w.heap.size (fun _=>True) dr κ)∧Aside0 (Kd.R k86 86 w' w.heap.size (fun _=>True) (.slice bq bl.length bp) bl)∧Aside0 (w'.heap[aa]?=some (.cells #[.int .i64 B,.int .i64 J,.int .i64 O,.int .i64 X,.int .i64 Y,.int .i64 Z,.int .i64 γ,.int .i64 ζ,.int .i64 θ,.int .i64 η] 25 (0,0)))∧Aside0 (w'.heap[ν]?=some (.cells #[(.slice a5 χ.length a6),(.slice a7 φ.length a8)] 50 (0,0)))∧Aside0 (w'.heap[ai]?=some (.cells #[(.slice none 0 0),(.slice none 0 0)] 50 (0,0)))∧Aside0 (w'.heap[a0]?=some (.cells #[dr,(.slice bq bl.length bp)] 50 (0,0)))∧Aside0 (Below w.heap.size w w')∧Aside0 (dr=(.slice nk μ.length nl)))
       case atStart=>exact⟨(0),(μ),(.slice nk μ.length nl),rfl,H',⟨Nat.le_refl _⟩,⟨by(with_reducible repeat first|apply Kd.Qv|apply Kd.Qu|apply Kd.Qy);exact ξ.out⟩,⟨by(with_reducible repeat first|apply Kd.Qv|apply Kd.Qu|apply Kd.Qy);exact ao.out⟩,ε,δ,ι,ψ,HB,⟨rfl⟩⟩
       case round=>
        clear H'
        try clear c37b0
        try clear ee
        try clear en
        try clear jl
        try clear jo
        try clear eo
        try clear ep
        try clear jp
        try clear jq
        obtain⟨a1,κ,dr,rfl,HA,bn,ξ,ao,ε,δ,ι,ψ,HB,j7⟩:=hrel
        cases gk with
        |zero=>exact absurd HA.out (by simp[group_Spread.l1])
        |succ k2=>
         have H:=HA.out
         clear HA
         simp only[group_Spread.l1] at H
         by_cases fc:a1<(μ.length:Int)
         ·rw[if_pos fc] at H
          have c88b0:=decide_eq_true fc
          clear fc
          by_cases gr:0≤a1
          ·rw[if_pos gr] at H
           have c89b0:=decide_eq_true gr
           clear gr
           by_cases m3:a1<(κ.length:Int)
           ·rw[if_pos m3] at H
            have c90b0:=decide_eq_true m3
            clear m3
            by_cases jt:((Qc κ a1).f2)<0
            ·rw[if_pos jt] at H
             have c91b0:=decide_eq_true jt
             clear jt
             obtain⟨dm,nm,H⟩:=qO H
             have rf:=aK nm
             clear nm
             obtain⟨nn,h6⟩:∃ y_:List (S36),y_=(κ.set (a1:Int).toNat (⟨(Qc κ a1).f0,(Qc κ a1).f1,dm⟩:S36)):=⟨_,rfl⟩
             replace H:(group_Spread.l1 k2 l1 a2 (μ.length:Int) (wrap64 (a1+1)) B J O X Y Z γ ζ θ η nn bl)=some (r1,r2,r3):=by first|(rw[h6];with_reducible exact H)|(have al:=(Option.bind_some _ _).symm.trans H;rw[h6];with_reducible exact al)|(have al:=(Option.bind_some _ _).symm.trans H;with_reducible exact al)|with_reducible exact H|(rw[h6];exact H)|exact H
             have oi:=aK h6
             clear h6
             have H':=aK H
             clear H
             have ln:=ae.out
             have lp:=ac.out
             have o3:=af.out
             have o4:=ab.out
             have so:=ah.out
             have sp:=ag.out
             obtain⟨qu,qv,qw,qx⟩:=qD2 ψ.out
             obtain⟨mg,gl,kd⟩:=Kd.Q7 ξ.out
             subst kd
             have fa:0≤(a1:Int):=of_decide_eq_true (by assumption)
             have fb:a1<(κ.length:Int):=of_decide_eq_true (by assumption)
             obtain⟨ar,j8,dy,e5,e6⟩:=Xc (Kd.Qw ξ.out).2.2 a1 fa fb
             cases j8
             replace fa:=eq_true fa
             replace fb:=eq_true fb
             (try rewrite[← j7.out])
             try go_wp2_with (first|((with_reducible refine Qe (N:=15) rfl ?_);refine qE 15 #[.int .i64 0,.int .i64 0,.int .i64 0] 36 ?_;intro b0 hg h7 hbox hb;have ce:=aK hbox;have oj:=sGe hg;have ol:=sGe hg;have fu:=sNl ε hg;have fv:=sNg ε hg;have fw:=sNl δ hg;have fx:=sNg δ hg;have fy:=sNl ι hg;have fz:=sNg ι hg;have ga:=sNl ψ hg;have gb:=sNg ψ hg;replace ξ :=aK (Kd.Z8 (Kd.Yz ξ.out b0 (Nat.le_of_eq hg.symm)) hb);replace ao:=sRb ao hb;replace ε :=sBk ε hb;replace δ :=sBk δ hb;replace ι :=sBk ι hb;replace ψ :=sBk ψ hb;replace HB:=sHb hb;clear hb hbox hg;have mh:=fv.out;have mi:=fu.out;have mj:=fx.out;have ml:=fw.out;have mm:=fz.out;have mo:=fy.out;have rh:=gb.out;have ri:=ga.out;obtain⟨p6,p7,p8,p9,pa,pb⟩:=qD3 ce.out))
             have ρ:Aside0 (Kd.R k36 36 (((h7.setCell ⟨b0,0,none⟩ (.int .i64 ((Qc κ a1).f0))).setCell ⟨b0,1,none⟩ (.int .i64 ((Qc κ a1).f1))).setCell ⟨b0,2,none⟩ (.int .i64 ((Qc κ a1).f2))) w.heap.size (fun k_=>k_≠b0) (.slice (some ar) κ.length gl) κ):=⟨by(with_reducible repeat first|apply Kd.Qv|apply Kd.Qu|apply Kd.Qy);exact Kd.Q1 (Kd.Qx (Kd.Qx (Kd.Qx (Kd.Q1 ξ.out (fun k_ hk=>(⟨hk,hk.2⟩:_∧k_≠b0))) (fun _ hk=>hk.2) (.int .i64 ((Qc κ a1).f0))) (fun _ hk=>hk.2) (.int .i64 ((Qc κ a1).f1))) (fun _ hk=>hk.2) (.int .i64 ((Qc κ a1).f2))) (fun _ hk=>hk.1.2)⟩
             have τ :Aside0 (Kd.R k86 86 (((h7.setCell ⟨b0,0,none⟩ (.int .i64 ((Qc κ a1).f0))).setCell ⟨b0,1,none⟩ (.int .i64 ((Qc κ a1).f1))).setCell ⟨b0,2,none⟩ (.int .i64 ((Qc κ a1).f2))) w.heap.size (fun _=>True) (.slice bq bl.length bp) bl):=⟨by(with_reducible repeat first|apply Kd.Qv|apply Kd.Qu|apply Kd.Qy);exact Kd.Q1 (Kd.Qx (Kd.Qx (Kd.Qx (Kd.Q4 ao.out ce.out (by decide)) (fun _ hk=>hk.2) (.int .i64 ((Qc κ a1).f0))) (fun _ hk=>hk.2) (.int .i64 ((Qc κ a1).f1))) (fun _ hk=>hk.2) (.int .i64 ((Qc κ a1).f2))) (fun _ hk=>trivial)⟩
             have ω :Aside0 ((((h7.setCell ⟨b0,0,none⟩ (.int .i64 ((Qc κ a1).f0))).setCell ⟨b0,1,none⟩ (.int .i64 ((Qc κ a1).f1))).setCell ⟨b0,2,none⟩ (.int .i64 ((Qc κ a1).f2))).heap[aa]?=some (.cells #[.int .i64 B,.int .i64 J,.int .i64 O,.int .i64 X,.int .i64 Y,.int .i64 Z,.int .i64 γ,.int .i64 ζ,.int .i64 θ,.int .i64 η] 25 (0,0))):=⟨bka ε⟩
             have a3:Aside0 ((((h7.setCell ⟨b0,0,none⟩ (.int .i64 ((Qc κ a1).f0))).setCell ⟨b0,1,none⟩ (.int .i64 ((Qc κ a1).f1))).setCell ⟨b0,2,none⟩ (.int .i64 ((Qc κ a1).f2))).heap[ν]?=some (.cells #[.slice a5 χ.length a6,.slice a7 φ.length a8] 50 (0,0))):=⟨bka δ⟩
             have an:Aside0 ((((h7.setCell ⟨b0,0,none⟩ (.int .i64 ((Qc κ a1).f0))).setCell ⟨b0,1,none⟩ (.int .i64 ((Qc κ a1).f1))).setCell ⟨b0,2,none⟩ (.int .i64 ((Qc κ a1).f2))).heap[ai]?=some (.cells #[.slice none 0 0,.slice none 0 0] 50 (0,0))):=⟨bka ι⟩
             have b1:Aside0 ((((h7.setCell ⟨b0,0,none⟩ (.int .i64 ((Qc κ a1).f0))).setCell ⟨b0,1,none⟩ (.int .i64 ((Qc κ a1).f1))).setCell ⟨b0,2,none⟩ (.int .i64 ((Qc κ a1).f2))).heap[a0]?=some (.cells #[.slice (some ar) κ.length gl,.slice bq bl.length bp] 50 (0,0))):=⟨bka ψ⟩
             have b7:Aside0 ((((h7.setCell ⟨b0,0,none⟩ (.int .i64 ((Qc κ a1).f0))).setCell ⟨b0,1,none⟩ (.int .i64 ((Qc κ a1).f1))).setCell ⟨b0,2,none⟩ (.int .i64 ((Qc κ a1).f2))).heap[b0]?=some (.cells #[.int .i64 ((Qc κ a1).f0),.int .i64 ((Qc κ a1).f1),.int .i64 ((Qc κ a1).f2)] 36 (0,0))):=⟨by refine Qq (cs:=#[.int .i64 ((Qc κ a1).f0),.int .i64 ((Qc κ a1).f1),.int .i64 0]) ?_ 2 _ rfl;refine Qq (cs:=#[.int .i64 ((Qc κ a1).f0),.int .i64 0,.int .i64 0]) ?_ 1 _ rfl;refine Qq (cs:=#[.int .i64 0,.int .i64 0,.int .i64 0]) ?_ 0 _ rfl;exact ce.out⟩
             have br:Aside0 (Below w.heap.size w (((h7.setCell ⟨b0,0,none⟩ (.int .i64 ((Qc κ a1).f0))).setCell ⟨b0,1,none⟩ (.int .i64 ((Qc κ a1).f1))).setCell ⟨b0,2,none⟩ (.int .i64 ((Qc κ a1).f2)))):=⟨bel⟩
             (try clear ξ)
             (try clear ao)
             (try clear ε)
             (try clear δ)
             (try clear ι)
             (try clear ψ)
             (try clear ce)
             (try clear HB)
             generalize(((h7.setCell ⟨b0,0,none⟩ (.int .i64 ((Qc κ a1).f0))).setCell ⟨b0,1,none⟩ (.int .i64 ((Qc κ a1).f1))).setCell ⟨b0,2,none⟩ (.int .i64 ((Qc κ a1).f2)))=pc at ρ τ ω a3 an b1 b7 br ⊢
             have ξ :=ρ
             have ao:= τ
             have ε := ω
             have δ :=a3
             have ι :=an
             have ψ :=b1
             have ce:=b7
             have HB:=br
             clear ρ τ ω a3 an b1 b7 br
             replace ξ :=aK (Kd.Qy ξ.out)
             replace ao:=aK (Kd.Qy ao.out)
             replace ε :=aK (Qd ε.out)
             replace δ :=aK (Qd δ.out)
             replace ι :=aK (Qd ι.out)
             replace ψ :=aK (Qd ψ.out)
             replace ce:=aK (Qd ce.out)
             replace HB:=aK (Qg HB.out)
             refine Ze (n:=12) (S:=fun w'=>w'.cell? ⟨a0,0,none⟩=some (.slice (some ar) κ.length gl)∧w'.cell? ⟨a0,1,none⟩=some (.slice bq bl.length bp)∧w'.cell? ⟨aa,0,none⟩=some (.int .i64 B)∧w'.cell? ⟨aa,1,none⟩=some (.int .i64 J)∧w'.cell? ⟨aa,2,none⟩=some (.int .i64 O)∧w'.cell? ⟨aa,3,none⟩=some (.int .i64 X)∧w'.cell? ⟨aa,4,none⟩=some (.int .i64 Y)∧w'.cell? ⟨aa,5,none⟩=some (.int .i64 Z)∧w'.cell? ⟨aa,6,none⟩=some (.int .i64 γ)∧w'.cell? ⟨aa,7,none⟩=some (.int .i64 ζ)∧w'.cell? ⟨aa,8,none⟩=some (.int .i64 θ)∧w'.cell? ⟨aa,9,none⟩=some (.int .i64 η)∧w'.cell? ⟨b0,0,none⟩=some (.int .i64 ((Qc κ a1).f0))∧w'.cell? ⟨b0,1,none⟩=some (.int .i64 ((Qc κ a1).f1))∧w'.cell? ⟨b0,2,none⟩=some (.int .i64 ((Qc κ a1).f2))) (ds:=[11]) #[false,false,false,false,false,false,false,false,false,false,false,false] kr rfl rfl ⟨(Qa ψ.out 0).trans rfl,(Qa ψ.out 1).trans rfl,(Qa ε.out 0).trans rfl,(Qa ε.out 1).trans rfl,(Qa ε.out 2).trans rfl,(Qa ε.out 3).trans rfl,(Qa ε.out 4).trans rfl,(Qa ε.out 5).trans rfl,(Qa ε.out 6).trans rfl,(Qa ε.out 7).trans rfl,(Qa ε.out 8).trans rfl,(Qa ε.out 9).trans rfl,(Qa ce.out 0).trans rfl,(Qa ce.out 1).trans rfl,(Qa ce.out 2).trans rfl⟩ (fun hHeld=>?_);refine Q5 group_Spread.tab15 group_Spread.Ci (fun HT_ HW_=>?_)
             generalize pc.drew=t2 at ξ ao ε δ ι ψ ce HB hHeld ⊢
             refine qP 0 (some 69) (bN 12 1) HT_ ?_
             refine qP 2 (some 71) (bN 12 5) HT_ ?_
             refine qP 4 (some 73) (bN 12 21) HT_ ?_
             refine qP 5 (some 74) (bN 12 53) HT_ ?_
             refine qT 1 (some 70) (bN 12 55) HT_ HW_ hHeld ?_
             refine qT 3 (some 72) (bN 12 63) HT_ HW_ hHeld ?_
             refine qT 6 (some 75) (bN 12 127) HT_ HW_ hHeld ?_
             refine qT 7 (some 76) (bN 12 255) HT_ HW_ hHeld ?_
             refine Zf (i:=8) (N:=some 77) (bN 12 511) rfl rfl (Q3 HT_.out kr) (by decide) (fun K hK=>?_)
             refine Zd Try.func38 kr rfl #[.agg #[.int .i64 B,.int .i64 J,.int .i64 O,.int .i64 X,.int .i64 Y,.int .i64 Z,.int .i64 γ,.int .i64 ζ,.int .i64 θ,.int .i64 η],.slice A1 l1.length c1,.int .i64 a2,.agg #[.slice (some ar) κ.length gl,.slice bq bl.length bp],.agg #[.int .i64 ((Qc κ a1).f0),.int .i64 ((Qc κ a1).f1),.int .i64 ((Qc κ a1).f2)]] (by rfl) rfl rfl qM ?_
             with_reducible refine(group_pick.calls k2 B J O X Y Z γ ζ θ η _ _ l1 a2 _ _ κ _ _ bl ((Qc κ a1).f0) ((Qc κ a1).f1) ((Qc κ a1).f2) dm _ ?side1 ?side2 ?side3 ?side4 ?side5 ?side6 rf.out).mono ?_
             (case side1=>exact(Kd.Qs ci.out HB.out))
             (case side2=>exact dj.out)
             (case side3=>exact(Kd.Qw ξ.out).2.2)
             (case side4=>exact(Kd.Qw ξ.out).2.1)
             (case side5=>exact(Kd.Qw ao.out).2.2)
             (case side6=>exact(Kd.Qw ao.out).2.1)
             rintro e t3 ⟨rfl,hb⟩
             refine⟨_,rfl, ?_⟩
             replace ξ :=sRb ξ hb
             replace ao:=sRb ao hb
             replace ε :=sBk ε hb
             replace δ :=sBk δ hb
             replace ι :=sBk ι hb
             replace ψ :=sBk ψ hb
             replace ce:=sBk ce hb
             replace HB:=sHb hb
             (try clear hb)
             (try clear a4)
             (try clear hk)
             (try clear hi)
             have no:0≤(a1:Int):=of_decide_eq_true (by assumption)
             have np:(a1:Int)<((κ.length:Int):Int):=of_decide_eq_true (by assumption)
             obtain⟨ge,t4,nq,nr,pd,t5,ns⟩:=Kd.Uo ξ.out (by omega)
             (first|cases nq|(injection nq with ea_ en_ ec_;(first|subst ea_|(injection ea_ with ea_;subst ea_));subst ec_;clear en_))
             have t6:=aK nr
             have pe:=aK ns
             clear nr pd ns
             (first|simp only[add_plain] at dy|skip)
             (first|simp only[add_plain] at e5|skip)
             (first|simp only[add_plain] at e6|skip)
             obtain⟨t7,om,nt,io,ip⟩:=Kd.Jo ξ.out z36 (a1:Int) no np
             obtain rfl:=Yh nt
             have rj:World.cell? _ ⟨ge,(a1:Int).toNat * 3,none⟩=some (.int .i64 ((Qc κ a1).f0)):=io 0 _ rfl
             have rk:World.cell? _ ⟨ge,(a1:Int).toNat * 3+1,none⟩=some (.int .i64 ((Qc κ a1).f1)):=io 1 _ rfl
             have rl:World.cell? _ ⟨ge,(a1:Int).toNat * 3+2,none⟩=some (.int .i64 ((Qc κ a1).f2)):=io 2 _ rfl
             have rm:World.frozen? _ ⟨ge,(a1:Int).toNat * 3,none⟩=false:=ip 0
             have rn:World.frozen? _ ⟨ge,(a1:Int).toNat * 3+1,none⟩=false:=ip 1
             have rp:World.frozen? _ ⟨ge,(a1:Int).toNat * 3+2,none⟩=false:=ip 2
             clear om io ip nt
             replace no:=eq_true no
             replace np:=eq_true np
             (try rewrite[← j7.out])
             obtain⟨sq,k6,m4,k8,nu⟩:=Kd.Jo ξ.out z36 (a1:Int) (of_decide_eq_true (by assumption)) (by have h_:(a1:Int)<((κ.length:Int):Int):=of_decide_eq_true (by assumption);first|exact h_|(have e_:=(Kd.Qw ξ.out).1;omega)|simpa using h_)
             obtain rfl:=Yh m4
             have k4:=(Kd.Lx ξ.out (a1:Int) (of_decide_eq_true (by assumption)) (by have h_:(a1:Int)<((κ.length:Int):Int):=of_decide_eq_true (by assumption);first|exact h_|(have e_:=(Kd.Qw ξ.out).1;omega)|simpa using h_) (seg:=[.int .i64 dm]) (j:=2) k6 k8 (show 3≤3 from by decide) (x':=(⟨(Qc κ a1).f0,(Qc κ a1).f1,dm⟩:S36)) (K2 _ _ _ (⟨(Qc κ a1).f0,(Qc κ a1).f1,dm⟩:S36)) (fun _ hk=>hk)).1
             rw[← oi.out] at k4
             have oo:=aK k4
             clear k6 k8 nu m4 k4
             refine hK.out _ _ ⟨qc ψ,qc ψ,qc ε,qc ε,qc ε,qc ε,qc ε,qc ε,qc ε,qc ε,qc ε,qc ε,qc ce,qc ce,qc ce⟩ (fun hHeld=>?_)
             clear hK K
             refine qN (some 77) ?_
             refine qP 9 (some 78) (bN 12 1023) HT_ ?_
             refine qP 10 (some 79) (bN 12 2047) HT_ ?_
             refine Du (i:=11) (N:=none) #[true,true,true,true,true,true,true,true,true,true,true,true] rfl rfl (Q3 HT_.out kr) (by decide) (fun K hK=>?_)
             refine Gx (w1:=?_) (by rfl) rfl ?_ ?_
             rotate_left
             ·go_simp
              rfl
             refine hK.out _ _ ?_
             clear hK K
             refine Zi (Zc HT_.out kr) ?_
             try go_wp2
             rewrite[j7.out]
             go_roundg k2
             case measure=>have:=am.out;have:=bn.out;omega
             case rel=>exact⟨(wrap64 (a1+1)),(nn),(.slice (some ⟨ge,0,none⟩) κ.length gl),qR,H',⟨by have:=am.out;have:=bn.out;omega⟩,⟨by(with_reducible repeat first|apply Kd.Qv|apply Kd.Qu|apply Kd.Qy);exact Kd.Q1 oo.out (fun _ hk=>trivial)⟩,⟨by(with_reducible repeat first|apply Kd.Qv|apply Kd.Qu|apply Kd.Qy);exact Kd.Q1 (Kd.Qx (p:=⟨ge,(a1:Int).toNat * 3+2,none⟩) (Kd.Q4 ao.out pe.out (by decide)) (fun _ hk=>hk.2) (.int .i64 dm)) (fun _ hk=>trivial)⟩,⟨by(with_reducible repeat first|refine Qm ?_ _|refine Qd ?_|refine Ql ?_ _);refine X9 ?_ (by have h_:=Kd.Zo ξ.out ε.out (by decide);intro e_;exact h_ (by rw[e_];rfl)) _;(with_reducible repeat first|refine Qm ?_ _|refine Qd ?_|refine Ql ?_ _);exact ε.out⟩,⟨by(with_reducible repeat first|refine Qm ?_ _|refine Qd ?_|refine Ql ?_ _);refine X9 ?_ (by have h_:=Kd.Zo ξ.out δ.out (by decide);intro e_;exact h_ (by rw[e_];rfl)) _;(with_reducible repeat first|refine Qm ?_ _|refine Qd ?_|refine Ql ?_ _);exact δ.out⟩,⟨by(with_reducible repeat first|refine Qm ?_ _|refine Qd ?_|refine Ql ?_ _);refine X9 ?_ (by have h_:=Kd.Zo ξ.out ι.out (by decide);intro e_;exact h_ (by rw[e_];rfl)) _;(with_reducible repeat first|refine Qm ?_ _|refine Qd ?_|refine Ql ?_ _);exact ι.out⟩,⟨by(with_reducible repeat first|refine Qm ?_ _|refine Qd ?_|refine Ql ?_ _);refine X9 ?_ (by have h_:=Kd.Zo ξ.out ψ.out (by decide);intro e_;exact h_ (by rw[e_];rfl)) _;(with_reducible repeat first|refine Qm ?_ _|refine Qd ?_|refine Ql ?_ _);exact ψ.out⟩,⟨bel⟩,j7⟩
            ·rw[if_neg jt] at H
             have c91b0:=decide_eq_false jt
             clear jt
             have H':=aK H
             clear H
             have mq:=ae.out
             have mr:=ac.out
             have rq:=af.out
             have rr:=ab.out
             have ms:=ah.out
             have mt:=ag.out
             obtain⟨iq,ir,it,iu⟩:=qD2 ψ.out
             obtain⟨il,gs,jz⟩:=Kd.Q7 ξ.out
             subst jz
             have fa:0≤(a1:Int):=of_decide_eq_true (by assumption)
             have fb:a1<(κ.length:Int):=of_decide_eq_true (by assumption)
             obtain⟨ar,j8,dy,e5,e6⟩:=Xc (Kd.Qw ξ.out).2.2 a1 fa fb
             cases j8
             replace fa:=eq_true fa
             replace fb:=eq_true fb
             (try rewrite[← j7.out])
             go_wp2_with (first|((with_reducible refine Qe (N:=15) rfl ?_);refine qE 15 #[.int .i64 0,.int .i64 0,.int .i64 0] 36 ?_;intro b0 hg ou hbox hb;have ce:=aK hbox;have oj:=sGe hg;have ol:=sGe hg;have fu:=sNl ε hg;have fv:=sNg ε hg;have fw:=sNl δ hg;have fx:=sNg δ hg;have fy:=sNl ι hg;have fz:=sNg ι hg;have ga:=sNl ψ hg;have gb:=sNg ψ hg;replace ξ :=aK (Kd.Z8 (Kd.Yz ξ.out b0 (Nat.le_of_eq hg.symm)) hb);replace ao:=sRb ao hb;replace ε :=sBk ε hb;replace δ :=sBk δ hb;replace ι :=sBk ι hb;replace ψ :=sBk ψ hb;replace HB:=sHb hb;clear hb hbox hg;have rs:=fv.out;have rt:=fu.out;have ru:=fx.out;have rv:=fw.out;have mu:=fz.out;have mw:=fy.out;have my:=gb.out;have mz:=ga.out;obtain⟨ke,kg,pf,kh,ki,pg⟩:=qD3 ce.out))
             rewrite[j7.out]
             go_roundg k2
             case measure=>have:=am.out;have:=bn.out;omega
             case rel=>exact⟨(wrap64 (a1+1)),(κ),(.slice (some ar) κ.length gs),qR,H',⟨by have:=am.out;have:=bn.out;omega⟩,⟨by(with_reducible repeat first|apply Kd.Qv|apply Kd.Qu|apply Kd.Qy);exact Kd.Q1 (Kd.Qx (Kd.Qx (Kd.Qx (Kd.Q1 ξ.out (fun k_ hk=>(⟨hk,hk.2⟩:_∧k_≠b0))) (fun _ hk=>hk.2) (.int .i64 ((Qc κ a1).f0))) (fun _ hk=>hk.2) (.int .i64 ((Qc κ a1).f1))) (fun _ hk=>hk.2) (.int .i64 ((Qc κ a1).f2))) (fun _ hk=>trivial)⟩,⟨by(with_reducible repeat first|apply Kd.Qv|apply Kd.Qu|apply Kd.Qy);exact Kd.Q1 (Kd.Qx (Kd.Qx (Kd.Qx (Kd.Q4 ao.out ce.out (by decide)) (fun _ hk=>hk.2) (.int .i64 ((Qc κ a1).f0))) (fun _ hk=>hk.2) (.int .i64 ((Qc κ a1).f1))) (fun _ hk=>hk.2) (.int .i64 ((Qc κ a1).f2))) (fun _ hk=>trivial)⟩,⟨bka ε⟩,⟨bka δ⟩,⟨bka ι⟩,⟨bka ψ⟩,⟨bel⟩,j7⟩
           ·rw[if_neg m3] at H
            exact absurd H (by simp)
          ·rw[if_neg gr] at H
           exact absurd H (by simp)
         ·rw[if_neg fc] at H
          have c88b0:=decide_eq_false fc
          clear fc
          simp only[Option.some.injEq,Prod.mk.injEq] at H
          obtain⟨rfl,rfl,rfl⟩:=H
          have n0:=ae.out
          have n1:=ac.out
          have rx:=af.out
          have ry:=ab.out
          have rz:=ah.out
          have s0:=ag.out
          obtain⟨kj,kk,kl,km⟩:=qD2 ψ.out
          obtain⟨m5,m6,oq⟩:=Kd.Q7 ξ.out
          subst oq
          have s1:=fg.out
          have s2:=ff.out
          have s3:=fi.out
          have s4:=fh.out
          obtain⟨pi,pj,pk,pm⟩:=qD2 ι.out
          go_wp2
          refine bodyPost_ret (Z9 rfl _ _ ai 50 #[.slice m5 κ.length m6,.slice bq bl.length bp] (0,0) _ rfl (by refine Qq (cs:=#[.slice m5 κ.length m6,.slice none 0 0]) ?_ 1 _ rfl;refine Qq (cs:=#[.slice none 0 0,.slice none 0 0]) ?_ 0 _ rfl;exact ι.out) Try.underlying50 rfl kr) rfl ?_
          exact⟨_,_,by first|rfl|(simp[Qk,Qj] <;> rfl)|(simp[*,Qk,Qj] <;> rfl),by(with_reducible repeat first|apply Kd.Qv|apply Kd.Qu|apply Kd.Qy);exact Kd.Q1 (Kd.Qx (Kd.Qx (Kd.Q4 ξ.out ι.out (by decide)) (fun _ hk=>hk.2) _) (fun _ hk=>hk.2) _) (fun _ hk=>trivial),by(with_reducible repeat first|apply Kd.Qv|apply Kd.Qu|apply Kd.Qy);exact Kd.Q1 (Kd.Qx (Kd.Qx (Kd.Q4 ao.out ι.out (by decide)) (fun _ hk=>hk.2) _) (fun _ hk=>hk.2) _) (fun _ hk=>trivial),bel⟩
   ·rw[if_neg c8] at H
    exact absurd H (by simp)
  ·rw[if_neg c7] at H
   exact absurd H (by simp)
 ·rw[if_neg c6] at H
  have c6b0:(au==0)=false:=beq_eq_false_iff_ne.mpr c6
  have c6b1:(au != 0)=true:=bne_iff_ne.mpr c6
  simp only[Option.some.injEq,Prod.mk.injEq] at H
  obtain⟨rfl,rfl,rfl⟩:=H
  go_enter Try.func21,Try.ntmps21
  go_wp2_with (first|((with_reducible refine Qe (N:=4) rfl ?_);refine qE 4 #[.int .i64 B,.int .i64 J,.int .i64 O,.int .i64 X,.int .i64 Y,.int .i64 Z,.int .i64 γ,.int .i64 ζ,.int .i64 θ,.int .i64 η] 25 ?_;intro aa hg t8 hbox hb;have ε :=aK hbox;have kv:=sGe hg;have ju:=sGe hg;replace HB:=sHb hb;clear hb hbox hg)|((with_reducible refine Qe (N:=7) rfl ?_);refine qE 7 #[.slice a5 χ.length a6,.slice a7 φ.length a8] 50 ?_;intro ν hg t9 hbox hb;have δ :=aK hbox;have o9:=sGe hg;have oa:=sGe hg;have fn:=sNl ε hg;have fo:=sNg ε hg;replace ε :=sBk ε hb;replace HB:=sHb hb;clear hb hbox hg)|((with_reducible refine Qe (N:=8) rfl ?_);refine qE 8 #[.slice none 0 0,.slice none 0 0] 50 ?_;intro ai hg ta hbox hb;have ι :=aK hbox;have ob:=sGe hg;have oc:=sGe hg;have ff:=sNl ε hg;have fg:=sNg ε hg;have fh:=sNl δ hg;have fi:=sNg δ hg;replace ε :=sBk ε hb;replace δ :=sBk δ hb;replace HB:=sHb hb;clear hb hbox hg;have s5:=fn.out;have s6:=fo.out;have s7:=ff.out;have s8:=fg.out;obtain⟨pn,po,pp,pq,pr,pt,pu,pv,pw,px,py,pz,q0,q1,q2,q3,q4,q5,q6,q7⟩:=Zg ε.out;have s9:=fh.out;have sa:=fi.out;obtain⟨q8,q9,qa,qb⟩:=qD2 δ.out)|((with_reducible refine Qf (f:=17) rfl ?_);refine Qt (some 19) rfl rfl Try.func17 kr rfl #[.agg #[.int .i64 B,.int .i64 J,.int .i64 O,.int .i64 X,.int .i64 Y,.int .i64 Z,.int .i64 γ,.int .i64 ζ,.int .i64 θ,.int .i64 η],.slice A1 l1.length c1,.agg #[.slice a5 χ.length a6,.slice a7 φ.length a8]] rfl qM ?_;(with_reducible refine(group_Check.calls k B J O X Y Z γ ζ θ η _ _ l1 _ _ χ _ _ φ au _ ?side1 ?side2 ?side3 ?side4 ?side5 ?side6 A5.out).mono ?_);(case side1=>exact(Kd.Qs ci.out HB.out));(case side2=>exact dj.out);(case side3=>exact(Kd.Qs bk.out HB.out));(case side4=>exact bu.out);(case side5=>exact(Kd.Qs bo.out HB.out));(case side6=>exact bv.out);rintro e tb ⟨rfl,hb⟩;refine⟨_,rfl, ?_⟩;replace ε :=sBk ε hb;replace δ :=sBk δ hb;replace ι :=sBk ι hb;replace HB:=sHb hb;(try clear hb);(try clear a4);(try clear hk);(try clear hi);obtain⟨qd,qe,qf,qg⟩:=qD2 ι.out))
  refine bodyPost_ret (Z9 rfl _ _ ai 50 #[.slice none 0 0,.slice none 0 0] (0,0) _ rfl (by refine Qq (cs:=#[.slice none 0 0,.slice none 0 0]) ?_ 1 _ rfl;refine Qq (cs:=#[.slice none 0 0,.slice none 0 0]) ?_ 0 _ rfl;exact ι.out) Try.underlying50 rfl kr) rfl ?_
  exact⟨_,_,by first|rfl|(simp[Qk,Qj] <;> rfl)|(simp[*,Qk,Qj] <;> rfl),by first|exact Kd.Xu _ _ _ _ _|exact Kd.Yg _ _ _ _ _|exact Kd.Yd _ _ _ _ _|exact Kd.Yf _ _ _ _ _|exact Kd.Ye _ _ _ _ _,by first|exact Kd.Xu _ _ _ _ _|exact Kd.Yg _ _ _ _ _|exact Kd.Yd _ _ _ _ _|exact Kd.Yf _ _ _ _ _|exact Kd.Ye _ _ _ _ _,bel⟩
end Go.Proofs.Ytmfffemidlhcpaa.C
