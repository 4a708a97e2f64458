/- Texts of this claim, one behind the other: what the law's functions come to, walked (printed by a program, with the words that the print uses), and what that is, in plain Lean. No conditions of their own. -/
import Derived.Test.YtmfffemidlhcpaaQGroupCosts9
import Derived.WalkMore
namespace Go.Proofs.Ytmfffemidlhcpaa.C
open Go.RowKit Go.Proofs.YtmfffemidlhcpaaW.PrintWords Go.Proofs.YtmfffemidlhcpaaW.PrintLast Go.Proofs.YtmfffemidlhcpaaW.PrintMore
attribute [local go_sem] Zz Zx Z9 Z8 Zq Zp Zy Zw
set_option linter.unusedVariables false
set_option linter.unusedSimpArgs false
def group_pick.l0:Nat→Int→Int→Int→Int→Int→Int→Int→Int→Int→Int→Int→Int→Int→Int→List (S31)→List (S36)→List (S86)→Int→Int→Int→Option (Int)
 |0,_,_,_,_,_,_,_,_,_,_,_,_,_,_,_,_,_,_,_,_=>none
 |k+1,O,τ,σ,B,J,L,X,Y,Z,γ,δ,ε,ζ,η,θ,ι,κ,μ,ν,ρ=>if B<σ then (if 0≤B then (if (Go.bits .and .i64 (shr .i64 O B) 1)=1 then (group_pick.l0 k O τ σ (wrap64 (B+1)) J L X Y Z γ δ ε ζ η θ ι κ μ ν ρ) else (if τ < 0 then (group_pick.l0 k O B σ (wrap64 (B+1)) J L X Y Z γ δ ε ζ η θ ι κ μ ν ρ) else ((group_pick_1.f k B J L X Y Z γ δ ε ζ η θ ι κ μ ν ρ).bind fun ak=>((group_pick_1.f k τ J L X Y Z γ δ ε ζ η θ ι κ μ ν ρ).bind fun ξ =>(if ak < ξ then (group_pick.l0 k O B σ (wrap64 (B+1)) J L X Y Z γ δ ε ζ η θ ι κ μ ν ρ) else (group_pick.l0 k O τ σ (wrap64 (B+1)) J L X Y Z γ δ ε ζ η θ ι κ μ ν ρ)))))) else (none)) else (some τ)
def group_pick.f (k:Nat) (B:Int) (J:Int) (L:Int) (Y:Int) (Z:Int) (ε :Int) (γ:Int) (θ :Int) (ζ :Int) (η :Int) (l1:List (S31)) (a2:Int) (φ :List (S36)) (τ :List (S86)) (a9:Int) (aa:Int) (ab:Int):Option (Int):=group_pick.l0 k a2 (-1) (l1.length:Int) 0 B J L Y Z ε γ θ ζ η l1 φ τ a9 aa ab
theorem group_pick.Zn:∀ k,(∀ L X Y B O Z y6 y7 y8 y9 γ ε ζ η θ ι κ δ μ ν,LeO (group_pick.l0 k L X Y B O Z y6 y7 y8 y9 γ ε ζ η θ ι κ δ μ ν) (group_pick.l0 (k+1) L X Y B O Z y6 y7 y8 y9 γ ε ζ η θ ι κ δ μ ν))
 |0=>fun _ _ _ _ _ _ _ _ _ _ _ _ _ _ _ _ _ _ _ _ r h=>by simp[group_pick.l0] at h
 |k+1=>by
  have J:=group_pick.Zn k
  ·intro L X Y B O Z y6 y7 y8 y9 γ ε ζ η θ ι κ δ μ ν
   unfold group_pick.l0
   repeat' first
   |(with_reducible exact J _ _ _ _ _ _ _ _ _ _ _ _ _ _ _ _ _ _ _ _)
   |(with_reducible exact group_pick_1.mono _ _ _ _ _ _ _ _ _ _ _ _ _ _ _ _ _ _)
   |(with_reducible exact LeO.refl _)
   |(with_reducible exact LeO.none _)
   |(with_reducible refine LeO.ite ?_ ?_)
   |(with_reducible refine LeO.bind ?_ (fun _=>?_))
   |exact J _ _ _ _ _ _ _ _ _ _ _ _ _ _ _ _ _ _ _ _
   |exact group_pick_1.mono _ _ _ _ _ _ _ _ _ _ _ _ _ _ _ _ _ _
   |exact LeO.none _
   |refine LeO.ite ?_ ?_
   |refine LeO.bind ?_ (fun _=>?_)
theorem group_pick.mono:∀ B O a2 a3 L a5 X a7 a8 a9 Y Z γ ε δ ζ η k,LeO (group_pick.f k B O a2 a3 L a5 X a7 a8 a9 Y Z γ ε δ ζ η) (group_pick.f (k+1) B O a2 a3 L a5 X a7 a8 a9 Y Z γ ε δ ζ η):=by
 intro B O a2 a3 L a5 X a7 a8 a9 Y Z γ ε δ ζ η k
 have J:=group_pick.Zn k
 unfold group_pick.f
 repeat' first
   |(with_reducible exact J _ _ _ _ _ _ _ _ _ _ _ _ _ _ _ _ _ _ _ _)
   |(with_reducible exact group_pick_1.mono _ _ _ _ _ _ _ _ _ _ _ _ _ _ _ _ _ _)
   |(with_reducible exact LeO.refl _)
   |(with_reducible exact LeO.none _)
   |(with_reducible refine LeO.ite ?_ ?_)
   |(with_reducible refine LeO.bind ?_ (fun _=>?_))
   |exact J _ _ _ _ _ _ _ _ _ _ _ _ _ _ _ _ _ _ _ _
   |exact group_pick_1.mono _ _ _ _ _ _ _ _ _ _ _ _ _ _ _ _ _ _
   |exact LeO.none _
   |refine LeO.ite ?_ ?_
   |refine LeO.bind ?_ (fun _=>?_)
set_option maxHeartbeats 8000000 in
set_option maxRecDepth 100000 in
theorem group_pick.calls (k:Nat) (B:Int) (J:Int) (L:Int) (Y:Int) (Z:Int) (ε :Int) (γ:Int) (θ :Int) (ζ :Int) (η :Int) (A1:Option Addr) (c1:Nat) (l1:List (S31)) (a2:Int) (a1:Option Addr) (a5:Nat) (φ :List (S36)) (a6:Option Addr) (a7:Nat) (τ :List (S86)) (a9:Int) (aa:Int) (ab:Int) (r:Int) (w:World) (dw:Kd.C k31 w A1 l1.length l1) (dj:l1.length≤c1) (dq:Kd.C k36 w a1 φ.length φ) (dr: φ.length≤a5) (dt:Kd.C k86 w a6 τ.length τ) (du: τ.length≤a7) (h:group_pick.f k B J L Y Z ε γ θ ζ η l1 a2 φ τ a9 aa ab=some r):
  Calls Try.prog 38 #[.agg #[.int .i64 B,.int .i64 J,.int .i64 L,.int .i64 Y,.int .i64 Z,.int .i64 ε,.int .i64 γ,.int .i64 θ,.int .i64 ζ,.int .i64 η],.slice A1 l1.length c1,.int .i64 a2,.agg #[.slice a1 φ.length a5,.slice a6 τ.length a7],.agg #[.int .i64 a9,.int .i64 aa,.int .i64 ab]] w fun e w'=>e = .returned (.int .i64 r)∧Below w.heap.size w w':=by
 have cx:=Try.underlying25
 have f8:=Try.underlying50
 have dh:=Try.underlying36
 have dk:=Aside0.mk dw
 have dz:=Aside0.mk dj
 clear dw dj
 have br:=Aside0.mk dq
 have cn:=Aside0.mk dr
 clear dq dr
 have ck:=Aside0.mk dt
 have co:=Aside0.mk du
 clear dt du
 have HB:=Aside0.mk (Below.refl w.heap.size w)
 have H:(group_pick.l0 k a2 (-1) (l1.length:Int) 0 B J L Y Z ε γ θ ζ η l1 φ τ a9 aa ab)=some r:=h
 clear h
 have H':=Aside0.mk H
 clear H
 go_enter Try.func38,Try.ntmps38
 go_wp2_with (first|((with_reducible refine Qe (N:=5) rfl ?_);refine qE 5 #[.int .i64 B,.int .i64 J,.int .i64 L,.int .i64 Y,.int .i64 Z,.int .i64 ε,.int .i64 γ,.int .i64 θ,.int .i64 ζ,.int .i64 η] 25 ?_;intro κ hg w6 hbox hb;have O:=Aside0.mk hbox;have gg:=sGe hg;have gi:=sGe hg;replace HB:=sHb hb;clear hb hbox hg)|((with_reducible refine Qe (N:=6) rfl ?_);refine qE 6 #[.slice A1 l1.length c1] 46 ?_;intro ψ hg w7 hbox hb;have X:=Aside0.mk hbox;have bm:=sGe hg;have bn:=sGe hg;have am:=sNl O hg;have ao:=sNg O hg;replace O:=sBk O hb;replace HB:=sHb hb;clear hb hbox hg)|((with_reducible refine Qe (N:=8) rfl ?_);refine qE 8 #[.slice a1 φ.length a5,.slice a6 τ.length a7] 50 ?_;intro ω hg w8 hbox hb;have ι :=Aside0.mk hbox;have bo:=sGe hg;have bp:=sGe hg;have ax:=sNl O hg;have ay:=sNg O hg;have ap:=sNl X hg;have ar:=sNg X hg;replace O:=sBk O hb;replace X:=sBk X hb;replace HB:=sHb hb;clear hb hbox hg)|((with_reducible refine Qe (N:=9) rfl ?_);refine qE 9 #[.int .i64 a9,.int .i64 aa,.int .i64 ab] 36 ?_;intro a0 hg w9 hbox hb;have μ :=Aside0.mk hbox;have bq:=sGe hg;have bs:=sGe hg;have az:=sNl O hg;have b0:=sNg O hg;have au:=sNl X hg;have av:=sNg X hg;have b1:=sNl ι hg;have b2:=sNg ι hg;replace O:=sBk O hb;replace X:=sBk X hb;replace ι :=sBk ι hb;replace HB:=sHb hb;clear hb hbox hg;have h4:=ao.out;have h5:=am.out;have ga:=ap.out;have gb:=ar.out;have fe:=au.out;have ff:=av.out;obtain⟨ai,aj⟩:=qD1 X.out))
 go_step3
 go_wp2
 go_step3
 go_wp2
 go_loopg [12,17] k (fun kq bh bi w'=>∃ (ν :Int) (δ :Int),bh = .int .i64 ν ∧ bi = .int .i64 δ ∧ Aside0 (group_pick.l0 kq a2 ν (l1.length:Int) δ B J L Y Z ε γ θ ζ η l1 φ τ a9 aa ab=some r)∧Aside0 (kq≤k)∧Aside0 (w'.heap[κ]?=some (.cells #[.int .i64 B,.int .i64 J,.int .i64 L,.int .i64 Y,.int .i64 Z,.int .i64 ε,.int .i64 γ,.int .i64 θ,.int .i64 ζ,.int .i64 η] 25 (0,0)))∧Aside0 (w'.heap[ψ]?=some (.cells #[(.slice A1 l1.length c1)] 46 (0,0)))∧Aside0 (w'.heap[ω]?=some (.cells #[(.slice a1 φ.length a5),(.slice a6 τ.length a7)] 50 (0,0)))∧Aside0 (w'.heap[a0]?=some (.cells #[.int .i64 a9,.int .i64 aa,.int .i64 ab] 36 (0,0)))∧Aside0 (Below w.heap.size w w'))
 case atStart=>exact⟨((-1)),(0),rfl,rfl,H',⟨Nat.le_refl _⟩,O,X,ι,μ,HB⟩
 case round=>
  clear H'
  try clear c1
  try clear p2
  try clear c3
  try clear c10
  try clear al
  try clear ae
  try clear ai
  try clear aj
  obtain⟨ν,δ,rfl,rfl,HA,an,O,X,ι,μ,HB⟩:=hrel
  cases gk with
  |zero=>exact absurd HA.out (by simp[group_pick.l0])
  |succ k1=>
   have H:=HA.out
   clear HA
   simp only[group_pick.l0] at H
   by_cases ag: δ < (l1.length:Int)
   ·rw[if_pos ag] at H
    have c14b0:decide (δ < (l1.length:Int))=true:=decide_eq_true ag
    clear ag
    by_cases ac:0 ≤ δ
    ·rw[if_pos ac] at H
     have c15b0:=eq_true ac
     have c15b1:decide (0 ≤ δ)=true:=decide_eq_true ac
     clear ac
     obtain⟨aw,b3⟩:∃ j_:Int,(shr .i64 a2 δ)=j_:=⟨_,rfl⟩
     replace H:(if (Go.bits .and .i64 (aw) 1)=1 then (group_pick.l0 k1 a2 ν (l1.length:Int) (wrap64 (δ + 1)) B J L Y Z ε γ θ ζ η l1 φ τ a9 aa ab) else (if ν < 0 then (group_pick.l0 k1 a2 δ (l1.length:Int) (wrap64 (δ + 1)) B J L Y Z ε γ θ ζ η l1 φ τ a9 aa ab) else ((group_pick_1.f k1 δ B J L Y Z ε γ θ ζ η l1 φ τ a9 aa ab).bind fun ak=>((group_pick_1.f k1 ν B J L Y Z ε γ θ ζ η l1 φ τ a9 aa ab).bind fun ξ =>(if ak < ξ then (group_pick.l0 k1 a2 δ (l1.length:Int) (wrap64 (δ + 1)) B J L Y Z ε γ θ ζ η l1 φ τ a9 aa ab) else (group_pick.l0 k1 a2 ν (l1.length:Int) (wrap64 (δ + 1)) B J L Y Z ε γ θ ζ η l1 φ τ a9 aa ab))))))=some r:=by first|(rw[b3] at H;exact H)|(simp only[b3] at H ⊢;exact H)
     have bl:(a2 / 2 ^ min δ.toNat 64)=aw:=b3
     have hji16z: δ ≤ 64→(a2 / 2 ^ δ.toNat)=aw:=G5 b3
     by_cases af:(Go.bits .and .i64 (aw) 1)=1
     ·rw[if_pos af] at H
      have c17b0:((Go.bits .and .i64 (aw) 1)==1)=true:=beq_iff_eq.mpr af
      have c17b1:((Go.bits .and .i64 (aw) 1) != 1)=false:=bne_eq_false_iff_eq.mpr af
      clear af
      have H':=Aside0.mk H
      clear H
      go_wp2
      go_roundg k1
      case measure=>have:=an.out;omega
      case rel=>exact⟨(ν),(wrap64 (δ + 1)),rfl,rfl,H',⟨by have:=an.out;omega⟩,O,X,ι,μ,HB⟩
     ·rw[if_neg af] at H
      have c17b0:((Go.bits .and .i64 (aw) 1)==1)=false:=beq_eq_false_iff_ne.mpr af
      have c17b1:((Go.bits .and .i64 (aw) 1) != 1)=true:=bne_iff_ne.mpr af
      by_cases bc: ν < 0
      ·rw[if_pos bc] at H
       have c18b0:decide (ν < 0)=true:=decide_eq_true bc
       clear bc
       have H':=Aside0.mk H
       clear H
       go_wp2
       go_roundg k1
       case measure=>have:=an.out;omega
       case rel=>exact⟨(δ),(wrap64 (δ + 1)),rfl,rfl,H',⟨by have:=an.out;omega⟩,O,X,ι,μ,HB⟩
      ·rw[if_neg bc] at H
       have c18b0:decide (ν < 0)=false:=decide_eq_false bc
       clear bc
       replace H:=Option.bind_eq_some_iff.mp H
       obtain⟨ak,b4,H⟩:=H
       replace H:((group_pick_1.f k1 ν B J L Y Z ε γ θ ζ η l1 φ τ a9 aa ab).bind fun ξ =>(if ak < ξ then (group_pick.l0 k1 a2 δ (l1.length:Int) (wrap64 (δ + 1)) B J L Y Z ε γ θ ζ η l1 φ τ a9 aa ab) else (group_pick.l0 k1 a2 ν (l1.length:Int) (wrap64 (δ + 1)) B J L Y Z ε γ θ ζ η l1 φ τ a9 aa ab)))=some r:=H
       have b5:=Aside0.mk b4
       clear b4
       replace H:=Option.bind_eq_some_iff.mp H
       obtain⟨ξ,jv,H⟩:=H
       replace H:(if ak < ξ then (group_pick.l0 k1 a2 δ (l1.length:Int) (wrap64 (δ + 1)) B J L Y Z ε γ θ ζ η l1 φ τ a9 aa ab) else (group_pick.l0 k1 a2 ν (l1.length:Int) (wrap64 (δ + 1)) B J L Y Z ε γ θ ζ η l1 φ τ a9 aa ab))=some r:=H
       have ch:=Aside0.mk jv
       clear jv
       by_cases σ:ak < ξ
       ·rw[if_pos σ] at H
        have c21b0:decide (ak < ξ)=true:=decide_eq_true σ
        clear σ
        have H':=Aside0.mk H
        clear H
        have g9:=am.out
        have gt:=ao.out
        have di:=ax.out
        have e5:=ay.out
        have bw:=az.out
        have ce:=b0.out
        obtain⟨fq,fw,fz,fr,ie,ig,ih,ci,cg,cj,fx,fy,gq,ii,ij,ik,il,h0,d9,da⟩:=Q5 O.out
        have ni:=ap.out
        have nj:=ar.out
        have m8:=au.out
        have m9:=av.out
        obtain⟨eh,ei⟩:=qD1 X.out
        have jt:=b1.out
        have ju:=b2.out
        obtain⟨cf,dd,de,df⟩:=qD2 ι.out
        obtain⟨ea,eb,ec,ed,ee,ef⟩:=qD3 μ.out
        go_wp2_with (first|(go_at_call 58;(with_reducible refine(group_pick_1.calls k1 δ B J L Y Z ε γ θ ζ η _ _ l1 _ _ φ _ _ τ a9 aa ab ak _ ?side1 ?side2 ?side3 ?side4 ?side5 ?side6 b5.out κ ψ ω a0 O.out X.out ι.out μ.out).mono ?_);(case side1=>exact(Kd.Qp dk.out HB.out));(case side2=>exact dz.out);(case side3=>exact(Kd.Qp br.out HB.out));(case side4=>exact cn.out);(case side5=>exact(Kd.Qp ck.out HB.out));(case side6=>exact co.out);rintro e nf ⟨rfl,hb⟩;have ρ:=Aside0.mk (Qt (g:= κ) (o:=.cells #[.int .i64 B,.int .i64 J,.int .i64 L,.int .i64 Y,.int .i64 Z,.int .i64 ε,.int .i64 γ,.int .i64 θ,.int .i64 ζ,.int .i64 η] 25 (0,0)) O.out hb);have χ :=Aside0.mk (Qt (g:= ψ) (o:=.cells #[.slice A1 l1.length c1] 46 (0,0)) X.out hb);have a3:=Aside0.mk (Qt (g:= ω) (o:=.cells #[.slice a1 φ.length a5,.slice a6 τ.length a7] 50 (0,0)) ι.out hb);have a8:=Aside0.mk (Qt (g:=a0) (o:=.cells #[.int .i64 a9,.int .i64 aa,.int .i64 ab] 36 (0,0)) μ.out hb);have ah:=Aside0.mk (Qy HB.out hb);clear O;clear X;clear ι;clear μ;clear HB;have O:=ρ;have X:= χ;have ι :=a3;have μ :=a8;have HB:=ah;clear ρ χ a3 a8 ah;(try clear hb);(try clear a4);(try clear hk);(try clear hi);obtain⟨e6,e7,ev,fg,fh,ft,fu,cm,dm,dn,e8,e9,ew,fv,g6,g7,g8,dp,gu,gv⟩:=Q5 O.out;obtain⟨et,eu⟩:=qD1 X.out;obtain⟨d1,d2,d3,d4⟩:=qD2 ι.out;obtain⟨g0,g1,g5,g2,g3,ha⟩:=qD3 μ.out)|(go_at_call 58;(with_reducible refine(group_pick_1.calls k1 ν B J L Y Z ε γ θ ζ η _ _ l1 _ _ φ _ _ τ a9 aa ab ξ _ ?side1 ?side2 ?side3 ?side4 ?side5 ?side6 ch.out κ ψ ω a0 O.out X.out ι.out μ.out).mono ?_);(case side1=>exact(Kd.Qp dk.out HB.out));(case side2=>exact dz.out);(case side3=>exact(Kd.Qp br.out HB.out));(case side4=>exact cn.out);(case side5=>exact(Kd.Qp ck.out HB.out));(case side6=>exact co.out);rintro e kb ⟨rfl,hb⟩;have ρ:=Aside0.mk (Qt (g:= κ) (o:=.cells #[.int .i64 B,.int .i64 J,.int .i64 L,.int .i64 Y,.int .i64 Z,.int .i64 ε,.int .i64 γ,.int .i64 θ,.int .i64 ζ,.int .i64 η] 25 (0,0)) O.out hb);have χ :=Aside0.mk (Qt (g:= ψ) (o:=.cells #[.slice A1 l1.length c1] 46 (0,0)) X.out hb);have a3:=Aside0.mk (Qt (g:= ω) (o:=.cells #[.slice a1 φ.length a5,.slice a6 τ.length a7] 50 (0,0)) ι.out hb);have a8:=Aside0.mk (Qt (g:=a0) (o:=.cells #[.int .i64 a9,.int .i64 aa,.int .i64 ab] 36 (0,0)) μ.out hb);have ah:=Aside0.mk (Qy HB.out hb);clear O;clear X;clear ι;clear μ;clear HB;have O:=ρ;have X:= χ;have ι :=a3;have μ :=a8;have HB:=ah;clear ρ χ a3 a8 ah;(try clear hb);(try clear a4);(try clear hk);(try clear hi)))
        go_roundg k1
        case measure=>have:=an.out;omega
        case rel=>exact⟨(δ),(wrap64 (δ + 1)),rfl,rfl,H',⟨by have:=an.out;omega⟩,O,X,ι,μ,HB⟩
       ·rw[if_neg σ] at H
        have c21b0:decide (ak < ξ)=false:=decide_eq_false σ
        clear σ
        have H':=Aside0.mk H
        clear H
        have ja:=am.out
        have k3:=ao.out
        have bj:=ax.out
        have bk:=ay.out
        have e0:=az.out
        have i6:=b0.out
        obtain⟨fi,fj,im,ix,iy,iz,j3,en,ey,fa,fk,fl,iv,jj,jk,jl,jm,g4,iw,k2⟩:=Q5 O.out
        have lh:=ap.out
        have ll:=ar.out
        have mw:=au.out
        have my:=av.out
        obtain⟨d8,gz⟩:=qD1 X.out
        have i5:=b1.out
        have ky:=b2.out
        obtain⟨gl,gm,gn,gp⟩:=qD2 ι.out
        obtain⟨cu,cv,gr,cw,eg,gs⟩:=qD3 μ.out
        go_wp2_with (first|(go_at_call 58;(with_reducible refine(group_pick_1.calls k1 δ B J L Y Z ε γ θ ζ η _ _ l1 _ _ φ _ _ τ a9 aa ab ak _ ?side1 ?side2 ?side3 ?side4 ?side5 ?side6 b5.out κ ψ ω a0 O.out X.out ι.out μ.out).mono ?_);(case side1=>exact(Kd.Qp dk.out HB.out));(case side2=>exact dz.out);(case side3=>exact(Kd.Qp br.out HB.out));(case side4=>exact cn.out);(case side5=>exact(Kd.Qp ck.out HB.out));(case side6=>exact co.out);rintro e o5 ⟨rfl,hb⟩;have ρ:=Aside0.mk (Qt (g:= κ) (o:=.cells #[.int .i64 B,.int .i64 J,.int .i64 L,.int .i64 Y,.int .i64 Z,.int .i64 ε,.int .i64 γ,.int .i64 θ,.int .i64 ζ,.int .i64 η] 25 (0,0)) O.out hb);have χ :=Aside0.mk (Qt (g:= ψ) (o:=.cells #[.slice A1 l1.length c1] 46 (0,0)) X.out hb);have a3:=Aside0.mk (Qt (g:= ω) (o:=.cells #[.slice a1 φ.length a5,.slice a6 τ.length a7] 50 (0,0)) ι.out hb);have a8:=Aside0.mk (Qt (g:=a0) (o:=.cells #[.int .i64 a9,.int .i64 aa,.int .i64 ab] 36 (0,0)) μ.out hb);have ah:=Aside0.mk (Qy HB.out hb);clear O;clear X;clear ι;clear μ;clear HB;have O:=ρ;have X:= χ;have ι :=a3;have μ :=a8;have HB:=ah;clear ρ χ a3 a8 ah;(try clear hb);(try clear a4);(try clear hk);(try clear hi);obtain⟨hu,hx,jn,jo,jp,jq,jr,b6,b7,b8,kf,kg,kn,ko,kp,l5,l6,b9,ba,bb⟩:=Q5 O.out;obtain⟨ho,kk⟩:=qD1 X.out;obtain⟨bd,be,bf,bg⟩:=qD2 ι.out;obtain⟨d5,d6,l7,d7,ez,l8⟩:=qD3 μ.out)|(go_at_call 58;(with_reducible refine(group_pick_1.calls k1 ν B J L Y Z ε γ θ ζ η _ _ l1 _ _ φ _ _ τ a9 aa ab ξ _ ?side1 ?side2 ?side3 ?side4 ?side5 ?side6 ch.out κ ψ ω a0 O.out X.out ι.out μ.out).mono ?_);(case side1=>exact(Kd.Qp dk.out HB.out));(case side2=>exact dz.out);(case side3=>exact(Kd.Qp br.out HB.out));(case side4=>exact cn.out);(case side5=>exact(Kd.Qp ck.out HB.out));(case side6=>exact co.out);rintro e dv ⟨rfl,hb⟩;have ρ:=Aside0.mk (Qt (g:= κ) (o:=.cells #[.int .i64 B,.int .i64 J,.int .i64 L,.int .i64 Y,.int .i64 Z,.int .i64 ε,.int .i64 γ,.int .i64 θ,.int .i64 ζ,.int .i64 η] 25 (0,0)) O.out hb);have χ :=Aside0.mk (Qt (g:= ψ) (o:=.cells #[.slice A1 l1.length c1] 46 (0,0)) X.out hb);have a3:=Aside0.mk (Qt (g:= ω) (o:=.cells #[.slice a1 φ.length a5,.slice a6 τ.length a7] 50 (0,0)) ι.out hb);have a8:=Aside0.mk (Qt (g:=a0) (o:=.cells #[.int .i64 a9,.int .i64 aa,.int .i64 ab] 36 (0,0)) μ.out hb);have ah:=Aside0.mk (Qy HB.out hb);clear O;clear X;clear ι;clear μ;clear HB;have O:=ρ;have X:= χ;have ι :=a3;have μ :=a8;have HB:=ah;clear ρ χ a3 a8 ah;(try clear hb);(try clear a4);(try clear hk);(try clear hi)))
        go_roundg k1
        case measure=>have:=an.out;omega
        case rel=>exact⟨(ν),(wrap64 (δ + 1)),rfl,rfl,H',⟨by have:=an.out;omega⟩,O,X,ι,μ,HB⟩
    ·rw[if_neg ac] at H
     exact absurd H (by simp)
   ·rw[if_neg ag] at H
    have c14b0:decide (δ < (l1.length:Int))=false:=decide_eq_false ag
    clear ag
    obtain rfl:=Option.some.inj H
    go_wp2
    (try rw[Exit.noGoto_ret])
    go_ret
    exact⟨rfl,HB.out⟩
def group_Pick.f (k:Nat) (B:Int) (J:Int) (L:Int) (Y:Int) (Z:Int) (ε :Int) (γ:Int) (θ :Int) (ζ :Int) (η :Int) (l1:List (S31)) (a2:Int) (φ :List (S36)) (τ :List (S86)) (a9:Int) (aa:Int) (ab:Int):Option (Int×Int):=(group_Check.f k B J L Y Z ε γ θ ζ η l1 φ τ).bind fun κ =>(if κ = 0 then ((group_house.f B J L Y Z ε γ θ ζ η l1).bind fun ω =>((group_hall.f k ω.1 ω.2 a9 aa ab).bind fun a3=>(if a3=true then ((group_pick.f k B J L Y Z ε γ θ ζ η l1 a2 φ τ a9 aa ab).bind fun μ =>(some (μ,0))) else (some (0,210))))) else (some (0,κ)))
theorem group_Pick.mono:∀ B O a2 a3 L a5 X a7 a8 a9 Y Z γ ε δ ζ η k,LeO (group_Pick.f k B O a2 a3 L a5 X a7 a8 a9 Y Z γ ε δ ζ η) (group_Pick.f (k+1) B O a2 a3 L a5 X a7 a8 a9 Y Z γ ε δ ζ η):=by
 intro B O a2 a3 L a5 X a7 a8 a9 Y Z γ ε δ ζ η k
 unfold group_Pick.f
 repeat' first
   |(with_reducible exact group_Check.mono _ _ _ _ _ _ _ _ _ _ _ _ _ _)
   |(with_reducible exact group_hall.mono _ _ _ _ _ _)
   |(with_reducible exact group_pick.mono _ _ _ _ _ _ _ _ _ _ _ _ _ _ _ _ _ _)
   |(with_reducible exact LeO.refl _)
   |(with_reducible exact LeO.none _)
   |(with_reducible refine LeO.ite ?_ ?_)
   |(with_reducible refine LeO.bind ?_ (fun _=>?_))
   |exact group_Check.mono _ _ _ _ _ _ _ _ _ _ _ _ _ _
   |exact group_hall.mono _ _ _ _ _ _
   |exact group_pick.mono _ _ _ _ _ _ _ _ _ _ _ _ _ _ _ _ _ _
   |exact LeO.none _
   |refine LeO.ite ?_ ?_
   |refine LeO.bind ?_ (fun _=>?_)
set_option maxHeartbeats 8000000 in
set_option maxRecDepth 100000 in
theorem group_Pick.calls (k:Nat) (B:Int) (J:Int) (L:Int) (Y:Int) (Z:Int) (ε :Int) (γ:Int) (θ :Int) (ζ :Int) (η :Int) (A1:Option Addr) (c1:Nat) (l1:List (S31)) (a2:Int) (a1:Option Addr) (a5:Nat) (φ :List (S36)) (a6:Option Addr) (a7:Nat) (τ :List (S86)) (a9:Int) (aa:Int) (ab:Int) (r1:Int) (r2:Int) (w:World) (dw:Kd.C k31 w A1 l1.length l1) (dj:l1.length≤c1) (dq:Kd.C k36 w a1 φ.length φ) (dr: φ.length≤a5) (dt:Kd.C k86 w a6 τ.length τ) (du: τ.length≤a7) (h:group_Pick.f k B J L Y Z ε γ θ ζ η l1 a2 φ τ a9 aa ab=some (r1,r2)):
  Calls Try.prog 14 #[.agg #[.int .i64 B,.int .i64 J,.int .i64 L,.int .i64 Y,.int .i64 Z,.int .i64 ε,.int .i64 γ,.int .i64 θ,.int .i64 ζ,.int .i64 η],.slice A1 l1.length c1,.int .i64 a2,.agg #[.slice a1 φ.length a5,.slice a6 τ.length a7],.agg #[.int .i64 a9,.int .i64 aa,.int .i64 ab]] w fun e w'=>e = .returned (.tuple #[.int .i64 r1,.int .i64 r2])∧Below w.heap.size w w':=by
 have cx:=Try.underlying25
 have f8:=Try.underlying50
 have dh:=Try.underlying36
 have dk:=Aside0.mk dw
 have dz:=Aside0.mk dj
 clear dw dj
 have br:=Aside0.mk dq
 have cn:=Aside0.mk dr
 clear dq dr
 have ck:=Aside0.mk dt
 have co:=Aside0.mk du
 clear dt du
 have HB:=Aside0.mk (Below.refl w.heap.size w)
 have H:((group_Check.f k B J L Y Z ε γ θ ζ η l1 φ τ).bind fun κ =>(if κ = 0 then ((group_house.f B J L Y Z ε γ θ ζ η l1).bind fun ω =>((group_hall.f k ω.1 ω.2 a9 aa ab).bind fun a3=>(if a3=true then ((group_pick.f k B J L Y Z ε γ θ ζ η l1 a2 φ τ a9 aa ab).bind fun μ =>(some (μ,0))) else (some (0,210))))) else (some (0,κ))))=some (r1,r2):=h
 clear h
 replace H:=Option.bind_eq_some_iff.mp H
 obtain⟨κ,az,H⟩:=H
 replace H:(if κ = 0 then ((group_house.f B J L Y Z ε γ θ ζ η l1).bind fun ω =>((group_hall.f k ω.1 ω.2 a9 aa ab).bind fun a3=>(if a3=true then ((group_pick.f k B J L Y Z ε γ θ ζ η l1 a2 φ τ a9 aa ab).bind fun μ =>(some (μ,0))) else (some (0,210))))) else (some (0,κ)))=some (r1,r2):=H
 have A6:=Aside0.mk az
 clear az
 by_cases c7: κ = 0
 ·rw[if_pos c7] at H
  have c7b0:(κ == 0)=true:=beq_iff_eq.mpr c7
  have c7b1:(κ != 0)=false:=bne_eq_false_iff_eq.mpr c7
  clear c7
  replace H:=Option.bind_eq_some_iff.mp H
  obtain⟨⟨a8,ac⟩,b5,H⟩:=H
  replace H:((group_hall.f k a8 ac a9 aa ab).bind fun a3=>(if a3=true then ((group_pick.f k B J L Y Z ε γ θ ζ η l1 a2 φ τ a9 aa ab).bind fun μ =>(some (μ,0))) else (some (0,210))))=some (r1,r2):=H
  have A8:=Aside0.mk b5
  clear b5
  replace H:=Option.bind_eq_some_iff.mp H
  obtain⟨a3,bg,H⟩:=H
  replace H:(if a3=true then ((group_pick.f k B J L Y Z ε γ θ ζ η l1 a2 φ τ a9 aa ab).bind fun μ =>(some (μ,0))) else (some (0,210)))=some (r1,r2):=H
  have A9:=Aside0.mk bg
  clear bg
  by_cases c10:a3=true
  ·subst c10
   have H1:((group_pick.f k B J L Y Z ε γ θ ζ η l1 a2 φ τ a9 aa ab).bind fun μ =>(some (μ,0)))=some (r1,r2):=by rw[if_pos rfl] at H;exact H
   clear H
   have H:=H1
   clear H1
   replace H:=Option.bind_eq_some_iff.mp H
   obtain⟨μ,bk,H⟩:=H
   replace H:(some (μ,0))=some (r1,r2):=H
   have ca:=Aside0.mk bk
   clear bk
   simp only[Option.some.injEq,Prod.mk.injEq] at H
   obtain⟨rfl,rfl⟩:=H
   go_enter Try.func14,Try.ntmps14
   try go_wp2_with (first|((with_reducible refine Qe (N:=5) rfl ?_);refine qE 5 #[.int .i64 B,.int .i64 J,.int .i64 L,.int .i64 Y,.int .i64 Z,.int .i64 ε,.int .i64 γ,.int .i64 θ,.int .i64 ζ,.int .i64 η] 25 ?_;intro ι hg er hbox hb;have O:=Aside0.mk hbox;have ae:=sGe hg;have ah:=sGe hg;replace HB:=sHb hb;clear hb hbox hg)|((with_reducible refine Qe (N:=8) rfl ?_);refine qE 8 #[.slice a1 φ.length a5,.slice a6 τ.length a7] 50 ?_;intro ai hg i3 hbox hb;have δ :=Aside0.mk hbox;have aj:=sGe hg;have ak:=sGe hg;have ν :=sNl O hg;have ξ :=sNg O hg;replace O:=sBk O hb;replace HB:=sHb hb;clear hb hbox hg)|((with_reducible refine Qe (N:=9) rfl ?_);refine qE 9 #[.int .i64 a9,.int .i64 aa,.int .i64 ab] 36 ?_;intro a0 hg bh hbox hb;have X:=Aside0.mk hbox;have al:=sGe hg;have ao:=sGe hg;have ρ:=sNl O hg;have σ:=sNg O hg;have χ :=sNl δ hg;have ψ :=sNg δ hg;replace O:=sBk O hb;replace δ :=sBk δ hb;replace HB:=sHb hb;clear hb hbox hg;have fm:= ν.out;have fn:= ξ.out;have jb:=ρ.out;have jc:=σ.out;obtain⟨af,cd,bs,ag,bv,dd,df,b4,de,ei,ce,cf,bu,e0,ea,eb,ec,ek,el,em⟩:=Q5 O.out;have fz:= χ.out;have gq:= ψ.out;obtain⟨am,an,ay,b0⟩:=qD2 δ.out)|((with_reducible refine Qd (f:=17) rfl ?_);refine Qn (some 16) rfl rfl Try.func17 kr rfl #[.agg #[.int .i64 B,.int .i64 J,.int .i64 L,.int .i64 Y,.int .i64 Z,.int .i64 ε,.int .i64 γ,.int .i64 θ,.int .i64 ζ,.int .i64 η],.slice A1 l1.length c1,.agg #[.slice a1 φ.length a5,.slice a6 τ.length a7]] rfl qM ?_;(with_reducible refine(group_Check.calls k B J L Y Z ε γ θ ζ η _ _ l1 _ _ φ _ _ τ κ _ ?side1 ?side2 ?side3 ?side4 ?side5 ?side6 A6.out).mono ?_);(case side1=>exact(Kd.Qp dk.out HB.out));(case side2=>exact dz.out);(case side3=>exact(Kd.Qp br.out HB.out));(case side4=>exact cn.out);(case side5=>exact(Kd.Qp ck.out HB.out));(case side6=>exact co.out);rintro e fr ⟨rfl,hb⟩;refine⟨_,rfl, ?_⟩;replace O:=sBk O hb;replace δ :=sBk δ hb;replace X:=sBk X hb;replace HB:=sHb hb;(try clear hb);(try clear a4);(try clear hk);(try clear hi)))
   replace O:=Aside0.mk (Qf O.out)
   replace δ :=Aside0.mk (Qf δ.out)
   replace X:=Aside0.mk (Qf X.out)
   replace HB:=Aside0.mk (Qi HB.out)
   refine Zl (n:=6) (S:=fun w'=>w'.cell? ⟨ι,0,none⟩=some (.int .i64 B)∧w'.cell? ⟨ι,1,none⟩=some (.int .i64 J)∧w'.cell? ⟨ι,2,none⟩=some (.int .i64 L)∧w'.cell? ⟨ι,3,none⟩=some (.int .i64 Y)∧w'.cell? ⟨ι,4,none⟩=some (.int .i64 Z)∧w'.cell? ⟨ι,5,none⟩=some (.int .i64 ε)∧w'.cell? ⟨ι,6,none⟩=some (.int .i64 γ)∧w'.cell? ⟨ι,7,none⟩=some (.int .i64 θ)∧w'.cell? ⟨ι,8,none⟩=some (.int .i64 ζ)∧w'.cell? ⟨ι,9,none⟩=some (.int .i64 η)∧w'.cell? ⟨a0,0,none⟩=some (.int .i64 a9)∧w'.cell? ⟨a0,1,none⟩=some (.int .i64 aa)∧w'.cell? ⟨a0,2,none⟩=some (.int .i64 ab)) (ds:=[]) #[false,false,false,false,false,false] kr rfl rfl ⟨(Qa O.out 0).trans rfl,(Qa O.out 1).trans rfl,(Qa O.out 2).trans rfl,(Qa O.out 3).trans rfl,(Qa O.out 4).trans rfl,(Qa O.out 5).trans rfl,(Qa O.out 6).trans rfl,(Qa O.out 7).trans rfl,(Qa O.out 8).trans rfl,(Qa O.out 9).trans rfl,(Qa X.out 0).trans rfl,(Qa X.out 1).trans rfl,(Qa X.out 2).trans rfl⟩ (fun hHeld=>?_)
   generalize fr.drew=bc at O δ X HB hHeld ⊢
   refine X0 (i:=1) (N:=some 21) (v:=?_) (a':=?_) (bN 6 2) rfl rfl kr (fun _ _ _ h=>h) (Or.inl ⟨by rfl, ?_⟩) ?_ ?_
   rotate_left
   ·intro w'
    go_simp
    with_reducible rfl
   rotate_left
   ·simp only[Act.put,qS,Za,Zb]
    rfl
   refine Jb (i:=0) (N:=some 20) (v:=?_) (a':=?_) (bN 6 3) rfl rfl kr (fun _ _ _ h=>h) (Or.inl ⟨by rfl, ?_⟩) hHeld ?_ ?_
   rotate_left
   ·rintro w' ⟨s0,s1,s2,s3,s4,s5,s6,s7,s8,s9,b1,b2,ap⟩
    go_simp
    with_reducible rfl
   rotate_left
   ·simp only[Act.put,qS,Za,Zb]
    rfl
   refine Jb (i:=3) (N:=some 23) (v:=?_) (a':=?_) (bN 6 11) rfl rfl kr (fun _ _ _ h=>h) (Or.inl ⟨by rfl, ?_⟩) hHeld ?_ ?_
   rotate_left
   ·rintro w' ⟨s0,s1,s2,s3,s4,s5,s6,s7,s8,s9,b1,b2,ap⟩
    go_simp
    with_reducible rfl
   rotate_left
   ·simp only[Act.put,qS,Za,Zb]
    rfl
   refine Zg (i:=2) (N:=some 22) (bN 6 15) rfl rfl kr (by decide) (fun K hK=>?_)
   refine Zf Try.func37 kr rfl #[.agg #[.int .i64 B,.int .i64 J,.int .i64 L,.int .i64 Y,.int .i64 Z,.int .i64 ε,.int .i64 γ,.int .i64 θ,.int .i64 ζ,.int .i64 η],.slice A1 l1.length c1] (by rfl) rfl rfl qM ?_
   with_reducible refine(group_house.calls B J L Y Z ε γ θ ζ η _ _ l1 a8 ac _ ?side1 ?side2 A8.out).mono ?_
   (case side1=>exact(Kd.Qp dk.out HB.out))
   (case side2=>exact dz.out)
   rintro e be ⟨rfl,hb⟩
   refine⟨_,rfl, ?_⟩
   replace O:=sBk O hb
   replace δ :=sBk δ hb
   replace X:=sBk X hb
   replace HB:=sHb hb
   (try clear hb)
   (try clear a4)
   (try clear hk)
   (try clear hi)
   refine hK.out _ _ ⟨qc O,qc O,qc O,qc O,qc O,qc O,qc O,qc O,qc O,qc O,qc X,qc X,qc X⟩ (fun hHeld=>?_)
   clear hK K
   refine qN (some 22) ?_
   refine Zg (i:=4) (N:=some 24) (bN 6 31) rfl rfl kr (by decide) (fun K hK=>?_)
   refine Zf Try.func30 kr rfl #[.agg #[.int .i64 a8,.int .i64 ac],.agg #[.int .i64 a9,.int .i64 aa,.int .i64 ab]] (by rfl) rfl rfl qM ?_
   with_reducible refine(group_hall.calls k a8 ac a9 aa ab true _ A9.out).mono ?_
   rintro e b6 ⟨rfl,hb⟩
   refine⟨_,rfl, ?_⟩
   replace O:=sBk O hb
   replace δ :=sBk δ hb
   replace X:=sBk X hb
   replace HB:=sHb hb
   (try clear hb)
   (try clear a4)
   (try clear hk)
   (try clear hi)
   refine hK.out _ _ ⟨qc O,qc O,qc O,qc O,qc O,qc O,qc O,qc O,qc O,qc O,qc X,qc X,qc X⟩ (fun hHeld=>?_)
   clear hK K
   refine qN (some 24) ?_
   refine X0 (i:=5) (N:=some 25) (v:=?_) (a':=?_) (bN 6 63) rfl rfl kr (fun _ _ _ h=>h) (Or.inl ⟨by rfl, ?_⟩) ?_ ?_
   rotate_left
   ·intro w'
    go_simp
    with_reducible rfl
   rotate_left
   ·simp only[Act.put,qS,Za,Zb]
    rfl
   refine Z2 kr ?_
   obtain⟨b9,ba,bo,gz,h0,h4,h5,hy,i0,jj,bb,bf,d8,h6,h7,h8,h9,jk,jl,jm⟩:=Q5 O.out
   obtain⟨fq,fw,fx,fy⟩:=qD2 δ.out
   obtain⟨d9,da,dx,db,dc,dy⟩:=qD3 X.out
   try go_wp2_with (first|((with_reducible refine Qd (f:=38) rfl ?_);refine Qn (some 31) rfl rfl Try.func38 kr rfl #[.agg #[.int .i64 B,.int .i64 J,.int .i64 L,.int .i64 Y,.int .i64 Z,.int .i64 ε,.int .i64 γ,.int .i64 θ,.int .i64 ζ,.int .i64 η],.slice A1 l1.length c1,.int .i64 a2,.agg #[.slice a1 φ.length a5,.slice a6 τ.length a7],.agg #[.int .i64 a9,.int .i64 aa,.int .i64 ab]] rfl qM ?_;(with_reducible refine(group_pick.calls k B J L Y Z ε γ θ ζ η _ _ l1 a2 _ _ φ _ _ τ a9 aa ab μ _ ?side1 ?side2 ?side3 ?side4 ?side5 ?side6 ca.out).mono ?_);(case side1=>exact(Kd.Qp dk.out HB.out));(case side2=>exact dz.out);(case side3=>exact(Kd.Qp br.out HB.out));(case side4=>exact cn.out);(case side5=>exact(Kd.Qp ck.out HB.out));(case side6=>exact co.out);rintro e ey ⟨rfl,hb⟩;refine⟨_,rfl, ?_⟩;replace O:=sBk O hb;replace δ :=sBk δ hb;replace X:=sBk X hb;replace HB:=sHb hb;(try clear hb);(try clear a4);(try clear hk);(try clear hi)))
   go_ret2
   exact⟨rfl,HB.out⟩
  ·replace c10:=Bool.eq_false_iff.mpr c10
   subst c10
   have H1:(some (0,210))=some (r1,r2):=by rw[if_neg (show ¬ (false=true) by decide)] at H;exact H
   clear H
   have H:=H1
   clear H1
   simp only[Option.some.injEq,Prod.mk.injEq] at H
   obtain⟨rfl,rfl⟩:=H
   go_enter Try.func14,Try.ntmps14
   try go_wp2_with (first|((with_reducible refine Qe (N:=5) rfl ?_);refine qE 5 #[.int .i64 B,.int .i64 J,.int .i64 L,.int .i64 Y,.int .i64 Z,.int .i64 ε,.int .i64 γ,.int .i64 θ,.int .i64 ζ,.int .i64 η] 25 ?_;intro ι hg eh hbox hb;have O:=Aside0.mk hbox;have ae:=sGe hg;have ah:=sGe hg;replace HB:=sHb hb;clear hb hbox hg)|((with_reducible refine Qe (N:=8) rfl ?_);refine qE 8 #[.slice a1 φ.length a5,.slice a6 τ.length a7] 50 ?_;intro ai hg ci hbox hb;have δ :=Aside0.mk hbox;have aj:=sGe hg;have ak:=sGe hg;have ν :=sNl O hg;have ξ :=sNg O hg;replace O:=sBk O hb;replace HB:=sHb hb;clear hb hbox hg)|((with_reducible refine Qe (N:=9) rfl ?_);refine qE 9 #[.int .i64 a9,.int .i64 aa,.int .i64 ab] 36 ?_;intro a0 hg ej hbox hb;have X:=Aside0.mk hbox;have al:=sGe hg;have ao:=sGe hg;have ρ:=sNl O hg;have σ:=sNg O hg;have χ :=sNl δ hg;have ψ :=sNg δ hg;replace O:=sBk O hb;replace δ :=sBk δ hb;replace HB:=sHb hb;clear hb hbox hg;have fo:= ν.out;have fp:= ξ.out;have dv:=ρ.out;have gf:=σ.out;obtain⟨e6,e7,ev,fg,fh,ft,fu,cm,dm,dn,e8,e9,ew,fv,g6,g7,g8,dp,gu,gv⟩:=Q5 O.out;have jr:= χ.out;have jt:= ψ.out;obtain⟨d1,d2,d3,d4⟩:=qD2 δ.out)|((with_reducible refine Qd (f:=17) rfl ?_);refine Qn (some 16) rfl rfl Try.func17 kr rfl #[.agg #[.int .i64 B,.int .i64 J,.int .i64 L,.int .i64 Y,.int .i64 Z,.int .i64 ε,.int .i64 γ,.int .i64 θ,.int .i64 ζ,.int .i64 η],.slice A1 l1.length c1,.agg #[.slice a1 φ.length a5,.slice a6 τ.length a7]] rfl qM ?_;(with_reducible refine(group_Check.calls k B J L Y Z ε γ θ ζ η _ _ l1 _ _ φ _ _ τ κ _ ?side1 ?side2 ?side3 ?side4 ?side5 ?side6 A6.out).mono ?_);(case side1=>exact(Kd.Qp dk.out HB.out));(case side2=>exact dz.out);(case side3=>exact(Kd.Qp br.out HB.out));(case side4=>exact cn.out);(case side5=>exact(Kd.Qp ck.out HB.out));(case side6=>exact co.out);rintro e n3 ⟨rfl,hb⟩;refine⟨_,rfl, ?_⟩;replace O:=sBk O hb;replace δ :=sBk δ hb;replace X:=sBk X hb;replace HB:=sHb hb;(try clear hb);(try clear a4);(try clear hk);(try clear hi)))
   replace O:=Aside0.mk (Qf O.out)
   replace δ :=Aside0.mk (Qf δ.out)
   replace X:=Aside0.mk (Qf X.out)
   replace HB:=Aside0.mk (Qi HB.out)
   refine Zl (n:=6) (S:=fun w'=>w'.cell? ⟨ι,0,none⟩=some (.int .i64 B)∧w'.cell? ⟨ι,1,none⟩=some (.int .i64 J)∧w'.cell? ⟨ι,2,none⟩=some (.int .i64 L)∧w'.cell? ⟨ι,3,none⟩=some (.int .i64 Y)∧w'.cell? ⟨ι,4,none⟩=some (.int .i64 Z)∧w'.cell? ⟨ι,5,none⟩=some (.int .i64 ε)∧w'.cell? ⟨ι,6,none⟩=some (.int .i64 γ)∧w'.cell? ⟨ι,7,none⟩=some (.int .i64 θ)∧w'.cell? ⟨ι,8,none⟩=some (.int .i64 ζ)∧w'.cell? ⟨ι,9,none⟩=some (.int .i64 η)∧w'.cell? ⟨a0,0,none⟩=some (.int .i64 a9)∧w'.cell? ⟨a0,1,none⟩=some (.int .i64 aa)∧w'.cell? ⟨a0,2,none⟩=some (.int .i64 ab)) (ds:=[]) #[false,false,false,false,false,false] kr rfl rfl ⟨(Qa O.out 0).trans rfl,(Qa O.out 1).trans rfl,(Qa O.out 2).trans rfl,(Qa O.out 3).trans rfl,(Qa O.out 4).trans rfl,(Qa O.out 5).trans rfl,(Qa O.out 6).trans rfl,(Qa O.out 7).trans rfl,(Qa O.out 8).trans rfl,(Qa O.out 9).trans rfl,(Qa X.out 0).trans rfl,(Qa X.out 1).trans rfl,(Qa X.out 2).trans rfl⟩ (fun hHeld=>?_)
   generalize n3.drew=kb at O δ X HB hHeld ⊢
   refine X0 (i:=1) (N:=some 21) (v:=?_) (a':=?_) (bN 6 2) rfl rfl kr (fun _ _ _ h=>h) (Or.inl ⟨by rfl, ?_⟩) ?_ ?_
   rotate_left
   ·intro w'
    go_simp
    with_reducible rfl
   rotate_left
   ·simp only[Act.put,qS,Za,Zb]
    rfl
   refine Jb (i:=0) (N:=some 20) (v:=?_) (a':=?_) (bN 6 3) rfl rfl kr (fun _ _ _ h=>h) (Or.inl ⟨by rfl, ?_⟩) hHeld ?_ ?_
   rotate_left
   ·rintro w' ⟨s0,s1,s2,s3,s4,s5,s6,s7,s8,s9,b1,b2,ap⟩
    go_simp
    with_reducible rfl
   rotate_left
   ·simp only[Act.put,qS,Za,Zb]
    rfl
   refine Jb (i:=3) (N:=some 23) (v:=?_) (a':=?_) (bN 6 11) rfl rfl kr (fun _ _ _ h=>h) (Or.inl ⟨by rfl, ?_⟩) hHeld ?_ ?_
   rotate_left
   ·rintro w' ⟨s0,s1,s2,s3,s4,s5,s6,s7,s8,s9,b1,b2,ap⟩
    go_simp
    with_reducible rfl
   rotate_left
   ·simp only[Act.put,qS,Za,Zb]
    rfl
   refine Zg (i:=2) (N:=some 22) (bN 6 15) rfl rfl kr (by decide) (fun K hK=>?_)
   refine Zf Try.func37 kr rfl #[.agg #[.int .i64 B,.int .i64 J,.int .i64 L,.int .i64 Y,.int .i64 Z,.int .i64 ε,.int .i64 γ,.int .i64 θ,.int .i64 ζ,.int .i64 η],.slice A1 l1.length c1] (by rfl) rfl rfl qM ?_
   with_reducible refine(group_house.calls B J L Y Z ε γ θ ζ η _ _ l1 a8 ac _ ?side1 ?side2 A8.out).mono ?_
   (case side1=>exact(Kd.Qp dk.out HB.out))
   (case side2=>exact dz.out)
   rintro e g5 ⟨rfl,hb⟩
   refine⟨_,rfl, ?_⟩
   replace O:=sBk O hb
   replace δ :=sBk δ hb
   replace X:=sBk X hb
   replace HB:=sHb hb
   (try clear hb)
   (try clear a4)
   (try clear hk)
   (try clear hi)
   refine hK.out _ _ ⟨qc O,qc O,qc O,qc O,qc O,qc O,qc O,qc O,qc O,qc O,qc X,qc X,qc X⟩ (fun hHeld=>?_)
   clear hK K
   refine qN (some 22) ?_
   refine Zg (i:=4) (N:=some 24) (bN 6 31) rfl rfl kr (by decide) (fun K hK=>?_)
   refine Zf Try.func30 kr rfl #[.agg #[.int .i64 a8,.int .i64 ac],.agg #[.int .i64 a9,.int .i64 aa,.int .i64 ab]] (by rfl) rfl rfl qM ?_
   with_reducible refine(group_hall.calls k a8 ac a9 aa ab false _ A9.out).mono ?_
   rintro e iv ⟨rfl,hb⟩
   refine⟨_,rfl, ?_⟩
   replace O:=sBk O hb
   replace δ :=sBk δ hb
   replace X:=sBk X hb
   replace HB:=sHb hb
   (try clear hb)
   (try clear a4)
   (try clear hk)
   (try clear hi)
   refine hK.out _ _ ⟨qc O,qc O,qc O,qc O,qc O,qc O,qc O,qc O,qc O,qc O,qc X,qc X,qc X⟩ (fun hHeld=>?_)
   clear hK K
   refine qN (some 24) ?_
   refine X0 (i:=5) (N:=some 25) (v:=?_) (a':=?_) (bN 6 63) rfl rfl kr (fun _ _ _ h=>h) (Or.inl ⟨by rfl, ?_⟩) ?_ ?_
   rotate_left
   ·intro w'
    go_simp
    with_reducible rfl
   rotate_left
   ·simp only[Act.put,qS,Za,Zb]
    rfl
   refine Z2 kr ?_
   try go_wp2
   go_ret2
   exact⟨rfl,HB.out⟩
 ·rw[if_neg c7] at H
  have c7b0:(κ == 0)=false:=beq_eq_false_iff_ne.mpr c7
  have c7b1:(κ != 0)=true:=bne_iff_ne.mpr c7
  simp only[Option.some.injEq,Prod.mk.injEq] at H
  obtain⟨rfl,rfl⟩:=H
  go_enter Try.func14,Try.ntmps14
  go_wp2_with (first|((with_reducible refine Qe (N:=5) rfl ?_);refine qE 5 #[.int .i64 B,.int .i64 J,.int .i64 L,.int .i64 Y,.int .i64 Z,.int .i64 ε,.int .i64 γ,.int .i64 θ,.int .i64 ζ,.int .i64 η] 25 ?_;intro ι hg mc hbox hb;have O:=Aside0.mk hbox;have ae:=sGe hg;have ah:=sGe hg;replace HB:=sHb hb;clear hb hbox hg)|((with_reducible refine Qe (N:=8) rfl ?_);refine qE 8 #[.slice a1 φ.length a5,.slice a6 τ.length a7] 50 ?_;intro ai hg o8 hbox hb;have δ :=Aside0.mk hbox;have aj:=sGe hg;have ak:=sGe hg;have ν :=sNl O hg;have ξ :=sNg O hg;replace O:=sBk O hb;replace HB:=sHb hb;clear hb hbox hg)|((with_reducible refine Qe (N:=9) rfl ?_);refine qE 9 #[.int .i64 a9,.int .i64 aa,.int .i64 ab] 36 ?_;intro a0 hg jd hbox hb;have X:=Aside0.mk hbox;have al:=sGe hg;have ao:=sGe hg;have ρ:=sNl O hg;have σ:=sNg O hg;have χ :=sNl δ hg;have ψ :=sNg δ hg;replace O:=sBk O hb;replace δ :=sBk δ hb;replace HB:=sHb hb;clear hb hbox hg;have mw:= ν.out;have my:= ξ.out;have ge:=ρ.out;have ha:=σ.out;obtain⟨jn,jo,ky,l5,l6,l7,l8,ko,kp,kq,jp,jq,l9,lb,lc,lf,lg,ks,kt,ku⟩:=Q5 O.out;have jf:= χ.out;have jg:= ψ.out;obtain⟨cu,cv,cw,eg⟩:=qD2 δ.out)|((with_reducible refine Qd (f:=17) rfl ?_);refine Qn (some 16) rfl rfl Try.func17 kr rfl #[.agg #[.int .i64 B,.int .i64 J,.int .i64 L,.int .i64 Y,.int .i64 Z,.int .i64 ε,.int .i64 γ,.int .i64 θ,.int .i64 ζ,.int .i64 η],.slice A1 l1.length c1,.agg #[.slice a1 φ.length a5,.slice a6 τ.length a7]] rfl qM ?_;(with_reducible refine(group_Check.calls k B J L Y Z ε γ θ ζ η _ _ l1 _ _ φ _ _ τ κ _ ?side1 ?side2 ?side3 ?side4 ?side5 ?side6 A6.out).mono ?_);(case side1=>exact(Kd.Qp dk.out HB.out));(case side2=>exact dz.out);(case side3=>exact(Kd.Qp br.out HB.out));(case side4=>exact cn.out);(case side5=>exact(Kd.Qp ck.out HB.out));(case side6=>exact co.out);rintro e o5 ⟨rfl,hb⟩;refine⟨_,rfl, ?_⟩;replace O:=sBk O hb;replace δ :=sBk δ hb;replace X:=sBk X hb;replace HB:=sHb hb;(try clear hb);(try clear a4);(try clear hk);(try clear hi)))
  go_ret2
  exact⟨rfl,HB.out⟩
mutual
def group_Spread.l0:Nat→List (S31)→Int→Int→Int→Int→Int→Int→Int→Int→Int→Int→Int→Int→Int→List (S36)→List (S86)→Option ((List (S36))×(List (S86))×Int)
 |0,_,_,_,_,_,_,_,_,_,_,_,_,_,_,_,_=>none
 |k+1,J,O,μ,κ,X,Y,Z,γ,δ,ε,ζ,η,θ,ι,B,L=>if κ < μ then (if 0 ≤ κ then (if κ < (B.length:Int) then (if ((Qc B κ).f2)≥0 then (if 0≤((Qc B κ).f2) then (if (Go.bits .and .i64 (shr .i64 O ((Qc B κ).f2)) 1)=1 then (group_Spread.l0 k J O μ (wrap64 (κ + 1)) X Y Z γ δ ε ζ η θ ι (B.set (κ :Int).toNat (⟨(Qc B κ).f0,(Qc B κ).f1,(-1)⟩:S36)) L) else (group_Spread.l0 k J O μ (wrap64 (κ + 1)) X Y Z γ δ ε ζ η θ ι B L)) else (none)) else (group_Spread.l0 k J O μ (wrap64 (κ + 1)) X Y Z γ δ ε ζ η θ ι B L)) else (none)) else (none)) else (group_Spread.l1 k J O (B.length:Int) 0 X Y Z γ δ ε ζ η θ ι B L)
def group_Spread.l1:Nat→List (S31)→Int→Int→Int→Int→Int→Int→Int→Int→Int→Int→Int→Int→Int→List (S36)→List (S86)→Option ((List (S36))×(List (S86))×Int)
 |0,_,_,_,_,_,_,_,_,_,_,_,_,_,_,_,_=>none
 |k+1,J,O,μ,κ,X,Y,Z,γ,δ,ε,ζ,η,θ,ι,B,L=>if κ < μ then (if 0 ≤ κ then (if κ < (B.length:Int) then (if ((Qc B κ).f2)<0 then ((group_pick.f k X Y Z γ δ ε ζ η θ ι J O B L ((Qc B κ).f0) ((Qc B κ).f1) ((Qc B κ).f2)).bind fun cu=>(group_Spread.l1 k J O μ (wrap64 (κ + 1)) X Y Z γ δ ε ζ η θ ι (B.set (κ :Int).toNat (⟨(Qc B κ).f0,(Qc B κ).f1,cu⟩:S36)) L)) else (group_Spread.l1 k J O μ (wrap64 (κ + 1)) X Y Z γ δ ε ζ η θ ι B L)) else (none)) else (none)) else (some (B,L,0))
end
def group_Spread.f (k:Nat) (B:Int) (J:Int) (L:Int) (Y:Int) (Z:Int) (ε :Int) (γ:Int) (θ :Int) (ζ :Int) (η :Int) (l1:List (S31)) (a2:Int) (φ :List (S36)) (τ :List (S86)):Option ((List (S36))×(List (S86))×Int):=(group_Check.f k B J L Y Z ε γ θ ζ η l1 φ τ).bind fun aj=>(if aj=0 then ((some (([]:List (S36)):List (S36))).bind fun bs=>(if bs.length + φ.length<5864062014805 then ((some (bs ++ φ :List (S36))).bind fun au=>((some (([]:List (S86)):List (S86))).bind fun b4=>(if b4.length + τ.length<8796093022208 then (group_Spread.l0 k l1 a2 (au.length:Int) 0 B J L Y Z ε γ θ ζ η au (b4 ++ τ)) else (none)))) else (none))) else (some (([]:List (S36)),([]:List (S86)),aj)))
theorem group_Spread.Zn:∀ k,(∀ L X Y B O Z y6 y7 y8 y9 γ ε ζ η θ ι,LeO (group_Spread.l0 k L X Y B O Z y6 y7 y8 y9 γ ε ζ η θ ι) (group_Spread.l0 (k+1) L X Y B O Z y6 y7 y8 y9 γ ε ζ η θ ι))∧(∀ L X Y B O Z y6 y7 y8 y9 γ ε ζ η θ ι,LeO (group_Spread.l1 k L X Y B O Z y6 y7 y8 y9 γ ε ζ η θ ι) (group_Spread.l1 (k+1) L X Y B O Z y6 y7 y8 y9 γ ε ζ η θ ι))
 |0=>⟨fun _ _ _ _ _ _ _ _ _ _ _ _ _ _ _ _ r h=>by simp[group_Spread.l0] at h,fun _ _ _ _ _ _ _ _ _ _ _ _ _ _ _ _ r h=>by simp[group_Spread.l1] at h⟩
 |k+1=>by
  obtain⟨J,δ⟩:=group_Spread.Zn k
  refine⟨?_, ?_⟩
  ·intro L X Y B O Z y6 y7 y8 y9 γ ε ζ η θ ι
   unfold group_Spread.l0
   repeat' first
   |(with_reducible exact J _ _ _ _ _ _ _ _ _ _ _ _ _ _ _ _)
   |(with_reducible exact δ _ _ _ _ _ _ _ _ _ _ _ _ _ _ _ _)
   |(with_reducible exact group_Check.mono _ _ _ _ _ _ _ _ _ _ _ _ _ _)
   |(with_reducible exact group_pick.mono _ _ _ _ _ _ _ _ _ _ _ _ _ _ _ _ _ _)
   |(with_reducible exact LeO.refl _)
   |(with_reducible exact LeO.none _)
   |(with_reducible refine LeO.ite ?_ ?_)
   |(with_reducible refine LeO.bind ?_ (fun _=>?_))
   |exact J _ _ _ _ _ _ _ _ _ _ _ _ _ _ _ _
   |exact δ _ _ _ _ _ _ _ _ _ _ _ _ _ _ _ _
   |exact group_Check.mono _ _ _ _ _ _ _ _ _ _ _ _ _ _
   |exact group_pick.mono _ _ _ _ _ _ _ _ _ _ _ _ _ _ _ _ _ _
   |exact LeO.none _
   |refine LeO.ite ?_ ?_
   |refine LeO.bind ?_ (fun _=>?_)
  ·intro L X Y B O Z y6 y7 y8 y9 γ ε ζ η θ ι
   unfold group_Spread.l1
   repeat' first
   |(with_reducible exact J _ _ _ _ _ _ _ _ _ _ _ _ _ _ _ _)
   |(with_reducible exact δ _ _ _ _ _ _ _ _ _ _ _ _ _ _ _ _)
   |(with_reducible exact group_Check.mono _ _ _ _ _ _ _ _ _ _ _ _ _ _)
   |(with_reducible exact group_pick.mono _ _ _ _ _ _ _ _ _ _ _ _ _ _ _ _ _ _)
   |(with_reducible exact LeO.refl _)
   |(with_reducible exact LeO.none _)
   |(with_reducible refine LeO.ite ?_ ?_)
   |(with_reducible refine LeO.bind ?_ (fun _=>?_))
   |exact J _ _ _ _ _ _ _ _ _ _ _ _ _ _ _ _
   |exact δ _ _ _ _ _ _ _ _ _ _ _ _ _ _ _ _
   |exact group_Check.mono _ _ _ _ _ _ _ _ _ _ _ _ _ _
   |exact group_pick.mono _ _ _ _ _ _ _ _ _ _ _ _ _ _ _ _ _ _
   |exact LeO.none _
   |refine LeO.ite ?_ ?_
   |refine LeO.bind ?_ (fun _=>?_)
theorem group_Spread.mono:∀ B O a2 a3 L a5 X a7 a8 a9 Y Z γ ε k,LeO (group_Spread.f k B O a2 a3 L a5 X a7 a8 a9 Y Z γ ε) (group_Spread.f (k+1) B O a2 a3 L a5 X a7 a8 a9 Y Z γ ε):=by
 intro B O a2 a3 L a5 X a7 a8 a9 Y Z γ ε k
 obtain⟨J,δ⟩:=group_Spread.Zn k
 unfold group_Spread.f
 repeat' first
   |(with_reducible exact J _ _ _ _ _ _ _ _ _ _ _ _ _ _ _ _)
   |(with_reducible exact δ _ _ _ _ _ _ _ _ _ _ _ _ _ _ _ _)
   |(with_reducible exact group_Check.mono _ _ _ _ _ _ _ _ _ _ _ _ _ _)
   |(with_reducible exact group_pick.mono _ _ _ _ _ _ _ _ _ _ _ _ _ _ _ _ _ _)
   |(with_reducible exact LeO.refl _)
   |(with_reducible exact LeO.none _)
   |(with_reducible refine LeO.ite ?_ ?_)
   |(with_reducible refine LeO.bind ?_ (fun _=>?_))
   |exact J _ _ _ _ _ _ _ _ _ _ _ _ _ _ _ _
   |exact δ _ _ _ _ _ _ _ _ _ _ _ _ _ _ _ _
   |exact group_Check.mono _ _ _ _ _ _ _ _ _ _ _ _ _ _
   |exact group_pick.mono _ _ _ _ _ _ _ _ _ _ _ _ _ _ _ _ _ _
   |exact LeO.none _
   |refine LeO.ite ?_ ?_
   |refine LeO.bind ?_ (fun _=>?_)
def group_Spread.T4:Bool×List (List Nat×List Nat):=(true,[([],[]),([],[]),([1],[1]),([0,2],[0,2]),([],[]),([],[]),([5],[5]),([4,6,3],[4,6]),([3,7],[3,7]),([],[]),([9,8,7,0,1,2,3,4,5,6,7,8,9],[8,9])])
def group_Spread.B4:List Nat:=[0,0,2,7,0,0,32,127,255,0,1023]
theorem group_Spread.K8:rtab .any (opsOf Try.f21 4)=group_Spread.T4:=by kernel_rfl
theorem group_Spread.Jl:Zr group_Spread.T4.2 group_Spread.B4=true:=by kernel_rfl
def group_Spread.T15:Bool×List (List Nat×List Nat):=(true,[([],[]),([0],[0]),([],[]),([],[]),([],[]),([],[]),([],[]),([],[]),([3,4,5,6,7],[3,4,5,6,7]),([1,2,0,1,2,3,4,5,6,7,8],[1,2]),([9,0,1,2,3,4,5,6,7,8],[9]),([10,8,8,0,1,2,3,4,5,6,7,8],[8,10])])
def group_Spread.B15:List Nat:=[0,1,0,0,0,0,0,0,248,511,1023,2047]
theorem group_Spread.tab15:rtab .any (opsOf Try.f21 15)=group_Spread.T15:=by kernel_rfl
theorem group_Spread.E1:Zr group_Spread.T15.2 group_Spread.B15=true:=by kernel_rfl
set_option maxHeartbeats 8000000 in
set_option maxRecDepth 100000 in
theorem group_Spread.calls (k:Nat) (B:Int) (J:Int) (L:Int) (Y:Int) (Z:Int) (ε :Int) (γ:Int) (θ :Int) (ζ :Int) (η :Int) (A1:Option Addr) (c1:Nat) (l1:List (S31)) (a2:Int) (a1:Option Addr) (a5:Nat) (φ :List (S36)) (a6:Option Addr) (a7:Nat) (τ :List (S86)) (r1:List (S36)) (r2:List (S86)) (r3:Int) (w:World) (dw:Kd.C k31 w A1 l1.length l1) (dj:l1.length≤c1) (dq:Kd.C k36 w a1 φ.length φ) (dr: φ.length≤a5) (dt:Kd.C k86 w a6 τ.length τ) (du: τ.length≤a7) (h:group_Spread.f k B J L Y Z ε γ θ ζ η l1 a2 φ τ = some (r1,r2,r3)):
  Calls Try.prog 21 #[.agg #[.int .i64 B,.int .i64 J,.int .i64 L,.int .i64 Y,.int .i64 Z,.int .i64 ε,.int .i64 γ,.int .i64 θ,.int .i64 ζ,.int .i64 η],.slice A1 l1.length c1,.int .i64 a2,.agg #[.slice a1 φ.length a5,.slice a6 τ.length a7]] w fun e w'=>∃ bd fb:Value,e = .returned (.tuple #[.agg #[bd,fb],.int .i64 r3])∧Kd.R k36 36 w' w.heap.size (fun _=>True) bd r1∧Kd.R k86 86 w' w.heap.size (fun _=>True) fb r2∧Below w.heap.size w w':=by
 have cx:=Try.underlying25
 have f8:=Try.underlying50
 have dh:=Try.underlying36
 have dk:=Aside0.mk dw
 have dz:=Aside0.mk dj
 clear dw dj
 have br:=Aside0.mk dq
 have cn:=Aside0.mk dr
 clear dq dr
 have ck:=Aside0.mk dt
 have co:=Aside0.mk du
 clear dt du
 have HB:=Aside0.mk (Below.refl w.heap.size w)
 have H:((group_Check.f k B J L Y Z ε γ θ ζ η l1 φ τ).bind fun aj=>(if aj=0 then ((some (([]:List (S36)):List (S36))).bind fun bs=>(if bs.length + φ.length<5864062014805 then ((some (bs ++ φ :List (S36))).bind fun au=>((some (([]:List (S86)):List (S86))).bind fun b4=>(if b4.length + τ.length<8796093022208 then (group_Spread.l0 k l1 a2 (au.length:Int) 0 B J L Y Z ε γ θ ζ η au (b4 ++ τ)) else (none)))) else (none))) else (some (([]:List (S36)),([]:List (S86)),aj))))=some (r1,r2,r3):=h
 clear h
 replace H:=Option.bind_eq_some_iff.mp H
 obtain⟨aj,b3,H⟩:=H
 replace H:(if aj=0 then ((some (([]:List (S36)):List (S36))).bind fun bs=>(if bs.length + φ.length<5864062014805 then ((some (bs ++ φ :List (S36))).bind fun au=>((some (([]:List (S86)):List (S86))).bind fun b4=>(if b4.length + τ.length<8796093022208 then (group_Spread.l0 k l1 a2 (au.length:Int) 0 B J L Y Z ε γ θ ζ η au (b4 ++ τ)) else (none)))) else (none))) else (some (([]:List (S36)),([]:List (S86)),aj)))=some (r1,r2,r3):=H
 have A5:=Aside0.mk b3
 clear b3
 by_cases c6:aj=0
 ·rw[if_pos c6] at H
  have c6b0:(aj==0)=true:=beq_iff_eq.mpr c6
  have c6b1:(aj != 0)=false:=bne_eq_false_iff_eq.mpr c6
  clear c6
  obtain⟨bs,gj⟩:∃ y_:List (S36),y_=(([]:List (S36))):=⟨_,rfl⟩
  replace H:(if bs.length + φ.length<5864062014805 then ((some (bs ++ φ :List (S36))).bind fun au=>((some (([]:List (S86)):List (S86))).bind fun b4=>(if b4.length + τ.length<8796093022208 then (group_Spread.l0 k l1 a2 (au.length:Int) 0 B J L Y Z ε γ θ ζ η au (b4 ++ τ)) else (none)))) else (none))=some (r1,r2,r3):=by first|(rw[gj];with_reducible exact H)|(have am:=(Option.bind_some _ _).symm.trans H;rw[gj];with_reducible exact am)|(have am:=(Option.bind_some _ _).symm.trans H;with_reducible exact am)|with_reducible exact H|(rw[gj];exact H)|exact H
  have et:=Aside0.mk gj
  clear gj
  by_cases c7:bs.length + φ.length<5864062014805
  ·rw[if_pos c7] at H
   have jh:=Aside0.mk c7
   clear c7
   obtain⟨au,gr⟩:∃ y_:List (S36),y_=(bs ++ φ):=⟨_,rfl⟩
   replace H:((some (([]:List (S86)):List (S86))).bind fun b4=>(if b4.length + τ.length<8796093022208 then (group_Spread.l0 k l1 a2 (au.length:Int) 0 B J L Y Z ε γ θ ζ η au (b4 ++ τ)) else (none)))=some (r1,r2,r3):=by first|(rw[gr];with_reducible exact H)|(have am:=(Option.bind_some _ _).symm.trans H;rw[gr];with_reducible exact am)|(have am:=(Option.bind_some _ _).symm.trans H;with_reducible exact am)|with_reducible exact H|(rw[gr];exact H)|exact H
   have he:=Aside0.mk gr
   clear gr
   obtain⟨b4,gs⟩:∃ y_:List (S86),y_=(([]:List (S86))):=⟨_,rfl⟩
   replace H:(if b4.length + τ.length<8796093022208 then (group_Spread.l0 k l1 a2 (au.length:Int) 0 B J L Y Z ε γ θ ζ η au (b4 ++ τ)) else (none))=some (r1,r2,r3):=by first|(rw[gs];with_reducible exact H)|(have am:=(Option.bind_some _ _).symm.trans H;rw[gs];with_reducible exact am)|(have am:=(Option.bind_some _ _).symm.trans H;with_reducible exact am)|with_reducible exact H|(rw[gs];exact H)|exact H
   have df:=Aside0.mk gs
   clear gs
   by_cases c8:b4.length + τ.length<8796093022208
   ·rw[if_pos c8] at H
    have m3:=Aside0.mk c8
    clear c8
    obtain⟨b5,gx⟩:∃ y_:List (S86),y_=(b4 ++ τ):=⟨_,rfl⟩
    replace H:(group_Spread.l0 k l1 a2 (au.length:Int) 0 B J L Y Z ε γ θ ζ η au b5)=some (r1,r2,r3):=by first|(rw[gx];with_reducible exact H)|(have am:=(Option.bind_some _ _).symm.trans H;rw[gx];with_reducible exact am)|(have am:=(Option.bind_some _ _).symm.trans H;with_reducible exact am)|with_reducible exact H|(rw[gx];exact H)|exact H
    have kz:=Aside0.mk gx
    clear gx
    have H':=Aside0.mk H
    clear H
    go_enter Try.func21,Try.ntmps21
    try go_wp2_with (first|((with_reducible refine Qe (N:=4) rfl ?_);refine qE 4 #[.int .i64 B,.int .i64 J,.int .i64 L,.int .i64 Y,.int .i64 Z,.int .i64 ε,.int .i64 γ,.int .i64 θ,.int .i64 ζ,.int .i64 η] 25 ?_;intro a0 hg w9 hbox hb;have X:=Aside0.mk hbox;have kk:=sGe hg;have je:=sGe hg;replace HB:=sHb hb;clear hb hbox hg)|((with_reducible refine Qe (N:=7) rfl ?_);refine qE 7 #[.slice a1 φ.length a5,.slice a6 τ.length a7] 50 ?_;intro μ hg fg hbox hb;have O:=Aside0.mk hbox;have nd:=sGe hg;have nq:=sGe hg;have fh:=sNl X hg;have fi:=sNg X hg;replace X:=sBk X hb;replace HB:=sHb hb;clear hb hbox hg)|((with_reducible refine Qe (N:=8) rfl ?_);refine qE 8 #[.slice none 0 0,.slice none 0 0] 50 ?_;intro ag hg ez hbox hb;have δ :=Aside0.mk hbox;have nr:=sGe hg;have ns:=sGe hg;have eu:=sNl X hg;have ev:=sNg X hg;have ew:=sNl O hg;have f7:=sNg O hg;replace X:=sBk X hb;replace O:=sBk O hb;replace HB:=sHb hb;clear hb hbox hg;have fe:=fh.out;have ff:=fi.out;have ip:=eu.out;have iq:=ev.out;obtain⟨bg,bh,bp,d0,d1,d2,d3,eg,gl,gm,bi,bj,bq,d4,d5,d6,d7,ft,gn,gp⟩:=Q5 X.out;have fm:=ew.out;have fn:=f7.out;obtain⟨bw,bz,ca,cb⟩:=qD2 O.out)|((with_reducible refine Qd (f:=17) rfl ?_);refine Qn (some 19) rfl rfl Try.func17 kr rfl #[.agg #[.int .i64 B,.int .i64 J,.int .i64 L,.int .i64 Y,.int .i64 Z,.int .i64 ε,.int .i64 γ,.int .i64 θ,.int .i64 ζ,.int .i64 η],.slice A1 l1.length c1,.agg #[.slice a1 φ.length a5,.slice a6 τ.length a7]] rfl qM ?_;(with_reducible refine(group_Check.calls k B J L Y Z ε γ θ ζ η _ _ l1 _ _ φ _ _ τ aj _ ?side1 ?side2 ?side3 ?side4 ?side5 ?side6 A5.out).mono ?_);(case side1=>exact(Kd.Qp dk.out HB.out));(case side2=>exact dz.out);(case side3=>exact(Kd.Qp br.out HB.out));(case side4=>exact cn.out);(case side5=>exact(Kd.Qp ck.out HB.out));(case side6=>exact co.out);rintro e e6 ⟨rfl,hb⟩;refine⟨_,rfl, ?_⟩;replace X:=sBk X hb;replace O:=sBk O hb;replace δ :=sBk δ hb;replace HB:=sHb hb;(try clear hb);(try clear a4);(try clear hk);(try clear hi)))
    replace X:=Aside0.mk (Qf X.out)
    replace O:=Aside0.mk (Qf O.out)
    replace δ :=Aside0.mk (Qf δ.out)
    replace HB:=Aside0.mk (Qi HB.out)
    refine Zl (n:=11) (S:=fun w'=>w'.cell? ⟨μ,0,none⟩=some (.slice a1 φ.length a5)∧w'.cell? ⟨μ,1,none⟩=some (.slice a6 τ.length a7)) (ds:=[]) #[false,false,false,false,false,false,false,false,false,false,false] kr rfl rfl ⟨(Qa O.out 0).trans rfl,(Qa O.out 1).trans rfl⟩ (fun hHeld=>?_);refine Q8 group_Spread.K8 group_Spread.Jl (fun HT_ HW_=>?_)
    generalize e6.drew=ha at X O δ HB hHeld ⊢
    refine qP 1 (some 25) (bN 11 2) HT_ ?_
    refine qP 5 (some 29) (bN 11 34) HT_ ?_
    refine qT 2 (some 26) (bN 11 38) HT_ HW_ hHeld ?_
    refine qT 6 (some 30) (bN 11 102) HT_ HW_ hHeld ?_
    refine Yw (σ:=Value×Value×Value×Value×Nat) 1 (bN 11 1023) (fun s_=>[(24,s_.1),(27,s_.2.1),(28,s_.2.2.1),(31,s_.2.2.2.1),(11,.pointer (some ⟨s_.2.2.2.2,0,none⟩)),(32,.agg #[s_.2.1,s_.2.2.2.1])]) (fun s_ w'=>(w'.cell? ⟨μ,0,none⟩=some (.slice a1 φ.length a5)∧w'.cell? ⟨μ,1,none⟩=some (.slice a6 τ.length a7))∧(Kd.R k36 36 w' w.heap.size (fun _=>True) s_.2.1 au)∧(Kd.R k86 86 w' w.heap.size (fun _=>True) s_.2.2.2.1 b5)∧(w'.heap[a0]?=some (.cells #[.int .i64 B,.int .i64 J,.int .i64 L,.int .i64 Y,.int .i64 Z,.int .i64 ε,.int .i64 γ,.int .i64 θ,.int .i64 ζ,.int .i64 η] 25 (0,0)))∧(w'.heap[μ]?=some (.cells #[.slice a1 φ.length a5,.slice a6 τ.length a7] 50 (0,0)))∧(w'.heap[ag]?=some (.cells #[.slice none 0 0,.slice none 0 0] 50 (0,0)))∧(w'.heap[s_.2.2.2.2]?=some (.cells #[.slice none 0 0,.slice none 0 0] 50 (0,0)))∧(w.heap.size≤s_.2.2.2.2)∧(w.heap.size≤s_.2.2.2.2)∧(a0≠s_.2.2.2.2)∧(s_.2.2.2.2≠a0)∧(μ ≠ s_.2.2.2.2)∧(s_.2.2.2.2 ≠ μ)∧(ag≠s_.2.2.2.2)∧(s_.2.2.2.2≠ag)∧(Below w.heap.size w w')) ?_ ?_
    rotate_left
    ·intro gg
     refine Yw (σ:=Value×Value×Value×Value) 2 (bN 11 511) (fun s_=>[(24,s_.1),(27,s_.2.1),(28,s_.2.2.1),(31,s_.2.2.2),(32,.agg #[s_.2.1,s_.2.2.2])]) (fun s_ w'=>(w'.cell? ⟨μ,0,none⟩=some (.slice a1 φ.length a5)∧w'.cell? ⟨μ,1,none⟩=some (.slice a6 τ.length a7))∧(Kd.R k36 36 w' w.heap.size (fun _=>True) s_.2.1 au)∧(Kd.R k86 86 w' w.heap.size (fun _=>True) s_.2.2.2 b5)∧(w'.heap[a0]?=some (.cells #[.int .i64 B,.int .i64 J,.int .i64 L,.int .i64 Y,.int .i64 Z,.int .i64 ε,.int .i64 γ,.int .i64 θ,.int .i64 ζ,.int .i64 η] 25 (0,0)))∧(w'.heap[μ]?=some (.cells #[.slice a1 φ.length a5,.slice a6 τ.length a7] 50 (0,0)))∧(w'.heap[ag]?=some (.cells #[.slice none 0 0,.slice none 0 0] 50 (0,0)))∧(Below w.heap.size w w')) ?_ ?_
     rotate_left
     ·intro jo
      refine Yw (σ:=Value×Value×Value×Nat) 3 (bN 11 639) (fun s_=>[(24,s_.1),(27,s_.2.1),(28,s_.2.2.1),(11,.pointer (some ⟨s_.2.2.2,0,none⟩))]) (fun s_ w'=>(w'.cell? ⟨μ,0,none⟩=some (.slice a1 φ.length a5)∧w'.cell? ⟨μ,1,none⟩=some (.slice a6 τ.length a7))∧(Kd.R k36 36 w' w.heap.size (fun _=>True) s_.2.1 au)∧(Kd.R k86 86 w' w.heap.size (fun _=>True) s_.2.2.1 b4)∧(w'.heap[a0]?=some (.cells #[.int .i64 B,.int .i64 J,.int .i64 L,.int .i64 Y,.int .i64 Z,.int .i64 ε,.int .i64 γ,.int .i64 θ,.int .i64 ζ,.int .i64 η] 25 (0,0)))∧(w'.heap[μ]?=some (.cells #[.slice a1 φ.length a5,.slice a6 τ.length a7] 50 (0,0)))∧(w'.heap[ag]?=some (.cells #[.slice none 0 0,.slice none 0 0] 50 (0,0)))∧(w'.heap[s_.2.2.2]?=some (.cells #[.slice none 0 0,.slice none 0 0] 50 (0,0)))∧(w.heap.size≤s_.2.2.2)∧(w.heap.size≤s_.2.2.2)∧(a0≠s_.2.2.2)∧(s_.2.2.2≠a0)∧(μ ≠ s_.2.2.2)∧(s_.2.2.2 ≠ μ)∧(ag≠s_.2.2.2)∧(s_.2.2.2≠ag)∧(Below w.heap.size w w')) ?_ ?_
      rotate_left
      ·intro fj
       refine Yw (σ:=Value×Value×Value) 4 (bN 11 127) (fun s_=>[(24,s_.1),(27,s_.2.1),(28,s_.2.2)]) (fun s_ w'=>(w'.cell? ⟨μ,0,none⟩=some (.slice a1 φ.length a5)∧w'.cell? ⟨μ,1,none⟩=some (.slice a6 τ.length a7))∧(Kd.R k36 36 w' w.heap.size (fun _=>True) s_.2.1 au)∧(Kd.R k86 86 w' w.heap.size (fun _=>True) s_.2.2 b4)∧(w'.heap[a0]?=some (.cells #[.int .i64 B,.int .i64 J,.int .i64 L,.int .i64 Y,.int .i64 Z,.int .i64 ε,.int .i64 γ,.int .i64 θ,.int .i64 ζ,.int .i64 η] 25 (0,0)))∧(w'.heap[μ]?=some (.cells #[.slice a1 φ.length a5,.slice a6 τ.length a7] 50 (0,0)))∧(w'.heap[ag]?=some (.cells #[.slice none 0 0,.slice none 0 0] 50 (0,0)))∧(Below w.heap.size w w')) ?_ ?_
       rotate_left
       ·intro io
        refine Yw (σ:=Value×Value×Nat) 4 (bN 11 623) (fun s_=>[(24,s_.1),(27,s_.2.1),(11,.pointer (some ⟨s_.2.2,0,none⟩))]) (fun s_ w'=>(w'.cell? ⟨μ,0,none⟩=some (.slice a1 φ.length a5)∧w'.cell? ⟨μ,1,none⟩=some (.slice a6 τ.length a7))∧(Kd.R k36 36 w' w.heap.size (fun _=>True) s_.2.1 au)∧(w'.heap[a0]?=some (.cells #[.int .i64 B,.int .i64 J,.int .i64 L,.int .i64 Y,.int .i64 Z,.int .i64 ε,.int .i64 γ,.int .i64 θ,.int .i64 ζ,.int .i64 η] 25 (0,0)))∧(w'.heap[μ]?=some (.cells #[.slice a1 φ.length a5,.slice a6 τ.length a7] 50 (0,0)))∧(w'.heap[ag]?=some (.cells #[.slice none 0 0,.slice none 0 0] 50 (0,0)))∧(w'.heap[s_.2.2]?=some (.cells #[.slice none 0 0,.slice none 0 0] 50 (0,0)))∧(w.heap.size≤s_.2.2)∧(w.heap.size≤s_.2.2)∧(a0≠s_.2.2)∧(s_.2.2≠a0)∧(μ ≠ s_.2.2)∧(s_.2.2 ≠ μ)∧(ag≠s_.2.2)∧(s_.2.2≠ag)∧(Below w.heap.size w w')) ?_ ?_
        rotate_left
        ·intro ja
         refine Yw (σ:=Value×Value×Nat) 4 (bN 11 631) (fun s_=>[(24,s_.1),(28,s_.2.1),(11,.pointer (some ⟨s_.2.2,0,none⟩))]) (fun s_ w'=>(w'.cell? ⟨μ,0,none⟩=some (.slice a1 φ.length a5)∧w'.cell? ⟨μ,1,none⟩=some (.slice a6 τ.length a7))∧(Kd.R k36 36 w' w.heap.size (fun _=>True) s_.1 bs)∧(Kd.R k86 86 w' w.heap.size (fun _=>True) s_.2.1 b4)∧(w'.heap[a0]?=some (.cells #[.int .i64 B,.int .i64 J,.int .i64 L,.int .i64 Y,.int .i64 Z,.int .i64 ε,.int .i64 γ,.int .i64 θ,.int .i64 ζ,.int .i64 η] 25 (0,0)))∧(w'.heap[μ]?=some (.cells #[.slice a1 φ.length a5,.slice a6 τ.length a7] 50 (0,0)))∧(w'.heap[ag]?=some (.cells #[.slice none 0 0,.slice none 0 0] 50 (0,0)))∧(w'.heap[s_.2.2]?=some (.cells #[.slice none 0 0,.slice none 0 0] 50 (0,0)))∧(w.heap.size≤s_.2.2)∧(w.heap.size≤s_.2.2)∧(a0≠s_.2.2)∧(s_.2.2≠a0)∧(μ ≠ s_.2.2)∧(s_.2.2 ≠ μ)∧(ag≠s_.2.2)∧(s_.2.2≠ag)∧(Below w.heap.size w w')) ?_ ?_
         rotate_left
         ·intro h8
          refine Yw (σ:=Value×Value) 5 (bN 11 111) (fun s_=>[(24,s_.1),(27,s_.2)]) (fun s_ w'=>(w'.cell? ⟨μ,0,none⟩=some (.slice a1 φ.length a5)∧w'.cell? ⟨μ,1,none⟩=some (.slice a6 τ.length a7))∧(Kd.R k36 36 w' w.heap.size (fun _=>True) s_.2 au)∧(w'.heap[a0]?=some (.cells #[.int .i64 B,.int .i64 J,.int .i64 L,.int .i64 Y,.int .i64 Z,.int .i64 ε,.int .i64 γ,.int .i64 θ,.int .i64 ζ,.int .i64 η] 25 (0,0)))∧(w'.heap[μ]?=some (.cells #[.slice a1 φ.length a5,.slice a6 τ.length a7] 50 (0,0)))∧(w'.heap[ag]?=some (.cells #[.slice none 0 0,.slice none 0 0] 50 (0,0)))∧(Below w.heap.size w w')) ?_ ?_
          rotate_left
          ·intro nt
           refine Yw (σ:=Value×Value) 5 (bN 11 119) (fun s_=>[(24,s_.1),(28,s_.2)]) (fun s_ w'=>(w'.cell? ⟨μ,0,none⟩=some (.slice a1 φ.length a5)∧w'.cell? ⟨μ,1,none⟩=some (.slice a6 τ.length a7))∧(Kd.R k36 36 w' w.heap.size (fun _=>True) s_.1 bs)∧(Kd.R k86 86 w' w.heap.size (fun _=>True) s_.2 b4)∧(w'.heap[a0]?=some (.cells #[.int .i64 B,.int .i64 J,.int .i64 L,.int .i64 Y,.int .i64 Z,.int .i64 ε,.int .i64 γ,.int .i64 θ,.int .i64 ζ,.int .i64 η] 25 (0,0)))∧(w'.heap[μ]?=some (.cells #[.slice a1 φ.length a5,.slice a6 τ.length a7] 50 (0,0)))∧(w'.heap[ag]?=some (.cells #[.slice none 0 0,.slice none 0 0] 50 (0,0)))∧(Below w.heap.size w w')) ?_ ?_
           rotate_left
           ·intro l2
            refine Yw (σ:=Value×Nat) 5 (bN 11 615) (fun s_=>[(24,s_.1),(11,.pointer (some ⟨s_.2,0,none⟩))]) (fun s_ w'=>(w'.cell? ⟨μ,0,none⟩=some (.slice a1 φ.length a5)∧w'.cell? ⟨μ,1,none⟩=some (.slice a6 τ.length a7))∧(Kd.R k36 36 w' w.heap.size (fun _=>True) s_.1 bs)∧(w'.heap[a0]?=some (.cells #[.int .i64 B,.int .i64 J,.int .i64 L,.int .i64 Y,.int .i64 Z,.int .i64 ε,.int .i64 γ,.int .i64 θ,.int .i64 ζ,.int .i64 η] 25 (0,0)))∧(w'.heap[μ]?=some (.cells #[.slice a1 φ.length a5,.slice a6 τ.length a7] 50 (0,0)))∧(w'.heap[ag]?=some (.cells #[.slice none 0 0,.slice none 0 0] 50 (0,0)))∧(w'.heap[s_.2]?=some (.cells #[.slice none 0 0,.slice none 0 0] 50 (0,0)))∧(w.heap.size≤s_.2)∧(w.heap.size≤s_.2)∧(a0≠s_.2)∧(s_.2≠a0)∧(μ ≠ s_.2)∧(s_.2 ≠ μ)∧(ag≠s_.2)∧(s_.2≠ag)∧(Below w.heap.size w w')) ?_ ?_
            rotate_left
            ·intro l3
             refine Yw (σ:=Value×Nat) 5 (bN 11 630) (fun s_=>[(28,s_.1),(11,.pointer (some ⟨s_.2,0,none⟩))]) (fun s_ w'=>(w'.cell? ⟨μ,0,none⟩=some (.slice a1 φ.length a5)∧w'.cell? ⟨μ,1,none⟩=some (.slice a6 τ.length a7))∧(Kd.R k86 86 w' w.heap.size (fun _=>True) s_.1 b4)∧(w'.heap[a0]?=some (.cells #[.int .i64 B,.int .i64 J,.int .i64 L,.int .i64 Y,.int .i64 Z,.int .i64 ε,.int .i64 γ,.int .i64 θ,.int .i64 ζ,.int .i64 η] 25 (0,0)))∧(w'.heap[μ]?=some (.cells #[.slice a1 φ.length a5,.slice a6 τ.length a7] 50 (0,0)))∧(w'.heap[ag]?=some (.cells #[.slice none 0 0,.slice none 0 0] 50 (0,0)))∧(w'.heap[s_.2]?=some (.cells #[.slice none 0 0,.slice none 0 0] 50 (0,0)))∧(w.heap.size≤s_.2)∧(w.heap.size≤s_.2)∧(a0≠s_.2)∧(s_.2≠a0)∧(μ ≠ s_.2)∧(s_.2 ≠ μ)∧(ag≠s_.2)∧(s_.2≠ag)∧(Below w.heap.size w w')) ?_ ?_
             rotate_left
             ·intro l4
              refine Yw (σ:=Value) 6 (bN 11 103) (fun s_=>[(24,s_)]) (fun s_ w'=>(w'.cell? ⟨μ,0,none⟩=some (.slice a1 φ.length a5)∧w'.cell? ⟨μ,1,none⟩=some (.slice a6 τ.length a7))∧(Kd.R k36 36 w' w.heap.size (fun _=>True) s_ bs)∧(w'.heap[a0]?=some (.cells #[.int .i64 B,.int .i64 J,.int .i64 L,.int .i64 Y,.int .i64 Z,.int .i64 ε,.int .i64 γ,.int .i64 θ,.int .i64 ζ,.int .i64 η] 25 (0,0)))∧(w'.heap[μ]?=some (.cells #[.slice a1 φ.length a5,.slice a6 τ.length a7] 50 (0,0)))∧(w'.heap[ag]?=some (.cells #[.slice none 0 0,.slice none 0 0] 50 (0,0)))∧(Below w.heap.size w w')) ?_ ?_
              rotate_left
              ·intro qs
               refine Yw (σ:=Value) 6 (bN 11 118) (fun s_=>[(28,s_)]) (fun s_ w'=>(w'.cell? ⟨μ,0,none⟩=some (.slice a1 φ.length a5)∧w'.cell? ⟨μ,1,none⟩=some (.slice a6 τ.length a7))∧(Kd.R k86 86 w' w.heap.size (fun _=>True) s_ b4)∧(w'.heap[a0]?=some (.cells #[.int .i64 B,.int .i64 J,.int .i64 L,.int .i64 Y,.int .i64 Z,.int .i64 ε,.int .i64 γ,.int .i64 θ,.int .i64 ζ,.int .i64 η] 25 (0,0)))∧(w'.heap[μ]?=some (.cells #[.slice a1 φ.length a5,.slice a6 τ.length a7] 50 (0,0)))∧(w'.heap[ag]?=some (.cells #[.slice none 0 0,.slice none 0 0] 50 (0,0)))∧(Below w.heap.size w w')) ?_ ?_
               rotate_left
               ·intro qt
                refine Yw (σ:=Nat) 6 (bN 11 614) (fun s_=>[(11,.pointer (some ⟨s_,0,none⟩))]) (fun s_ w'=>(w'.cell? ⟨μ,0,none⟩=some (.slice a1 φ.length a5)∧w'.cell? ⟨μ,1,none⟩=some (.slice a6 τ.length a7))∧(w'.heap[a0]?=some (.cells #[.int .i64 B,.int .i64 J,.int .i64 L,.int .i64 Y,.int .i64 Z,.int .i64 ε,.int .i64 γ,.int .i64 θ,.int .i64 ζ,.int .i64 η] 25 (0,0)))∧(w'.heap[μ]?=some (.cells #[.slice a1 φ.length a5,.slice a6 τ.length a7] 50 (0,0)))∧(w'.heap[ag]?=some (.cells #[.slice none 0 0,.slice none 0 0] 50 (0,0)))∧(w'.heap[s_]?=some (.cells #[.slice none 0 0,.slice none 0 0] 50 (0,0)))∧(w.heap.size≤s_)∧(w.heap.size≤s_)∧(a0≠s_)∧(s_≠a0)∧(μ ≠ s_)∧(s_ ≠ μ)∧(ag≠s_)∧(s_≠ag)∧(Below w.heap.size w w')) ?_ ?_
                rotate_left
                ·intro qu
                 refine L4 (i:=0) (j:=4) (k:=9) (Ni:=some 24) (Nj:=some 28) (Nk:=some 11) #[true,true,true,false,false,true,true,false,false,false,false] #[false,true,true,false,true,true,true,false,false,false,false] #[false,true,true,false,false,true,true,false,false,true,false] rfl rfl rfl rfl rfl rfl (V6 HT_.out kr) (by decide) (by decide) (by decide) (fun K hK=>?_) (fun K hK=>?_) (fun K hK=>?_)
                 ·skip
                  refine Kd.Z6 k36 _ 36 ?hg (N:=24) ?hd (xs:=([]:List (S36))) (inner:=[]) (ok:=fun _=>True) (okp:=fun _=>True) ?hr ?hp (fun _ hk=>hk) trivial (Below.refl _ _) (Nat.le_refl _) (by simp) ?_;(case hd=>rfl);(case hg=>rfl);(case hr=>go_simp <;> rfl);(case hp=>exact(Reps.none _ _))
                  intro av ay ee hb hg_ hnew_
                  clear hg_ hnew_
                  (first|rw[← et.out] at ee|(simp only[Int.reduceToNat] at ee;rw[← et.out] at ee))
                  have al:=Aside0.mk (Kd.Zc ee (Qu HB.out))
                  replace X:=sBk X hb
                  replace O:=sBk O hb
                  replace δ :=sBk δ hb
                  replace HB:=sHb hb
                  clear hb ee
                  refine hK.out _ _ ⟨qc O,qc O⟩ (fun hHeld=>?_)
                  clear hK K
                  refine qN (some 24) ?_
                  exact Zs (by first|(simp only[Q6,Act.put,qS];done)|(simp only[Q6,Act.put,qS];rfl)) (qs (av) _ ⟨hHeld,al.out,X.out,O.out,δ.out,HB.out⟩)
                 ·skip
                  refine Kd.Z6 k86 _ 86 ?hg (N:=28) ?hd (xs:=([]:List (S86))) (inner:=[]) (ok:=fun _=>True) (okp:=fun _=>True) ?hr ?hp (fun _ hk=>hk) trivial (Below.refl _ _) (Nat.le_refl _) (by simp) ?_;(case hd=>rfl);(case hg=>rfl);(case hr=>go_simp <;> rfl);(case hp=>exact(Reps.none _ _))
                  intro az ay ee hb hg_ hnew_
                  clear hg_ hnew_
                  (first|rw[← df.out] at ee|(simp only[Int.reduceToNat] at ee;rw[← df.out] at ee))
                  have ai:=Aside0.mk (Kd.Zc ee (Qu HB.out))
                  replace X:=sBk X hb
                  replace O:=sBk O hb
                  replace δ :=sBk δ hb
                  replace HB:=sHb hb
                  clear hb ee
                  refine hK.out _ _ ⟨qc O,qc O⟩ (fun hHeld=>?_)
                  clear hK K
                  refine qN (some 28) ?_
                  exact Zs (by first|(simp only[Q6,Act.put,qS];done)|(simp only[Q6,Act.put,qS];rfl)) (qt (az) _ ⟨hHeld,ai.out,X.out,O.out,δ.out,HB.out⟩)
                 ·skip
                  refine Xv ?hg (N:=11) ?hd (cs:=#[.slice none 0 0,.slice none 0 0]) (t:=50) ?hr ?_;(case hd=>rfl);(case hg=>rfl);(case hr=>go_simp <;> rfl)
                  intro ξ hg ay hbox hb
                  have ν :=Aside0.mk hbox
                  have b0:=sGe hg
                  have b1:=sGe hg
                  have aa:=sNl X hg
                  have ab:=sNg X hg
                  have a9:=sNl O hg
                  have ac:=sNg O hg
                  have ae:=sNl δ hg
                  have af:=sNg δ hg
                  replace X:=sBk X hb
                  replace O:=sBk O hb
                  replace δ :=sBk δ hb
                  replace HB:=sHb hb
                  clear hb hbox hg
                  refine hK.out _ _ ⟨qc O,qc O⟩ (fun hHeld=>?_)
                  clear hK K
                  refine qN (some 11) ?_
                  exact Zs (by first|(simp only[Q6,Act.put,qS];done)|(simp only[Q6,Act.put,qS];rfl)) (qu (ξ) _ ⟨hHeld,X.out,O.out,δ.out,ν.out,b0.out,b1.out,aa.out,ab.out,a9.out,ac.out,ae.out,af.out,HB.out⟩)
                ·skip
                 rintro ξ fr ⟨hS_,b7,b8,b9,ba,bb,bv,cw,cy,cz,d8,cd,ce,cf⟩
                 have ρ:Aside0 (fr.heap[a0]?=some (.cells #[.int .i64 B,.int .i64 J,.int .i64 L,.int .i64 Y,.int .i64 Z,.int .i64 ε,.int .i64 γ,.int .i64 θ,.int .i64 ζ,.int .i64 η] 25 (0,0))):=⟨b7⟩
                 have χ :Aside0 (fr.heap[μ]?=some (.cells #[.slice a1 φ.length a5,.slice a6 τ.length a7] 50 (0,0))):=⟨b8⟩
                 have a3:Aside0 (fr.heap[ag]?=some (.cells #[.slice none 0 0,.slice none 0 0] 50 (0,0))):=⟨b9⟩
                 have a8:Aside0 (fr.heap[ξ]?=some (.cells #[.slice none 0 0,.slice none 0 0] 50 (0,0))):=⟨ba⟩
                 have ah:Aside0 (w.heap.size ≤ ξ):=⟨bb⟩
                 have ar:Aside0 (w.heap.size ≤ ξ):=⟨bv⟩
                 have b2:Aside0 (a0 ≠ ξ):=⟨cw⟩
                 have bl:Aside0 (ξ ≠ a0):=⟨cy⟩
                 have cm:Aside0 (μ ≠ ξ):=⟨cz⟩
                 have d9:Aside0 (ξ ≠ μ):=⟨d8⟩
                 have cg:Aside0 (ag ≠ ξ):=⟨cd⟩
                 have ch:Aside0 (ξ ≠ ag):=⟨ce⟩
                 have ci:Aside0 (Below w.heap.size w fr):=⟨cf⟩
                 clear X
                 clear O
                 clear δ
                 clear HB
                 clear b7 b8 b9 ba bb bv cw cy cz d8 cd ce cf
                 have X:=ρ
                 have O:= χ
                 have δ :=a3
                 have ν :=a8
                 have b0:=ah
                 have b1:=ar
                 have aa:=b2
                 have ab:=bl
                 have a9:=cm
                 have ac:=d9
                 have ae:=cg
                 have af:=ch
                 have HB:=ci
                 clear ρ χ a3 a8 ah ar b2 bl cm d9 cg ch ci
                 have hHeld:fr.cell? ⟨μ,0,none⟩=some (.slice a1 φ.length a5)∧fr.cell? ⟨μ,1,none⟩=some (.slice a6 τ.length a7):=hS_
                 refine Zs (a':=?_) ?_ ?_
                 rotate_left
                 ·simp only[Q6,Act.put,qS]
                  rfl
                 refine V4 (i:=0) (j:=4) (Ni:=some 24) (Nj:=some 28) (bN 11 615) (bN 11 630) rfl rfl rfl rfl (Jf HT_.out kr) (by decide) (by decide) (fun K hK=>?_) (fun K hK=>?_)
                 ·skip
                  refine Kd.Z6 k36 _ 36 ?hg (N:=24) ?hd (xs:=([]:List (S36))) (inner:=[]) (ok:=fun _=>True) (okp:=fun _=>True) ?hr ?hp (fun _ hk=>hk) trivial (Below.refl _ _) (Nat.le_refl _) (by simp) ?_;(case hd=>rfl);(case hg=>rfl);(case hr=>go_simp <;> rfl);(case hp=>exact(Reps.none _ _))
                  intro av bc ef hb hg_ hnew_
                  clear hg_ hnew_
                  (first|rw[← et.out] at ef|(simp only[Int.reduceToNat] at ef;rw[← et.out] at ef))
                  have al:=Aside0.mk (Kd.Zc ef (Qu HB.out))
                  replace X:=sBk X hb
                  replace O:=sBk O hb
                  replace δ :=sBk δ hb
                  replace ν :=sBk ν hb
                  replace HB:=sHb hb
                  clear hb ef
                  refine hK.out _ _ ⟨qc O,qc O⟩ (fun hHeld=>?_)
                  clear hK K
                  refine qN (some 24) ?_
                  exact Zs (by first|(simp only[Q6,Act.put,qS];done)|(simp only[Q6,Act.put,qS];rfl)) (l3 (av,ξ) _ ⟨hHeld,al.out,X.out,O.out,δ.out,ν.out,b0.out,b1.out,aa.out,ab.out,a9.out,ac.out,ae.out,af.out,HB.out⟩)
                 ·skip
                  refine Kd.Z6 k86 _ 86 ?hg (N:=28) ?hd (xs:=([]:List (S86))) (inner:=[]) (ok:=fun _=>True) (okp:=fun _=>True) ?hr ?hp (fun _ hk=>hk) trivial (Below.refl _ _) (Nat.le_refl _) (by simp) ?_;(case hd=>rfl);(case hg=>rfl);(case hr=>go_simp <;> rfl);(case hp=>exact(Reps.none _ _))
                  intro az bc ef hb hg_ hnew_
                  clear hg_ hnew_
                  (first|rw[← df.out] at ef|(simp only[Int.reduceToNat] at ef;rw[← df.out] at ef))
                  have ai:=Aside0.mk (Kd.Zc ef (Qu HB.out))
                  replace X:=sBk X hb
                  replace O:=sBk O hb
                  replace δ :=sBk δ hb
                  replace ν :=sBk ν hb
                  replace HB:=sHb hb
                  clear hb ef
                  refine hK.out _ _ ⟨qc O,qc O⟩ (fun hHeld=>?_)
                  clear hK K
                  refine qN (some 28) ?_
                  exact Zs (by first|(simp only[Q6,Act.put,qS];done)|(simp only[Q6,Act.put,qS];rfl)) (l4 (az,ξ) _ ⟨hHeld,ai.out,X.out,O.out,δ.out,ν.out,b0.out,b1.out,aa.out,ab.out,a9.out,ac.out,ae.out,af.out,HB.out⟩)
               ·skip
                rintro az bc ⟨hS_,b7,b8,b9,ba,bb⟩
                have ρ:Aside0 (Kd.R k86 86 bc w.heap.size (fun _=>True) az b4):=⟨b7⟩
                have χ :Aside0 (bc.heap[a0]?=some (.cells #[.int .i64 B,.int .i64 J,.int .i64 L,.int .i64 Y,.int .i64 Z,.int .i64 ε,.int .i64 γ,.int .i64 θ,.int .i64 ζ,.int .i64 η] 25 (0,0))):=⟨b8⟩
                have a3:Aside0 (bc.heap[μ]?=some (.cells #[.slice a1 φ.length a5,.slice a6 τ.length a7] 50 (0,0))):=⟨b9⟩
                have a8:Aside0 (bc.heap[ag]?=some (.cells #[.slice none 0 0,.slice none 0 0] 50 (0,0))):=⟨ba⟩
                have ah:Aside0 (Below w.heap.size w bc):=⟨bb⟩
                clear X
                clear O
                clear δ
                clear HB
                clear b7 b8 b9 ba bb
                have ai:=ρ
                have X:= χ
                have O:=a3
                have δ :=a8
                have HB:=ah
                clear ρ χ a3 a8 ah
                have hHeld:bc.cell? ⟨μ,0,none⟩=some (.slice a1 φ.length a5)∧bc.cell? ⟨μ,1,none⟩=some (.slice a6 τ.length a7):=hS_
                refine Zs (a':=?_) ?_ ?_
                rotate_left
                ·simp only[Q6,Act.put,qS]
                 rfl
                refine V4 (i:=0) (j:=9) (Ni:=some 24) (Nj:=some 11) (bN 11 119) (bN 11 630) rfl rfl rfl rfl (Jf HT_.out kr) (by decide) (by decide) (fun K hK=>?_) (fun K hK=>?_)
                ·skip
                 refine Kd.Z6 k36 _ 36 ?hg (N:=24) ?hd (xs:=([]:List (S36))) (inner:=[]) (ok:=fun _=>True) (okp:=fun _=>True) ?hr ?hp (fun _ hk=>hk) trivial (Below.refl _ _) (Nat.le_refl _) (by simp) ?_;(case hd=>rfl);(case hg=>rfl);(case hr=>go_simp <;> rfl);(case hp=>exact(Reps.none _ _))
                 intro av be dd hb hg_ hnew_
                 clear hg_ hnew_
                 (first|rw[← et.out] at dd|(simp only[Int.reduceToNat] at dd;rw[← et.out] at dd))
                 have al:=Aside0.mk (Kd.Zc dd (Qu HB.out))
                 replace ai:=sRb ai hb
                 replace X:=sBk X hb
                 replace O:=sBk O hb
                 replace δ :=sBk δ hb
                 replace HB:=sHb hb
                 clear hb dd
                 refine hK.out _ _ ⟨qc O,qc O⟩ (fun hHeld=>?_)
                 clear hK K
                 refine qN (some 24) ?_
                 exact Zs (by first|(simp only[Q6,Act.put,qS];done)|(simp only[Q6,Act.put,qS];rfl)) (l2 (av,az) _ ⟨hHeld,al.out,ai.out,X.out,O.out,δ.out,HB.out⟩)
                ·skip
                 refine Xv ?hg (N:=11) ?hd (cs:=#[.slice none 0 0,.slice none 0 0]) (t:=50) ?hr ?_;(case hd=>rfl);(case hg=>rfl);(case hr=>go_simp <;> rfl)
                 intro ξ hg be hbox hb
                 have ν :=Aside0.mk hbox
                 have b0:=sGe hg
                 have b1:=sGe hg
                 have aa:=sNl X hg
                 have ab:=sNg X hg
                 have a9:=sNl O hg
                 have ac:=sNg O hg
                 have ae:=sNl δ hg
                 have af:=sNg δ hg
                 replace ai:=sRb ai hb
                 replace X:=sBk X hb
                 replace O:=sBk O hb
                 replace δ :=sBk δ hb
                 replace HB:=sHb hb
                 clear hb hbox hg
                 refine hK.out _ _ ⟨qc O,qc O⟩ (fun hHeld=>?_)
                 clear hK K
                 refine qN (some 11) ?_
                 exact Zs (by first|(simp only[Q6,Act.put,qS];done)|(simp only[Q6,Act.put,qS];rfl)) (l4 (az,ξ) _ ⟨hHeld,ai.out,X.out,O.out,δ.out,ν.out,b0.out,b1.out,aa.out,ab.out,a9.out,ac.out,ae.out,af.out,HB.out⟩)
              ·skip
               rintro av bc ⟨hS_,b7,b8,b9,ba,bb⟩
               have ρ:Aside0 (Kd.R k36 36 bc w.heap.size (fun _=>True) av bs):=⟨b7⟩
               have χ :Aside0 (bc.heap[a0]?=some (.cells #[.int .i64 B,.int .i64 J,.int .i64 L,.int .i64 Y,.int .i64 Z,.int .i64 ε,.int .i64 γ,.int .i64 θ,.int .i64 ζ,.int .i64 η] 25 (0,0))):=⟨b8⟩
               have a3:Aside0 (bc.heap[μ]?=some (.cells #[.slice a1 φ.length a5,.slice a6 τ.length a7] 50 (0,0))):=⟨b9⟩
               have a8:Aside0 (bc.heap[ag]?=some (.cells #[.slice none 0 0,.slice none 0 0] 50 (0,0))):=⟨ba⟩
               have ah:Aside0 (Below w.heap.size w bc):=⟨bb⟩
               clear X
               clear O
               clear δ
               clear HB
               clear b7 b8 b9 ba bb
               have al:=ρ
               have X:= χ
               have O:=a3
               have δ :=a8
               have HB:=ah
               clear ρ χ a3 a8 ah
               have hHeld:bc.cell? ⟨μ,0,none⟩=some (.slice a1 φ.length a5)∧bc.cell? ⟨μ,1,none⟩=some (.slice a6 τ.length a7):=hS_
               refine Zs (a':=?_) ?_ ?_
               rotate_left
               ·simp only[Q6,Act.put,qS]
                rfl
               refine L4 (i:=3) (j:=4) (k:=9) (Ni:=some 27) (Nj:=some 28) (Nk:=some 11) #[true,true,true,true,false,true,true,false,false,false,false] #[true,true,true,false,true,true,true,false,false,false,false] #[true,true,true,false,false,true,true,false,false,true,false] rfl rfl rfl rfl rfl rfl (V6 HT_.out kr) (by decide) (by decide) (by decide) (fun K hK=>?_) (fun K hK=>?_) (fun K hK=>?_)
               ·skip
                refine Kd.Z1 k36 (w0:=w) w.heap.size (by rfl) (.tmp 24) (.tmp 26) 47 36 (.agg #[(.int .i64 0),(.int .i64 0),(.int .i64 0)]) 24 rfl Try.underlying47 Gh rfl (by decide) (by omega) av bs φ _ _ _ (fun _=>True) (fun _=>False) rfl rfl ?aO ?aR (fun _ _ h=>h) (fun _ h=>h.elim) ?aF ?aB ?aS ?aL ?_
                (case aR=>exact(Kd.Qp br.out HB.out))
                (case aB=>exact HB.out)
                (case aF=>exact(fun _ _=>trivial))
                (case aO=>exact al.out)
                (case aS=>exact(Qu HB.out))
                (case aL=>have:=jh.out;omega)
                intro cj be ho hb hg hat
                rw[← he.out] at ho
                have ao:=Aside0.mk ho
                replace X:=Aside0.mk (Q3 (g:=a0) (o:=.cells #[.int .i64 B,.int .i64 J,.int .i64 L,.int .i64 Y,.int .i64 Z,.int .i64 ε,.int .i64 γ,.int .i64 θ,.int .i64 ζ,.int .i64 η] 25 (0,0)) X.out hg (Kd.Xc al.out X.out (by decide)))
                replace O:=Aside0.mk (Q3 (g:= μ) (o:=.cells #[.slice a1 φ.length a5,.slice a6 τ.length a7] 50 (0,0)) O.out hg (Kd.Xc al.out O.out (by decide)))
                replace δ :=Aside0.mk (Q3 (g:=ag) (o:=.cells #[.slice none 0 0,.slice none 0 0] 50 (0,0)) δ.out hg (Kd.Xc al.out δ.out (by decide)))
                replace HB:=Aside0.mk hb
                clear al
                clear ho hb hg hat
                refine hK.out _ _ ⟨qc O,qc O⟩ (fun hHeld=>?_)
                clear hK K
                refine qN (some 27) ?_
                exact Zs (by first|(simp only[Q6,Act.put,qS];done)|(simp only[Q6,Act.put,qS];rfl)) (nt (av,cj) _ ⟨hHeld,ao.out,X.out,O.out,δ.out,HB.out⟩)
               ·skip
                refine Kd.Z6 k86 _ 86 ?hg (N:=28) ?hd (xs:=([]:List (S86))) (inner:=[]) (ok:=fun _=>True) (okp:=fun _=>True) ?hr ?hp (fun _ hk=>hk) trivial (Below.refl _ _) (Nat.le_refl _) (by simp) ?_;(case hd=>rfl);(case hg=>rfl);(case hr=>go_simp <;> rfl);(case hp=>exact(Reps.none _ _))
                intro az be dd hb hg_ hnew_
                clear hg_ hnew_
                (first|rw[← df.out] at dd|(simp only[Int.reduceToNat] at dd;rw[← df.out] at dd))
                have ai:=Aside0.mk (Kd.Zc dd (Qu HB.out))
                replace al:=sRb al hb
                replace X:=sBk X hb
                replace O:=sBk O hb
                replace δ :=sBk δ hb
                replace HB:=sHb hb
                clear hb dd
                refine hK.out _ _ ⟨qc O,qc O⟩ (fun hHeld=>?_)
                clear hK K
                refine qN (some 28) ?_
                exact Zs (by first|(simp only[Q6,Act.put,qS];done)|(simp only[Q6,Act.put,qS];rfl)) (l2 (av,az) _ ⟨hHeld,al.out,ai.out,X.out,O.out,δ.out,HB.out⟩)
               ·skip
                refine Xv ?hg (N:=11) ?hd (cs:=#[.slice none 0 0,.slice none 0 0]) (t:=50) ?hr ?_;(case hd=>rfl);(case hg=>rfl);(case hr=>go_simp <;> rfl)
                intro ξ hg be hbox hb
                have ν :=Aside0.mk hbox
                have b0:=sGe hg
                have b1:=sGe hg
                have aa:=sNl X hg
                have ab:=sNg X hg
                have a9:=sNl O hg
                have ac:=sNg O hg
                have ae:=sNl δ hg
                have af:=sNg δ hg
                replace al:=sRb al hb
                replace X:=sBk X hb
                replace O:=sBk O hb
                replace δ :=sBk δ hb
                replace HB:=sHb hb
                clear hb hbox hg
                refine hK.out _ _ ⟨qc O,qc O⟩ (fun hHeld=>?_)
                clear hK K
                refine qN (some 11) ?_
                exact Zs (by first|(simp only[Q6,Act.put,qS];done)|(simp only[Q6,Act.put,qS];rfl)) (l3 (av,ξ) _ ⟨hHeld,al.out,X.out,O.out,δ.out,ν.out,b0.out,b1.out,aa.out,ab.out,a9.out,ac.out,ae.out,af.out,HB.out⟩)
             ·skip
              rintro⟨az,ξ⟩ be ⟨hS_,b7,b8,b9,ba,bb,bv,cw,cy,cz,d8,cd,ce,cf,cr⟩
              have ρ:Aside0 (Kd.R k86 86 be w.heap.size (fun _=>True) az b4):=⟨b7⟩
              have χ :Aside0 (be.heap[a0]?=some (.cells #[.int .i64 B,.int .i64 J,.int .i64 L,.int .i64 Y,.int .i64 Z,.int .i64 ε,.int .i64 γ,.int .i64 θ,.int .i64 ζ,.int .i64 η] 25 (0,0))):=⟨b8⟩
              have a3:Aside0 (be.heap[μ]?=some (.cells #[.slice a1 φ.length a5,.slice a6 τ.length a7] 50 (0,0))):=⟨b9⟩
              have a8:Aside0 (be.heap[ag]?=some (.cells #[.slice none 0 0,.slice none 0 0] 50 (0,0))):=⟨ba⟩
              have ah:Aside0 (be.heap[ξ]?=some (.cells #[.slice none 0 0,.slice none 0 0] 50 (0,0))):=⟨bb⟩
              have ar:Aside0 (w.heap.size ≤ ξ):=⟨bv⟩
              have b2:Aside0 (w.heap.size ≤ ξ):=⟨cw⟩
              have bl:Aside0 (a0 ≠ ξ):=⟨cy⟩
              have cm:Aside0 (ξ ≠ a0):=⟨cz⟩
              have d9:Aside0 (μ ≠ ξ):=⟨d8⟩
              have cg:Aside0 (ξ ≠ μ):=⟨cd⟩
              have ch:Aside0 (ag ≠ ξ):=⟨ce⟩
              have ci:Aside0 (ξ ≠ ag):=⟨cf⟩
              have ct:Aside0 (Below w.heap.size w be):=⟨cr⟩
              clear X
              clear O
              clear δ
              clear HB
              clear b7 b8 b9 ba bb bv cw cy cz d8 cd ce cf cr
              have ai:=ρ
              have X:= χ
              have O:=a3
              have δ :=a8
              have ν :=ah
              have b0:=ar
              have b1:=b2
              have aa:=bl
              have ab:=cm
              have a9:=d9
              have ac:=cg
              have ae:=ch
              have af:=ci
              have HB:=ct
              clear ρ χ a3 a8 ah ar b2 bl cm d9 cg ch ci ct
              have hHeld:be.cell? ⟨μ,0,none⟩=some (.slice a1 φ.length a5)∧be.cell? ⟨μ,1,none⟩=some (.slice a6 τ.length a7):=hS_
              refine Zs (a':=?_) ?_ ?_
              rotate_left
              ·simp only[Q6,Act.put,qS]
               rfl
              refine Zg (i:=0) (N:=some 24) (bN 11 631) rfl rfl (Q4 HT_.out kr) (by decide) (fun K hK=>?_)
              refine Kd.Z6 k36 _ 36 ?hg (N:=24) ?hd (xs:=([]:List (S36))) (inner:=[]) (ok:=fun _=>True) (okp:=fun _=>True) ?hr ?hp (fun _ hk=>hk) trivial (Below.refl _ _) (Nat.le_refl _) (by simp) ?_;(case hd=>rfl);(case hg=>rfl);(case hr=>go_simp <;> rfl);(case hp=>exact(Reps.none _ _))
              intro av b6 da hb hg_ hnew_
              clear hg_ hnew_
              (first|rw[← et.out] at da|(simp only[Int.reduceToNat] at da;rw[← et.out] at da))
              have al:=Aside0.mk (Kd.Zc da (Qu HB.out))
              replace ai:=sRb ai hb
              replace X:=sBk X hb
              replace O:=sBk O hb
              replace δ :=sBk δ hb
              replace ν :=sBk ν hb
              replace HB:=sHb hb
              clear hb da
              refine hK.out _ _ ⟨qc O,qc O⟩ (fun hHeld=>?_)
              clear hK K
              refine qN (some 24) ?_
              exact Zs (by first|(simp only[Q6,Act.put,qS];done)|(simp only[Q6,Act.put,qS];rfl)) (h8 (av,az,ξ) _ ⟨hHeld,al.out,ai.out,X.out,O.out,δ.out,ν.out,b0.out,b1.out,aa.out,ab.out,a9.out,ac.out,ae.out,af.out,HB.out⟩)
            ·skip
             rintro⟨av,ξ⟩ be ⟨hS_,b7,b8,b9,ba,bb,bv,cw,cy,cz,d8,cd,ce,cf,cr⟩
             have ρ:Aside0 (Kd.R k36 36 be w.heap.size (fun _=>True) av bs):=⟨b7⟩
             have χ :Aside0 (be.heap[a0]?=some (.cells #[.int .i64 B,.int .i64 J,.int .i64 L,.int .i64 Y,.int .i64 Z,.int .i64 ε,.int .i64 γ,.int .i64 θ,.int .i64 ζ,.int .i64 η] 25 (0,0))):=⟨b8⟩
             have a3:Aside0 (be.heap[μ]?=some (.cells #[.slice a1 φ.length a5,.slice a6 τ.length a7] 50 (0,0))):=⟨b9⟩
             have a8:Aside0 (be.heap[ag]?=some (.cells #[.slice none 0 0,.slice none 0 0] 50 (0,0))):=⟨ba⟩
             have ah:Aside0 (be.heap[ξ]?=some (.cells #[.slice none 0 0,.slice none 0 0] 50 (0,0))):=⟨bb⟩
             have ar:Aside0 (w.heap.size ≤ ξ):=⟨bv⟩
             have b2:Aside0 (w.heap.size ≤ ξ):=⟨cw⟩
             have bl:Aside0 (a0 ≠ ξ):=⟨cy⟩
             have cm:Aside0 (ξ ≠ a0):=⟨cz⟩
             have d9:Aside0 (μ ≠ ξ):=⟨d8⟩
             have cg:Aside0 (ξ ≠ μ):=⟨cd⟩
             have ch:Aside0 (ag ≠ ξ):=⟨ce⟩
             have ci:Aside0 (ξ ≠ ag):=⟨cf⟩
             have ct:Aside0 (Below w.heap.size w be):=⟨cr⟩
             clear X
             clear O
             clear δ
             clear HB
             clear b7 b8 b9 ba bb bv cw cy cz d8 cd ce cf cr
             have al:=ρ
             have X:= χ
             have O:=a3
             have δ :=a8
             have ν :=ah
             have b0:=ar
             have b1:=b2
             have aa:=bl
             have ab:=cm
             have a9:=d9
             have ac:=cg
             have ae:=ch
             have af:=ci
             have HB:=ct
             clear ρ χ a3 a8 ah ar b2 bl cm d9 cg ch ci ct
             have hHeld:be.cell? ⟨μ,0,none⟩=some (.slice a1 φ.length a5)∧be.cell? ⟨μ,1,none⟩=some (.slice a6 τ.length a7):=hS_
             refine Zs (a':=?_) ?_ ?_
             rotate_left
             ·simp only[Q6,Act.put,qS]
              rfl
             refine V4 (i:=3) (j:=4) (Ni:=some 27) (Nj:=some 28) (bN 11 623) (bN 11 631) rfl rfl rfl rfl (Jf HT_.out kr) (by decide) (by decide) (fun K hK=>?_) (fun K hK=>?_)
             ·skip
              refine Kd.Z1 k36 (w0:=w) w.heap.size (by rfl) (.tmp 24) (.tmp 26) 47 36 (.agg #[(.int .i64 0),(.int .i64 0),(.int .i64 0)]) 24 rfl Try.underlying47 Gh rfl (by decide) (by omega) av bs φ _ _ _ (fun _=>True) (fun _=>False) rfl rfl ?aO ?aR (fun _ _ h=>h) (fun _ h=>h.elim) ?aF ?aB ?aS ?aL ?_
              (case aR=>exact(Kd.Qp br.out HB.out))
              (case aB=>exact HB.out)
              (case aF=>exact(fun _ _=>trivial))
              (case aO=>exact al.out)
              (case aS=>exact(Qu HB.out))
              (case aL=>have:=jh.out;omega)
              intro cj b6 ho hb hg hat
              rw[← he.out] at ho
              have ao:=Aside0.mk ho
              replace X:=Aside0.mk (Q3 (g:=a0) (o:=.cells #[.int .i64 B,.int .i64 J,.int .i64 L,.int .i64 Y,.int .i64 Z,.int .i64 ε,.int .i64 γ,.int .i64 θ,.int .i64 ζ,.int .i64 η] 25 (0,0)) X.out hg (Kd.Xc al.out X.out (by decide)))
              replace O:=Aside0.mk (Q3 (g:= μ) (o:=.cells #[.slice a1 φ.length a5,.slice a6 τ.length a7] 50 (0,0)) O.out hg (Kd.Xc al.out O.out (by decide)))
              replace δ :=Aside0.mk (Q3 (g:=ag) (o:=.cells #[.slice none 0 0,.slice none 0 0] 50 (0,0)) δ.out hg (Kd.Xc al.out δ.out (by decide)))
              replace ν :=Aside0.mk (Q3 (g:= ξ) (o:=.cells #[.slice none 0 0,.slice none 0 0] 50 (0,0)) ν.out hg (Kd.Xc al.out ν.out (by decide)))
              replace HB:=Aside0.mk hb
              clear al
              clear ho hb hg hat
              refine hK.out _ _ ⟨qc O,qc O⟩ (fun hHeld=>?_)
              clear hK K
              refine qN (some 27) ?_
              exact Zs (by first|(simp only[Q6,Act.put,qS];done)|(simp only[Q6,Act.put,qS];rfl)) (ja (av,cj,ξ) _ ⟨hHeld,ao.out,X.out,O.out,δ.out,ν.out,b0.out,b1.out,aa.out,ab.out,a9.out,ac.out,ae.out,af.out,HB.out⟩)
             ·skip
              refine Kd.Z6 k86 _ 86 ?hg (N:=28) ?hd (xs:=([]:List (S86))) (inner:=[]) (ok:=fun _=>True) (okp:=fun _=>True) ?hr ?hp (fun _ hk=>hk) trivial (Below.refl _ _) (Nat.le_refl _) (by simp) ?_;(case hd=>rfl);(case hg=>rfl);(case hr=>go_simp <;> rfl);(case hp=>exact(Reps.none _ _))
              intro az b6 da hb hg_ hnew_
              clear hg_ hnew_
              (first|rw[← df.out] at da|(simp only[Int.reduceToNat] at da;rw[← df.out] at da))
              have ai:=Aside0.mk (Kd.Zc da (Qu HB.out))
              replace al:=sRb al hb
              replace X:=sBk X hb
              replace O:=sBk O hb
              replace δ :=sBk δ hb
              replace ν :=sBk ν hb
              replace HB:=sHb hb
              clear hb da
              refine hK.out _ _ ⟨qc O,qc O⟩ (fun hHeld=>?_)
              clear hK K
              refine qN (some 28) ?_
              exact Zs (by first|(simp only[Q6,Act.put,qS];done)|(simp only[Q6,Act.put,qS];rfl)) (h8 (av,az,ξ) _ ⟨hHeld,al.out,ai.out,X.out,O.out,δ.out,ν.out,b0.out,b1.out,aa.out,ab.out,a9.out,ac.out,ae.out,af.out,HB.out⟩)
           ·skip
            rintro⟨av,az⟩ b6 ⟨hS_,b7,b8,b9,ba,bb,bv⟩
            have ρ:Aside0 (Kd.R k36 36 b6 w.heap.size (fun _=>True) av bs):=⟨b7⟩
            have χ :Aside0 (Kd.R k86 86 b6 w.heap.size (fun _=>True) az b4):=⟨b8⟩
            have a3:Aside0 (b6.heap[a0]?=some (.cells #[.int .i64 B,.int .i64 J,.int .i64 L,.int .i64 Y,.int .i64 Z,.int .i64 ε,.int .i64 γ,.int .i64 θ,.int .i64 ζ,.int .i64 η] 25 (0,0))):=⟨b9⟩
            have a8:Aside0 (b6.heap[μ]?=some (.cells #[.slice a1 φ.length a5,.slice a6 τ.length a7] 50 (0,0))):=⟨ba⟩
            have ah:Aside0 (b6.heap[ag]?=some (.cells #[.slice none 0 0,.slice none 0 0] 50 (0,0))):=⟨bb⟩
            have ar:Aside0 (Below w.heap.size w b6):=⟨bv⟩
            clear X
            clear O
            clear δ
            clear HB
            clear b7 b8 b9 ba bb bv
            have al:=ρ
            have ai:= χ
            have X:=a3
            have O:=a8
            have δ :=ah
            have HB:=ar
            clear ρ χ a3 a8 ah ar
            have hHeld:b6.cell? ⟨μ,0,none⟩=some (.slice a1 φ.length a5)∧b6.cell? ⟨μ,1,none⟩=some (.slice a6 τ.length a7):=hS_
            refine Zs (a':=?_) ?_ ?_
            rotate_left
            ·simp only[Q6,Act.put,qS]
             rfl
            refine V4 (i:=3) (j:=9) (Ni:=some 27) (Nj:=some 11) (bN 11 127) (bN 11 631) rfl rfl rfl rfl (Jf HT_.out kr) (by decide) (by decide) (fun K hK=>?_) (fun K hK=>?_)
            ·skip
             refine Kd.Z1 k36 (w0:=w) w.heap.size (by rfl) (.tmp 24) (.tmp 26) 47 36 (.agg #[(.int .i64 0),(.int .i64 0),(.int .i64 0)]) 24 rfl Try.underlying47 Gh rfl (by decide) (by omega) av bs φ _ _ _ (fun _=>True) (fun _=>False) rfl rfl ?aO ?aR (fun _ _ h=>h) (fun _ h=>h.elim) ?aF ?aB ?aS ?aL ?_
             (case aR=>exact(Kd.Qp br.out HB.out))
             (case aB=>exact HB.out)
             (case aF=>exact(fun _ _=>trivial))
             (case aO=>exact al.out)
             (case aS=>exact(Qu HB.out))
             (case aL=>have:=jh.out;omega)
             intro cj cp ho hb hg hat
             rw[← he.out] at ho
             have ao:=Aside0.mk ho
             replace X:=Aside0.mk (Q3 (g:=a0) (o:=.cells #[.int .i64 B,.int .i64 J,.int .i64 L,.int .i64 Y,.int .i64 Z,.int .i64 ε,.int .i64 γ,.int .i64 θ,.int .i64 ζ,.int .i64 η] 25 (0,0)) X.out hg (Kd.Xc al.out X.out (by decide)))
             replace O:=Aside0.mk (Q3 (g:= μ) (o:=.cells #[.slice a1 φ.length a5,.slice a6 τ.length a7] 50 (0,0)) O.out hg (Kd.Xc al.out O.out (by decide)))
             replace δ :=Aside0.mk (Q3 (g:=ag) (o:=.cells #[.slice none 0 0,.slice none 0 0] 50 (0,0)) δ.out hg (Kd.Xc al.out δ.out (by decide)))
             replace ai:=Aside0.mk (Kd.Kl ai.out (Kd.Kk al.out) (by decide) hg)
             replace HB:=Aside0.mk hb
             clear al
             clear ho hb hg hat
             refine hK.out _ _ ⟨qc O,qc O⟩ (fun hHeld=>?_)
             clear hK K
             refine qN (some 27) ?_
             exact Zs (by first|(simp only[Q6,Act.put,qS];done)|(simp only[Q6,Act.put,qS];rfl)) (io (av,cj,az) _ ⟨hHeld,ao.out,ai.out,X.out,O.out,δ.out,HB.out⟩)
            ·skip
             refine Xv ?hg (N:=11) ?hd (cs:=#[.slice none 0 0,.slice none 0 0]) (t:=50) ?hr ?_;(case hd=>rfl);(case hg=>rfl);(case hr=>go_simp <;> rfl)
             intro ξ hg cp hbox hb
             have ν :=Aside0.mk hbox
             have b0:=sGe hg
             have b1:=sGe hg
             have aa:=sNl X hg
             have ab:=sNg X hg
             have a9:=sNl O hg
             have ac:=sNg O hg
             have ae:=sNl δ hg
             have af:=sNg δ hg
             replace al:=sRb al hb
             replace ai:=sRb ai hb
             replace X:=sBk X hb
             replace O:=sBk O hb
             replace δ :=sBk δ hb
             replace HB:=sHb hb
             clear hb hbox hg
             refine hK.out _ _ ⟨qc O,qc O⟩ (fun hHeld=>?_)
             clear hK K
             refine qN (some 11) ?_
             exact Zs (by first|(simp only[Q6,Act.put,qS];done)|(simp only[Q6,Act.put,qS];rfl)) (h8 (av,az,ξ) _ ⟨hHeld,al.out,ai.out,X.out,O.out,δ.out,ν.out,b0.out,b1.out,aa.out,ab.out,a9.out,ac.out,ae.out,af.out,HB.out⟩)
          ·skip
           rintro⟨av,cj⟩ be ⟨hS_,b7,b8,b9,ba,bb⟩
           have ρ:Aside0 (Kd.R k36 36 be w.heap.size (fun _=>True) cj au):=⟨b7⟩
           have χ :Aside0 (be.heap[a0]?=some (.cells #[.int .i64 B,.int .i64 J,.int .i64 L,.int .i64 Y,.int .i64 Z,.int .i64 ε,.int .i64 γ,.int .i64 θ,.int .i64 ζ,.int .i64 η] 25 (0,0))):=⟨b8⟩
           have a3:Aside0 (be.heap[μ]?=some (.cells #[.slice a1 φ.length a5,.slice a6 τ.length a7] 50 (0,0))):=⟨b9⟩
           have a8:Aside0 (be.heap[ag]?=some (.cells #[.slice none 0 0,.slice none 0 0] 50 (0,0))):=⟨ba⟩
           have ah:Aside0 (Below w.heap.size w be):=⟨bb⟩
           clear X
           clear O
           clear δ
           clear HB
           clear b7 b8 b9 ba bb
           have ao:=ρ
           have X:= χ
           have O:=a3
           have δ :=a8
           have HB:=ah
           clear ρ χ a3 a8 ah
           have hHeld:be.cell? ⟨μ,0,none⟩=some (.slice a1 φ.length a5)∧be.cell? ⟨μ,1,none⟩=some (.slice a6 τ.length a7):=hS_
           refine Zs (a':=?_) ?_ ?_
           rotate_left
           ·simp only[Q6,Act.put,qS]
            rfl
           refine V4 (i:=4) (j:=9) (Ni:=some 28) (Nj:=some 11) (bN 11 127) (bN 11 623) rfl rfl rfl rfl (Jf HT_.out kr) (by decide) (by decide) (fun K hK=>?_) (fun K hK=>?_)
           ·skip
            refine Kd.Z6 k86 _ 86 ?hg (N:=28) ?hd (xs:=([]:List (S86))) (inner:=[]) (ok:=fun _=>True) (okp:=fun _=>True) ?hr ?hp (fun _ hk=>hk) trivial (Below.refl _ _) (Nat.le_refl _) (by simp) ?_;(case hd=>rfl);(case hg=>rfl);(case hr=>go_simp <;> rfl);(case hp=>exact(Reps.none _ _))
            intro az b6 da hb hg_ hnew_
            clear hg_ hnew_
            (first|rw[← df.out] at da|(simp only[Int.reduceToNat] at da;rw[← df.out] at da))
            have ai:=Aside0.mk (Kd.Zc da (Qu HB.out))
            replace ao:=sRb ao hb
            replace X:=sBk X hb
            replace O:=sBk O hb
            replace δ :=sBk δ hb
            replace HB:=sHb hb
            clear hb da
            refine hK.out _ _ ⟨qc O,qc O⟩ (fun hHeld=>?_)
            clear hK K
            refine qN (some 28) ?_
            exact Zs (by first|(simp only[Q6,Act.put,qS];done)|(simp only[Q6,Act.put,qS];rfl)) (io (av,cj,az) _ ⟨hHeld,ao.out,ai.out,X.out,O.out,δ.out,HB.out⟩)
           ·skip
            refine Xv ?hg (N:=11) ?hd (cs:=#[.slice none 0 0,.slice none 0 0]) (t:=50) ?hr ?_;(case hd=>rfl);(case hg=>rfl);(case hr=>go_simp <;> rfl)
            intro ξ hg b6 hbox hb
            have ν :=Aside0.mk hbox
            have b0:=sGe hg
            have b1:=sGe hg
            have aa:=sNl X hg
            have ab:=sNg X hg
            have a9:=sNl O hg
            have ac:=sNg O hg
            have ae:=sNl δ hg
            have af:=sNg δ hg
            replace ao:=sRb ao hb
            replace X:=sBk X hb
            replace O:=sBk O hb
            replace δ :=sBk δ hb
            replace HB:=sHb hb
            clear hb hbox hg
            refine hK.out _ _ ⟨qc O,qc O⟩ (fun hHeld=>?_)
            clear hK K
            refine qN (some 11) ?_
            exact Zs (by first|(simp only[Q6,Act.put,qS];done)|(simp only[Q6,Act.put,qS];rfl)) (ja (av,cj,ξ) _ ⟨hHeld,ao.out,X.out,O.out,δ.out,ν.out,b0.out,b1.out,aa.out,ab.out,a9.out,ac.out,ae.out,af.out,HB.out⟩)
         ·skip
          rintro⟨av,az,ξ⟩ cp ⟨hS_,b7,b8,b9,ba,bb,bv,cw,cy,cz,d8,cd,ce,cf,cr,eb⟩
          have ρ:Aside0 (Kd.R k36 36 cp w.heap.size (fun _=>True) av bs):=⟨b7⟩
          have χ :Aside0 (Kd.R k86 86 cp w.heap.size (fun _=>True) az b4):=⟨b8⟩
          have a3:Aside0 (cp.heap[a0]?=some (.cells #[.int .i64 B,.int .i64 J,.int .i64 L,.int .i64 Y,.int .i64 Z,.int .i64 ε,.int .i64 γ,.int .i64 θ,.int .i64 ζ,.int .i64 η] 25 (0,0))):=⟨b9⟩
          have a8:Aside0 (cp.heap[μ]?=some (.cells #[.slice a1 φ.length a5,.slice a6 τ.length a7] 50 (0,0))):=⟨ba⟩
          have ah:Aside0 (cp.heap[ag]?=some (.cells #[.slice none 0 0,.slice none 0 0] 50 (0,0))):=⟨bb⟩
          have ar:Aside0 (cp.heap[ξ]?=some (.cells #[.slice none 0 0,.slice none 0 0] 50 (0,0))):=⟨bv⟩
          have b2:Aside0 (w.heap.size ≤ ξ):=⟨cw⟩
          have bl:Aside0 (w.heap.size ≤ ξ):=⟨cy⟩
          have cm:Aside0 (a0 ≠ ξ):=⟨cz⟩
          have d9:Aside0 (ξ ≠ a0):=⟨d8⟩
          have cg:Aside0 (μ ≠ ξ):=⟨cd⟩
          have ch:Aside0 (ξ ≠ μ):=⟨ce⟩
          have ci:Aside0 (ag ≠ ξ):=⟨cf⟩
          have ct:Aside0 (ξ ≠ ag):=⟨cr⟩
          have ec:Aside0 (Below w.heap.size w cp):=⟨eb⟩
          clear X
          clear O
          clear δ
          clear HB
          clear b7 b8 b9 ba bb bv cw cy cz d8 cd ce cf cr eb
          have al:=ρ
          have ai:= χ
          have X:=a3
          have O:=a8
          have δ :=ah
          have ν :=ar
          have b0:=b2
          have b1:=bl
          have aa:=cm
          have ab:=d9
          have a9:=cg
          have ac:=ch
          have ae:=ci
          have af:=ct
          have HB:=ec
          clear ρ χ a3 a8 ah ar b2 bl cm d9 cg ch ci ct ec
          have hHeld:cp.cell? ⟨μ,0,none⟩=some (.slice a1 φ.length a5)∧cp.cell? ⟨μ,1,none⟩=some (.slice a6 τ.length a7):=hS_
          refine Zs (a':=?_) ?_ ?_
          rotate_left
          ·simp only[Q6,Act.put,qS]
           rfl
          refine Zg (i:=3) (N:=some 27) (bN 11 639) rfl rfl (Q4 HT_.out kr) (by decide) (fun K hK=>?_)
          refine Kd.Z1 k36 (w0:=w) w.heap.size (by rfl) (.tmp 24) (.tmp 26) 47 36 (.agg #[(.int .i64 0),(.int .i64 0),(.int .i64 0)]) 24 rfl Try.underlying47 Gh rfl (by decide) (by omega) av bs φ _ _ _ (fun _=>True) (fun _=>False) rfl rfl ?aO ?aR (fun _ _ h=>h) (fun _ h=>h.elim) ?aF ?aB ?aS ?aL ?_
          (case aR=>exact(Kd.Qp br.out HB.out))
          (case aB=>exact HB.out)
          (case aF=>exact(fun _ _=>trivial))
          (case aO=>exact al.out)
          (case aS=>exact(Qu HB.out))
          (case aL=>have:=jh.out;omega)
          intro cj fq ho hb hg hat
          rw[← he.out] at ho
          have ao:=Aside0.mk ho
          replace X:=Aside0.mk (Q3 (g:=a0) (o:=.cells #[.int .i64 B,.int .i64 J,.int .i64 L,.int .i64 Y,.int .i64 Z,.int .i64 ε,.int .i64 γ,.int .i64 θ,.int .i64 ζ,.int .i64 η] 25 (0,0)) X.out hg (Kd.Xc al.out X.out (by decide)))
          replace O:=Aside0.mk (Q3 (g:= μ) (o:=.cells #[.slice a1 φ.length a5,.slice a6 τ.length a7] 50 (0,0)) O.out hg (Kd.Xc al.out O.out (by decide)))
          replace δ :=Aside0.mk (Q3 (g:=ag) (o:=.cells #[.slice none 0 0,.slice none 0 0] 50 (0,0)) δ.out hg (Kd.Xc al.out δ.out (by decide)))
          replace ai:=Aside0.mk (Kd.Kl ai.out (Kd.Kk al.out) (by decide) hg)
          replace ν :=Aside0.mk (Q3 (g:= ξ) (o:=.cells #[.slice none 0 0,.slice none 0 0] 50 (0,0)) ν.out hg (Kd.Xc al.out ν.out (by decide)))
          replace HB:=Aside0.mk hb
          clear al
          clear ho hb hg hat
          refine hK.out _ _ ⟨qc O,qc O⟩ (fun hHeld=>?_)
          clear hK K
          refine qN (some 27) ?_
          exact Zs (by first|(simp only[Q6,Act.put,qS];done)|(simp only[Q6,Act.put,qS];rfl)) (fj (av,cj,az,ξ) _ ⟨hHeld,ao.out,ai.out,X.out,O.out,δ.out,ν.out,b0.out,b1.out,aa.out,ab.out,a9.out,ac.out,ae.out,af.out,HB.out⟩)
        ·skip
         rintro⟨av,cj,ξ⟩ b6 ⟨hS_,b7,b8,b9,ba,bb,bv,cw,cy,cz,d8,cd,ce,cf,cr⟩
         have ρ:Aside0 (Kd.R k36 36 b6 w.heap.size (fun _=>True) cj au):=⟨b7⟩
         have χ :Aside0 (b6.heap[a0]?=some (.cells #[.int .i64 B,.int .i64 J,.int .i64 L,.int .i64 Y,.int .i64 Z,.int .i64 ε,.int .i64 γ,.int .i64 θ,.int .i64 ζ,.int .i64 η] 25 (0,0))):=⟨b8⟩
         have a3:Aside0 (b6.heap[μ]?=some (.cells #[.slice a1 φ.length a5,.slice a6 τ.length a7] 50 (0,0))):=⟨b9⟩
         have a8:Aside0 (b6.heap[ag]?=some (.cells #[.slice none 0 0,.slice none 0 0] 50 (0,0))):=⟨ba⟩
         have ah:Aside0 (b6.heap[ξ]?=some (.cells #[.slice none 0 0,.slice none 0 0] 50 (0,0))):=⟨bb⟩
         have ar:Aside0 (w.heap.size ≤ ξ):=⟨bv⟩
         have b2:Aside0 (w.heap.size ≤ ξ):=⟨cw⟩
         have bl:Aside0 (a0 ≠ ξ):=⟨cy⟩
         have cm:Aside0 (ξ ≠ a0):=⟨cz⟩
         have d9:Aside0 (μ ≠ ξ):=⟨d8⟩
         have cg:Aside0 (ξ ≠ μ):=⟨cd⟩
         have ch:Aside0 (ag ≠ ξ):=⟨ce⟩
         have ci:Aside0 (ξ ≠ ag):=⟨cf⟩
         have ct:Aside0 (Below w.heap.size w b6):=⟨cr⟩
         clear X
         clear O
         clear δ
         clear HB
         clear b7 b8 b9 ba bb bv cw cy cz d8 cd ce cf cr
         have ao:=ρ
         have X:= χ
         have O:=a3
         have δ :=a8
         have ν :=ah
         have b0:=ar
         have b1:=b2
         have aa:=bl
         have ab:=cm
         have a9:=d9
         have ac:=cg
         have ae:=ch
         have af:=ci
         have HB:=ct
         clear ρ χ a3 a8 ah ar b2 bl cm d9 cg ch ci ct
         have hHeld:b6.cell? ⟨μ,0,none⟩=some (.slice a1 φ.length a5)∧b6.cell? ⟨μ,1,none⟩=some (.slice a6 τ.length a7):=hS_
         refine Zs (a':=?_) ?_ ?_
         rotate_left
         ·simp only[Q6,Act.put,qS]
          rfl
         refine Zg (i:=4) (N:=some 28) (bN 11 639) rfl rfl (Q4 HT_.out kr) (by decide) (fun K hK=>?_)
         refine Kd.Z6 k86 _ 86 ?hg (N:=28) ?hd (xs:=([]:List (S86))) (inner:=[]) (ok:=fun _=>True) (okp:=fun _=>True) ?hr ?hp (fun _ hk=>hk) trivial (Below.refl _ _) (Nat.le_refl _) (by simp) ?_;(case hd=>rfl);(case hg=>rfl);(case hr=>go_simp <;> rfl);(case hp=>exact(Reps.none _ _))
         intro az cp i4 hb hg_ hnew_
         clear hg_ hnew_
         (first|rw[← df.out] at i4|(simp only[Int.reduceToNat] at i4;rw[← df.out] at i4))
         have ai:=Aside0.mk (Kd.Zc i4 (Qu HB.out))
         replace ao:=sRb ao hb
         replace X:=sBk X hb
         replace O:=sBk O hb
         replace δ :=sBk δ hb
         replace ν :=sBk ν hb
         replace HB:=sHb hb
         clear hb i4
         refine hK.out _ _ ⟨qc O,qc O⟩ (fun hHeld=>?_)
         clear hK K
         refine qN (some 28) ?_
         exact Zs (by first|(simp only[Q6,Act.put,qS];done)|(simp only[Q6,Act.put,qS];rfl)) (fj (av,cj,az,ξ) _ ⟨hHeld,ao.out,ai.out,X.out,O.out,δ.out,ν.out,b0.out,b1.out,aa.out,ab.out,a9.out,ac.out,ae.out,af.out,HB.out⟩)
       ·skip
        rintro⟨av,cj,az⟩ cp ⟨hS_,b7,b8,b9,ba,bb,bv⟩
        have ρ:Aside0 (Kd.R k36 36 cp w.heap.size (fun _=>True) cj au):=⟨b7⟩
        have χ :Aside0 (Kd.R k86 86 cp w.heap.size (fun _=>True) az b4):=⟨b8⟩
        have a3:Aside0 (cp.heap[a0]?=some (.cells #[.int .i64 B,.int .i64 J,.int .i64 L,.int .i64 Y,.int .i64 Z,.int .i64 ε,.int .i64 γ,.int .i64 θ,.int .i64 ζ,.int .i64 η] 25 (0,0))):=⟨b9⟩
        have a8:Aside0 (cp.heap[μ]?=some (.cells #[.slice a1 φ.length a5,.slice a6 τ.length a7] 50 (0,0))):=⟨ba⟩
        have ah:Aside0 (cp.heap[ag]?=some (.cells #[.slice none 0 0,.slice none 0 0] 50 (0,0))):=⟨bb⟩
        have ar:Aside0 (Below w.heap.size w cp):=⟨bv⟩
        clear X
        clear O
        clear δ
        clear HB
        clear b7 b8 b9 ba bb bv
        have ao:=ρ
        have ai:= χ
        have X:=a3
        have O:=a8
        have δ :=ah
        have HB:=ar
        clear ρ χ a3 a8 ah ar
        have hHeld:cp.cell? ⟨μ,0,none⟩=some (.slice a1 φ.length a5)∧cp.cell? ⟨μ,1,none⟩=some (.slice a6 τ.length a7):=hS_
        refine Zs (a':=?_) ?_ ?_
        rotate_left
        ·simp only[Q6,Act.put,qS]
         rfl
        refine V4 (i:=7) (j:=9) (Ni:=some 31) (Nj:=some 11) (bN 11 255) (bN 11 639) rfl rfl rfl rfl (Jf HT_.out kr) (by decide) (by decide) (fun K hK=>?_) (fun K hK=>?_)
        ·skip
         refine Kd.Z1 k86 (w0:=w) w.heap.size (by rfl) (.tmp 28) (.tmp 30) 48 86 (.agg #[(.int .i64 0),(.int .i64 0)]) 16 rfl Try.underlying48 Gg rfl (by decide) (by omega) az b4 τ _ _ _ (fun _=>True) (fun _=>False) rfl rfl ?aO ?aR (fun _ _ h=>h) (fun _ h=>h.elim) ?aF ?aB ?aS ?aL ?_
         (case aR=>exact(Kd.Qp ck.out HB.out))
         (case aB=>exact HB.out)
         (case aF=>exact(fun _ _=>trivial))
         (case aO=>exact ai.out)
         (case aS=>exact(Qu HB.out))
         (case aL=>have:=m3.out;omega)
         intro i6 fq ho hb hg hat
         rw[← kz.out] at ho
         have db:=Aside0.mk ho
         replace X:=Aside0.mk (Q3 (g:=a0) (o:=.cells #[.int .i64 B,.int .i64 J,.int .i64 L,.int .i64 Y,.int .i64 Z,.int .i64 ε,.int .i64 γ,.int .i64 θ,.int .i64 ζ,.int .i64 η] 25 (0,0)) X.out hg (Kd.Xc ai.out X.out (by decide)))
         replace O:=Aside0.mk (Q3 (g:= μ) (o:=.cells #[.slice a1 φ.length a5,.slice a6 τ.length a7] 50 (0,0)) O.out hg (Kd.Xc ai.out O.out (by decide)))
         replace δ :=Aside0.mk (Q3 (g:=ag) (o:=.cells #[.slice none 0 0,.slice none 0 0] 50 (0,0)) δ.out hg (Kd.Xc ai.out δ.out (by decide)))
         replace ao:=Aside0.mk (Kd.Kl ao.out (Kd.Kk ai.out) (by decide) hg)
         replace HB:=Aside0.mk hb
         clear ai
         clear ho hb hg hat
         obtain⟨o9,oa,m4⟩:=Kd.Q9 db.out
         (first|subst m4|(injection m4 with aw bm ax;have bn:=aw.symm;have bo:=ax.symm;clear aw bm ax;subst bn;subst bo))
         obtain⟨k3,kd,i7⟩:=Kd.Q9 ao.out
         (first|subst i7|(injection i7 with aw bm ax;have bn:=aw.symm;have bo:=ax.symm;clear aw bm ax;subst bn;subst bo))
         refine hK.out _ _ ⟨qc O,qc O⟩ (fun hHeld=>?_)
         clear hK K
         refine qN (some 31) ?_
         refine qP 8 (some 32) (bN 11 511) HT_ ?_
         exact Zs (by first|(simp only[Q6,Act.put,qS];done)|(simp only[Q6,Act.put,qS];rfl)) (jo (av,.slice k3 au.length kd,az,.slice o9 b5.length oa) _ ⟨hHeld,ao.out,db.out,X.out,O.out,δ.out,HB.out⟩)
        ·skip
         refine Xv ?hg (N:=11) ?hd (cs:=#[.slice none 0 0,.slice none 0 0]) (t:=50) ?hr ?_;(case hd=>rfl);(case hg=>rfl);(case hr=>go_simp <;> rfl)
         intro ξ hg fq hbox hb
         have ν :=Aside0.mk hbox
         have b0:=sGe hg
         have b1:=sGe hg
         have aa:=sNl X hg
         have ab:=sNg X hg
         have a9:=sNl O hg
         have ac:=sNg O hg
         have ae:=sNl δ hg
         have af:=sNg δ hg
         replace ao:=sRb ao hb
         replace ai:=sRb ai hb
         replace X:=sBk X hb
         replace O:=sBk O hb
         replace δ :=sBk δ hb
         replace HB:=sHb hb
         clear hb hbox hg
         refine hK.out _ _ ⟨qc O,qc O⟩ (fun hHeld=>?_)
         clear hK K
         refine qN (some 11) ?_
         exact Zs (by first|(simp only[Q6,Act.put,qS];done)|(simp only[Q6,Act.put,qS];rfl)) (fj (av,cj,az,ξ) _ ⟨hHeld,ao.out,ai.out,X.out,O.out,δ.out,ν.out,b0.out,b1.out,aa.out,ab.out,a9.out,ac.out,ae.out,af.out,HB.out⟩)
      ·skip
       rintro⟨av,cj,az,ξ⟩ fq ⟨hS_,b7,b8,b9,ba,bb,bv,cw,cy,cz,d8,cd,ce,cf,cr,eb⟩
       have ρ:Aside0 (Kd.R k36 36 fq w.heap.size (fun _=>True) cj au):=⟨b7⟩
       have χ :Aside0 (Kd.R k86 86 fq w.heap.size (fun _=>True) az b4):=⟨b8⟩
       have a3:Aside0 (fq.heap[a0]?=some (.cells #[.int .i64 B,.int .i64 J,.int .i64 L,.int .i64 Y,.int .i64 Z,.int .i64 ε,.int .i64 γ,.int .i64 θ,.int .i64 ζ,.int .i64 η] 25 (0,0))):=⟨b9⟩
       have a8:Aside0 (fq.heap[μ]?=some (.cells #[.slice a1 φ.length a5,.slice a6 τ.length a7] 50 (0,0))):=⟨ba⟩
       have ah:Aside0 (fq.heap[ag]?=some (.cells #[.slice none 0 0,.slice none 0 0] 50 (0,0))):=⟨bb⟩
       have ar:Aside0 (fq.heap[ξ]?=some (.cells #[.slice none 0 0,.slice none 0 0] 50 (0,0))):=⟨bv⟩
       have b2:Aside0 (w.heap.size ≤ ξ):=⟨cw⟩
       have bl:Aside0 (w.heap.size ≤ ξ):=⟨cy⟩
       have cm:Aside0 (a0 ≠ ξ):=⟨cz⟩
       have d9:Aside0 (ξ ≠ a0):=⟨d8⟩
       have cg:Aside0 (μ ≠ ξ):=⟨cd⟩
       have ch:Aside0 (ξ ≠ μ):=⟨ce⟩
       have ci:Aside0 (ag ≠ ξ):=⟨cf⟩
       have ct:Aside0 (ξ ≠ ag):=⟨cr⟩
       have ec:Aside0 (Below w.heap.size w fq):=⟨eb⟩
       clear X
       clear O
       clear δ
       clear HB
       clear b7 b8 b9 ba bb bv cw cy cz d8 cd ce cf cr eb
       have ao:=ρ
       have ai:= χ
       have X:=a3
       have O:=a8
       have δ :=ah
       have ν :=ar
       have b0:=b2
       have b1:=bl
       have aa:=cm
       have ab:=d9
       have a9:=cg
       have ac:=ch
       have ae:=ci
       have af:=ct
       have HB:=ec
       clear ρ χ a3 a8 ah ar b2 bl cm d9 cg ch ci ct ec
       have hHeld:fq.cell? ⟨μ,0,none⟩=some (.slice a1 φ.length a5)∧fq.cell? ⟨μ,1,none⟩=some (.slice a6 τ.length a7):=hS_
       refine Zs (a':=?_) ?_ ?_
       rotate_left
       ·simp only[Q6,Act.put,qS]
        rfl
       refine Zg (i:=7) (N:=some 31) (bN 11 767) rfl rfl (Q4 HT_.out kr) (by decide) (fun K hK=>?_)
       refine Kd.Z1 k86 (w0:=w) w.heap.size (by rfl) (.tmp 28) (.tmp 30) 48 86 (.agg #[(.int .i64 0),(.int .i64 0)]) 16 rfl Try.underlying48 Gg rfl (by decide) (by omega) az b4 τ _ _ _ (fun _=>True) (fun _=>False) rfl rfl ?aO ?aR (fun _ _ h=>h) (fun _ h=>h.elim) ?aF ?aB ?aS ?aL ?_
       (case aR=>exact(Kd.Qp ck.out HB.out))
       (case aB=>exact HB.out)
       (case aF=>exact(fun _ _=>trivial))
       (case aO=>exact ai.out)
       (case aS=>exact(Qu HB.out))
       (case aL=>have:=m3.out;omega)
       intro i6 h9 ho hb hg hat
       rw[← kz.out] at ho
       have db:=Aside0.mk ho
       replace X:=Aside0.mk (Q3 (g:=a0) (o:=.cells #[.int .i64 B,.int .i64 J,.int .i64 L,.int .i64 Y,.int .i64 Z,.int .i64 ε,.int .i64 γ,.int .i64 θ,.int .i64 ζ,.int .i64 η] 25 (0,0)) X.out hg (Kd.Xc ai.out X.out (by decide)))
       replace O:=Aside0.mk (Q3 (g:= μ) (o:=.cells #[.slice a1 φ.length a5,.slice a6 τ.length a7] 50 (0,0)) O.out hg (Kd.Xc ai.out O.out (by decide)))
       replace δ :=Aside0.mk (Q3 (g:=ag) (o:=.cells #[.slice none 0 0,.slice none 0 0] 50 (0,0)) δ.out hg (Kd.Xc ai.out δ.out (by decide)))
       replace ao:=Aside0.mk (Kd.Kl ao.out (Kd.Kk ai.out) (by decide) hg)
       replace ν :=Aside0.mk (Q3 (g:= ξ) (o:=.cells #[.slice none 0 0,.slice none 0 0] 50 (0,0)) ν.out hg (Kd.Xc ai.out ν.out (by decide)))
       replace HB:=Aside0.mk hb
       clear ai
       clear ho hb hg hat
       obtain⟨k3,kd,i7⟩:=Kd.Q9 db.out
       (first|subst i7|(injection i7 with aw bm ax;have bn:=aw.symm;have bo:=ax.symm;clear aw bm ax;subst bn;subst bo))
       obtain⟨ke,kf,i9⟩:=Kd.Q9 ao.out
       (first|subst i9|(injection i9 with aw bm ax;have bn:=aw.symm;have bo:=ax.symm;clear aw bm ax;subst bn;subst bo))
       refine hK.out _ _ ⟨qc O,qc O⟩ (fun hHeld=>?_)
       clear hK K
       refine qN (some 31) ?_
       refine qP 8 (some 32) (bN 11 1023) HT_ ?_
       exact Zs (by first|(simp only[Q6,Act.put,qS];done)|(simp only[Q6,Act.put,qS];rfl)) (gg (av,.slice ke au.length kf,az,.slice k3 b5.length kd,ξ) _ ⟨hHeld,ao.out,db.out,X.out,O.out,δ.out,ν.out,b0.out,b1.out,aa.out,ab.out,a9.out,ac.out,ae.out,af.out,HB.out⟩)
     ·skip
      rintro⟨av,cj,az,i6⟩ ey ⟨hS_,b7,b8,b9,ba,bb,bv⟩
      have ρ:Aside0 (Kd.R k36 36 ey w.heap.size (fun _=>True) cj au):=⟨b7⟩
      have χ :Aside0 (Kd.R k86 86 ey w.heap.size (fun _=>True) i6 b5):=⟨b8⟩
      have a3:Aside0 (ey.heap[a0]?=some (.cells #[.int .i64 B,.int .i64 J,.int .i64 L,.int .i64 Y,.int .i64 Z,.int .i64 ε,.int .i64 γ,.int .i64 θ,.int .i64 ζ,.int .i64 η] 25 (0,0))):=⟨b9⟩
      have a8:Aside0 (ey.heap[μ]?=some (.cells #[.slice a1 φ.length a5,.slice a6 τ.length a7] 50 (0,0))):=⟨ba⟩
      have ah:Aside0 (ey.heap[ag]?=some (.cells #[.slice none 0 0,.slice none 0 0] 50 (0,0))):=⟨bb⟩
      have ar:Aside0 (Below w.heap.size w ey):=⟨bv⟩
      clear X
      clear O
      clear δ
      clear HB
      clear b7 b8 b9 ba bb bv
      have ao:=ρ
      have db:= χ
      have X:=a3
      have O:=a8
      have δ :=ah
      have HB:=ar
      clear ρ χ a3 a8 ah ar
      have hHeld:ey.cell? ⟨μ,0,none⟩=some (.slice a1 φ.length a5)∧ey.cell? ⟨μ,1,none⟩=some (.slice a6 τ.length a7):=hS_
      obtain⟨ke,kf,i9⟩:=Kd.Q9 db.out
      (first|subst i9|(injection i9 with aw bm ax;have bn:=aw.symm;have bo:=ax.symm;clear aw bm ax;subst bn;subst bo))
      obtain⟨bk,bf,gh⟩:=Kd.Q9 ao.out
      (first|subst gh|(injection gh with aw bm ax;have bn:=aw.symm;have bo:=ax.symm;clear aw bm ax;subst bn;subst bo))
      refine Zs (a':=?_) ?_ ?_
      rotate_left
      ·simp only[Q6,Act.put,qS]
       rfl
      refine Zg (i:=9) (N:=some 11) (bN 11 1023) rfl rfl (Q4 HT_.out kr) (by decide) (fun K hK=>?_)
      refine Xv ?hg (N:=11) ?hd (cs:=#[.slice none 0 0,.slice none 0 0]) (t:=50) ?hr ?_;(case hd=>rfl);(case hg=>rfl);(case hr=>go_simp <;> rfl)
      intro ξ hg ej hbox hb
      have ν :=Aside0.mk hbox
      have b0:=sGe hg
      have b1:=sGe hg
      have aa:=sNl X hg
      have ab:=sNg X hg
      have a9:=sNl O hg
      have ac:=sNg O hg
      have ae:=sNl δ hg
      have af:=sNg δ hg
      replace ao:=sRb ao hb
      replace db:=sRb db hb
      replace X:=sBk X hb
      replace O:=sBk O hb
      replace δ :=sBk δ hb
      replace HB:=sHb hb
      clear hb hbox hg
      refine hK.out _ _ ⟨qc O,qc O⟩ (fun hHeld=>?_)
      clear hK K
      refine qN (some 11) ?_
      exact Zs (by first|(simp only[Q6,Act.put,qS];done)|(simp only[Q6,Act.put,qS];rfl)) (gg (av,.slice bk au.length bf,az,.slice ke b5.length kf,ξ) _ ⟨hHeld,ao.out,db.out,X.out,O.out,δ.out,ν.out,b0.out,b1.out,aa.out,ab.out,a9.out,ac.out,ae.out,af.out,HB.out⟩)
    rintro⟨av,cj,az,i6,ξ⟩ eh ⟨hS_,b7,b8,b9,ba,bb,bv,cw,cy,cz,d8,cd,ce,cf,cr,eb⟩
    have ρ:Aside0 (Kd.R k36 36 eh w.heap.size (fun _=>True) cj au):=⟨b7⟩
    have χ :Aside0 (Kd.R k86 86 eh w.heap.size (fun _=>True) i6 b5):=⟨b8⟩
    have a3:Aside0 (eh.heap[a0]?=some (.cells #[.int .i64 B,.int .i64 J,.int .i64 L,.int .i64 Y,.int .i64 Z,.int .i64 ε,.int .i64 γ,.int .i64 θ,.int .i64 ζ,.int .i64 η] 25 (0,0))):=⟨b9⟩
    have a8:Aside0 (eh.heap[μ]?=some (.cells #[.slice a1 φ.length a5,.slice a6 τ.length a7] 50 (0,0))):=⟨ba⟩
    have ah:Aside0 (eh.heap[ag]?=some (.cells #[.slice none 0 0,.slice none 0 0] 50 (0,0))):=⟨bb⟩
    have ar:Aside0 (eh.heap[ξ]?=some (.cells #[.slice none 0 0,.slice none 0 0] 50 (0,0))):=⟨bv⟩
    have b2:Aside0 (w.heap.size ≤ ξ):=⟨cw⟩
    have bl:Aside0 (w.heap.size ≤ ξ):=⟨cy⟩
    have cm:Aside0 (a0 ≠ ξ):=⟨cz⟩
    have d9:Aside0 (ξ ≠ a0):=⟨d8⟩
    have cg:Aside0 (μ ≠ ξ):=⟨cd⟩
    have ch:Aside0 (ξ ≠ μ):=⟨ce⟩
    have ci:Aside0 (ag ≠ ξ):=⟨cf⟩
    have ct:Aside0 (ξ ≠ ag):=⟨cr⟩
    have ec:Aside0 (Below w.heap.size w eh):=⟨eb⟩
    clear X
    clear O
    clear δ
    clear HB
    clear b7 b8 b9 ba bb bv cw cy cz d8 cd ce cf cr eb
    have ao:=ρ
    have db:= χ
    have X:=a3
    have O:=a8
    have δ :=ah
    have ν :=ar
    have b0:=b2
    have b1:=bl
    have aa:=cm
    have ab:=d9
    have a9:=cg
    have ac:=ch
    have ae:=ci
    have af:=ct
    have HB:=ec
    clear ρ χ a3 a8 ah ar b2 bl cm d9 cg ch ci ct ec
    have hHeld:eh.cell? ⟨μ,0,none⟩=some (.slice a1 φ.length a5)∧eh.cell? ⟨μ,1,none⟩=some (.slice a6 τ.length a7):=hS_
    obtain⟨bk,bf,gh⟩:=Kd.Q9 db.out
    (first|subst gh|(injection gh with aw bm ax;have bn:=aw.symm;have bo:=ax.symm;clear aw bm ax;subst bn;subst bo))
    obtain⟨kg,kh,m5⟩:=Kd.Q9 ao.out
    (first|subst m5|(injection m5 with aw bm ax;have bn:=aw.symm;have bo:=ax.symm;clear aw bm ax;subst bn;subst bo))
    refine Zs (a':=?_) ?_ ?_
    rotate_left
    ·simp only[Q6,Act.put,qS]
     rfl
    refine Zg (i:=10) (N:=none) (bN 11 2047) rfl rfl (Q4 HT_.out kr) (by decide) (fun K hK=>?_)
    have sy:eh.cell? ⟨ξ,0,none⟩=some (.slice none 0 0):=(Qa ν.out 0).trans rfl
    have sb:=Qr ν.out 0
    have q7:=aa.out
    have q8:=a9.out
    have q9:=ae.out
    have qa:=ab.out
    have qb:=ac.out
    have qd:=af.out
    have t0:eh.cell? ⟨ξ,1,none⟩=some (.slice none 0 0):=(Qa ν.out 1).trans rfl
    have sc:=Qr ν.out 1
    have qe:=aa.out
    have qf:=a9.out
    have qg:=ae.out
    have qh:=ab.out
    have qi:=ac.out
    have qj:=af.out
    refine V7 (w1:=?_) (by rfl) rfl ?_ ?_
    rotate_left
    ·go_simp
     rfl
    refine hK.out _ _ ⟨((cell_far (p:=⟨ξ,_,none⟩) a9.out _).trans (((cell_far (p:=⟨ξ,_,none⟩) a9.out _).trans (hHeld.1)))),((cell_far (p:=⟨ξ,_,none⟩) a9.out _).trans (((cell_far (p:=⟨ξ,_,none⟩) a9.out _).trans (hHeld.2))))⟩ (fun hHeld=>?_)
    clear hK K
    refine Z2 (Zh HT_.out kr) ?_
    have ij:=ab.out
    have ik:=aa.out
    have jr:=ac.out
    have jt:=a9.out
    have ma:=af.out
    have mb:=ae.out
    obtain⟨g0,g1,g2,g3⟩:=qD2 ν.out
    try go_wp2
    go_loopg [36] k (fun kq qv w'=>∃ (ω :Int) (κ :List (S36)) (dc:Value),qv = .int .i64 ω ∧ Aside0 (group_Spread.l0 kq l1 a2 (au.length:Int) ω B J L Y Z ε γ θ ζ η κ b5=some (r1,r2,r3))∧Aside0 (kq≤k)∧Aside0 (Kd.R k36 36 w' w.heap.size (fun _=>True) dc κ)∧Aside0 (Kd.R k86 86 w' w.heap.size (fun _=>True) (.slice bk b5.length bf) b5)∧Aside0 (w'.heap[a0]?=some (.cells #[.int .i64 B,.int .i64 J,.int .i64 L,.int .i64 Y,.int .i64 Z,.int .i64 ε,.int .i64 γ,.int .i64 θ,.int .i64 ζ,.int .i64 η] 25 (0,0)))∧Aside0 (w'.heap[μ]?=some (.cells #[(.slice a1 φ.length a5),(.slice a6 τ.length a7)] 50 (0,0)))∧Aside0 (w'.heap[ag]?=some (.cells #[(.slice none 0 0),(.slice none 0 0)] 50 (0,0)))∧Aside0 (w'.heap[ξ]?=some (.cells #[dc,(.slice bk b5.length bf)] 50 (0,0)))∧Aside0 (Below w.heap.size w w')∧Aside0 (dc=(.slice kg au.length kh)))
    case atStart=>exact⟨(0),(au),(.slice kg au.length kh),qR,H',⟨Nat.le_refl _⟩,⟨by(with_reducible repeat first|apply Kd.Qx|apply Kd.Qw|apply Kd.Q2);exact Kd.Q0 (Kd.Qv (Kd.Qv (Kd.Q7 ao.out ν.out (by decide)) (fun _ hk=>hk.2) _) (fun _ hk=>hk.2) _) (fun _ hk=>trivial)⟩,⟨by(with_reducible repeat first|apply Kd.Qx|apply Kd.Qw|apply Kd.Q2);exact Kd.Q0 (Kd.Qv (Kd.Qv (Kd.Q7 db.out ν.out (by decide)) (fun _ hk=>hk.2) _) (fun _ hk=>hk.2) _) (fun _ hk=>trivial)⟩,⟨bka X⟩,⟨bka O⟩,⟨bka δ⟩,⟨by(with_reducible repeat first|refine Qk ?_ _|refine Qf ?_|refine Ql ?_ _);refine Qm (cs:=#[.slice kg au.length kh,.slice none 0 0]) ?_ 1 _ rfl;(with_reducible repeat first|refine Qk ?_ _|refine Qf ?_|refine Ql ?_ _);refine Qm (cs:=#[.slice none 0 0,.slice none 0 0]) ?_ 0 _ rfl;(with_reducible repeat first|refine Qk ?_ _|refine Qf ?_|refine Ql ?_ _);exact ν.out⟩,⟨bel⟩,⟨rfl⟩⟩
    case round=>
     clear H'
     try clear p2
     try clear c3
     try clear c7
     try clear c8
     try clear o5
     try clear gu
     try clear er
     try clear g0
     try clear g1
     try clear g2
     try clear g3
     obtain⟨ω,κ,dc,rfl,HA,an,HO_242000,HO_242001,X,O,δ,ν,HB,gy⟩:=hrel
     cases gk with
     |zero=>exact absurd HA.out (by simp[group_Spread.l0])
     |succ k1=>
      have H:=HA.out
      clear HA
      simp only[group_Spread.l0] at H
      by_cases g5: ω < (au.length:Int)
      ·rw[if_pos g5] at H
       have c37b0:decide (ω < (au.length:Int))=true:=decide_eq_true g5
       clear g5
       by_cases fc:0 ≤ ω
       ·rw[if_pos fc] at H
        have c38b0:decide (0 ≤ ω)=true:=decide_eq_true fc
        clear fc
        by_cases di: ω < (κ.length:Int)
        ·rw[if_pos di] at H
         have c39b0:decide (ω < (κ.length:Int))=true:=decide_eq_true di
         clear di
         by_cases de:((Qc κ ω).f2)≥0
         ·rw[if_pos de] at H
          have c40b0:decide (0≤((Qc κ ω).f2))=true:=decide_eq_true de
          clear de
          by_cases jb:0≤((Qc κ ω).f2)
          ·rw[if_pos jb] at H
           have c41b0:=eq_true jb
           have c41b1:decide (0≤((Qc κ ω).f2))=true:=decide_eq_true jb
           clear jb
           obtain⟨fk,hh⟩:∃ j_:Int,(shr .i64 a2 ((Qc κ ω).f2))=j_:=⟨_,rfl⟩
           replace H:(if (Go.bits .and .i64 (fk) 1)=1 then (group_Spread.l0 k1 l1 a2 (au.length:Int) (wrap64 (ω + 1)) B J L Y Z ε γ θ ζ η (κ.set (ω :Int).toNat (⟨(Qc κ ω).f0,(Qc κ ω).f1,(-1)⟩:S36)) b5) else (group_Spread.l0 k1 l1 a2 (au.length:Int) (wrap64 (ω + 1)) B J L Y Z ε γ θ ζ η κ b5))=some (r1,r2,r3):=by first|(rw[hh] at H;exact H)|(simp only[hh] at H ⊢;exact H)
           have qw:(a2 / 2 ^ min ((Qc κ ω).f2).toNat 64)=fk:=hh
           have hji42z:((Qc κ ω).f2)≤64→(a2 / 2 ^ ((Qc κ ω).f2).toNat)=fk:=G5 hh
           by_cases gt:(Go.bits .and .i64 (fk) 1)=1
           ·rw[if_pos gt] at H
            have c43b0:((Go.bits .and .i64 (fk) 1)==1)=true:=beq_iff_eq.mpr gt
            have c43b1:((Go.bits .and .i64 (fk) 1) != 1)=false:=bne_eq_false_iff_eq.mpr gt
            clear gt
            obtain⟨ki,gz⟩:∃ y_:List (S36),y_=(κ.set (ω :Int).toNat (⟨(Qc κ ω).f0,(Qc κ ω).f1,(-1)⟩:S36)):=⟨_,rfl⟩
            replace H:(group_Spread.l0 k1 l1 a2 (au.length:Int) (wrap64 (ω + 1)) B J L Y Z ε γ θ ζ η ki b5)=some (r1,r2,r3):=by first|(rw[gz];with_reducible exact H)|(have am:=(Option.bind_some _ _).symm.trans H;rw[gz];with_reducible exact am)|(have am:=(Option.bind_some _ _).symm.trans H;with_reducible exact am)|with_reducible exact H|(rw[gz];exact H)|exact H
            have nu:=Aside0.mk gz
            clear gz
            have H':=Aside0.mk H
            clear H
            have i5:=ab.out
            have ky:=aa.out
            have jf:=ac.out
            have jg:=a9.out
            have kl:=af.out
            have km:=ae.out
            obtain⟨ek,el,em,en⟩:=qD2 ν.out
            obtain⟨t1,gi,ob⟩:=Kd.Q9 HO_242000.out
            subst ob
            have e9:0≤(ω :Int):=of_decide_eq_true (by assumption)
            have ea: ω < (κ.length:Int):=of_decide_eq_true (by assumption)
            obtain⟨g6,ia,g7,g8,gf⟩:=Xy (Kd.Qz HO_242000.out).2.2 ω e9 ea
            cases ia
            replace e9:=eq_true e9
            replace ea:=eq_true ea
            (try rewrite[← gy.out])
            go_wp2_with (first|((with_reducible refine Qe (N:=13) rfl ?_);refine qE 13 #[.int .i64 0,.int .i64 0,.int .i64 0] 36 ?_;intro cq hg o6 hbox hb;have cv:=Aside0.mk hbox;have l5:=sGe hg;have l6:=sGe hg;have dx:=sNl X hg;have dy:=sNg X hg;have e0:=sNl O hg;have e3:=sNg O hg;have e4:=sNl δ hg;have e5:=sNg δ hg;have e7:=sNl ν hg;have e8:=sNg ν hg;replace HO_242000:=Aside0.mk (Kd.Z4 (Kd.Yp (kra HO_242000) cq (Nat.le_of_eq hg.symm)) hb);replace HO_242001:=sRb HO_242001 hb;replace X:=sBk X hb;replace O:=sBk O hb;replace δ :=sBk δ hb;replace ν :=sBk ν hb;replace HB:=sHb hb;clear hb hbox hg;have jj:=dy.out;have jk:=dx.out;have mz:=e3.out;have n0:=e0.out;have ng:=e5.out;have nh:=e4.out;have n2:=e8.out;have n3:=e7.out;obtain⟨g9,ga,hy,gb,ge,i0⟩:=qD3 cv.out)|((with_reducible refine Y6 (t:=36) (p:=13) rfl ?_);refine Ys (t:=36) (p:=13) (v:=?vo_w56) (w1:=(((o6.setCell ⟨cq,0,none⟩ (.int .i64 ((Qc κ ω).f0))).setCell ⟨cq,1,none⟩ (.int .i64 ((Qc κ ω).f1))).setCell ⟨cq,2,none⟩ (.int .i64 ((Qc κ ω).f2)))) ?hg ?ho ?hn ?hr ?_;(case ho=>rfl);(case hg=>rfl);(case hn=>rfl);(case hr=>go_simp <;> rfl);intro dl hw;have ρ:Aside0 (Kd.R k36 36 dl w.heap.size (fun k_=>k_≠cq) (.slice (some g6) κ.length gi) κ):=⟨(by rw[hw];exact(by(with_reducible repeat first|apply Kd.Qx|apply Kd.Qw|apply Kd.Q2);exact Kd.Q0 (Kd.Qv (Kd.Qv (Kd.Qv (Kd.Q0 HO_242000.out (fun k_ hk=>(⟨hk,hk.2⟩:_∧k_≠cq))) (fun _ hk=>hk.2) (.int .i64 ((Qc κ ω).f0))) (fun _ hk=>hk.2) (.int .i64 ((Qc κ ω).f1))) (fun _ hk=>hk.2) (.int .i64 ((Qc κ ω).f2))) (fun _ hk=>hk.1.2)))⟩;have χ :Aside0 (Kd.R k86 86 dl w.heap.size (fun _=>True) (.slice bk b5.length bf) b5):=⟨(by rw[hw];exact(by(with_reducible repeat first|apply Kd.Qx|apply Kd.Qw|apply Kd.Q2);exact Kd.Q0 (Kd.Qv (Kd.Qv (Kd.Qv (Kd.Q7 HO_242001.out cv.out (by decide)) (fun _ hk=>hk.2) (.int .i64 ((Qc κ ω).f0))) (fun _ hk=>hk.2) (.int .i64 ((Qc κ ω).f1))) (fun _ hk=>hk.2) (.int .i64 ((Qc κ ω).f2))) (fun _ hk=>trivial)))⟩;have a3:Aside0 (dl.heap[a0]?=some (.cells #[.int .i64 B,.int .i64 J,.int .i64 L,.int .i64 Y,.int .i64 Z,.int .i64 ε,.int .i64 γ,.int .i64 θ,.int .i64 ζ,.int .i64 η] 25 (0,0))):=⟨(by rw[hw];exact(bka X))⟩;have a8:Aside0 (dl.heap[μ]?=some (.cells #[.slice a1 φ.length a5,.slice a6 τ.length a7] 50 (0,0))):=⟨(by rw[hw];exact(bka O))⟩;have ah:Aside0 (dl.heap[ag]?=some (.cells #[.slice none 0 0,.slice none 0 0] 50 (0,0))):=⟨(by rw[hw];exact(bka δ))⟩;have ar:Aside0 (dl.heap[ξ]?=some (.cells #[.slice (some g6) κ.length gi,.slice bk b5.length bf] 50 (0,0))):=⟨(by rw[hw];exact(bka ν))⟩;have b2:Aside0 (dl.heap[cq]?=some (.cells #[.int .i64 ((Qc κ ω).f0),.int .i64 ((Qc κ ω).f1),.int .i64 ((Qc κ ω).f2)] 36 (0,0))):=⟨(by rw[hw];exact(by(with_reducible repeat first|refine Qk ?_ _|refine Qf ?_|refine Ql ?_ _);refine Qm (cs:=#[.int .i64 ((Qc κ ω).f0),.int .i64 ((Qc κ ω).f1),.int .i64 0]) ?_ 2 _ rfl;(with_reducible repeat first|refine Qk ?_ _|refine Qf ?_|refine Ql ?_ _);refine Qm (cs:=#[.int .i64 ((Qc κ ω).f0),.int .i64 0,.int .i64 0]) ?_ 1 _ rfl;(with_reducible repeat first|refine Qk ?_ _|refine Qf ?_|refine Ql ?_ _);refine Qm (cs:=#[.int .i64 0,.int .i64 0,.int .i64 0]) ?_ 0 _ rfl;(with_reducible repeat first|refine Qk ?_ _|refine Qf ?_|refine Ql ?_ _);exact cv.out))⟩;have bl:Aside0 (Below w.heap.size w dl):=⟨(by rw[hw];exact bel)⟩;clear hw;clear HO_242000;clear HO_242001;clear X;clear O;clear δ;clear ν;clear cv;clear HB;have HO_242000:=ρ;have HO_242001:= χ;have X:=a3;have O:=a8;have δ :=ah;have ν :=ar;have cv:=b2;have HB:=bl;clear ρ χ a3 a8 ah ar b2 bl;obtain⟨ks,kt,ku,kv,kw,kx⟩:=qD3 cv.out;obtain⟨h6,ir,it,iu⟩:=qD2 ν.out;have p44:0≤(ω :Int):=of_decide_eq_true (by assumption);have jp:(ω :Int)<((κ.length:Int):Int):=of_decide_eq_true (by assumption);obtain⟨dv,t2,m6,m7,oc,t3,m8⟩:=Kd.Vy HO_242000.out (by omega);(first|cases m6|(injection m6 with ea_ en_ ec_;(first|subst ea_|(injection ea_ with ea_;subst ea_));subst ec_;clear en_));have od:=Aside0.mk m7;have t4:=Aside0.mk m8;clear m7 oc m8;(first|simp only[add_plain] at g7|skip);(first|simp only[add_plain] at g8|skip);(first|simp only[add_plain] at gf|skip);obtain⟨t5,nv,m9,hj,hl⟩:=Kd.Ja HO_242000.out z36 (ω :Int) p44 jp;obtain rfl:=Yb m9;have mc:dl.cell? ⟨dv,(ω :Int).toNat * 3,none⟩=some (.int .i64 ((Qc κ ω).f0)):=hj 0 _ rfl;have me:dl.cell? ⟨dv,(ω :Int).toNat * 3+1,none⟩=some (.int .i64 ((Qc κ ω).f1)):=hj 1 _ rfl;have mf:dl.cell? ⟨dv,(ω :Int).toNat * 3+2,none⟩=some (.int .i64 ((Qc κ ω).f2)):=hj 2 _ rfl;have qx:dl.frozen? ⟨dv,(ω :Int).toNat * 3,none⟩=false:=hl 0;have qy:dl.frozen? ⟨dv,(ω :Int).toNat * 3+1,none⟩=false:=hl 1;have qz:dl.frozen? ⟨dv,(ω :Int).toNat * 3+2,none⟩=false:=hl 2;clear nv hj hl m9;replace p44:=eq_true p44;replace jp:=eq_true jp;have mg:=Aside0.mk (show Kd.R k36 36 dl w.heap.size (fun k_=>k_≠cq) (.slice (some ⟨dv,0,none⟩) κ.length gi) κ from(kra HO_242000));obtain⟨t6,l7,mh,ji,l8⟩:=Kd.Ja mg.out z36 (ω :Int) (of_decide_eq_true (by assumption)) (by have h_:(ω :Int)<((κ.length:Int):Int):=of_decide_eq_true (by assumption);first|exact h_|(have e_:=(Kd.Qz HO_242000.out).1;omega)|simpa using h_);obtain rfl:=Yb mh;have kj:=Kd.Ww mg.out (ω :Int) (of_decide_eq_true (by assumption)) (by have h_:(ω :Int)<((κ.length:Int):Int):=of_decide_eq_true (by assumption);first|exact h_|(have e_:=(Kd.Qz HO_242000.out).1;omega)|simpa using h_) (seg:=[.int .i64 (-1)]) (j:=2) l7 ji (show 3≤3 from by decide) (x':=(⟨(Qc κ ω).f0,(Qc κ ω).f1,(-1)⟩:S36)) (Kg _ _ _ (⟨(Qc κ ω).f0,(Qc κ ω).f1,(-1)⟩:S36)) (fun _ hk=>hk);have jq:=ji 2 _ rfl;(try simp only[show(k36).sz=3 from rfl,Nat.mul_one,Nat.add_zero] at jq);have mi:=l8 2;(try simp only[show(k36).sz=3 from rfl,Nat.mul_one,Nat.add_zero] at mi);clear l7 ji l8 mh)|((with_reducible refine Y6 (t:=3) (p:=56) rfl ?_);refine Ys (t:=3) (p:=56) (v:=?vo_w60) (w1:=(dl.setCell ⟨dv,(ω :Int).toNat * 3+2,none⟩ (.int .i64 (-1)))) ?hg ?ho ?hn ?hr ?_;(case ho=>rfl);(case hg=>rfl);(case hn=>rfl);(case hr=>go_simp <;> rfl);intro nk hw;have hg:dl.grownBy nk (some dv):=(by rw[hw];exact kj.2);have hp_:Kd.R k36 36 nk w.heap.size (fun k_=>k_≠cq) (.slice (some ⟨dv,0,none⟩) κ.length gi) ki:=(by rw[hw,nu.out];exact kj.1);clear kj;replace HO_242001:=Aside0.mk (Kd.Kl (v:=(.slice (some ⟨dv,0,none⟩) κ.length gi)) (kra HO_242001) (Kd.Kk HO_242000.out) (by decide) hg);replace X:=Aside0.mk (Q3 (g:=a0) (o:=.cells #[.int .i64 B,.int .i64 J,.int .i64 L,.int .i64 Y,.int .i64 Z,.int .i64 ε,.int .i64 γ,.int .i64 θ,.int .i64 ζ,.int .i64 η] 25 (0,0)) (bka X) hg (Kd.Xc HO_242000.out X.out (by decide)));replace O:=Aside0.mk (Q3 (g:= μ) (o:=.cells #[.slice a1 φ.length a5,.slice a6 τ.length a7] 50 (0,0)) (bka O) hg (Kd.Xc HO_242000.out O.out (by decide)));replace δ :=Aside0.mk (Q3 (g:=ag) (o:=.cells #[.slice none 0 0,.slice none 0 0] 50 (0,0)) (bka δ) hg (Kd.Xc HO_242000.out δ.out (by decide)));replace ν :=Aside0.mk (Q3 (g:= ξ) (o:=.cells #[.slice (some ⟨dv,0,none⟩) κ.length gi,.slice bk b5.length bf] 50 (0,0)) (bka ν) hg (Kd.Xc HO_242000.out ν.out (by decide)));replace cv:=Aside0.mk (Q3 (g:=cq) (o:=.cells #[.int .i64 ((Qc κ ω).f0),.int .i64 ((Qc κ ω).f1),.int .i64 ((Qc κ ω).f2)] 36 (0,0)) (bka cv) hg (Kd.We HO_242000.out (fun _ hk=>hk)));replace HO_242000:=Aside0.mk hp_;replace HB:=Aside0.mk ((by rw[hw];exact Qs (HB.out) od.out:Below w.heap.size w nk));clear hg hw hp_))
            rewrite[gy.out]
            go_roundg k1
            case measure=>have:=an.out;omega
            case rel=>exact⟨(wrap64 (ω + 1)),(ki),(.slice (some ⟨dv,0,none⟩) κ.length gi),rfl,H',⟨by have:=an.out;omega⟩,⟨by(with_reducible repeat first|apply Kd.Qx|apply Kd.Qw|apply Kd.Q2);exact Kd.Q0 HO_242000.out (fun _ hk=>trivial)⟩,⟨by(with_reducible repeat first|apply Kd.Qx|apply Kd.Qw|apply Kd.Q2);exact HO_242001.out⟩,X,O,δ,ν,HB,gy⟩
           ·rw[if_neg gt] at H
            have c43b0:((Go.bits .and .i64 (fk) 1)==1)=false:=beq_eq_false_iff_ne.mpr gt
            have c43b1:((Go.bits .and .i64 (fk) 1) != 1)=true:=bne_iff_ne.mpr gt
            have H':=Aside0.mk H
            clear H
            have hu:=ab.out
            have hx:=aa.out
            have nb:=ac.out
            have nc:=a9.out
            have k8:=af.out
            have k9:=ae.out
            obtain⟨h4,h5,ie,ig⟩:=qD2 ν.out
            obtain⟨t7,oe,oh⟩:=Kd.Q9 HO_242000.out
            subst oh
            have e9:0≤(ω :Int):=of_decide_eq_true (by assumption)
            have ea: ω < (κ.length:Int):=of_decide_eq_true (by assumption)
            obtain⟨g6,ia,g7,g8,gf⟩:=Xy (Kd.Qz HO_242000.out).2.2 ω e9 ea
            cases ia
            replace e9:=eq_true e9
            replace ea:=eq_true ea
            (try rewrite[← gy.out])
            go_wp2_with (first|((with_reducible refine Qe (N:=13) rfl ?_);refine qE 13 #[.int .i64 0,.int .i64 0,.int .i64 0] 36 ?_;intro cq hg o7 hbox hb;have cv:=Aside0.mk hbox;have l5:=sGe hg;have l6:=sGe hg;have dx:=sNl X hg;have dy:=sNg X hg;have e0:=sNl O hg;have e3:=sNg O hg;have e4:=sNl δ hg;have e5:=sNg δ hg;have e7:=sNl ν hg;have e8:=sNg ν hg;replace HO_242000:=Aside0.mk (Kd.Z4 (Kd.Yp HO_242000.out cq (Nat.le_of_eq hg.symm)) hb);replace HO_242001:=sRb HO_242001 hb;replace X:=sBk X hb;replace O:=sBk O hb;replace δ :=sBk δ hb;replace ν :=sBk ν hb;replace HB:=sHb hb;clear hb hbox hg;have nf:=dy.out;have ni:=dx.out;have kn:=e3.out;have ko:=e0.out;have n1:=e5.out;have na:=e4.out;have sd:=e8.out;have se:=e7.out;obtain⟨im,iv,iw,ix,iy,iz⟩:=qD3 cv.out))
            rewrite[gy.out]
            go_roundg k1
            case measure=>have:=an.out;omega
            case rel=>exact⟨(wrap64 (ω + 1)),(κ),(.slice (some g6) κ.length oe),qR,H',⟨by have:=an.out;omega⟩,⟨by(with_reducible repeat first|apply Kd.Qx|apply Kd.Qw|apply Kd.Q2);exact Kd.Q0 (Kd.Qv (Kd.Qv (Kd.Qv (Kd.Q0 HO_242000.out (fun k_ hk=>(⟨hk,hk.2⟩:_∧k_≠cq))) (fun _ hk=>hk.2) (.int .i64 ((Qc κ ω).f0))) (fun _ hk=>hk.2) (.int .i64 ((Qc κ ω).f1))) (fun _ hk=>hk.2) (.int .i64 ((Qc κ ω).f2))) (fun _ hk=>trivial)⟩,⟨by(with_reducible repeat first|apply Kd.Qx|apply Kd.Qw|apply Kd.Q2);exact Kd.Q0 (Kd.Qv (Kd.Qv (Kd.Qv (Kd.Q7 HO_242001.out cv.out (by decide)) (fun _ hk=>hk.2) (.int .i64 ((Qc κ ω).f0))) (fun _ hk=>hk.2) (.int .i64 ((Qc κ ω).f1))) (fun _ hk=>hk.2) (.int .i64 ((Qc κ ω).f2))) (fun _ hk=>trivial)⟩,⟨bka X⟩,⟨bka O⟩,⟨bka δ⟩,⟨bka ν⟩,⟨bel⟩,gy⟩
          ·rw[if_neg jb] at H
           exact absurd H (by simp)
         ·rw[if_neg de] at H
          have c40b0:decide (0≤((Qc κ ω).f2))=false:=decide_eq_false de
          clear de
          have H':=Aside0.mk H
          clear H
          have sf:=ab.out
          have sg:=aa.out
          have sh:=ac.out
          have si:=a9.out
          have nj:=af.out
          have nl:=ae.out
          obtain⟨lh,ll,lm,ln⟩:=qD2 ν.out
          obtain⟨t8,oi,oj⟩:=Kd.Q9 HO_242000.out
          subst oj
          have e9:0≤(ω :Int):=of_decide_eq_true (by assumption)
          have ea: ω < (κ.length:Int):=of_decide_eq_true (by assumption)
          obtain⟨g6,ia,g7,g8,gf⟩:=Xy (Kd.Qz HO_242000.out).2.2 ω e9 ea
          cases ia
          replace e9:=eq_true e9
          replace ea:=eq_true ea
          (try rewrite[← gy.out])
          go_wp2_with (first|((with_reducible refine Qe (N:=13) rfl ?_);refine qE 13 #[.int .i64 0,.int .i64 0,.int .i64 0] 36 ?_;intro cq hg tr hbox hb;have cv:=Aside0.mk hbox;have l5:=sGe hg;have l6:=sGe hg;have dx:=sNl X hg;have dy:=sNg X hg;have e0:=sNl O hg;have e3:=sNg O hg;have e4:=sNl δ hg;have e5:=sNg δ hg;have e7:=sNl ν hg;have e8:=sNg ν hg;replace HO_242000:=Aside0.mk (Kd.Z4 (Kd.Yp HO_242000.out cq (Nat.le_of_eq hg.symm)) hb);replace HO_242001:=sRb HO_242001 hb;replace X:=sBk X hb;replace O:=sBk O hb;replace δ :=sBk δ hb;replace ν :=sBk ν hb;replace HB:=sHb hb;clear hb hbox hg;have sj:=dy.out;have sk:=dx.out;have kp:=e3.out;have lx:=e0.out;have ly:=e5.out;have lz:=e4.out;have nm:=e8.out;have nn:=e7.out;obtain⟨j3,j5,j6,j7,j8,j9⟩:=qD3 cv.out))
          rewrite[gy.out]
          go_roundg k1
          case measure=>have:=an.out;omega
          case rel=>exact⟨(wrap64 (ω + 1)),(κ),(.slice (some g6) κ.length oi),qR,H',⟨by have:=an.out;omega⟩,⟨by(with_reducible repeat first|apply Kd.Qx|apply Kd.Qw|apply Kd.Q2);exact Kd.Q0 (Kd.Qv (Kd.Qv (Kd.Qv (Kd.Q0 HO_242000.out (fun k_ hk=>(⟨hk,hk.2⟩:_∧k_≠cq))) (fun _ hk=>hk.2) (.int .i64 ((Qc κ ω).f0))) (fun _ hk=>hk.2) (.int .i64 ((Qc κ ω).f1))) (fun _ hk=>hk.2) (.int .i64 ((Qc κ ω).f2))) (fun _ hk=>trivial)⟩,⟨by(with_reducible repeat first|apply Kd.Qx|apply Kd.Qw|apply Kd.Q2);exact Kd.Q0 (Kd.Qv (Kd.Qv (Kd.Qv (Kd.Q7 HO_242001.out cv.out (by decide)) (fun _ hk=>hk.2) (.int .i64 ((Qc κ ω).f0))) (fun _ hk=>hk.2) (.int .i64 ((Qc κ ω).f1))) (fun _ hk=>hk.2) (.int .i64 ((Qc κ ω).f2))) (fun _ hk=>trivial)⟩,⟨bka X⟩,⟨bka O⟩,⟨bka δ⟩,⟨bka ν⟩,⟨bel⟩,gy⟩
        ·rw[if_neg di] at H
         exact absurd H (by simp)
       ·rw[if_neg fc] at H
        exact absurd H (by simp)
      ·rw[if_neg g5] at H
       have c37b0:decide (ω < (au.length:Int))=false:=decide_eq_false g5
       clear g5
       have H':=Aside0.mk H
       clear H
       have sl:=ab.out
       have sn:=aa.out
       have so:=ac.out
       have sp:=a9.out
       have sq:=af.out
       have sr:=ae.out
       obtain⟨lp,lq,lr,ls⟩:=qD2 ν.out
       obtain⟨mj,ml,ol⟩:=Kd.Q9 HO_242000.out
       subst ol
       go_wp2
       go_loopg [61] k1 (fun kq r0 w'=>∃ (ψ :Int) (ι :List (S36)) (dc:Value),r0 = .int .i64 ψ ∧ Aside0 (group_Spread.l1 kq l1 a2 (κ.length:Int) ψ B J L Y Z ε γ θ ζ η ι b5=some (r1,r2,r3))∧Aside0 (kq≤k1)∧Aside0 (Kd.R k36 36 w' w.heap.size (fun _=>True) dc ι)∧Aside0 (Kd.R k86 86 w' w.heap.size (fun _=>True) (.slice bk b5.length bf) b5)∧Aside0 (w'.heap[a0]?=some (.cells #[.int .i64 B,.int .i64 J,.int .i64 L,.int .i64 Y,.int .i64 Z,.int .i64 ε,.int .i64 γ,.int .i64 θ,.int .i64 ζ,.int .i64 η] 25 (0,0)))∧Aside0 (w'.heap[μ]?=some (.cells #[(.slice a1 φ.length a5),(.slice a6 τ.length a7)] 50 (0,0)))∧Aside0 (w'.heap[ag]?=some (.cells #[(.slice none 0 0),(.slice none 0 0)] 50 (0,0)))∧Aside0 (w'.heap[ξ]?=some (.cells #[dc,(.slice bk b5.length bf)] 50 (0,0)))∧Aside0 (Below w.heap.size w w')∧Aside0 (dc=(.slice mj κ.length ml)))
       case atStart=>exact⟨(0),(κ),(.slice mj κ.length ml),rfl,H',⟨Nat.le_refl _⟩,⟨by(with_reducible repeat first|apply Kd.Qx|apply Kd.Qw|apply Kd.Q2);exact HO_242000.out⟩,⟨by(with_reducible repeat first|apply Kd.Qx|apply Kd.Qw|apply Kd.Q2);exact HO_242001.out⟩,X,O,δ,ν,HB,⟨rfl⟩⟩
       case round=>
        clear H'
        try clear p2
        try clear q2
        try clear o4
        try clear c3
        try clear c4
        try clear p4
        try clear q4
        try clear ts
        try clear qo
        try clear c5
        try clear qq
        try clear qp
        try clear c6
        try clear p6
        try clear c7
        try clear c8
        try clear tt
        try clear tu
        try clear t9
        try clear o5
        try clear gu
        try clear er
        try clear g5
        try clear c37b0
        try clear fc
        try clear c38b0
        try clear di
        try clear c39b0
        try clear de
        try clear c40b0
        try clear jb
        try clear c41b0
        try clear c41b1
        try clear gt
        try clear c43b0
        try clear c43b1
        try clear gv
        try clear p44
        try clear jp
        try clear ta
        try clear tb
        try clear gw
        try clear j4
        try clear ih
        try clear i3
        try clear ei
        try clear fa
        try clear jm
        try clear g4
        try clear tc
        try clear td
        try clear ii
        try clear gq
        try clear jw
        try clear p64
        try clear tv
        try clear tw
        try clear tx
        try clear ty
        try clear jn
        try clear tz
        try clear u0
        try clear u1
        try clear u2
        try clear u3
        try clear u4
        try clear u5
        try clear u6
        try clear u7
        try clear g0
        try clear g1
        try clear ek
        try clear el
        try clear g9
        try clear ga
        try clear hy
        try clear ks
        try clear kt
        try clear ku
        try clear h6
        try clear ir
        try clear h4
        try clear h5
        try clear im
        try clear iv
        try clear iw
        try clear lh
        try clear ll
        try clear j3
        try clear j5
        try clear j6
        try clear lp
        try clear lq
        try clear g2
        try clear g3
        try clear em
        try clear en
        try clear gb
        try clear ge
        try clear i0
        try clear kv
        try clear kw
        try clear kx
        try clear it
        try clear iu
        try clear ie
        try clear ig
        try clear ix
        try clear iy
        try clear iz
        try clear lm
        try clear ln
        try clear j7
        try clear j8
        try clear j9
        try clear lr
        try clear ls
        try clear g7
        try clear g8
        try clear gf
        try clear mc
        try clear me
        try clear mf
        try clear jq
        try clear p2
        try clear e9
        try clear p44
        try clear ea
        try clear jp
        obtain⟨ψ,ι,dc,rfl,HA,ed,HO_242000,HO_242001,X,O,δ,ν,HB,ib⟩:=hrel
        cases gk with
        |zero=>exact absurd HA.out (by simp[group_Spread.l1])
        |succ k2=>
         have H:=HA.out
         clear HA
         simp only[group_Spread.l1] at H
         by_cases jc: ψ < (κ.length:Int)
         ·rw[if_pos jc] at H
          have c88b0:decide (ψ < (κ.length:Int))=true:=decide_eq_true jc
          clear jc
          by_cases l9:0 ≤ ψ
          ·rw[if_pos l9] at H
           have c89b0:decide (0 ≤ ψ)=true:=decide_eq_true l9
           clear l9
           by_cases lb: ψ < (ι.length:Int)
           ·rw[if_pos lb] at H
            have c90b0:decide (ψ < (ι.length:Int))=true:=decide_eq_true lb
            clear lb
            by_cases jd:((Qc ι ψ).f2)<0
            ·rw[if_pos jd] at H
             have c91b0:decide (((Qc ι ψ).f2)<0)=true:=decide_eq_true jd
             clear jd
             replace H:=Option.bind_eq_some_iff.mp H
             obtain⟨cu,mm,H⟩:=H
             replace H:(group_Spread.l1 k2 l1 a2 (κ.length:Int) (wrap64 (ψ + 1)) B J L Y Z ε γ θ ζ η (ι.set (ψ :Int).toNat (⟨(Qc ι ψ).f0,(Qc ι ψ).f1,cu⟩:S36)) b5)=some (r1,r2,r3):=H
             have r4:=Aside0.mk mm
             clear mm
             obtain⟨mo,h0⟩:∃ y_:List (S36),y_=(ι.set (ψ :Int).toNat (⟨(Qc ι ψ).f0,(Qc ι ψ).f1,cu⟩:S36)):=⟨_,rfl⟩
             replace H:(group_Spread.l1 k2 l1 a2 (κ.length:Int) (wrap64 (ψ + 1)) B J L Y Z ε γ θ ζ η mo b5)=some (r1,r2,r3):=by first|(rw[h0];with_reducible exact H)|(have am:=(Option.bind_some _ _).symm.trans H;rw[h0];with_reducible exact am)|(have am:=(Option.bind_some _ _).symm.trans H;with_reducible exact am)|with_reducible exact H|(rw[h0];exact H)|exact H
             have nw:=Aside0.mk h0
             clear h0
             have H':=Aside0.mk H
             clear H
             have no:=ab.out
             have np:=aa.out
             have ss:=ac.out
             have st:=a9.out
             have su:=af.out
             have sv:=ae.out
             obtain⟨qk,ql,qm,qn⟩:=qD2 ν.out
             obtain⟨te,ic,om⟩:=Kd.Q9 HO_242000.out
             subst om
             have eo:0≤(ψ :Int):=of_decide_eq_true (by assumption)
             have ep: ψ < (ι.length:Int):=of_decide_eq_true (by assumption)
             obtain⟨ak,il,dm,dn,dp⟩:=Xy (Kd.Qz HO_242000.out).2.2 ψ eo ep
             cases il
             replace eo:=eq_true eo
             replace ep:=eq_true ep
             (try rewrite[← ib.out])
             try go_wp2_with (first|((with_reducible refine Qe (N:=15) rfl ?_);refine qE 15 #[.int .i64 0,.int .i64 0,.int .i64 0] 36 ?_;intro ap hg h7 hbox hb;have bu:=Aside0.mk hbox;have nx:=sGe hg;have ny:=sGe hg;have fl:=sNl X hg;have fo:=sNg X hg;have fp:=sNl O hg;have fu:=sNg O hg;have fv:=sNl δ hg;have fw:=sNg δ hg;have fx:=sNl ν hg;have fy:=sNg ν hg;replace HO_242000:=Aside0.mk (Kd.Z4 (Kd.Yp HO_242000.out ap (Nat.le_of_eq hg.symm)) hb);replace HO_242001:=sRb HO_242001 hb;replace X:=sBk X hb;replace O:=sBk O hb;replace δ :=sBk δ hb;replace ν :=sBk ν hb;replace HB:=sHb hb;clear hb hbox hg;have r5:=fo.out;have r6:=fl.out;have r7:=fu.out;have r8:=fp.out;have r9:=fw.out;have ra:=fv.out;have rb:=fy.out;have rc:=fx.out;obtain⟨oo,oq,ot,ou,ov,ow⟩:=qD3 bu.out))
             have ρ:Aside0 (Kd.R k36 36 (((h7.setCell ⟨ap,0,none⟩ (.int .i64 ((Qc ι ψ).f0))).setCell ⟨ap,1,none⟩ (.int .i64 ((Qc ι ψ).f1))).setCell ⟨ap,2,none⟩ (.int .i64 ((Qc ι ψ).f2))) w.heap.size (fun k_=>k_≠ap) (.slice (some ak) ι.length ic) ι):=⟨by(with_reducible repeat first|apply Kd.Qx|apply Kd.Qw|apply Kd.Q2);exact Kd.Q0 (Kd.Qv (Kd.Qv (Kd.Qv (Kd.Q0 HO_242000.out (fun k_ hk=>(⟨hk,hk.2⟩:_∧k_≠ap))) (fun _ hk=>hk.2) (.int .i64 ((Qc ι ψ).f0))) (fun _ hk=>hk.2) (.int .i64 ((Qc ι ψ).f1))) (fun _ hk=>hk.2) (.int .i64 ((Qc ι ψ).f2))) (fun _ hk=>hk.1.2)⟩
             have χ :Aside0 (Kd.R k86 86 (((h7.setCell ⟨ap,0,none⟩ (.int .i64 ((Qc ι ψ).f0))).setCell ⟨ap,1,none⟩ (.int .i64 ((Qc ι ψ).f1))).setCell ⟨ap,2,none⟩ (.int .i64 ((Qc ι ψ).f2))) w.heap.size (fun _=>True) (.slice bk b5.length bf) b5):=⟨by(with_reducible repeat first|apply Kd.Qx|apply Kd.Qw|apply Kd.Q2);exact Kd.Q0 (Kd.Qv (Kd.Qv (Kd.Qv (Kd.Q7 HO_242001.out bu.out (by decide)) (fun _ hk=>hk.2) (.int .i64 ((Qc ι ψ).f0))) (fun _ hk=>hk.2) (.int .i64 ((Qc ι ψ).f1))) (fun _ hk=>hk.2) (.int .i64 ((Qc ι ψ).f2))) (fun _ hk=>trivial)⟩
             have a3:Aside0 ((((h7.setCell ⟨ap,0,none⟩ (.int .i64 ((Qc ι ψ).f0))).setCell ⟨ap,1,none⟩ (.int .i64 ((Qc ι ψ).f1))).setCell ⟨ap,2,none⟩ (.int .i64 ((Qc ι ψ).f2))).heap[a0]?=some (.cells #[.int .i64 B,.int .i64 J,.int .i64 L,.int .i64 Y,.int .i64 Z,.int .i64 ε,.int .i64 γ,.int .i64 θ,.int .i64 ζ,.int .i64 η] 25 (0,0))):=⟨bka X⟩
             have a8:Aside0 ((((h7.setCell ⟨ap,0,none⟩ (.int .i64 ((Qc ι ψ).f0))).setCell ⟨ap,1,none⟩ (.int .i64 ((Qc ι ψ).f1))).setCell ⟨ap,2,none⟩ (.int .i64 ((Qc ι ψ).f2))).heap[μ]?=some (.cells #[.slice a1 φ.length a5,.slice a6 τ.length a7] 50 (0,0))):=⟨bka O⟩
             have ah:Aside0 ((((h7.setCell ⟨ap,0,none⟩ (.int .i64 ((Qc ι ψ).f0))).setCell ⟨ap,1,none⟩ (.int .i64 ((Qc ι ψ).f1))).setCell ⟨ap,2,none⟩ (.int .i64 ((Qc ι ψ).f2))).heap[ag]?=some (.cells #[.slice none 0 0,.slice none 0 0] 50 (0,0))):=⟨bka δ⟩
             have ar:Aside0 ((((h7.setCell ⟨ap,0,none⟩ (.int .i64 ((Qc ι ψ).f0))).setCell ⟨ap,1,none⟩ (.int .i64 ((Qc ι ψ).f1))).setCell ⟨ap,2,none⟩ (.int .i64 ((Qc ι ψ).f2))).heap[ξ]?=some (.cells #[.slice (some ak) ι.length ic,.slice bk b5.length bf] 50 (0,0))):=⟨bka ν⟩
             have b2:Aside0 ((((h7.setCell ⟨ap,0,none⟩ (.int .i64 ((Qc ι ψ).f0))).setCell ⟨ap,1,none⟩ (.int .i64 ((Qc ι ψ).f1))).setCell ⟨ap,2,none⟩ (.int .i64 ((Qc ι ψ).f2))).heap[ap]?=some (.cells #[.int .i64 ((Qc ι ψ).f0),.int .i64 ((Qc ι ψ).f1),.int .i64 ((Qc ι ψ).f2)] 36 (0,0))):=⟨by refine Qm (cs:=#[.int .i64 ((Qc ι ψ).f0),.int .i64 ((Qc ι ψ).f1),.int .i64 0]) ?_ 2 _ rfl;refine Qm (cs:=#[.int .i64 ((Qc ι ψ).f0),.int .i64 0,.int .i64 0]) ?_ 1 _ rfl;refine Qm (cs:=#[.int .i64 0,.int .i64 0,.int .i64 0]) ?_ 0 _ rfl;exact bu.out⟩
             have bl:Aside0 (Below w.heap.size w (((h7.setCell ⟨ap,0,none⟩ (.int .i64 ((Qc ι ψ).f0))).setCell ⟨ap,1,none⟩ (.int .i64 ((Qc ι ψ).f1))).setCell ⟨ap,2,none⟩ (.int .i64 ((Qc ι ψ).f2)))):=⟨bel⟩
             (try clear HO_242000)
             (try clear HO_242001)
             (try clear X)
             (try clear O)
             (try clear δ)
             (try clear ν)
             (try clear bu)
             (try clear HB)
             generalize(((h7.setCell ⟨ap,0,none⟩ (.int .i64 ((Qc ι ψ).f0))).setCell ⟨ap,1,none⟩ (.int .i64 ((Qc ι ψ).f1))).setCell ⟨ap,2,none⟩ (.int .i64 ((Qc ι ψ).f2)))=ox at ρ χ a3 a8 ah ar b2 bl ⊢
             have HO_242000:=ρ
             have HO_242001:= χ
             have X:=a3
             have O:=a8
             have δ :=ah
             have ν :=ar
             have bu:=b2
             have HB:=bl
             clear ρ χ a3 a8 ah ar b2 bl
             replace HO_242000:=Aside0.mk (Kd.Q2 HO_242000.out)
             replace HO_242001:=Aside0.mk (Kd.Q2 HO_242001.out)
             replace X:=Aside0.mk (Qf X.out)
             replace O:=Aside0.mk (Qf O.out)
             replace δ :=Aside0.mk (Qf δ.out)
             replace ν :=Aside0.mk (Qf ν.out)
             replace bu:=Aside0.mk (Qf bu.out)
             replace HB:=Aside0.mk (Qi HB.out)
             refine Zl (n:=12) (S:=fun w'=>w'.cell? ⟨ξ,0,none⟩=some (.slice (some ak) ι.length ic)∧w'.cell? ⟨ξ,1,none⟩=some (.slice bk b5.length bf)∧w'.cell? ⟨a0,0,none⟩=some (.int .i64 B)∧w'.cell? ⟨a0,1,none⟩=some (.int .i64 J)∧w'.cell? ⟨a0,2,none⟩=some (.int .i64 L)∧w'.cell? ⟨a0,3,none⟩=some (.int .i64 Y)∧w'.cell? ⟨a0,4,none⟩=some (.int .i64 Z)∧w'.cell? ⟨a0,5,none⟩=some (.int .i64 ε)∧w'.cell? ⟨a0,6,none⟩=some (.int .i64 γ)∧w'.cell? ⟨a0,7,none⟩=some (.int .i64 θ)∧w'.cell? ⟨a0,8,none⟩=some (.int .i64 ζ)∧w'.cell? ⟨a0,9,none⟩=some (.int .i64 η)∧w'.cell? ⟨ap,0,none⟩=some (.int .i64 ((Qc ι ψ).f0))∧w'.cell? ⟨ap,1,none⟩=some (.int .i64 ((Qc ι ψ).f1))∧w'.cell? ⟨ap,2,none⟩=some (.int .i64 ((Qc ι ψ).f2))) (ds:=[11]) #[false,false,false,false,false,false,false,false,false,false,false,false] kr rfl rfl ⟨(Qa ν.out 0).trans rfl,(Qa ν.out 1).trans rfl,(Qa X.out 0).trans rfl,(Qa X.out 1).trans rfl,(Qa X.out 2).trans rfl,(Qa X.out 3).trans rfl,(Qa X.out 4).trans rfl,(Qa X.out 5).trans rfl,(Qa X.out 6).trans rfl,(Qa X.out 7).trans rfl,(Qa X.out 8).trans rfl,(Qa X.out 9).trans rfl,(Qa bu.out 0).trans rfl,(Qa bu.out 1).trans rfl,(Qa bu.out 2).trans rfl⟩ (fun hHeld=>?_);refine Q8 group_Spread.tab15 group_Spread.E1 (fun HT_ HW_=>?_)
             generalize ox.drew=tf at HO_242000 HO_242001 X O δ ν bu HB hHeld ⊢
             refine qP 0 (some 69) (bN 12 1) HT_ ?_
             refine qP 2 (some 71) (bN 12 5) HT_ ?_
             refine qP 4 (some 73) (bN 12 21) HT_ ?_
             refine qP 5 (some 74) (bN 12 53) HT_ ?_
             refine qT 1 (some 70) (bN 12 55) HT_ HW_ hHeld ?_
             refine qT 3 (some 72) (bN 12 63) HT_ HW_ hHeld ?_
             refine qT 6 (some 75) (bN 12 127) HT_ HW_ hHeld ?_
             refine qT 7 (some 76) (bN 12 255) HT_ HW_ hHeld ?_
             refine Zg (i:=8) (N:=some 77) (bN 12 511) rfl rfl (Q4 HT_.out kr) (by decide) (fun K hK=>?_)
             refine Zf Try.func38 kr rfl #[.agg #[.int .i64 B,.int .i64 J,.int .i64 L,.int .i64 Y,.int .i64 Z,.int .i64 ε,.int .i64 γ,.int .i64 θ,.int .i64 ζ,.int .i64 η],.slice A1 l1.length c1,.int .i64 a2,.agg #[.slice (some ak) ι.length ic,.slice bk b5.length bf],.agg #[.int .i64 ((Qc ι ψ).f0),.int .i64 ((Qc ι ψ).f1),.int .i64 ((Qc ι ψ).f2)]] (by rfl) rfl rfl qM ?_
             with_reducible refine(group_pick.calls k2 B J L Y Z ε γ θ ζ η _ _ l1 a2 _ _ ι _ _ b5 ((Qc ι ψ).f0) ((Qc ι ψ).f1) ((Qc ι ψ).f2) cu _ ?side1 ?side2 ?side3 ?side4 ?side5 ?side6 r4.out).mono ?_
             (case side1=>exact(Kd.Qp dk.out HB.out))
             (case side2=>exact dz.out)
             (case side3=>exact(Kd.Qz HO_242000.out).2.2)
             (case side4=>exact(Kd.Qz HO_242000.out).2.1)
             (case side5=>exact(Kd.Qz HO_242001.out).2.2)
             (case side6=>exact(Kd.Qz HO_242001.out).2.1)
             rintro e tg ⟨rfl,hb⟩
             refine⟨_,rfl, ?_⟩
             replace HO_242000:=sRb HO_242000 hb
             replace HO_242001:=sRb HO_242001 hb
             replace X:=sBk X hb
             replace O:=sBk O hb
             replace δ :=sBk δ hb
             replace ν :=sBk ν hb
             replace bu:=sBk bu hb
             replace HB:=sHb hb
             (try clear hb)
             (try clear a4)
             (try clear hk)
             (try clear hi)
             have mq:0≤(ψ :Int):=of_decide_eq_true (by assumption)
             have mr:(ψ :Int)<((ι.length:Int):Int):=of_decide_eq_true (by assumption)
             obtain⟨fz,ti,ms,mt,oy,tj,mu⟩:=Kd.Vy HO_242000.out (by omega)
             (first|cases ms|(injection ms with ea_ en_ ec_;(first|subst ea_|(injection ea_ with ea_;subst ea_));subst ec_;clear en_))
             have tk:=Aside0.mk mt
             have oz:=Aside0.mk mu
             clear mt oy mu
             (first|simp only[add_plain] at dm|skip)
             (first|simp only[add_plain] at dn|skip)
             (first|simp only[add_plain] at dp|skip)
             obtain⟨tl,nz,mw,i1,i2⟩:=Kd.Ja HO_242000.out z36 (ψ :Int) mq mr
             obtain rfl:=Yb mw
             have re:World.cell? _ ⟨fz,(ψ :Int).toNat * 3,none⟩=some (.int .i64 ((Qc ι ψ).f0)):=i1 0 _ rfl
             have rf:World.cell? _ ⟨fz,(ψ :Int).toNat * 3+1,none⟩=some (.int .i64 ((Qc ι ψ).f1)):=i1 1 _ rfl
             have rh:World.cell? _ ⟨fz,(ψ :Int).toNat * 3+2,none⟩=some (.int .i64 ((Qc ι ψ).f2)):=i1 2 _ rfl
             have ri:World.frozen? _ ⟨fz,(ψ :Int).toNat * 3,none⟩=false:=i2 0
             have rj:World.frozen? _ ⟨fz,(ψ :Int).toNat * 3+1,none⟩=false:=i2 1
             have rk:World.frozen? _ ⟨fz,(ψ :Int).toNat * 3+2,none⟩=false:=i2 2
             clear nz i1 i2 mw
             replace mq:=eq_true mq
             replace mr:=eq_true mr
             (try rewrite[← ib.out])
             obtain⟨sw,js,lc,ju,my⟩:=Kd.Ja HO_242000.out z36 (ψ :Int) (of_decide_eq_true (by assumption)) (by have h_:(ψ :Int)<((ι.length:Int):Int):=of_decide_eq_true (by assumption);first|exact h_|(have e_:=(Kd.Qz HO_242000.out).1;omega)|simpa using h_)
             obtain rfl:=Yb lc
             have jl:=(Kd.Ww HO_242000.out (ψ :Int) (of_decide_eq_true (by assumption)) (by have h_:(ψ :Int)<((ι.length:Int):Int):=of_decide_eq_true (by assumption);first|exact h_|(have e_:=(Kd.Qz HO_242000.out).1;omega)|simpa using h_) (seg:=[.int .i64 cu]) (j:=2) js ju (show 3≤3 from by decide) (x':=(⟨(Qc ι ψ).f0,(Qc ι ψ).f1,cu⟩:S36)) (Kg _ _ _ (⟨(Qc ι ψ).f0,(Qc ι ψ).f1,cu⟩:S36)) (fun _ hk=>hk)).1
             rw[← nw.out] at jl
             have o0:=Aside0.mk jl
             clear js ju my lc jl
             refine hK.out _ _ ⟨qc ν,qc ν,qc X,qc X,qc X,qc X,qc X,qc X,qc X,qc X,qc X,qc X,qc bu,qc bu,qc bu⟩ (fun hHeld=>?_)
             clear hK K
             refine qN (some 77) ?_
             refine qP 9 (some 78) (bN 12 1023) HT_ ?_
             refine qP 10 (some 79) (bN 12 2047) HT_ ?_
             refine last_ (i:=11) (N:=none) #[true,true,true,true,true,true,true,true,true,true,true,true] rfl rfl (Q4 HT_.out kr) (by decide) (fun K hK=>?_)
             refine V7 (w1:=?_) (by rfl) rfl ?_ ?_
             rotate_left
             ·go_simp
              rfl
             refine hK.out _ _ ?_
             clear hK K
             refine Z2 (Zh HT_.out kr) ?_
             try go_wp2
             rewrite[ib.out]
             go_roundg k2
             case measure=>have:=an.out;have:=ed.out;omega
             case rel=>exact⟨(wrap64 (ψ + 1)),(mo),(.slice (some ⟨fz,0,none⟩) ι.length ic),qR,H',⟨by have:=an.out;have:=ed.out;omega⟩,⟨by(with_reducible repeat first|apply Kd.Qx|apply Kd.Qw|apply Kd.Q2);exact Kd.Q0 o0.out (fun _ hk=>trivial)⟩,⟨by(with_reducible repeat first|apply Kd.Qx|apply Kd.Qw|apply Kd.Q2);exact Kd.Q0 (Kd.Qv (p:=⟨fz,(ψ :Int).toNat * 3+2,none⟩) (Kd.Q7 HO_242001.out oz.out (by decide)) (fun _ hk=>hk.2) (.int .i64 cu)) (fun _ hk=>trivial)⟩,⟨by(with_reducible repeat first|refine Qk ?_ _|refine Qf ?_|refine Ql ?_ _);refine X7 ?_ (by have h_:=Kd.Xc HO_242000.out X.out (by decide);intro e_;exact h_ (by rw[e_];rfl)) _;(with_reducible repeat first|refine Qk ?_ _|refine Qf ?_|refine Ql ?_ _);exact X.out⟩,⟨by(with_reducible repeat first|refine Qk ?_ _|refine Qf ?_|refine Ql ?_ _);refine X7 ?_ (by have h_:=Kd.Xc HO_242000.out O.out (by decide);intro e_;exact h_ (by rw[e_];rfl)) _;(with_reducible repeat first|refine Qk ?_ _|refine Qf ?_|refine Ql ?_ _);exact O.out⟩,⟨by(with_reducible repeat first|refine Qk ?_ _|refine Qf ?_|refine Ql ?_ _);refine X7 ?_ (by have h_:=Kd.Xc HO_242000.out δ.out (by decide);intro e_;exact h_ (by rw[e_];rfl)) _;(with_reducible repeat first|refine Qk ?_ _|refine Qf ?_|refine Ql ?_ _);exact δ.out⟩,⟨by(with_reducible repeat first|refine Qk ?_ _|refine Qf ?_|refine Ql ?_ _);refine X7 ?_ (by have h_:=Kd.Xc HO_242000.out ν.out (by decide);intro e_;exact h_ (by rw[e_];rfl)) _;(with_reducible repeat first|refine Qk ?_ _|refine Qf ?_|refine Ql ?_ _);exact ν.out⟩,⟨bel⟩,ib⟩
            ·rw[if_neg jd] at H
             have c91b0:decide (((Qc ι ψ).f2)<0)=false:=decide_eq_false jd
             clear jd
             have H':=Aside0.mk H
             clear H
             have rl:=ab.out
             have rm:=aa.out
             have rn:=ac.out
             have rp:=a9.out
             have rq:=af.out
             have rr:=ae.out
             obtain⟨jv,jx,jy,jz⟩:=qD2 ν.out
             obtain⟨sx,o1,o2⟩:=Kd.Q9 HO_242000.out
             subst o2
             have eo:0≤(ψ :Int):=of_decide_eq_true (by assumption)
             have ep: ψ < (ι.length:Int):=of_decide_eq_true (by assumption)
             obtain⟨ak,il,dm,dn,dp⟩:=Xy (Kd.Qz HO_242000.out).2.2 ψ eo ep
             cases il
             replace eo:=eq_true eo
             replace ep:=eq_true ep
             (try rewrite[← ib.out])
             go_wp2_with (first|((with_reducible refine Qe (N:=15) rfl ?_);refine qE 15 #[.int .i64 0,.int .i64 0,.int .i64 0] 36 ?_;intro ap hg o8 hbox hb;have bu:=Aside0.mk hbox;have nx:=sGe hg;have ny:=sGe hg;have fl:=sNl X hg;have fo:=sNg X hg;have fp:=sNl O hg;have fu:=sNg O hg;have fv:=sNl δ hg;have fw:=sNg δ hg;have fx:=sNl ν hg;have fy:=sNg ν hg;replace HO_242000:=Aside0.mk (Kd.Z4 (Kd.Yp HO_242000.out ap (Nat.le_of_eq hg.symm)) hb);replace HO_242001:=sRb HO_242001 hb;replace X:=sBk X hb;replace O:=sBk O hb;replace δ :=sBk δ hb;replace ν :=sBk ν hb;replace HB:=sHb hb;clear hb hbox hg;have rs:=fo.out;have rt:=fl.out;have ru:=fu.out;have rv:=fp.out;have lu:=fw.out;have lv:=fv.out;have lw:=fy.out;have m0:=fx.out;obtain⟨k0,k4,p0,k5,k6,p1⟩:=qD3 bu.out))
             rewrite[ib.out]
             go_roundg k2
             case measure=>have:=an.out;have:=ed.out;omega
             case rel=>exact⟨(wrap64 (ψ + 1)),(ι),(.slice (some ak) ι.length o1),qR,H',⟨by have:=an.out;have:=ed.out;omega⟩,⟨by(with_reducible repeat first|apply Kd.Qx|apply Kd.Qw|apply Kd.Q2);exact Kd.Q0 (Kd.Qv (Kd.Qv (Kd.Qv (Kd.Q0 HO_242000.out (fun k_ hk=>(⟨hk,hk.2⟩:_∧k_≠ap))) (fun _ hk=>hk.2) (.int .i64 ((Qc ι ψ).f0))) (fun _ hk=>hk.2) (.int .i64 ((Qc ι ψ).f1))) (fun _ hk=>hk.2) (.int .i64 ((Qc ι ψ).f2))) (fun _ hk=>trivial)⟩,⟨by(with_reducible repeat first|apply Kd.Qx|apply Kd.Qw|apply Kd.Q2);exact Kd.Q0 (Kd.Qv (Kd.Qv (Kd.Qv (Kd.Q7 HO_242001.out bu.out (by decide)) (fun _ hk=>hk.2) (.int .i64 ((Qc ι ψ).f0))) (fun _ hk=>hk.2) (.int .i64 ((Qc ι ψ).f1))) (fun _ hk=>hk.2) (.int .i64 ((Qc ι ψ).f2))) (fun _ hk=>trivial)⟩,⟨bka X⟩,⟨bka O⟩,⟨bka δ⟩,⟨bka ν⟩,⟨bel⟩,ib⟩
           ·rw[if_neg lb] at H
            exact absurd H (by simp)
          ·rw[if_neg l9] at H
           exact absurd H (by simp)
         ·rw[if_neg jc] at H
          have c88b0:decide (ψ < (κ.length:Int))=false:=decide_eq_false jc
          clear jc
          simp only[Option.some.injEq,Prod.mk.injEq] at H
          obtain⟨rfl,rfl,rfl⟩:=H
          have m1:=ab.out
          have m2:=aa.out
          have rx:=ac.out
          have ry:=a9.out
          have rz:=af.out
          have s0:=ae.out
          obtain⟨k7,ka,kb,kc⟩:=qD2 ν.out
          obtain⟨lf,lg,o3⟩:=Kd.Q9 HO_242000.out
          subst o3
          have s1:=ev.out
          have s2:=eu.out
          have s3:=f7.out
          have s4:=ew.out
          obtain⟨p5,p7,p8,p9⟩:=qD2 δ.out
          go_wp2
          refine bodyPost_ret (Z5 rfl _ _ ag 50 #[.slice lf ι.length lg,.slice bk b5.length bf] (0,0) _ rfl (by refine Qm (cs:=#[.slice lf ι.length lg,.slice none 0 0]) ?_ 1 _ rfl;refine Qm (cs:=#[.slice none 0 0,.slice none 0 0]) ?_ 0 _ rfl;exact δ.out) Try.underlying50 rfl kr) rfl ?_
          exact⟨_,_,by first|rfl|(simp[Qh,Qg] <;> rfl)|(simp[*,Qh,Qg] <;> rfl),by(with_reducible repeat first|apply Kd.Qx|apply Kd.Qw|apply Kd.Q2);exact Kd.Q0 (Kd.Qv (Kd.Qv (Kd.Q7 HO_242000.out δ.out (by decide)) (fun _ hk=>hk.2) _) (fun _ hk=>hk.2) _) (fun _ hk=>trivial),by(with_reducible repeat first|apply Kd.Qx|apply Kd.Qw|apply Kd.Q2);exact Kd.Q0 (Kd.Qv (Kd.Qv (Kd.Q7 HO_242001.out δ.out (by decide)) (fun _ hk=>hk.2) _) (fun _ hk=>hk.2) _) (fun _ hk=>trivial),bel⟩
   ·rw[if_neg c8] at H
    exact absurd H (by simp)
  ·rw[if_neg c7] at H
   exact absurd H (by simp)
 ·rw[if_neg c6] at H
  have c6b0:(aj==0)=false:=beq_eq_false_iff_ne.mpr c6
  have c6b1:(aj != 0)=true:=bne_iff_ne.mpr c6
  simp only[Option.some.injEq,Prod.mk.injEq] at H
  obtain⟨rfl,rfl,rfl⟩:=H
  go_enter Try.func21,Try.ntmps21
  go_wp2_with (first|((with_reducible refine Qe (N:=4) rfl ?_);refine qE 4 #[.int .i64 B,.int .i64 J,.int .i64 L,.int .i64 Y,.int .i64 Z,.int .i64 ε,.int .i64 γ,.int .i64 θ,.int .i64 ζ,.int .i64 η] 25 ?_;intro a0 hg tm hbox hb;have X:=Aside0.mk hbox;have kk:=sGe hg;have je:=sGe hg;replace HB:=sHb hb;clear hb hbox hg)|((with_reducible refine Qe (N:=7) rfl ?_);refine qE 7 #[.slice a1 φ.length a5,.slice a6 τ.length a7] 50 ?_;intro μ hg tn hbox hb;have O:=Aside0.mk hbox;have nd:=sGe hg;have nq:=sGe hg;have fh:=sNl X hg;have fi:=sNg X hg;replace X:=sBk X hb;replace HB:=sHb hb;clear hb hbox hg)|((with_reducible refine Qe (N:=8) rfl ?_);refine qE 8 #[.slice none 0 0,.slice none 0 0] 50 ?_;intro ag hg tp hbox hb;have δ :=Aside0.mk hbox;have nr:=sGe hg;have ns:=sGe hg;have eu:=sNl X hg;have ev:=sNg X hg;have ew:=sNl O hg;have f7:=sNg O hg;replace X:=sBk X hb;replace O:=sBk O hb;replace HB:=sHb hb;clear hb hbox hg;have s5:=fh.out;have s6:=fi.out;have s7:=eu.out;have s8:=ev.out;obtain⟨pa,pb,pc,pd,pe,pf,pg,pi,pj,pk,pm,pn,po,pp,pq,pr,pt,pu,pv,pw⟩:=Q5 X.out;have s9:=ew.out;have sa:=f7.out;obtain⟨px,py,pz,q0⟩:=qD2 O.out)|((with_reducible refine Qd (f:=17) rfl ?_);refine Qn (some 19) rfl rfl Try.func17 kr rfl #[.agg #[.int .i64 B,.int .i64 J,.int .i64 L,.int .i64 Y,.int .i64 Z,.int .i64 ε,.int .i64 γ,.int .i64 θ,.int .i64 ζ,.int .i64 η],.slice A1 l1.length c1,.agg #[.slice a1 φ.length a5,.slice a6 τ.length a7]] rfl qM ?_;(with_reducible refine(group_Check.calls k B J L Y Z ε γ θ ζ η _ _ l1 _ _ φ _ _ τ aj _ ?side1 ?side2 ?side3 ?side4 ?side5 ?side6 A5.out).mono ?_);(case side1=>exact(Kd.Qp dk.out HB.out));(case side2=>exact dz.out);(case side3=>exact(Kd.Qp br.out HB.out));(case side4=>exact cn.out);(case side5=>exact(Kd.Qp ck.out HB.out));(case side6=>exact co.out);rintro e tq ⟨rfl,hb⟩;refine⟨_,rfl, ?_⟩;replace X:=sBk X hb;replace O:=sBk O hb;replace δ :=sBk δ hb;replace HB:=sHb hb;(try clear hb);(try clear a4);(try clear hk);(try clear hi);obtain⟨q1,q3,q5,q6⟩:=qD2 δ.out))
  refine bodyPost_ret (Z5 rfl _ _ ag 50 #[.slice none 0 0,.slice none 0 0] (0,0) _ rfl (by refine Qm (cs:=#[.slice none 0 0,.slice none 0 0]) ?_ 1 _ rfl;refine Qm (cs:=#[.slice none 0 0,.slice none 0 0]) ?_ 0 _ rfl;exact δ.out) Try.underlying50 rfl kr) rfl ?_
  exact⟨_,_,by first|rfl|(simp[Qh,Qg] <;> rfl)|(simp[*,Qh,Qg] <;> rfl),by first|exact Kd.Xw _ _ _ _ _|exact Kd.Yr _ _ _ _ _|exact Kd.Yn _ _ _ _ _|exact Kd.Yq _ _ _ _ _|exact Kd.Yo _ _ _ _ _,by first|exact Kd.Xw _ _ _ _ _|exact Kd.Yr _ _ _ _ _|exact Kd.Yn _ _ _ _ _|exact Kd.Yq _ _ _ _ _|exact Kd.Yo _ _ _ _ _,bel⟩
end Go.Proofs.Ytmfffemidlhcpaa.C
