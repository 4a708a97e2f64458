/- Texts of this claim, one behind the other: what the law's functions come to, walked (printed by a program, with the words that the print uses), and what that is, in plain Lean. No conditions of their own. -/
import Derived.Test.YtmfffemidlhcpaaQGroupBest7
import Derived.WalkMore
namespace Go.Proofs.Ytmfffemidlhcpaa.C
open Go.RowKit Go.Proofs.YtmfffemidlhcpaaW.PrintWords Go.Proofs.YtmfffemidlhcpaaW.PrintLast Go.Proofs.YtmfffemidlhcpaaW.PrintMore
attribute [local go_sem] Z3 Z1 Xg Xf Zt Zs Z2 Z0
set_option linter.unusedVariables false
set_option linter.unusedSimpArgs false
def group_pick.l0:Nat→Int→Int→Int→Int→Int→Int→Int→Int→Int→Int→Int→Int→Int→Int→List (S31)→List (S36)→List (S86)→Int→Int→Int→Option (Int)
 |0,_,_,_,_,_,_,_,_,_,_,_,_,_,_,_,_,_,_,_,_=>none
 |k+1,Y,Z,τ,B,J,O,X,γ,δ,ε,ζ,η,θ,ι,κ,μ,ν,ξ,ρ,σ=>if B < τ then (if 0≤B then (if (Go.bits .and .i64 (shr .i64 Y B) 1)=1 then (group_pick.l0 k Y Z τ (wrap64 (B+1)) J O X γ δ ε ζ η θ ι κ μ ν ξ ρ σ) else (if Z<0 then (group_pick.l0 k Y B τ (wrap64 (B+1)) J O X γ δ ε ζ η θ ι κ μ ν ξ ρ σ) else ((group_pick_1.f k B J O X γ δ ε ζ η θ ι κ μ ν ξ ρ σ).bind fun aj=>((group_pick_1.f k Z J O X γ δ ε ζ η θ ι κ μ ν ξ ρ σ).bind fun ψ =>(if aj < ψ then (group_pick.l0 k Y B τ (wrap64 (B+1)) J O X γ δ ε ζ η θ ι κ μ ν ξ ρ σ) else (group_pick.l0 k Y Z τ (wrap64 (B+1)) J O X γ δ ε ζ η θ ι κ μ ν ξ ρ σ)))))) else (none)) else (some Z)
def group_pick.f (k:Nat) (J:Int) (O:Int) (X:Int) (Y:Int) (Z:Int) (δ :Int) (γ:Int) (ι :Int) (θ :Int) (η :Int) (l1:List (S31)) (a2:Int) (φ :List (S36)) (ν :List (S86)) (a9:Int) (aa:Int) (ab:Int):Option (Int):=group_pick.l0 k a2 (-1) (l1.length:Int) 0 J O X Y Z δ γ ι θ η l1 φ ν a9 aa ab
theorem group_pick.Zp:∀ k,(∀ O X Z J Y y5 y6 y7 y8 y9 γ δ ζ η θ ι κ ε μ ν,LeO (group_pick.l0 k O X Z J Y y5 y6 y7 y8 y9 γ δ ζ η θ ι κ ε μ ν) (group_pick.l0 (k+1) O X Z J Y y5 y6 y7 y8 y9 γ δ ζ η θ ι κ ε μ ν))
 |0=>fun _ _ _ _ _ _ _ _ _ _ _ _ _ _ _ _ _ _ _ _ r h=>by simp[group_pick.l0] at h
 |k+1=>by
  have B:=group_pick.Zp k
  ·intro O X Z J Y y5 y6 y7 y8 y9 γ δ ζ η θ ι κ ε μ ν
   unfold group_pick.l0
   repeat' first
   |(with_reducible exact B _ _ _ _ _ _ _ _ _ _ _ _ _ _ _ _ _ _ _ _)
   |(with_reducible exact group_pick_1.mono _ _ _ _ _ _ _ _ _ _ _ _ _ _ _ _ _ _)
   |(with_reducible exact LeO.refl _)
   |(with_reducible exact LeO.none _)
   |(with_reducible refine LeO.ite ?_ ?_)
   |(with_reducible refine LeO.bind ?_ (fun _=>?_))
   |exact B _ _ _ _ _ _ _ _ _ _ _ _ _ _ _ _ _ _ _ _
   |exact group_pick_1.mono _ _ _ _ _ _ _ _ _ _ _ _ _ _ _ _ _ _
   |exact LeO.none _
   |refine LeO.ite ?_ ?_
   |refine LeO.bind ?_ (fun _=>?_)
theorem group_pick.mono:∀ J Y a2 a3 O a5 X a7 a8 a9 Z γ δ ζ ε η θ k,LeO (group_pick.f k J Y a2 a3 O a5 X a7 a8 a9 Z γ δ ζ ε η θ) (group_pick.f (k+1) J Y a2 a3 O a5 X a7 a8 a9 Z γ δ ζ ε η θ):=by
 intro J Y a2 a3 O a5 X a7 a8 a9 Z γ δ ζ ε η θ k
 have B:=group_pick.Zp k
 unfold group_pick.f
 repeat' first
   |(with_reducible exact B _ _ _ _ _ _ _ _ _ _ _ _ _ _ _ _ _ _ _ _)
   |(with_reducible exact group_pick_1.mono _ _ _ _ _ _ _ _ _ _ _ _ _ _ _ _ _ _)
   |(with_reducible exact LeO.refl _)
   |(with_reducible exact LeO.none _)
   |(with_reducible refine LeO.ite ?_ ?_)
   |(with_reducible refine LeO.bind ?_ (fun _=>?_))
   |exact B _ _ _ _ _ _ _ _ _ _ _ _ _ _ _ _ _ _ _ _
   |exact group_pick_1.mono _ _ _ _ _ _ _ _ _ _ _ _ _ _ _ _ _ _
   |exact LeO.none _
   |refine LeO.ite ?_ ?_
   |refine LeO.bind ?_ (fun _=>?_)
set_option maxHeartbeats 8000000 in
set_option maxRecDepth 100000 in
theorem group_pick.calls (k:Nat) (J:Int) (O:Int) (X:Int) (Y:Int) (Z:Int) (δ :Int) (γ:Int) (ι :Int) (θ :Int) (η :Int) (A1:Option Addr) (c1:Nat) (l1:List (S31)) (a2:Int) (a4:Option Addr) (a5:Nat) (φ :List (S36)) (a6:Option Addr) (a8:Nat) (ν :List (S86)) (a9:Int) (aa:Int) (ab:Int) (r:Int) (w:World) (dh:Kd.C k31 w A1 l1.length l1) (ck:l1.length≤c1) (cy:Kd.C k36 w a4 φ.length φ) (d9: φ.length≤a5) (da:Kd.C k86 w a6 ν.length ν) (df: ν.length≤a8) (h:group_pick.f k J O X Y Z δ γ ι θ η l1 a2 φ ν a9 aa ab=some r):
  Calls Try.prog 38 #[.agg #[.int .i64 J,.int .i64 O,.int .i64 X,.int .i64 Y,.int .i64 Z,.int .i64 δ,.int .i64 γ,.int .i64 ι,.int .i64 θ,.int .i64 η],.slice A1 l1.length c1,.int .i64 a2,.agg #[.slice a4 φ.length a5,.slice a6 ν.length a8],.agg #[.int .i64 a9,.int .i64 aa,.int .i64 ab]] w fun e w'=>e = .returned (.int .i64 r)∧Below w.heap.size w w':=by
 have e5:=Try.underlying25
 have ed:=Try.underlying50
 have e4:=Try.underlying36
 have d1:=Aside0.mk dh
 have dk:=Aside0.mk ck
 clear dh ck
 have bh:=Aside0.mk cy
 have bu:=Aside0.mk d9
 clear cy d9
 have br:=Aside0.mk da
 have bv:=Aside0.mk df
 clear da df
 have HB:=Aside0.mk (Below.refl w.heap.size w)
 have H:(group_pick.l0 k a2 (-1) (l1.length:Int) 0 J O X Y Z δ γ ι θ η l1 φ ν a9 aa ab)=some r:=h
 clear h
 have H':=Aside0.mk H
 clear H
 go_enter Try.func38,Try.ntmps38
 go_wp2_with (first|((with_reducible refine Qf (N:=5) rfl ?_);refine qE 5 #[.int .i64 J,.int .i64 O,.int .i64 X,.int .i64 Y,.int .i64 Z,.int .i64 δ,.int .i64 γ,.int .i64 ι,.int .i64 θ,.int .i64 η] 25 ?_;intro μ hg w6 hbox hb;have ε :=Aside0.mk hbox;have h0:=sGe hg;have h4:=sGe hg;replace HB:=sHb hb;clear hb hbox hg)|((with_reducible refine Qf (N:=6) rfl ?_);refine qE 6 #[.slice A1 l1.length c1] 46 ?_;intro ω hg w7 hbox hb;have B:=Aside0.mk hbox;have fh:=sGe hg;have fi:=sGe hg;have ak:=sNl ε hg;have am:=sNg ε hg;replace ε :=sBk ε hb;replace HB:=sHb hb;clear hb hbox hg)|((with_reducible refine Qf (N:=8) rfl ?_);refine qE 8 #[.slice a4 φ.length a5,.slice a6 ν.length a8] 50 ?_;intro a0 hg w8 hbox hb;have κ :=Aside0.mk hbox;have fk:=sGe hg;have fl:=sGe hg;have av:=sNl ε hg;have aw:=sNg ε hg;have an:=sNl B hg;have ao:=sNg B hg;replace ε :=sBk ε hb;replace B:=sBk B hb;replace HB:=sHb hb;clear hb hbox hg)|((with_reducible refine Qf (N:=9) rfl ?_);refine qE 9 #[.int .i64 a9,.int .i64 aa,.int .i64 ab] 36 ?_;intro a1 hg w9 hbox hb;have τ :=Aside0.mk hbox;have fm:=sGe hg;have fn:=sGe hg;have ax:=sNl ε hg;have ay:=sNg ε hg;have ap:=sNl B hg;have ar:=sNg B hg;have az:=sNl κ hg;have b3:=sNg κ hg;replace ε :=sBk ε hb;replace B:=sBk B hb;replace κ :=sBk κ hb;replace HB:=sHb hb;clear hb hbox hg;have jk:=am.out;have jl:=ak.out;have e9:=an.out;have ez:=ao.out;have gp:=ap.out;have gy:=ar.out;obtain⟨af,ai⟩:=qD1 B.out))
 go_step3
 go_wp2
 go_step3
 go_wp2
 go_loopg [12,17] k (fun kq r1 ff w'=>∃ (χ :Int) (ζ :Int),r1 = .int .i64 χ ∧ ff = .int .i64 ζ ∧ Aside0 (group_pick.l0 kq a2 χ (l1.length:Int) ζ J O X Y Z δ γ ι θ η l1 φ ν a9 aa ab=some r)∧Aside0 (kq≤k)∧Aside0 (w'.heap[μ]?=some (.cells #[.int .i64 J,.int .i64 O,.int .i64 X,.int .i64 Y,.int .i64 Z,.int .i64 δ,.int .i64 γ,.int .i64 ι,.int .i64 θ,.int .i64 η] 25 (0,0)))∧Aside0 (w'.heap[ω]?=some (.cells #[(.slice A1 l1.length c1)] 46 (0,0)))∧Aside0 (w'.heap[a0]?=some (.cells #[(.slice a4 φ.length a5),(.slice a6 ν.length a8)] 50 (0,0)))∧Aside0 (w'.heap[a1]?=some (.cells #[.int .i64 a9,.int .i64 aa,.int .i64 ab] 36 (0,0)))∧Aside0 (Below w.heap.size w w'))
 case atStart=>exact⟨((-1)),(0),rfl,rfl,H',⟨Nat.le_refl _⟩,ε,B,κ,τ,HB⟩
 case round=>
  clear H'
  try clear c1
  try clear p2
  try clear c3
  try clear c10
  try clear ag
  try clear ah
  try clear af
  try clear ai
  obtain⟨χ,ζ,rfl,rfl,HA,b0,ε,B,κ,τ,HB⟩:=hrel
  cases gk with
  |zero=>exact absurd HA.out (by simp[group_pick.l0])
  |succ k1=>
   have H:=HA.out
   clear HA
   simp only[group_pick.l0] at H
   by_cases bp: ζ < (l1.length:Int)
   ·rw[if_pos bp] at H
    have c14b0:decide (ζ < (l1.length:Int))=true:=decide_eq_true bp
    clear bp
    by_cases ci:0 ≤ ζ
    ·rw[if_pos ci] at H
     have c15b0:=eq_true ci
     have c15b1:decide (0 ≤ ζ)=true:=decide_eq_true ci
     clear ci
     obtain⟨au,b4⟩:∃ j_:Int,(shr .i64 a2 ζ)=j_:=⟨_,rfl⟩
     replace H:(if (Go.bits .and .i64 (au) 1)=1 then (group_pick.l0 k1 a2 χ (l1.length:Int) (wrap64 (ζ + 1)) J O X Y Z δ γ ι θ η l1 φ ν a9 aa ab) else (if χ < 0 then (group_pick.l0 k1 a2 ζ (l1.length:Int) (wrap64 (ζ + 1)) J O X Y Z δ γ ι θ η l1 φ ν a9 aa ab) else ((group_pick_1.f k1 ζ J O X Y Z δ γ ι θ η l1 φ ν a9 aa ab).bind fun aj=>((group_pick_1.f k1 χ J O X Y Z δ γ ι θ η l1 φ ν a9 aa ab).bind fun ψ =>(if aj < ψ then (group_pick.l0 k1 a2 ζ (l1.length:Int) (wrap64 (ζ + 1)) J O X Y Z δ γ ι θ η l1 φ ν a9 aa ab) else (group_pick.l0 k1 a2 χ (l1.length:Int) (wrap64 (ζ + 1)) J O X Y Z δ γ ι θ η l1 φ ν a9 aa ab))))))=some r:=by first|(rw[b4] at H;exact H)|(simp only[b4] at H ⊢;exact H)
     have fg:(a2 / 2 ^ min ζ.toNat 64)=au:=b4
     have hji16z: ζ ≤ 64→(a2 / 2 ^ ζ.toNat)=au:=Jw b4
     by_cases σ:(Go.bits .and .i64 (au) 1)=1
     ·rw[if_pos σ] at H
      have c17b0:((Go.bits .and .i64 (au) 1)==1)=true:=beq_iff_eq.mpr σ
      have c17b1:((Go.bits .and .i64 (au) 1) != 1)=false:=bne_eq_false_iff_eq.mpr σ
      clear σ
      have H':=Aside0.mk H
      clear H
      go_wp2
      go_roundg k1
      case measure=>have:=b0.out;omega
      case rel=>exact⟨(χ),(wrap64 (ζ + 1)),rfl,rfl,H',⟨by have:=b0.out;omega⟩,ε,B,κ,τ,HB⟩
     ·rw[if_neg σ] at H
      have c17b0:((Go.bits .and .i64 (au) 1)==1)=false:=beq_eq_false_iff_ne.mpr σ
      have c17b1:((Go.bits .and .i64 (au) 1) != 1)=true:=bne_iff_ne.mpr σ
      by_cases dp: χ < 0
      ·rw[if_pos dp] at H
       have c18b0:decide (χ < 0)=true:=decide_eq_true dp
       clear dp
       have H':=Aside0.mk H
       clear H
       go_wp2
       go_roundg k1
       case measure=>have:=b0.out;omega
       case rel=>exact⟨(ζ),(wrap64 (ζ + 1)),rfl,rfl,H',⟨by have:=b0.out;omega⟩,ε,B,κ,τ,HB⟩
      ·rw[if_neg dp] at H
       have c18b0:decide (χ < 0)=false:=decide_eq_false dp
       clear dp
       replace H:=Option.bind_eq_some_iff.mp H
       obtain⟨aj,b8,H⟩:=H
       replace H:((group_pick_1.f k1 χ J O X Y Z δ γ ι θ η l1 φ ν a9 aa ab).bind fun ψ =>(if aj < ψ then (group_pick.l0 k1 a2 ζ (l1.length:Int) (wrap64 (ζ + 1)) J O X Y Z δ γ ι θ η l1 φ ν a9 aa ab) else (group_pick.l0 k1 a2 χ (l1.length:Int) (wrap64 (ζ + 1)) J O X Y Z δ γ ι θ η l1 φ ν a9 aa ab)))=some r:=H
       have bj:=Aside0.mk b8
       clear b8
       replace H:=Option.bind_eq_some_iff.mp H
       obtain⟨ψ,kp,H⟩:=H
       replace H:(if aj < ψ then (group_pick.l0 k1 a2 ζ (l1.length:Int) (wrap64 (ζ + 1)) J O X Y Z δ γ ι θ η l1 φ ν a9 aa ab) else (group_pick.l0 k1 a2 χ (l1.length:Int) (wrap64 (ζ + 1)) J O X Y Z δ γ ι θ η l1 φ ν a9 aa ab))=some r:=H
       have jb:=Aside0.mk kp
       clear kp
       by_cases ae:aj < ψ
       ·rw[if_pos ae] at H
        have c21b0:decide (aj < ψ)=true:=decide_eq_true ae
        clear ae
        have H':=Aside0.mk H
        clear H
        have f8:=ak.out
        have fa:=am.out
        have dr:=av.out
        have dt:=aw.out
        have cg:=ax.out
        have ch:=ay.out
        obtain⟨db,dc,b1,b6,ec,f7,fq,dj,bc,bd,dd,de,b2,fr,ft,fu,fz,et,be,bf⟩:=Zn ε.out
        have bi:=an.out
        have bn:=ao.out
        have bq:=ap.out
        have cf:=ar.out
        obtain⟨du,dy⟩:=qD1 B.out
        have ms:=az.out
        have mt:=b3.out
        obtain⟨gq,gr,gs,gt⟩:=qD2 κ.out
        obtain⟨dw,dx,dz,e6,e7,e8⟩:=qD3 τ.out
        go_wp2_with (first|(go_at_call 58;(with_reducible refine(group_pick_1.calls k1 ζ J O X Y Z δ γ ι θ η _ _ l1 _ _ φ _ _ ν a9 aa ab aj _ ?side1 ?side2 ?side3 ?side4 ?side5 ?side6 bj.out μ ω a0 a1 ε.out B.out κ.out τ.out).mono ?_);(case side1=>exact(Kd.Qy d1.out HB.out));(case side2=>exact dk.out);(case side3=>exact(Kd.Qy bh.out HB.out));(case side4=>exact bu.out);(case side5=>exact(Kd.Qy br.out HB.out));(case side6=>exact bv.out);rintro e jd ⟨rfl,hb⟩;have ξ :=Aside0.mk (Qz (g:= μ) (o:=.cells #[.int .i64 J,.int .i64 O,.int .i64 X,.int .i64 Y,.int .i64 Z,.int .i64 δ,.int .i64 γ,.int .i64 ι,.int .i64 θ,.int .i64 η] 25 (0,0)) ε.out hb);have ρ:=Aside0.mk (Qz (g:= ω) (o:=.cells #[.slice A1 l1.length c1] 46 (0,0)) B.out hb);have a3:=Aside0.mk (Qz (g:=a0) (o:=.cells #[.slice a4 φ.length a5,.slice a6 ν.length a8] 50 (0,0)) κ.out hb);have a7:=Aside0.mk (Qz (g:=a1) (o:=.cells #[.int .i64 a9,.int .i64 aa,.int .i64 ab] 36 (0,0)) τ.out hb);have al:=Aside0.mk (Q0 HB.out hb);clear ε;clear B;clear κ;clear τ;clear HB;have ε := ξ;have B:=ρ;have κ :=a3;have τ :=a7;have HB:=al;clear ξ ρ a3 a7 al;(try clear hb);(try clear ac);(try clear hk);(try clear hi);obtain⟨bw,bz,dl,bm,cj,cm,gb,b7,b9,ba,ca,cb,dm,gg,gi,gj,gl,bb,bs,cn⟩:=Zn ε.out;obtain⟨gu,gv⟩:=qD1 B.out;obtain⟨ib,ic,ie,ig⟩:=qD2 κ.out;obtain⟨fv,fw,b5,fy,ga,bg⟩:=qD3 τ.out)|(go_at_call 58;(with_reducible refine(group_pick_1.calls k1 χ J O X Y Z δ γ ι θ η _ _ l1 _ _ φ _ _ ν a9 aa ab ψ _ ?side1 ?side2 ?side3 ?side4 ?side5 ?side6 jb.out μ ω a0 a1 ε.out B.out κ.out τ.out).mono ?_);(case side1=>exact(Kd.Qy d1.out HB.out));(case side2=>exact dk.out);(case side3=>exact(Kd.Qy bh.out HB.out));(case side4=>exact bu.out);(case side5=>exact(Kd.Qy br.out HB.out));(case side6=>exact bv.out);rintro e lw ⟨rfl,hb⟩;have ξ :=Aside0.mk (Qz (g:= μ) (o:=.cells #[.int .i64 J,.int .i64 O,.int .i64 X,.int .i64 Y,.int .i64 Z,.int .i64 δ,.int .i64 γ,.int .i64 ι,.int .i64 θ,.int .i64 η] 25 (0,0)) ε.out hb);have ρ:=Aside0.mk (Qz (g:= ω) (o:=.cells #[.slice A1 l1.length c1] 46 (0,0)) B.out hb);have a3:=Aside0.mk (Qz (g:=a0) (o:=.cells #[.slice a4 φ.length a5,.slice a6 ν.length a8] 50 (0,0)) κ.out hb);have a7:=Aside0.mk (Qz (g:=a1) (o:=.cells #[.int .i64 a9,.int .i64 aa,.int .i64 ab] 36 (0,0)) τ.out hb);have al:=Aside0.mk (Q0 HB.out hb);clear ε;clear B;clear κ;clear τ;clear HB;have ε := ξ;have B:=ρ;have κ :=a3;have τ :=a7;have HB:=al;clear ξ ρ a3 a7 al;(try clear hb);(try clear ac);(try clear hk);(try clear hi)))
        go_roundg k1
        case measure=>have:=b0.out;omega
        case rel=>exact⟨(ζ),(wrap64 (ζ + 1)),rfl,rfl,H',⟨by have:=b0.out;omega⟩,ε,B,κ,τ,HB⟩
       ·rw[if_neg ae] at H
        have c21b0:decide (aj < ψ)=false:=decide_eq_false ae
        clear ae
        have H':=Aside0.mk H
        clear H
        have h6:=ak.out
        have ha:=am.out
        have eh:=av.out
        have ei:=aw.out
        have gf:=ax.out
        have gh:=ay.out
        obtain⟨ea,eb,eo,h7,ho,hx,hy,bk,bl,bo,ep,er,fp,i2,i3,ih,ii,co,cp,cq⟩:=Zn ε.out
        have gn:=an.out
        have hh:=ao.out
        have cd:=ap.out
        have ce:=ar.out
        obtain⟨e0,e3⟩:=qD1 B.out
        have i4:=az.out
        have i5:=b3.out
        obtain⟨gm,gw,gx,gz⟩:=qD2 κ.out
        obtain⟨ct,ee,cr,ef,eu,cx⟩:=qD3 τ.out
        go_wp2_with (first|(go_at_call 58;(with_reducible refine(group_pick_1.calls k1 ζ J O X Y Z δ γ ι θ η _ _ l1 _ _ φ _ _ ν a9 aa ab aj _ ?side1 ?side2 ?side3 ?side4 ?side5 ?side6 bj.out μ ω a0 a1 ε.out B.out κ.out τ.out).mono ?_);(case side1=>exact(Kd.Qy d1.out HB.out));(case side2=>exact dk.out);(case side3=>exact(Kd.Qy bh.out HB.out));(case side4=>exact bu.out);(case side5=>exact(Kd.Qy br.out HB.out));(case side6=>exact bv.out);rintro e fo ⟨rfl,hb⟩;have ξ :=Aside0.mk (Qz (g:= μ) (o:=.cells #[.int .i64 J,.int .i64 O,.int .i64 X,.int .i64 Y,.int .i64 Z,.int .i64 δ,.int .i64 γ,.int .i64 ι,.int .i64 θ,.int .i64 η] 25 (0,0)) ε.out hb);have ρ:=Aside0.mk (Qz (g:= ω) (o:=.cells #[.slice A1 l1.length c1] 46 (0,0)) B.out hb);have a3:=Aside0.mk (Qz (g:=a0) (o:=.cells #[.slice a4 φ.length a5,.slice a6 ν.length a8] 50 (0,0)) κ.out hb);have a7:=Aside0.mk (Qz (g:=a1) (o:=.cells #[.int .i64 a9,.int .i64 aa,.int .i64 ab] 36 (0,0)) τ.out hb);have al:=Aside0.mk (Q0 HB.out hb);clear ε;clear B;clear κ;clear τ;clear HB;have ε := ξ;have B:=ρ;have κ :=a3;have τ :=a7;have HB:=al;clear ξ ρ a3 a7 al;(try clear hb);(try clear ac);(try clear hk);(try clear hi);obtain⟨d0,d2,d3,d4,d5,d6,d7,d8,di,dn,dq,dv,eg,ej,ek,el,em,en,ev,ew⟩:=Zn ε.out;obtain⟨ij,ik⟩:=qD1 B.out;obtain⟨ey,fb,fc,fe⟩:=qD2 κ.out;obtain⟨cu,cv,il,cw,cz,im⟩:=qD3 τ.out)|(go_at_call 58;(with_reducible refine(group_pick_1.calls k1 χ J O X Y Z δ γ ι θ η _ _ l1 _ _ φ _ _ ν a9 aa ab ψ _ ?side1 ?side2 ?side3 ?side4 ?side5 ?side6 jb.out μ ω a0 a1 ε.out B.out κ.out τ.out).mono ?_);(case side1=>exact(Kd.Qy d1.out HB.out));(case side2=>exact dk.out);(case side3=>exact(Kd.Qy bh.out HB.out));(case side4=>exact bu.out);(case side5=>exact(Kd.Qy br.out HB.out));(case side6=>exact bv.out);rintro e fj ⟨rfl,hb⟩;have ξ :=Aside0.mk (Qz (g:= μ) (o:=.cells #[.int .i64 J,.int .i64 O,.int .i64 X,.int .i64 Y,.int .i64 Z,.int .i64 δ,.int .i64 γ,.int .i64 ι,.int .i64 θ,.int .i64 η] 25 (0,0)) ε.out hb);have ρ:=Aside0.mk (Qz (g:= ω) (o:=.cells #[.slice A1 l1.length c1] 46 (0,0)) B.out hb);have a3:=Aside0.mk (Qz (g:=a0) (o:=.cells #[.slice a4 φ.length a5,.slice a6 ν.length a8] 50 (0,0)) κ.out hb);have a7:=Aside0.mk (Qz (g:=a1) (o:=.cells #[.int .i64 a9,.int .i64 aa,.int .i64 ab] 36 (0,0)) τ.out hb);have al:=Aside0.mk (Q0 HB.out hb);clear ε;clear B;clear κ;clear τ;clear HB;have ε := ξ;have B:=ρ;have κ :=a3;have τ :=a7;have HB:=al;clear ξ ρ a3 a7 al;(try clear hb);(try clear ac);(try clear hk);(try clear hi)))
        go_roundg k1
        case measure=>have:=b0.out;omega
        case rel=>exact⟨(χ),(wrap64 (ζ + 1)),rfl,rfl,H',⟨by have:=b0.out;omega⟩,ε,B,κ,τ,HB⟩
    ·rw[if_neg ci] at H
     exact absurd H (by simp)
   ·rw[if_neg bp] at H
    have c14b0:decide (ζ < (l1.length:Int))=false:=decide_eq_false bp
    clear bp
    obtain rfl:=Option.some.inj H
    go_wp2
    (try rw[Exit.noGoto_ret])
    go_ret
    exact⟨rfl,HB.out⟩
def group_Pick.f (k:Nat) (J:Int) (O:Int) (X:Int) (Y:Int) (Z:Int) (δ :Int) (γ:Int) (ι :Int) (θ :Int) (η :Int) (l1:List (S31)) (a2:Int) (φ :List (S36)) (ν :List (S86)) (a9:Int) (aa:Int) (ab:Int):Option (Int×Int):=(group_Check.f k J O X Y Z δ γ ι θ η l1 φ ν).bind fun μ =>(if μ = 0 then ((group_house.f J O X Y Z δ γ ι θ η l1).bind fun a0=>((group_hall.f k a0.1 a0.2 a9 aa ab).bind fun a3=>(if a3=true then ((group_pick.f k J O X Y Z δ γ ι θ η l1 a2 φ ν a9 aa ab).bind fun ξ =>(some (ξ,0))) else (some (0,210))))) else (some (0,μ)))
theorem group_Pick.mono:∀ J Y a2 a3 O a5 X a7 a8 a9 Z γ δ ζ ε η θ k,LeO (group_Pick.f k J Y a2 a3 O a5 X a7 a8 a9 Z γ δ ζ ε η θ) (group_Pick.f (k+1) J Y a2 a3 O a5 X a7 a8 a9 Z γ δ ζ ε η θ):=by
 intro J Y a2 a3 O a5 X a7 a8 a9 Z γ δ ζ ε η θ k
 unfold group_Pick.f
 repeat' first
   |(with_reducible exact group_Check.mono _ _ _ _ _ _ _ _ _ _ _ _ _ _)
   |(with_reducible exact group_hall.mono _ _ _ _ _ _)
   |(with_reducible exact group_pick.mono _ _ _ _ _ _ _ _ _ _ _ _ _ _ _ _ _ _)
   |(with_reducible exact LeO.refl _)
   |(with_reducible exact LeO.none _)
   |(with_reducible refine LeO.ite ?_ ?_)
   |(with_reducible refine LeO.bind ?_ (fun _=>?_))
   |exact group_Check.mono _ _ _ _ _ _ _ _ _ _ _ _ _ _
   |exact group_hall.mono _ _ _ _ _ _
   |exact group_pick.mono _ _ _ _ _ _ _ _ _ _ _ _ _ _ _ _ _ _
   |exact LeO.none _
   |refine LeO.ite ?_ ?_
   |refine LeO.bind ?_ (fun _=>?_)
set_option maxHeartbeats 8000000 in
set_option maxRecDepth 100000 in
theorem group_Pick.calls (k:Nat) (J:Int) (O:Int) (X:Int) (Y:Int) (Z:Int) (δ :Int) (γ:Int) (ι :Int) (θ :Int) (η :Int) (A1:Option Addr) (c1:Nat) (l1:List (S31)) (a2:Int) (a4:Option Addr) (a5:Nat) (φ :List (S36)) (a6:Option Addr) (a8:Nat) (ν :List (S86)) (a9:Int) (aa:Int) (ab:Int) (r1:Int) (r2:Int) (w:World) (dh:Kd.C k31 w A1 l1.length l1) (ck:l1.length≤c1) (cy:Kd.C k36 w a4 φ.length φ) (d9: φ.length≤a5) (da:Kd.C k86 w a6 ν.length ν) (df: ν.length≤a8) (h:group_Pick.f k J O X Y Z δ γ ι θ η l1 a2 φ ν a9 aa ab=some (r1,r2)):
  Calls Try.prog 14 #[.agg #[.int .i64 J,.int .i64 O,.int .i64 X,.int .i64 Y,.int .i64 Z,.int .i64 δ,.int .i64 γ,.int .i64 ι,.int .i64 θ,.int .i64 η],.slice A1 l1.length c1,.int .i64 a2,.agg #[.slice a4 φ.length a5,.slice a6 ν.length a8],.agg #[.int .i64 a9,.int .i64 aa,.int .i64 ab]] w fun e w'=>e = .returned (.tuple #[.int .i64 r1,.int .i64 r2])∧Below w.heap.size w w':=by
 have e5:=Try.underlying25
 have ed:=Try.underlying50
 have e4:=Try.underlying36
 have d1:=Aside0.mk dh
 have dk:=Aside0.mk ck
 clear dh ck
 have bh:=Aside0.mk cy
 have bu:=Aside0.mk d9
 clear cy d9
 have br:=Aside0.mk da
 have bv:=Aside0.mk df
 clear da df
 have HB:=Aside0.mk (Below.refl w.heap.size w)
 have H:((group_Check.f k J O X Y Z δ γ ι θ η l1 φ ν).bind fun μ =>(if μ = 0 then ((group_house.f J O X Y Z δ γ ι θ η l1).bind fun a0=>((group_hall.f k a0.1 a0.2 a9 aa ab).bind fun a3=>(if a3=true then ((group_pick.f k J O X Y Z δ γ ι θ η l1 a2 φ ν a9 aa ab).bind fun ξ =>(some (ξ,0))) else (some (0,210))))) else (some (0,μ))))=some (r1,r2):=h
 clear h
 replace H:=Option.bind_eq_some_iff.mp H
 obtain⟨μ,d0,H⟩:=H
 replace H:(if μ = 0 then ((group_house.f J O X Y Z δ γ ι θ η l1).bind fun a0=>((group_hall.f k a0.1 a0.2 a9 aa ab).bind fun a3=>(if a3=true then ((group_pick.f k J O X Y Z δ γ ι θ η l1 a2 φ ν a9 aa ab).bind fun ξ =>(some (ξ,0))) else (some (0,210))))) else (some (0,μ)))=some (r1,r2):=H
 have A6:=Aside0.mk d0
 clear d0
 by_cases c7: μ = 0
 ·rw[if_pos c7] at H
  have c7b0:(μ == 0)=true:=beq_iff_eq.mpr c7
  have c7b1:(μ != 0)=false:=bne_eq_false_iff_eq.mpr c7
  clear c7
  replace H:=Option.bind_eq_some_iff.mp H
  obtain⟨⟨a7,ae⟩,b8,H⟩:=H
  replace H:((group_hall.f k a7 ae a9 aa ab).bind fun a3=>(if a3=true then ((group_pick.f k J O X Y Z δ γ ι θ η l1 a2 φ ν a9 aa ab).bind fun ξ =>(some (ξ,0))) else (some (0,210))))=some (r1,r2):=H
  have A8:=Aside0.mk b8
  clear b8
  replace H:=Option.bind_eq_some_iff.mp H
  obtain⟨a3,bl,H⟩:=H
  replace H:(if a3=true then ((group_pick.f k J O X Y Z δ γ ι θ η l1 a2 φ ν a9 aa ab).bind fun ξ =>(some (ξ,0))) else (some (0,210)))=some (r1,r2):=H
  have A9:=Aside0.mk bl
  clear bl
  by_cases c10:a3=true
  ·subst c10
   have H1:((group_pick.f k J O X Y Z δ γ ι θ η l1 a2 φ ν a9 aa ab).bind fun ξ =>(some (ξ,0)))=some (r1,r2):=by rw[if_pos rfl] at H;exact H
   clear H
   have H:=H1
   clear H1
   replace H:=Option.bind_eq_some_iff.mp H
   obtain⟨ξ,bp,H⟩:=H
   replace H:(some (ξ,0))=some (r1,r2):=H
   have ep:=Aside0.mk bp
   clear bp
   simp only[Option.some.injEq,Prod.mk.injEq] at H
   obtain⟨rfl,rfl⟩:=H
   go_enter Try.func14,Try.ntmps14
   try go_wp2_with (first|((with_reducible refine Qf (N:=5) rfl ?_);refine qE 5 #[.int .i64 J,.int .i64 O,.int .i64 X,.int .i64 Y,.int .i64 Z,.int .i64 δ,.int .i64 γ,.int .i64 ι,.int .i64 θ,.int .i64 η] 25 ?_;intro κ hg fy hbox hb;have B:=Aside0.mk hbox;have ag:=sGe hg;have ah:=sGe hg;replace HB:=sHb hb;clear hb hbox hg)|((with_reducible refine Qf (N:=8) rfl ?_);refine qE 8 #[.slice a4 φ.length a5,.slice a6 ν.length a8] 50 ?_;intro ai hg fx hbox hb;have ζ :=Aside0.mk hbox;have ao:=sGe hg;have ap:=sGe hg;have ρ:=sNl B hg;have σ:=sNg B hg;replace B:=sBk B hb;replace HB:=sHb hb;clear hb hbox hg)|((with_reducible refine Qf (N:=9) rfl ?_);refine qE 9 #[.int .i64 a9,.int .i64 aa,.int .i64 ab] 36 ?_;intro a1 hg ec hbox hb;have ε :=Aside0.mk hbox;have ay:=sGe hg;have az:=sGe hg;have τ :=sNl B hg;have χ :=sNg B hg;have ψ :=sNl ζ hg;have ω :=sNg ζ hg;replace B:=sBk B hb;replace ζ :=sBk ζ hb;replace HB:=sHb hb;clear hb hbox hg;have gq:=ρ.out;have gr:=σ.out;have dn:= τ.out;have dv:= χ.out;obtain⟨b1,b2,b6,al,ax,b5,bi,bo,cf,cg,b3,b4,bn,ch,ci,dw,dx,dz,e6,e7⟩:=Zn B.out;have d6:= ψ.out;have dq:= ω.out;obtain⟨aj,ak,am,an⟩:=qD2 ζ.out)|((with_reducible refine Qo (f:=17) rfl ?_);refine Q6 (some 16) rfl rfl Try.func17 kr rfl #[.agg #[.int .i64 J,.int .i64 O,.int .i64 X,.int .i64 Y,.int .i64 Z,.int .i64 δ,.int .i64 γ,.int .i64 ι,.int .i64 θ,.int .i64 η],.slice A1 l1.length c1,.agg #[.slice a4 φ.length a5,.slice a6 ν.length a8]] rfl qM ?_;(with_reducible refine(group_Check.calls k J O X Y Z δ γ ι θ η _ _ l1 _ _ φ _ _ ν μ _ ?side1 ?side2 ?side3 ?side4 ?side5 ?side6 A6.out).mono ?_);(case side1=>exact(Kd.Qy d1.out HB.out));(case side2=>exact dk.out);(case side3=>exact(Kd.Qy bh.out HB.out));(case side4=>exact bu.out);(case side5=>exact(Kd.Qy br.out HB.out));(case side6=>exact bv.out);rintro e dj ⟨rfl,hb⟩;refine⟨_,rfl, ?_⟩;replace B:=sBk B hb;replace ζ :=sBk ζ hb;replace ε :=sBk ε hb;replace HB:=sHb hb;(try clear hb);(try clear ac);(try clear hk);(try clear hi)))
   replace B:=Aside0.mk (Qe B.out)
   replace ζ :=Aside0.mk (Qe ζ.out)
   replace ε :=Aside0.mk (Qe ε.out)
   replace HB:=Aside0.mk (Qg HB.out)
   refine Zi (n:=6) (S:=fun w'=>w'.cell? ⟨κ,0,none⟩=some (.int .i64 J)∧w'.cell? ⟨κ,1,none⟩=some (.int .i64 O)∧w'.cell? ⟨κ,2,none⟩=some (.int .i64 X)∧w'.cell? ⟨κ,3,none⟩=some (.int .i64 Y)∧w'.cell? ⟨κ,4,none⟩=some (.int .i64 Z)∧w'.cell? ⟨κ,5,none⟩=some (.int .i64 δ)∧w'.cell? ⟨κ,6,none⟩=some (.int .i64 γ)∧w'.cell? ⟨κ,7,none⟩=some (.int .i64 ι)∧w'.cell? ⟨κ,8,none⟩=some (.int .i64 θ)∧w'.cell? ⟨κ,9,none⟩=some (.int .i64 η)∧w'.cell? ⟨a1,0,none⟩=some (.int .i64 a9)∧w'.cell? ⟨a1,1,none⟩=some (.int .i64 aa)∧w'.cell? ⟨a1,2,none⟩=some (.int .i64 ab)) (ds:=[]) #[false,false,false,false,false,false] kr rfl rfl ⟨(Qa B.out 0).trans rfl,(Qa B.out 1).trans rfl,(Qa B.out 2).trans rfl,(Qa B.out 3).trans rfl,(Qa B.out 4).trans rfl,(Qa B.out 5).trans rfl,(Qa B.out 6).trans rfl,(Qa B.out 7).trans rfl,(Qa B.out 8).trans rfl,(Qa B.out 9).trans rfl,(Qa ε.out 0).trans rfl,(Qa ε.out 1).trans rfl,(Qa ε.out 2).trans rfl⟩ (fun hHeld=>?_)
   generalize dj.drew=cz at B ζ ε HB hHeld ⊢
   refine X4 (i:=1) (N:=some 21) (v:=?_) (a':=?_) (bN 6 2) rfl rfl kr (fun _ _ _ h=>h) (Or.inl ⟨by rfl, ?_⟩) ?_ ?_
   rotate_left
   ·intro w'
    go_simp
    with_reducible rfl
   rotate_left
   ·simp only[Act.put,qS,Zg,Zl]
    rfl
   refine Jm (i:=0) (N:=some 20) (v:=?_) (a':=?_) (bN 6 3) rfl rfl kr (fun _ _ _ h=>h) (Or.inl ⟨by rfl, ?_⟩) hHeld ?_ ?_
   rotate_left
   ·rintro w' ⟨s0,s1,s2,s3,s4,s5,s6,s7,s8,s9,bq,cu,af⟩
    go_simp
    with_reducible rfl
   rotate_left
   ·simp only[Act.put,qS,Zg,Zl]
    rfl
   refine Jm (i:=3) (N:=some 23) (v:=?_) (a':=?_) (bN 6 11) rfl rfl kr (fun _ _ _ h=>h) (Or.inl ⟨by rfl, ?_⟩) hHeld ?_ ?_
   rotate_left
   ·rintro w' ⟨s0,s1,s2,s3,s4,s5,s6,s7,s8,s9,bq,cu,af⟩
    go_simp
    with_reducible rfl
   rotate_left
   ·simp only[Act.put,qS,Zg,Zl]
    rfl
   refine Zb (i:=2) (N:=some 22) (bN 6 15) rfl rfl kr (by decide) (fun K hK=>?_)
   refine Za Try.func37 kr rfl #[.agg #[.int .i64 J,.int .i64 O,.int .i64 X,.int .i64 Y,.int .i64 Z,.int .i64 δ,.int .i64 γ,.int .i64 ι,.int .i64 θ,.int .i64 η],.slice A1 l1.length c1] (by rfl) rfl rfl qM ?_
   with_reducible refine(group_house.calls J O X Y Z δ γ ι θ η _ _ l1 a7 ae _ ?side1 ?side2 A8.out).mono ?_
   (case side1=>exact(Kd.Qy d1.out HB.out))
   (case side2=>exact dk.out)
   rintro e bf ⟨rfl,hb⟩
   refine⟨_,rfl, ?_⟩
   replace B:=sBk B hb
   replace ζ :=sBk ζ hb
   replace ε :=sBk ε hb
   replace HB:=sHb hb
   (try clear hb)
   (try clear ac)
   (try clear hk)
   (try clear hi)
   refine hK.out _ _ ⟨qc B,qc B,qc B,qc B,qc B,qc B,qc B,qc B,qc B,qc B,qc ε,qc ε,qc ε⟩ (fun hHeld=>?_)
   clear hK K
   refine qN (some 22) ?_
   refine Zb (i:=4) (N:=some 24) (bN 6 31) rfl rfl kr (by decide) (fun K hK=>?_)
   refine Za Try.func30 kr rfl #[.agg #[.int .i64 a7,.int .i64 ae],.agg #[.int .i64 a9,.int .i64 aa,.int .i64 ab]] (by rfl) rfl rfl qM ?_
   with_reducible refine(group_hall.calls k a7 ae a9 aa ab true _ A9.out).mono ?_
   rintro e bd ⟨rfl,hb⟩
   refine⟨_,rfl, ?_⟩
   replace B:=sBk B hb
   replace ζ :=sBk ζ hb
   replace ε :=sBk ε hb
   replace HB:=sHb hb
   (try clear hb)
   (try clear ac)
   (try clear hk)
   (try clear hi)
   refine hK.out _ _ ⟨qc B,qc B,qc B,qc B,qc B,qc B,qc B,qc B,qc B,qc B,qc ε,qc ε,qc ε⟩ (fun hHeld=>?_)
   clear hK K
   refine qN (some 24) ?_
   refine X4 (i:=5) (N:=some 25) (v:=?_) (a':=?_) (bN 6 63) rfl rfl kr (fun _ _ _ h=>h) (Or.inl ⟨by rfl, ?_⟩) ?_ ?_
   rotate_left
   ·intro w'
    go_simp
    with_reducible rfl
   rotate_left
   ·simp only[Act.put,qS,Zg,Zl]
    rfl
   refine Zx kr ?_
   obtain⟨ar,au,bj,eb,eg,eh,ei,ej,ek,el,av,aw,bk,em,en,fh,fi,fj,fk,fl⟩:=Zn B.out
   obtain⟨db,dc,dd,de⟩:=qD2 ζ.out
   obtain⟨co,cp,di,cr,cx,e9⟩:=qD3 ε.out
   try go_wp2_with (first|((with_reducible refine Qo (f:=38) rfl ?_);refine Q6 (some 31) rfl rfl Try.func38 kr rfl #[.agg #[.int .i64 J,.int .i64 O,.int .i64 X,.int .i64 Y,.int .i64 Z,.int .i64 δ,.int .i64 γ,.int .i64 ι,.int .i64 θ,.int .i64 η],.slice A1 l1.length c1,.int .i64 a2,.agg #[.slice a4 φ.length a5,.slice a6 ν.length a8],.agg #[.int .i64 a9,.int .i64 aa,.int .i64 ab]] rfl qM ?_;(with_reducible refine(group_pick.calls k J O X Y Z δ γ ι θ η _ _ l1 a2 _ _ φ _ _ ν a9 aa ab ξ _ ?side1 ?side2 ?side3 ?side4 ?side5 ?side6 ep.out).mono ?_);(case side1=>exact(Kd.Qy d1.out HB.out));(case side2=>exact dk.out);(case side3=>exact(Kd.Qy bh.out HB.out));(case side4=>exact bu.out);(case side5=>exact(Kd.Qy br.out HB.out));(case side6=>exact bv.out);rintro e d8 ⟨rfl,hb⟩;refine⟨_,rfl, ?_⟩;replace B:=sBk B hb;replace ζ :=sBk ζ hb;replace ε :=sBk ε hb;replace HB:=sHb hb;(try clear hb);(try clear ac);(try clear hk);(try clear hi)))
   go_ret2
   exact⟨rfl,HB.out⟩
  ·replace c10:=Bool.eq_false_iff.mpr c10
   subst c10
   have H1:(some (0,210))=some (r1,r2):=by rw[if_neg (show ¬ (false=true) by decide)] at H;exact H
   clear H
   have H:=H1
   clear H1
   simp only[Option.some.injEq,Prod.mk.injEq] at H
   obtain⟨rfl,rfl⟩:=H
   go_enter Try.func14,Try.ntmps14
   try go_wp2_with (first|((with_reducible refine Qf (N:=5) rfl ?_);refine qE 5 #[.int .i64 J,.int .i64 O,.int .i64 X,.int .i64 Y,.int .i64 Z,.int .i64 δ,.int .i64 γ,.int .i64 ι,.int .i64 θ,.int .i64 η] 25 ?_;intro κ hg dy hbox hb;have B:=Aside0.mk hbox;have ag:=sGe hg;have ah:=sGe hg;replace HB:=sHb hb;clear hb hbox hg)|((with_reducible refine Qf (N:=8) rfl ?_);refine qE 8 #[.slice a4 φ.length a5,.slice a6 ν.length a8] 50 ?_;intro ai hg e8 hbox hb;have ζ :=Aside0.mk hbox;have ao:=sGe hg;have ap:=sGe hg;have ρ:=sNl B hg;have σ:=sNg B hg;replace B:=sBk B hb;replace HB:=sHb hb;clear hb hbox hg)|((with_reducible refine Qf (N:=9) rfl ?_);refine qE 9 #[.int .i64 a9,.int .i64 aa,.int .i64 ab] 36 ?_;intro a1 hg eo hbox hb;have ε :=Aside0.mk hbox;have ay:=sGe hg;have az:=sGe hg;have τ :=sNl B hg;have χ :=sNg B hg;have ψ :=sNl ζ hg;have ω :=sNg ζ hg;replace B:=sBk B hb;replace ζ :=sBk ζ hb;replace HB:=sHb hb;clear hb hbox hg;have fm:=ρ.out;have fn:=σ.out;have jn:= τ.out;have jo:= χ.out;obtain⟨bw,bz,dl,bm,cj,cm,gb,b7,b9,ba,ca,cb,dm,gg,gi,gj,gl,bb,bs,cn⟩:=Zn B.out;have lr:= ψ.out;have ls:= ω.out;obtain⟨ib,ic,ie,ig⟩:=qD2 ζ.out)|((with_reducible refine Qo (f:=17) rfl ?_);refine Q6 (some 16) rfl rfl Try.func17 kr rfl #[.agg #[.int .i64 J,.int .i64 O,.int .i64 X,.int .i64 Y,.int .i64 Z,.int .i64 δ,.int .i64 γ,.int .i64 ι,.int .i64 θ,.int .i64 η],.slice A1 l1.length c1,.agg #[.slice a4 φ.length a5,.slice a6 ν.length a8]] rfl qM ?_;(with_reducible refine(group_Check.calls k J O X Y Z δ γ ι θ η _ _ l1 _ _ φ _ _ ν μ _ ?side1 ?side2 ?side3 ?side4 ?side5 ?side6 A6.out).mono ?_);(case side1=>exact(Kd.Qy d1.out HB.out));(case side2=>exact dk.out);(case side3=>exact(Kd.Qy bh.out HB.out));(case side4=>exact bu.out);(case side5=>exact(Kd.Qy br.out HB.out));(case side6=>exact bv.out);rintro e ln ⟨rfl,hb⟩;refine⟨_,rfl, ?_⟩;replace B:=sBk B hb;replace ζ :=sBk ζ hb;replace ε :=sBk ε hb;replace HB:=sHb hb;(try clear hb);(try clear ac);(try clear hk);(try clear hi)))
   replace B:=Aside0.mk (Qe B.out)
   replace ζ :=Aside0.mk (Qe ζ.out)
   replace ε :=Aside0.mk (Qe ε.out)
   replace HB:=Aside0.mk (Qg HB.out)
   refine Zi (n:=6) (S:=fun w'=>w'.cell? ⟨κ,0,none⟩=some (.int .i64 J)∧w'.cell? ⟨κ,1,none⟩=some (.int .i64 O)∧w'.cell? ⟨κ,2,none⟩=some (.int .i64 X)∧w'.cell? ⟨κ,3,none⟩=some (.int .i64 Y)∧w'.cell? ⟨κ,4,none⟩=some (.int .i64 Z)∧w'.cell? ⟨κ,5,none⟩=some (.int .i64 δ)∧w'.cell? ⟨κ,6,none⟩=some (.int .i64 γ)∧w'.cell? ⟨κ,7,none⟩=some (.int .i64 ι)∧w'.cell? ⟨κ,8,none⟩=some (.int .i64 θ)∧w'.cell? ⟨κ,9,none⟩=some (.int .i64 η)∧w'.cell? ⟨a1,0,none⟩=some (.int .i64 a9)∧w'.cell? ⟨a1,1,none⟩=some (.int .i64 aa)∧w'.cell? ⟨a1,2,none⟩=some (.int .i64 ab)) (ds:=[]) #[false,false,false,false,false,false] kr rfl rfl ⟨(Qa B.out 0).trans rfl,(Qa B.out 1).trans rfl,(Qa B.out 2).trans rfl,(Qa B.out 3).trans rfl,(Qa B.out 4).trans rfl,(Qa B.out 5).trans rfl,(Qa B.out 6).trans rfl,(Qa B.out 7).trans rfl,(Qa B.out 8).trans rfl,(Qa B.out 9).trans rfl,(Qa ε.out 0).trans rfl,(Qa ε.out 1).trans rfl,(Qa ε.out 2).trans rfl⟩ (fun hHeld=>?_)
   generalize ln.drew=lw at B ζ ε HB hHeld ⊢
   refine X4 (i:=1) (N:=some 21) (v:=?_) (a':=?_) (bN 6 2) rfl rfl kr (fun _ _ _ h=>h) (Or.inl ⟨by rfl, ?_⟩) ?_ ?_
   rotate_left
   ·intro w'
    go_simp
    with_reducible rfl
   rotate_left
   ·simp only[Act.put,qS,Zg,Zl]
    rfl
   refine Jm (i:=0) (N:=some 20) (v:=?_) (a':=?_) (bN 6 3) rfl rfl kr (fun _ _ _ h=>h) (Or.inl ⟨by rfl, ?_⟩) hHeld ?_ ?_
   rotate_left
   ·rintro w' ⟨s0,s1,s2,s3,s4,s5,s6,s7,s8,s9,bq,cu,af⟩
    go_simp
    with_reducible rfl
   rotate_left
   ·simp only[Act.put,qS,Zg,Zl]
    rfl
   refine Jm (i:=3) (N:=some 23) (v:=?_) (a':=?_) (bN 6 11) rfl rfl kr (fun _ _ _ h=>h) (Or.inl ⟨by rfl, ?_⟩) hHeld ?_ ?_
   rotate_left
   ·rintro w' ⟨s0,s1,s2,s3,s4,s5,s6,s7,s8,s9,bq,cu,af⟩
    go_simp
    with_reducible rfl
   rotate_left
   ·simp only[Act.put,qS,Zg,Zl]
    rfl
   refine Zb (i:=2) (N:=some 22) (bN 6 15) rfl rfl kr (by decide) (fun K hK=>?_)
   refine Za Try.func37 kr rfl #[.agg #[.int .i64 J,.int .i64 O,.int .i64 X,.int .i64 Y,.int .i64 Z,.int .i64 δ,.int .i64 γ,.int .i64 ι,.int .i64 θ,.int .i64 η],.slice A1 l1.length c1] (by rfl) rfl rfl qM ?_
   with_reducible refine(group_house.calls J O X Y Z δ γ ι θ η _ _ l1 a7 ae _ ?side1 ?side2 A8.out).mono ?_
   (case side1=>exact(Kd.Qy d1.out HB.out))
   (case side2=>exact dk.out)
   rintro e nn ⟨rfl,hb⟩
   refine⟨_,rfl, ?_⟩
   replace B:=sBk B hb
   replace ζ :=sBk ζ hb
   replace ε :=sBk ε hb
   replace HB:=sHb hb
   (try clear hb)
   (try clear ac)
   (try clear hk)
   (try clear hi)
   refine hK.out _ _ ⟨qc B,qc B,qc B,qc B,qc B,qc B,qc B,qc B,qc B,qc B,qc ε,qc ε,qc ε⟩ (fun hHeld=>?_)
   clear hK K
   refine qN (some 22) ?_
   refine Zb (i:=4) (N:=some 24) (bN 6 31) rfl rfl kr (by decide) (fun K hK=>?_)
   refine Za Try.func30 kr rfl #[.agg #[.int .i64 a7,.int .i64 ae],.agg #[.int .i64 a9,.int .i64 aa,.int .i64 ab]] (by rfl) rfl rfl qM ?_
   with_reducible refine(group_hall.calls k a7 ae a9 aa ab false _ A9.out).mono ?_
   rintro e np ⟨rfl,hb⟩
   refine⟨_,rfl, ?_⟩
   replace B:=sBk B hb
   replace ζ :=sBk ζ hb
   replace ε :=sBk ε hb
   replace HB:=sHb hb
   (try clear hb)
   (try clear ac)
   (try clear hk)
   (try clear hi)
   refine hK.out _ _ ⟨qc B,qc B,qc B,qc B,qc B,qc B,qc B,qc B,qc B,qc B,qc ε,qc ε,qc ε⟩ (fun hHeld=>?_)
   clear hK K
   refine qN (some 24) ?_
   refine X4 (i:=5) (N:=some 25) (v:=?_) (a':=?_) (bN 6 63) rfl rfl kr (fun _ _ _ h=>h) (Or.inl ⟨by rfl, ?_⟩) ?_ ?_
   rotate_left
   ·intro w'
    go_simp
    with_reducible rfl
   rotate_left
   ·simp only[Act.put,qS,Zg,Zl]
    rfl
   refine Zx kr ?_
   try go_wp2
   go_ret2
   exact⟨rfl,HB.out⟩
 ·rw[if_neg c7] at H
  have c7b0:(μ == 0)=false:=beq_eq_false_iff_ne.mpr c7
  have c7b1:(μ != 0)=true:=bne_iff_ne.mpr c7
  simp only[Option.some.injEq,Prod.mk.injEq] at H
  obtain⟨rfl,rfl⟩:=H
  go_enter Try.func14,Try.ntmps14
  go_wp2_with (first|((with_reducible refine Qf (N:=5) rfl ?_);refine qE 5 #[.int .i64 J,.int .i64 O,.int .i64 X,.int .i64 Y,.int .i64 Z,.int .i64 δ,.int .i64 γ,.int .i64 ι,.int .i64 θ,.int .i64 η] 25 ?_;intro κ hg ku hbox hb;have B:=Aside0.mk hbox;have ag:=sGe hg;have ah:=sGe hg;replace HB:=sHb hb;clear hb hbox hg)|((with_reducible refine Qf (N:=8) rfl ?_);refine qE 8 #[.slice a4 φ.length a5,.slice a6 ν.length a8] 50 ?_;intro ai hg y7 hbox hb;have ζ :=Aside0.mk hbox;have ao:=sGe hg;have ap:=sGe hg;have ρ:=sNl B hg;have σ:=sNg B hg;replace B:=sBk B hb;replace HB:=sHb hb;clear hb hbox hg)|((with_reducible refine Qf (N:=9) rfl ?_);refine qE 9 #[.int .i64 a9,.int .i64 aa,.int .i64 ab] 36 ?_;intro a1 hg nk hbox hb;have ε :=Aside0.mk hbox;have ay:=sGe hg;have az:=sGe hg;have τ :=sNl B hg;have χ :=sNg B hg;have ψ :=sNl ζ hg;have ω :=sNg ζ hg;replace B:=sBk B hb;replace ζ :=sBk ζ hb;replace HB:=sHb hb;clear hb hbox hg;have cd:=ρ.out;have ce:=σ.out;have h8:= τ.out;have h9:= χ.out;obtain⟨dp,fv,i4,i5,ij,ik,il,cq,d2,d3,fw,ga,im,io,ip,iq,ir,d4,d5,d7⟩:=Zn B.out;have jq:= ψ.out;have jr:= ω.out;obtain⟨ct,ee,ef,eu⟩:=qD2 ζ.out)|((with_reducible refine Qo (f:=17) rfl ?_);refine Q6 (some 16) rfl rfl Try.func17 kr rfl #[.agg #[.int .i64 J,.int .i64 O,.int .i64 X,.int .i64 Y,.int .i64 Z,.int .i64 δ,.int .i64 γ,.int .i64 ι,.int .i64 θ,.int .i64 η],.slice A1 l1.length c1,.agg #[.slice a4 φ.length a5,.slice a6 ν.length a8]] rfl qM ?_;(with_reducible refine(group_Check.calls k J O X Y Z δ γ ι θ η _ _ l1 _ _ φ _ _ ν μ _ ?side1 ?side2 ?side3 ?side4 ?side5 ?side6 A6.out).mono ?_);(case side1=>exact(Kd.Qy d1.out HB.out));(case side2=>exact dk.out);(case side3=>exact(Kd.Qy bh.out HB.out));(case side4=>exact bu.out);(case side5=>exact(Kd.Qy br.out HB.out));(case side6=>exact bv.out);rintro e fo ⟨rfl,hb⟩;refine⟨_,rfl, ?_⟩;replace B:=sBk B hb;replace ζ :=sBk ζ hb;replace ε :=sBk ε hb;replace HB:=sHb hb;(try clear hb);(try clear ac);(try clear hk);(try clear hi)))
  go_ret2
  exact⟨rfl,HB.out⟩
mutual
def group_Spread.l0:Nat→List (S31)→Int→Int→Int→Int→Int→Int→Int→Int→Int→Int→Int→Int→Int→List (S36)→List (S86)→Option ((List (S36))×(List (S86))×Int)
 |0,_,_,_,_,_,_,_,_,_,_,_,_,_,_,_,_=>none
 |k+1,J,Y,ν,μ,X,Z,γ,δ,ε,ζ,η,θ,ι,κ,B,O=>if μ < ν then (if 0 ≤ μ then (if μ < (B.length:Int) then (if ((Qd B μ).f2)≥0 then (if 0≤((Qd B μ).f2) then (if (Go.bits .and .i64 (shr .i64 Y ((Qd B μ).f2)) 1)=1 then (group_Spread.l0 k J Y ν (wrap64 (μ + 1)) X Z γ δ ε ζ η θ ι κ (B.set (μ :Int).toNat (⟨(Qd B μ).f0,(Qd B μ).f1,(-1)⟩:S36)) O) else (group_Spread.l0 k J Y ν (wrap64 (μ + 1)) X Z γ δ ε ζ η θ ι κ B O)) else (none)) else (group_Spread.l0 k J Y ν (wrap64 (μ + 1)) X Z γ δ ε ζ η θ ι κ B O)) else (none)) else (none)) else (group_Spread.l1 k J Y (B.length:Int) 0 X Z γ δ ε ζ η θ ι κ B O)
def group_Spread.l1:Nat→List (S31)→Int→Int→Int→Int→Int→Int→Int→Int→Int→Int→Int→Int→Int→List (S36)→List (S86)→Option ((List (S36))×(List (S86))×Int)
 |0,_,_,_,_,_,_,_,_,_,_,_,_,_,_,_,_=>none
 |k+1,J,Y,ν,μ,X,Z,γ,δ,ε,ζ,η,θ,ι,κ,B,O=>if μ < ν then (if 0 ≤ μ then (if μ < (B.length:Int) then (if ((Qd B μ).f2)<0 then ((group_pick.f k X Z γ δ ε ζ η θ ι κ J Y B O ((Qd B μ).f0) ((Qd B μ).f1) ((Qd B μ).f2)).bind fun cd=>(group_Spread.l1 k J Y ν (wrap64 (μ + 1)) X Z γ δ ε ζ η θ ι κ (B.set (μ :Int).toNat (⟨(Qd B μ).f0,(Qd B μ).f1,cd⟩:S36)) O)) else (group_Spread.l1 k J Y ν (wrap64 (μ + 1)) X Z γ δ ε ζ η θ ι κ B O)) else (none)) else (none)) else (some (B,O,0))
end
def group_Spread.f (k:Nat) (J:Int) (O:Int) (X:Int) (Y:Int) (Z:Int) (δ :Int) (γ:Int) (ι :Int) (θ :Int) (η :Int) (l1:List (S31)) (a2:Int) (φ :List (S36)) (ν :List (S86)):Option ((List (S36))×(List (S86))×Int):=(group_Check.f k J O X Y Z δ γ ι θ η l1 φ ν).bind fun ar=>(if ar=0 then ((some (([]:List (S36)):List (S36))).bind fun bo=>(if bo.length + φ.length<5864062014805 then ((some (bo ++ φ :List (S36))).bind fun b3=>((some (([]:List (S86)):List (S86))).bind fun ba=>(if ba.length + ν.length<8796093022208 then (group_Spread.l0 k l1 a2 (b3.length:Int) 0 J O X Y Z δ γ ι θ η b3 (ba ++ ν)) else (none)))) else (none))) else (some (([]:List (S36)),([]:List (S86)),ar)))
theorem group_Spread.Zp:∀ k,(∀ O X Z J Y y5 y6 y7 y8 y9 γ δ ζ η θ ι,LeO (group_Spread.l0 k O X Z J Y y5 y6 y7 y8 y9 γ δ ζ η θ ι) (group_Spread.l0 (k+1) O X Z J Y y5 y6 y7 y8 y9 γ δ ζ η θ ι))∧(∀ O X Z J Y y5 y6 y7 y8 y9 γ δ ζ η θ ι,LeO (group_Spread.l1 k O X Z J Y y5 y6 y7 y8 y9 γ δ ζ η θ ι) (group_Spread.l1 (k+1) O X Z J Y y5 y6 y7 y8 y9 γ δ ζ η θ ι))
 |0=>⟨fun _ _ _ _ _ _ _ _ _ _ _ _ _ _ _ _ r h=>by simp[group_Spread.l0] at h,fun _ _ _ _ _ _ _ _ _ _ _ _ _ _ _ _ r h=>by simp[group_Spread.l1] at h⟩
 |k+1=>by
  obtain⟨B,ε⟩:=group_Spread.Zp k
  refine⟨?_, ?_⟩
  ·intro O X Z J Y y5 y6 y7 y8 y9 γ δ ζ η θ ι
   unfold group_Spread.l0
   repeat' first
   |(with_reducible exact B _ _ _ _ _ _ _ _ _ _ _ _ _ _ _ _)
   |(with_reducible exact ε _ _ _ _ _ _ _ _ _ _ _ _ _ _ _ _)
   |(with_reducible exact group_Check.mono _ _ _ _ _ _ _ _ _ _ _ _ _ _)
   |(with_reducible exact group_pick.mono _ _ _ _ _ _ _ _ _ _ _ _ _ _ _ _ _ _)
   |(with_reducible exact LeO.refl _)
   |(with_reducible exact LeO.none _)
   |(with_reducible refine LeO.ite ?_ ?_)
   |(with_reducible refine LeO.bind ?_ (fun _=>?_))
   |exact B _ _ _ _ _ _ _ _ _ _ _ _ _ _ _ _
   |exact ε _ _ _ _ _ _ _ _ _ _ _ _ _ _ _ _
   |exact group_Check.mono _ _ _ _ _ _ _ _ _ _ _ _ _ _
   |exact group_pick.mono _ _ _ _ _ _ _ _ _ _ _ _ _ _ _ _ _ _
   |exact LeO.none _
   |refine LeO.ite ?_ ?_
   |refine LeO.bind ?_ (fun _=>?_)
  ·intro O X Z J Y y5 y6 y7 y8 y9 γ δ ζ η θ ι
   unfold group_Spread.l1
   repeat' first
   |(with_reducible exact B _ _ _ _ _ _ _ _ _ _ _ _ _ _ _ _)
   |(with_reducible exact ε _ _ _ _ _ _ _ _ _ _ _ _ _ _ _ _)
   |(with_reducible exact group_Check.mono _ _ _ _ _ _ _ _ _ _ _ _ _ _)
   |(with_reducible exact group_pick.mono _ _ _ _ _ _ _ _ _ _ _ _ _ _ _ _ _ _)
   |(with_reducible exact LeO.refl _)
   |(with_reducible exact LeO.none _)
   |(with_reducible refine LeO.ite ?_ ?_)
   |(with_reducible refine LeO.bind ?_ (fun _=>?_))
   |exact B _ _ _ _ _ _ _ _ _ _ _ _ _ _ _ _
   |exact ε _ _ _ _ _ _ _ _ _ _ _ _ _ _ _ _
   |exact group_Check.mono _ _ _ _ _ _ _ _ _ _ _ _ _ _
   |exact group_pick.mono _ _ _ _ _ _ _ _ _ _ _ _ _ _ _ _ _ _
   |exact LeO.none _
   |refine LeO.ite ?_ ?_
   |refine LeO.bind ?_ (fun _=>?_)
theorem group_Spread.mono:∀ J Y a2 a3 O a5 X a7 a8 a9 Z γ δ ζ k,LeO (group_Spread.f k J Y a2 a3 O a5 X a7 a8 a9 Z γ δ ζ) (group_Spread.f (k+1) J Y a2 a3 O a5 X a7 a8 a9 Z γ δ ζ):=by
 intro J Y a2 a3 O a5 X a7 a8 a9 Z γ δ ζ k
 obtain⟨B,ε⟩:=group_Spread.Zp k
 unfold group_Spread.f
 repeat' first
   |(with_reducible exact B _ _ _ _ _ _ _ _ _ _ _ _ _ _ _ _)
   |(with_reducible exact ε _ _ _ _ _ _ _ _ _ _ _ _ _ _ _ _)
   |(with_reducible exact group_Check.mono _ _ _ _ _ _ _ _ _ _ _ _ _ _)
   |(with_reducible exact group_pick.mono _ _ _ _ _ _ _ _ _ _ _ _ _ _ _ _ _ _)
   |(with_reducible exact LeO.refl _)
   |(with_reducible exact LeO.none _)
   |(with_reducible refine LeO.ite ?_ ?_)
   |(with_reducible refine LeO.bind ?_ (fun _=>?_))
   |exact B _ _ _ _ _ _ _ _ _ _ _ _ _ _ _ _
   |exact ε _ _ _ _ _ _ _ _ _ _ _ _ _ _ _ _
   |exact group_Check.mono _ _ _ _ _ _ _ _ _ _ _ _ _ _
   |exact group_pick.mono _ _ _ _ _ _ _ _ _ _ _ _ _ _ _ _ _ _
   |exact LeO.none _
   |refine LeO.ite ?_ ?_
   |refine LeO.bind ?_ (fun _=>?_)
def group_Spread.T4:Bool×List (List Nat×List Nat):=(true,[([],[]),([],[]),([1],[1]),([0,2],[0,2]),([],[]),([],[]),([5],[5]),([4,6,3],[4,6]),([3,7],[3,7]),([],[]),([9,8,7,0,1,2,3,4,5,6,7,8,9],[8,9])])
def group_Spread.B4:List Nat:=[0,0,2,7,0,0,32,127,255,0,1023]
theorem group_Spread.Vu:rtab .any (opsOf Try.f21 4)=group_Spread.T4:=by kernel_rfl
theorem group_Spread.Kx:Zk group_Spread.T4.2 group_Spread.B4=true:=by kernel_rfl
def group_Spread.T15:Bool×List (List Nat×List Nat):=(true,[([],[]),([0],[0]),([],[]),([],[]),([],[]),([],[]),([],[]),([],[]),([3,4,5,6,7],[3,4,5,6,7]),([1,2,0,1,2,3,4,5,6,7,8],[1,2]),([9,0,1,2,3,4,5,6,7,8],[9]),([10,8,8,0,1,2,3,4,5,6,7,8],[8,10])])
def group_Spread.B15:List Nat:=[0,1,0,0,0,0,0,0,248,511,1023,2047]
theorem group_Spread.tab15:rtab .any (opsOf Try.f21 15)=group_Spread.T15:=by kernel_rfl
theorem group_Spread.Dm:Zk group_Spread.T15.2 group_Spread.B15=true:=by kernel_rfl
set_option maxHeartbeats 8000000 in
set_option maxRecDepth 100000 in
theorem group_Spread.calls (k:Nat) (J:Int) (O:Int) (X:Int) (Y:Int) (Z:Int) (δ :Int) (γ:Int) (ι :Int) (θ :Int) (η :Int) (A1:Option Addr) (c1:Nat) (l1:List (S31)) (a2:Int) (a4:Option Addr) (a5:Nat) (φ :List (S36)) (a6:Option Addr) (a8:Nat) (ν :List (S86)) (r1:List (S36)) (r2:List (S86)) (r3:Int) (w:World) (dh:Kd.C k31 w A1 l1.length l1) (ck:l1.length≤c1) (cy:Kd.C k36 w a4 φ.length φ) (d9: φ.length≤a5) (da:Kd.C k86 w a6 ν.length ν) (df: ν.length≤a8) (h:group_Spread.f k J O X Y Z δ γ ι θ η l1 a2 φ ν = some (r1,r2,r3)):
  Calls Try.prog 21 #[.agg #[.int .i64 J,.int .i64 O,.int .i64 X,.int .i64 Y,.int .i64 Z,.int .i64 δ,.int .i64 γ,.int .i64 ι,.int .i64 θ,.int .i64 η],.slice A1 l1.length c1,.int .i64 a2,.agg #[.slice a4 φ.length a5,.slice a6 ν.length a8]] w fun e w'=>∃ bb ea:Value,e = .returned (.tuple #[.agg #[bb,ea],.int .i64 r3])∧Kd.R k36 36 w' w.heap.size (fun _=>True) bb r1∧Kd.R k86 86 w' w.heap.size (fun _=>True) ea r2∧Below w.heap.size w w':=by
 have e5:=Try.underlying25
 have ed:=Try.underlying50
 have e4:=Try.underlying36
 have d1:=Aside0.mk dh
 have dk:=Aside0.mk ck
 clear dh ck
 have bh:=Aside0.mk cy
 have bu:=Aside0.mk d9
 clear cy d9
 have br:=Aside0.mk da
 have bv:=Aside0.mk df
 clear da df
 have HB:=Aside0.mk (Below.refl w.heap.size w)
 have H:((group_Check.f k J O X Y Z δ γ ι θ η l1 φ ν).bind fun ar=>(if ar=0 then ((some (([]:List (S36)):List (S36))).bind fun bo=>(if bo.length + φ.length<5864062014805 then ((some (bo ++ φ :List (S36))).bind fun b3=>((some (([]:List (S86)):List (S86))).bind fun ba=>(if ba.length + ν.length<8796093022208 then (group_Spread.l0 k l1 a2 (b3.length:Int) 0 J O X Y Z δ γ ι θ η b3 (ba ++ ν)) else (none)))) else (none))) else (some (([]:List (S36)),([]:List (S86)),ar))))=some (r1,r2,r3):=h
 clear h
 replace H:=Option.bind_eq_some_iff.mp H
 obtain⟨ar,d7,H⟩:=H
 replace H:(if ar=0 then ((some (([]:List (S36)):List (S36))).bind fun bo=>(if bo.length + φ.length<5864062014805 then ((some (bo ++ φ :List (S36))).bind fun b3=>((some (([]:List (S86)):List (S86))).bind fun ba=>(if ba.length + ν.length<8796093022208 then (group_Spread.l0 k l1 a2 (b3.length:Int) 0 J O X Y Z δ γ ι θ η b3 (ba ++ ν)) else (none)))) else (none))) else (some (([]:List (S36)),([]:List (S86)),ar)))=some (r1,r2,r3):=H
 have A5:=Aside0.mk d7
 clear d7
 by_cases c6:ar=0
 ·rw[if_pos c6] at H
  have c6b0:(ar==0)=true:=beq_iff_eq.mpr c6
  have c6b1:(ar != 0)=false:=bne_eq_false_iff_eq.mpr c6
  clear c6
  obtain⟨bo,gu⟩:∃ y_:List (S36),y_=(([]:List (S36))):=⟨_,rfl⟩
  replace H:(if bo.length + φ.length<5864062014805 then ((some (bo ++ φ :List (S36))).bind fun b3=>((some (([]:List (S86)):List (S86))).bind fun ba=>(if ba.length + ν.length<8796093022208 then (group_Spread.l0 k l1 a2 (b3.length:Int) 0 J O X Y Z δ γ ι θ η b3 (ba ++ ν)) else (none)))) else (none))=some (r1,r2,r3):=by first|(rw[gu];with_reducible exact H)|(have an:=(Option.bind_some _ _).symm.trans H;rw[gu];with_reducible exact an)|(have an:=(Option.bind_some _ _).symm.trans H;with_reducible exact an)|with_reducible exact H|(rw[gu];exact H)|exact H
  have ev:=Aside0.mk gu
  clear gu
  by_cases c7:bo.length + φ.length<5864062014805
  ·rw[if_pos c7] at H
   have jy:=Aside0.mk c7
   clear c7
   obtain⟨b3,gv⟩:∃ y_:List (S36),y_=(bo ++ φ):=⟨_,rfl⟩
   replace H:((some (([]:List (S86)):List (S86))).bind fun ba=>(if ba.length + ν.length<8796093022208 then (group_Spread.l0 k l1 a2 (b3.length:Int) 0 J O X Y Z δ γ ι θ η b3 (ba ++ ν)) else (none)))=some (r1,r2,r3):=by first|(rw[gv];with_reducible exact H)|(have an:=(Option.bind_some _ _).symm.trans H;rw[gv];with_reducible exact an)|(have an:=(Option.bind_some _ _).symm.trans H;with_reducible exact an)|with_reducible exact H|(rw[gv];exact H)|exact H
   have i6:=Aside0.mk gv
   clear gv
   obtain⟨ba,gz⟩:∃ y_:List (S86),y_=(([]:List (S86))):=⟨_,rfl⟩
   replace H:(if ba.length + ν.length<8796093022208 then (group_Spread.l0 k l1 a2 (b3.length:Int) 0 J O X Y Z δ γ ι θ η b3 (ba ++ ν)) else (none))=some (r1,r2,r3):=by first|(rw[gz];with_reducible exact H)|(have an:=(Option.bind_some _ _).symm.trans H;rw[gz];with_reducible exact an)|(have an:=(Option.bind_some _ _).symm.trans H;with_reducible exact an)|with_reducible exact H|(rw[gz];exact H)|exact H
   have cn:=Aside0.mk gz
   clear gz
   by_cases c8:ba.length + ν.length<8796093022208
   ·rw[if_pos c8] at H
    have mi:=Aside0.mk c8
    clear c8
    obtain⟨bc,h0⟩:∃ y_:List (S86),y_=(ba ++ ν):=⟨_,rfl⟩
    replace H:(group_Spread.l0 k l1 a2 (b3.length:Int) 0 J O X Y Z δ γ ι θ η b3 bc)=some (r1,r2,r3):=by first|(rw[h0];with_reducible exact H)|(have an:=(Option.bind_some _ _).symm.trans H;rw[h0];with_reducible exact an)|(have an:=(Option.bind_some _ _).symm.trans H;with_reducible exact an)|with_reducible exact H|(rw[h0];exact H)|exact H
    have ln:=Aside0.mk h0
    clear h0
    have H':=Aside0.mk H
    clear H
    go_enter Try.func21,Try.ntmps21
    try go_wp2_with (first|((with_reducible refine Qf (N:=4) rfl ?_);refine qE 4 #[.int .i64 J,.int .i64 O,.int .i64 X,.int .i64 Y,.int .i64 Z,.int .i64 δ,.int .i64 γ,.int .i64 ι,.int .i64 θ,.int .i64 η] 25 ?_;intro a9 hg w9 hbox hb;have ε :=Aside0.mk hbox;have l6:=sGe hg;have jo:=sGe hg;replace HB:=sHb hb;clear hb hbox hg)|((with_reducible refine Qf (N:=7) rfl ?_);refine qE 7 #[.slice a4 φ.length a5,.slice a6 ν.length a8] 50 ?_;intro τ hg ih hbox hb;have B:=Aside0.mk hbox;have o1:=sGe hg;have o2:=sGe hg;have fh:=sNl ε hg;have fi:=sNg ε hg;replace ε :=sBk ε hb;replace HB:=sHb hb;clear hb hbox hg)|((with_reducible refine Qf (N:=8) rfl ?_);refine qE 8 #[.slice none 0 0,.slice none 0 0] 50 ?_;intro ak hg di hbox hb;have ζ :=Aside0.mk hbox;have o3:=sGe hg;have o4:=sGe hg;have ew:=sNl ε hg;have ey:=sNg ε hg;have ez:=sNl B hg;have f7:=sNg B hg;replace ε :=sBk ε hb;replace B:=sBk B hb;replace HB:=sHb hb;clear hb hbox hg;have gp:=fh.out;have gy:=fi.out;have l9:=ew.out;have lb:=ey.out;obtain⟨ct,cu,ee,ef,eg,eh,ei,f8,iq,ir,cv,cw,ej,ek,el,em,en,fa,it,iu⟩:=Zn ε.out;have gq:=ez.out;have gr:=f7.out;obtain⟨dl,dm,dn,dv⟩:=qD2 B.out)|((with_reducible refine Qo (f:=17) rfl ?_);refine Q6 (some 19) rfl rfl Try.func17 kr rfl #[.agg #[.int .i64 J,.int .i64 O,.int .i64 X,.int .i64 Y,.int .i64 Z,.int .i64 δ,.int .i64 γ,.int .i64 ι,.int .i64 θ,.int .i64 η],.slice A1 l1.length c1,.agg #[.slice a4 φ.length a5,.slice a6 ν.length a8]] rfl qM ?_;(with_reducible refine(group_Check.calls k J O X Y Z δ γ ι θ η _ _ l1 _ _ φ _ _ ν ar _ ?side1 ?side2 ?side3 ?side4 ?side5 ?side6 A5.out).mono ?_);(case side1=>exact(Kd.Qy d1.out HB.out));(case side2=>exact dk.out);(case side3=>exact(Kd.Qy bh.out HB.out));(case side4=>exact bu.out);(case side5=>exact(Kd.Qy br.out HB.out));(case side6=>exact bv.out);rintro e eb ⟨rfl,hb⟩;refine⟨_,rfl, ?_⟩;replace ε :=sBk ε hb;replace B:=sBk B hb;replace ζ :=sBk ζ hb;replace HB:=sHb hb;(try clear hb);(try clear ac);(try clear hk);(try clear hi)))
    replace ε :=Aside0.mk (Qe ε.out)
    replace B:=Aside0.mk (Qe B.out)
    replace ζ :=Aside0.mk (Qe ζ.out)
    replace HB:=Aside0.mk (Qg HB.out)
    refine Zi (n:=11) (S:=fun w'=>w'.cell? ⟨τ,0,none⟩=some (.slice a4 φ.length a5)∧w'.cell? ⟨τ,1,none⟩=some (.slice a6 ν.length a8)) (ds:=[]) #[false,false,false,false,false,false,false,false,false,false,false] kr rfl rfl ⟨(Qa B.out 0).trans rfl,(Qa B.out 1).trans rfl⟩ (fun hHeld=>?_);refine Q9 group_Spread.Vu group_Spread.Kx (fun HT_ HW_=>?_)
    generalize eb.drew=i2 at ε B ζ HB hHeld ⊢
    refine qP 1 (some 25) (bN 11 2) HT_ ?_
    refine qP 5 (some 29) (bN 11 34) HT_ ?_
    refine qT 2 (some 26) (bN 11 38) HT_ HW_ hHeld ?_
    refine qT 6 (some 30) (bN 11 102) HT_ HW_ hHeld ?_
    refine Yi (σ:=Value×Value×Value×Value×Nat) 1 (bN 11 1023) (fun s_=>[(24,s_.1),(27,s_.2.1),(28,s_.2.2.1),(31,s_.2.2.2.1),(11,.pointer (some ⟨s_.2.2.2.2,0,none⟩)),(32,.agg #[s_.2.1,s_.2.2.2.1])]) (fun s_ w'=>(w'.cell? ⟨τ,0,none⟩=some (.slice a4 φ.length a5)∧w'.cell? ⟨τ,1,none⟩=some (.slice a6 ν.length a8))∧(Kd.R k36 36 w' w.heap.size (fun _=>True) s_.2.1 b3)∧(Kd.R k86 86 w' w.heap.size (fun _=>True) s_.2.2.2.1 bc)∧(w'.heap[a9]?=some (.cells #[.int .i64 J,.int .i64 O,.int .i64 X,.int .i64 Y,.int .i64 Z,.int .i64 δ,.int .i64 γ,.int .i64 ι,.int .i64 θ,.int .i64 η] 25 (0,0)))∧(w'.heap[τ]?=some (.cells #[.slice a4 φ.length a5,.slice a6 ν.length a8] 50 (0,0)))∧(w'.heap[ak]?=some (.cells #[.slice none 0 0,.slice none 0 0] 50 (0,0)))∧(w'.heap[s_.2.2.2.2]?=some (.cells #[.slice none 0 0,.slice none 0 0] 50 (0,0)))∧(w.heap.size≤s_.2.2.2.2)∧(w.heap.size≤s_.2.2.2.2)∧(a9≠s_.2.2.2.2)∧(s_.2.2.2.2≠a9)∧(τ ≠ s_.2.2.2.2)∧(s_.2.2.2.2 ≠ τ)∧(ak≠s_.2.2.2.2)∧(s_.2.2.2.2≠ak)∧(Below w.heap.size w w')) ?_ ?_
    rotate_left
    ·intro gi
     refine Yi (σ:=Value×Value×Value×Value) 2 (bN 11 511) (fun s_=>[(24,s_.1),(27,s_.2.1),(28,s_.2.2.1),(31,s_.2.2.2),(32,.agg #[s_.2.1,s_.2.2.2])]) (fun s_ w'=>(w'.cell? ⟨τ,0,none⟩=some (.slice a4 φ.length a5)∧w'.cell? ⟨τ,1,none⟩=some (.slice a6 ν.length a8))∧(Kd.R k36 36 w' w.heap.size (fun _=>True) s_.2.1 b3)∧(Kd.R k86 86 w' w.heap.size (fun _=>True) s_.2.2.2 bc)∧(w'.heap[a9]?=some (.cells #[.int .i64 J,.int .i64 O,.int .i64 X,.int .i64 Y,.int .i64 Z,.int .i64 δ,.int .i64 γ,.int .i64 ι,.int .i64 θ,.int .i64 η] 25 (0,0)))∧(w'.heap[τ]?=some (.cells #[.slice a4 φ.length a5,.slice a6 ν.length a8] 50 (0,0)))∧(w'.heap[ak]?=some (.cells #[.slice none 0 0,.slice none 0 0] 50 (0,0)))∧(Below w.heap.size w w')) ?_ ?_
     rotate_left
     ·intro k4
      refine Yi (σ:=Value×Value×Value×Nat) 3 (bN 11 639) (fun s_=>[(24,s_.1),(27,s_.2.1),(28,s_.2.2.1),(11,.pointer (some ⟨s_.2.2.2,0,none⟩))]) (fun s_ w'=>(w'.cell? ⟨τ,0,none⟩=some (.slice a4 φ.length a5)∧w'.cell? ⟨τ,1,none⟩=some (.slice a6 ν.length a8))∧(Kd.R k36 36 w' w.heap.size (fun _=>True) s_.2.1 b3)∧(Kd.R k86 86 w' w.heap.size (fun _=>True) s_.2.2.1 ba)∧(w'.heap[a9]?=some (.cells #[.int .i64 J,.int .i64 O,.int .i64 X,.int .i64 Y,.int .i64 Z,.int .i64 δ,.int .i64 γ,.int .i64 ι,.int .i64 θ,.int .i64 η] 25 (0,0)))∧(w'.heap[τ]?=some (.cells #[.slice a4 φ.length a5,.slice a6 ν.length a8] 50 (0,0)))∧(w'.heap[ak]?=some (.cells #[.slice none 0 0,.slice none 0 0] 50 (0,0)))∧(w'.heap[s_.2.2.2]?=some (.cells #[.slice none 0 0,.slice none 0 0] 50 (0,0)))∧(w.heap.size≤s_.2.2.2)∧(w.heap.size≤s_.2.2.2)∧(a9≠s_.2.2.2)∧(s_.2.2.2≠a9)∧(τ ≠ s_.2.2.2)∧(s_.2.2.2 ≠ τ)∧(ak≠s_.2.2.2)∧(s_.2.2.2≠ak)∧(Below w.heap.size w w')) ?_ ?_
      rotate_left
      ·intro fj
       refine Yi (σ:=Value×Value×Value) 4 (bN 11 127) (fun s_=>[(24,s_.1),(27,s_.2.1),(28,s_.2.2)]) (fun s_ w'=>(w'.cell? ⟨τ,0,none⟩=some (.slice a4 φ.length a5)∧w'.cell? ⟨τ,1,none⟩=some (.slice a6 ν.length a8))∧(Kd.R k36 36 w' w.heap.size (fun _=>True) s_.2.1 b3)∧(Kd.R k86 86 w' w.heap.size (fun _=>True) s_.2.2 ba)∧(w'.heap[a9]?=some (.cells #[.int .i64 J,.int .i64 O,.int .i64 X,.int .i64 Y,.int .i64 Z,.int .i64 δ,.int .i64 γ,.int .i64 ι,.int .i64 θ,.int .i64 η] 25 (0,0)))∧(w'.heap[τ]?=some (.cells #[.slice a4 φ.length a5,.slice a6 ν.length a8] 50 (0,0)))∧(w'.heap[ak]?=some (.cells #[.slice none 0 0,.slice none 0 0] 50 (0,0)))∧(Below w.heap.size w w')) ?_ ?_
       rotate_left
       ·intro jf
        refine Yi (σ:=Value×Value×Nat) 4 (bN 11 623) (fun s_=>[(24,s_.1),(27,s_.2.1),(11,.pointer (some ⟨s_.2.2,0,none⟩))]) (fun s_ w'=>(w'.cell? ⟨τ,0,none⟩=some (.slice a4 φ.length a5)∧w'.cell? ⟨τ,1,none⟩=some (.slice a6 ν.length a8))∧(Kd.R k36 36 w' w.heap.size (fun _=>True) s_.2.1 b3)∧(w'.heap[a9]?=some (.cells #[.int .i64 J,.int .i64 O,.int .i64 X,.int .i64 Y,.int .i64 Z,.int .i64 δ,.int .i64 γ,.int .i64 ι,.int .i64 θ,.int .i64 η] 25 (0,0)))∧(w'.heap[τ]?=some (.cells #[.slice a4 φ.length a5,.slice a6 ν.length a8] 50 (0,0)))∧(w'.heap[ak]?=some (.cells #[.slice none 0 0,.slice none 0 0] 50 (0,0)))∧(w'.heap[s_.2.2]?=some (.cells #[.slice none 0 0,.slice none 0 0] 50 (0,0)))∧(w.heap.size≤s_.2.2)∧(w.heap.size≤s_.2.2)∧(a9≠s_.2.2)∧(s_.2.2≠a9)∧(τ ≠ s_.2.2)∧(s_.2.2 ≠ τ)∧(ak≠s_.2.2)∧(s_.2.2≠ak)∧(Below w.heap.size w w')) ?_ ?_
        rotate_left
        ·intro jg
         refine Yi (σ:=Value×Value×Nat) 4 (bN 11 631) (fun s_=>[(24,s_.1),(28,s_.2.1),(11,.pointer (some ⟨s_.2.2,0,none⟩))]) (fun s_ w'=>(w'.cell? ⟨τ,0,none⟩=some (.slice a4 φ.length a5)∧w'.cell? ⟨τ,1,none⟩=some (.slice a6 ν.length a8))∧(Kd.R k36 36 w' w.heap.size (fun _=>True) s_.1 bo)∧(Kd.R k86 86 w' w.heap.size (fun _=>True) s_.2.1 ba)∧(w'.heap[a9]?=some (.cells #[.int .i64 J,.int .i64 O,.int .i64 X,.int .i64 Y,.int .i64 Z,.int .i64 δ,.int .i64 γ,.int .i64 ι,.int .i64 θ,.int .i64 η] 25 (0,0)))∧(w'.heap[τ]?=some (.cells #[.slice a4 φ.length a5,.slice a6 ν.length a8] 50 (0,0)))∧(w'.heap[ak]?=some (.cells #[.slice none 0 0,.slice none 0 0] 50 (0,0)))∧(w'.heap[s_.2.2]?=some (.cells #[.slice none 0 0,.slice none 0 0] 50 (0,0)))∧(w.heap.size≤s_.2.2)∧(w.heap.size≤s_.2.2)∧(a9≠s_.2.2)∧(s_.2.2≠a9)∧(τ ≠ s_.2.2)∧(s_.2.2 ≠ τ)∧(ak≠s_.2.2)∧(s_.2.2≠ak)∧(Below w.heap.size w w')) ?_ ?_
         rotate_left
         ·intro hx
          refine Yi (σ:=Value×Value) 5 (bN 11 111) (fun s_=>[(24,s_.1),(27,s_.2)]) (fun s_ w'=>(w'.cell? ⟨τ,0,none⟩=some (.slice a4 φ.length a5)∧w'.cell? ⟨τ,1,none⟩=some (.slice a6 ν.length a8))∧(Kd.R k36 36 w' w.heap.size (fun _=>True) s_.2 b3)∧(w'.heap[a9]?=some (.cells #[.int .i64 J,.int .i64 O,.int .i64 X,.int .i64 Y,.int .i64 Z,.int .i64 δ,.int .i64 γ,.int .i64 ι,.int .i64 θ,.int .i64 η] 25 (0,0)))∧(w'.heap[τ]?=some (.cells #[.slice a4 φ.length a5,.slice a6 ν.length a8] 50 (0,0)))∧(w'.heap[ak]?=some (.cells #[.slice none 0 0,.slice none 0 0] 50 (0,0)))∧(Below w.heap.size w w')) ?_ ?_
          rotate_left
          ·intro o5
           refine Yi (σ:=Value×Value) 5 (bN 11 119) (fun s_=>[(24,s_.1),(28,s_.2)]) (fun s_ w'=>(w'.cell? ⟨τ,0,none⟩=some (.slice a4 φ.length a5)∧w'.cell? ⟨τ,1,none⟩=some (.slice a6 ν.length a8))∧(Kd.R k36 36 w' w.heap.size (fun _=>True) s_.1 bo)∧(Kd.R k86 86 w' w.heap.size (fun _=>True) s_.2 ba)∧(w'.heap[a9]?=some (.cells #[.int .i64 J,.int .i64 O,.int .i64 X,.int .i64 Y,.int .i64 Z,.int .i64 δ,.int .i64 γ,.int .i64 ι,.int .i64 θ,.int .i64 η] 25 (0,0)))∧(w'.heap[τ]?=some (.cells #[.slice a4 φ.length a5,.slice a6 ν.length a8] 50 (0,0)))∧(w'.heap[ak]?=some (.cells #[.slice none 0 0,.slice none 0 0] 50 (0,0)))∧(Below w.heap.size w w')) ?_ ?_
           rotate_left
           ·intro lu
            refine Yi (σ:=Value×Nat) 5 (bN 11 615) (fun s_=>[(24,s_.1),(11,.pointer (some ⟨s_.2,0,none⟩))]) (fun s_ w'=>(w'.cell? ⟨τ,0,none⟩=some (.slice a4 φ.length a5)∧w'.cell? ⟨τ,1,none⟩=some (.slice a6 ν.length a8))∧(Kd.R k36 36 w' w.heap.size (fun _=>True) s_.1 bo)∧(w'.heap[a9]?=some (.cells #[.int .i64 J,.int .i64 O,.int .i64 X,.int .i64 Y,.int .i64 Z,.int .i64 δ,.int .i64 γ,.int .i64 ι,.int .i64 θ,.int .i64 η] 25 (0,0)))∧(w'.heap[τ]?=some (.cells #[.slice a4 φ.length a5,.slice a6 ν.length a8] 50 (0,0)))∧(w'.heap[ak]?=some (.cells #[.slice none 0 0,.slice none 0 0] 50 (0,0)))∧(w'.heap[s_.2]?=some (.cells #[.slice none 0 0,.slice none 0 0] 50 (0,0)))∧(w.heap.size≤s_.2)∧(w.heap.size≤s_.2)∧(a9≠s_.2)∧(s_.2≠a9)∧(τ ≠ s_.2)∧(s_.2 ≠ τ)∧(ak≠s_.2)∧(s_.2≠ak)∧(Below w.heap.size w w')) ?_ ?_
            rotate_left
            ·intro lv
             refine Yi (σ:=Value×Nat) 5 (bN 11 630) (fun s_=>[(28,s_.1),(11,.pointer (some ⟨s_.2,0,none⟩))]) (fun s_ w'=>(w'.cell? ⟨τ,0,none⟩=some (.slice a4 φ.length a5)∧w'.cell? ⟨τ,1,none⟩=some (.slice a6 ν.length a8))∧(Kd.R k86 86 w' w.heap.size (fun _=>True) s_.1 ba)∧(w'.heap[a9]?=some (.cells #[.int .i64 J,.int .i64 O,.int .i64 X,.int .i64 Y,.int .i64 Z,.int .i64 δ,.int .i64 γ,.int .i64 ι,.int .i64 θ,.int .i64 η] 25 (0,0)))∧(w'.heap[τ]?=some (.cells #[.slice a4 φ.length a5,.slice a6 ν.length a8] 50 (0,0)))∧(w'.heap[ak]?=some (.cells #[.slice none 0 0,.slice none 0 0] 50 (0,0)))∧(w'.heap[s_.2]?=some (.cells #[.slice none 0 0,.slice none 0 0] 50 (0,0)))∧(w.heap.size≤s_.2)∧(w.heap.size≤s_.2)∧(a9≠s_.2)∧(s_.2≠a9)∧(τ ≠ s_.2)∧(s_.2 ≠ τ)∧(ak≠s_.2)∧(s_.2≠ak)∧(Below w.heap.size w w')) ?_ ?_
             rotate_left
             ·intro lw
              refine Yi (σ:=Value) 6 (bN 11 103) (fun s_=>[(24,s_)]) (fun s_ w'=>(w'.cell? ⟨τ,0,none⟩=some (.slice a4 φ.length a5)∧w'.cell? ⟨τ,1,none⟩=some (.slice a6 ν.length a8))∧(Kd.R k36 36 w' w.heap.size (fun _=>True) s_ bo)∧(w'.heap[a9]?=some (.cells #[.int .i64 J,.int .i64 O,.int .i64 X,.int .i64 Y,.int .i64 Z,.int .i64 δ,.int .i64 γ,.int .i64 ι,.int .i64 θ,.int .i64 η] 25 (0,0)))∧(w'.heap[τ]?=some (.cells #[.slice a4 φ.length a5,.slice a6 ν.length a8] 50 (0,0)))∧(w'.heap[ak]?=some (.cells #[.slice none 0 0,.slice none 0 0] 50 (0,0)))∧(Below w.heap.size w w')) ?_ ?_
              rotate_left
              ·intro qz
               refine Yi (σ:=Value) 6 (bN 11 118) (fun s_=>[(28,s_)]) (fun s_ w'=>(w'.cell? ⟨τ,0,none⟩=some (.slice a4 φ.length a5)∧w'.cell? ⟨τ,1,none⟩=some (.slice a6 ν.length a8))∧(Kd.R k86 86 w' w.heap.size (fun _=>True) s_ ba)∧(w'.heap[a9]?=some (.cells #[.int .i64 J,.int .i64 O,.int .i64 X,.int .i64 Y,.int .i64 Z,.int .i64 δ,.int .i64 γ,.int .i64 ι,.int .i64 θ,.int .i64 η] 25 (0,0)))∧(w'.heap[τ]?=some (.cells #[.slice a4 φ.length a5,.slice a6 ν.length a8] 50 (0,0)))∧(w'.heap[ak]?=some (.cells #[.slice none 0 0,.slice none 0 0] 50 (0,0)))∧(Below w.heap.size w w')) ?_ ?_
               rotate_left
               ·intro r0
                refine Yi (σ:=Nat) 6 (bN 11 614) (fun s_=>[(11,.pointer (some ⟨s_,0,none⟩))]) (fun s_ w'=>(w'.cell? ⟨τ,0,none⟩=some (.slice a4 φ.length a5)∧w'.cell? ⟨τ,1,none⟩=some (.slice a6 ν.length a8))∧(w'.heap[a9]?=some (.cells #[.int .i64 J,.int .i64 O,.int .i64 X,.int .i64 Y,.int .i64 Z,.int .i64 δ,.int .i64 γ,.int .i64 ι,.int .i64 θ,.int .i64 η] 25 (0,0)))∧(w'.heap[τ]?=some (.cells #[.slice a4 φ.length a5,.slice a6 ν.length a8] 50 (0,0)))∧(w'.heap[ak]?=some (.cells #[.slice none 0 0,.slice none 0 0] 50 (0,0)))∧(w'.heap[s_]?=some (.cells #[.slice none 0 0,.slice none 0 0] 50 (0,0)))∧(w.heap.size≤s_)∧(w.heap.size≤s_)∧(a9≠s_)∧(s_≠a9)∧(τ ≠ s_)∧(s_ ≠ τ)∧(ak≠s_)∧(s_≠ak)∧(Below w.heap.size w w')) ?_ ?_
                rotate_left
                ·intro r5
                 refine Ms (i:=0) (j:=4) (k:=9) (Ni:=some 24) (Nj:=some 28) (Nk:=some 11) #[true,true,true,false,false,true,true,false,false,false,false] #[false,true,true,false,true,true,true,false,false,false,false] #[false,true,true,false,false,true,true,false,false,true,false] rfl rfl rfl rfl rfl rfl (Uk HT_.out kr) (by decide) (by decide) (by decide) (fun K hK=>?_) (fun K hK=>?_) (fun K hK=>?_)
                 ·skip
                  refine Kd.Zq k36 _ 36 ?hg (N:=24) ?hd (xs:=([]:List (S36))) (inner:=[]) (ok:=fun _=>True) (okp:=fun _=>True) ?hr ?hp (fun _ hk=>hk) trivial (Below.refl _ _) (Nat.le_refl _) (by simp) ?_;(case hd=>rfl);(case hg=>rfl);(case hr=>go_simp <;> rfl);(case hp=>exact(Reps.none _ _))
                  intro b4 b6 ep hb hg_ hnew_
                  clear hg_ hnew_
                  (first|rw[← ev.out] at ep|(simp only[Int.reduceToNat] at ep;rw[← ev.out] at ep))
                  have ap:=Aside0.mk (Kd.Q3 ep (Qi HB.out))
                  replace ε :=sBk ε hb
                  replace B:=sBk B hb
                  replace ζ :=sBk ζ hb
                  replace HB:=sHb hb
                  clear hb ep
                  refine hK.out _ _ ⟨qc B,qc B⟩ (fun hHeld=>?_)
                  clear hK K
                  refine qN (some 24) ?_
                  exact Zf (by first|(simp only[Q8,Act.put,qS];done)|(simp only[Q8,Act.put,qS];rfl)) (qz (b4) _ ⟨hHeld,ap.out,ε.out,B.out,ζ.out,HB.out⟩)
                 ·skip
                  refine Kd.Zq k86 _ 86 ?hg (N:=28) ?hd (xs:=([]:List (S86))) (inner:=[]) (ok:=fun _=>True) (okp:=fun _=>True) ?hr ?hp (fun _ hk=>hk) trivial (Below.refl _ _) (Nat.le_refl _) (by simp) ?_;(case hd=>rfl);(case hg=>rfl);(case hr=>go_simp <;> rfl);(case hp=>exact(Reps.none _ _))
                  intro b5 b6 ep hb hg_ hnew_
                  clear hg_ hnew_
                  (first|rw[← cn.out] at ep|(simp only[Int.reduceToNat] at ep;rw[← cn.out] at ep))
                  have ao:=Aside0.mk (Kd.Q3 ep (Qi HB.out))
                  replace ε :=sBk ε hb
                  replace B:=sBk B hb
                  replace ζ :=sBk ζ hb
                  replace HB:=sHb hb
                  clear hb ep
                  refine hK.out _ _ ⟨qc B,qc B⟩ (fun hHeld=>?_)
                  clear hK K
                  refine qN (some 28) ?_
                  exact Zf (by first|(simp only[Q8,Act.put,qS];done)|(simp only[Q8,Act.put,qS];rfl)) (r0 (b5) _ ⟨hHeld,ao.out,ε.out,B.out,ζ.out,HB.out⟩)
                 ·skip
                  refine Xa ?hg (N:=11) ?hd (cs:=#[.slice none 0 0,.slice none 0 0]) (t:=50) ?hr ?_;(case hd=>rfl);(case hg=>rfl);(case hr=>go_simp <;> rfl)
                  intro ω hg b6 hbox hb
                  have ψ :=Aside0.mk hbox
                  have b7:=sGe hg
                  have b9:=sGe hg
                  have ab:=sNl ε hg
                  have ag:=sNg ε hg
                  have aa:=sNl B hg
                  have ah:=sNg B hg
                  have ai:=sNl ζ hg
                  have aj:=sNg ζ hg
                  replace ε :=sBk ε hb
                  replace B:=sBk B hb
                  replace ζ :=sBk ζ hb
                  replace HB:=sHb hb
                  clear hb hbox hg
                  refine hK.out _ _ ⟨qc B,qc B⟩ (fun hHeld=>?_)
                  clear hK K
                  refine qN (some 11) ?_
                  exact Zf (by first|(simp only[Q8,Act.put,qS];done)|(simp only[Q8,Act.put,qS];rfl)) (r5 (ω) _ ⟨hHeld,ε.out,B.out,ζ.out,ψ.out,b7.out,b9.out,ab.out,ag.out,aa.out,ah.out,ai.out,aj.out,HB.out⟩)
                ·skip
                 rintro ω dj ⟨hS_,bj,bk,bl,bm,bn,cr,db,dc,dd,de,co,cp,cq⟩
                 have ξ :Aside0 (dj.heap[a9]?=some (.cells #[.int .i64 J,.int .i64 O,.int .i64 X,.int .i64 Y,.int .i64 Z,.int .i64 δ,.int .i64 γ,.int .i64 ι,.int .i64 θ,.int .i64 η] 25 (0,0))):=⟨bj⟩
                 have ρ:Aside0 (dj.heap[τ]?=some (.cells #[.slice a4 φ.length a5,.slice a6 ν.length a8] 50 (0,0))):=⟨bk⟩
                 have a3:Aside0 (dj.heap[ak]?=some (.cells #[.slice none 0 0,.slice none 0 0] 50 (0,0))):=⟨bl⟩
                 have a7:Aside0 (dj.heap[ω]?=some (.cells #[.slice none 0 0,.slice none 0 0] 50 (0,0))):=⟨bm⟩
                 have al:Aside0 (w.heap.size ≤ ω):=⟨bn⟩
                 have b1:Aside0 (w.heap.size ≤ ω):=⟨cr⟩
                 have b8:Aside0 (a9 ≠ ω):=⟨db⟩
                 have bi:Aside0 (ω ≠ a9):=⟨dc⟩
                 have cf:Aside0 (τ ≠ ω):=⟨dd⟩
                 have cx:Aside0 (ω ≠ τ):=⟨de⟩
                 have bw:Aside0 (ak ≠ ω):=⟨co⟩
                 have bz:Aside0 (ω ≠ ak):=⟨cp⟩
                 have ca:Aside0 (Below w.heap.size w dj):=⟨cq⟩
                 clear ε
                 clear B
                 clear ζ
                 clear HB
                 clear bj bk bl bm bn cr db dc dd de co cp cq
                 have ε := ξ
                 have B:=ρ
                 have ζ :=a3
                 have ψ :=a7
                 have b7:=al
                 have b9:=b1
                 have ab:=b8
                 have ag:=bi
                 have aa:=cf
                 have ah:=cx
                 have ai:=bw
                 have aj:=bz
                 have HB:=ca
                 clear ξ ρ a3 a7 al b1 b8 bi cf cx bw bz ca
                 have hHeld:dj.cell? ⟨τ,0,none⟩=some (.slice a4 φ.length a5)∧dj.cell? ⟨τ,1,none⟩=some (.slice a6 ν.length a8):=hS_
                 refine Zf (a':=?_) ?_ ?_
                 rotate_left
                 ·simp only[Q8,Act.put,qS]
                  rfl
                 refine Kj (i:=0) (j:=4) (Ni:=some 24) (Nj:=some 28) (bN 11 615) (bN 11 630) rfl rfl rfl rfl (X5 HT_.out kr) (by decide) (by decide) (fun K hK=>?_) (fun K hK=>?_)
                 ·skip
                  refine Kd.Zq k36 _ 36 ?hg (N:=24) ?hd (xs:=([]:List (S36))) (inner:=[]) (ok:=fun _=>True) (okp:=fun _=>True) ?hr ?hp (fun _ hk=>hk) trivial (Below.refl _ _) (Nat.le_refl _) (by simp) ?_;(case hd=>rfl);(case hg=>rfl);(case hr=>go_simp <;> rfl);(case hp=>exact(Reps.none _ _))
                  intro b4 cz er hb hg_ hnew_
                  clear hg_ hnew_
                  (first|rw[← ev.out] at er|(simp only[Int.reduceToNat] at er;rw[← ev.out] at er))
                  have ap:=Aside0.mk (Kd.Q3 er (Qi HB.out))
                  replace ε :=sBk ε hb
                  replace B:=sBk B hb
                  replace ζ :=sBk ζ hb
                  replace ψ :=sBk ψ hb
                  replace HB:=sHb hb
                  clear hb er
                  refine hK.out _ _ ⟨qc B,qc B⟩ (fun hHeld=>?_)
                  clear hK K
                  refine qN (some 24) ?_
                  exact Zf (by first|(simp only[Q8,Act.put,qS];done)|(simp only[Q8,Act.put,qS];rfl)) (lv (b4,ω) _ ⟨hHeld,ap.out,ε.out,B.out,ζ.out,ψ.out,b7.out,b9.out,ab.out,ag.out,aa.out,ah.out,ai.out,aj.out,HB.out⟩)
                 ·skip
                  refine Kd.Zq k86 _ 86 ?hg (N:=28) ?hd (xs:=([]:List (S86))) (inner:=[]) (ok:=fun _=>True) (okp:=fun _=>True) ?hr ?hp (fun _ hk=>hk) trivial (Below.refl _ _) (Nat.le_refl _) (by simp) ?_;(case hd=>rfl);(case hg=>rfl);(case hr=>go_simp <;> rfl);(case hp=>exact(Reps.none _ _))
                  intro b5 cz er hb hg_ hnew_
                  clear hg_ hnew_
                  (first|rw[← cn.out] at er|(simp only[Int.reduceToNat] at er;rw[← cn.out] at er))
                  have ao:=Aside0.mk (Kd.Q3 er (Qi HB.out))
                  replace ε :=sBk ε hb
                  replace B:=sBk B hb
                  replace ζ :=sBk ζ hb
                  replace ψ :=sBk ψ hb
                  replace HB:=sHb hb
                  clear hb er
                  refine hK.out _ _ ⟨qc B,qc B⟩ (fun hHeld=>?_)
                  clear hK K
                  refine qN (some 28) ?_
                  exact Zf (by first|(simp only[Q8,Act.put,qS];done)|(simp only[Q8,Act.put,qS];rfl)) (lw (b5,ω) _ ⟨hHeld,ao.out,ε.out,B.out,ζ.out,ψ.out,b7.out,b9.out,ab.out,ag.out,aa.out,ah.out,ai.out,aj.out,HB.out⟩)
               ·skip
                rintro b5 cz ⟨hS_,bj,bk,bl,bm,bn⟩
                have ξ :Aside0 (Kd.R k86 86 cz w.heap.size (fun _=>True) b5 ba):=⟨bj⟩
                have ρ:Aside0 (cz.heap[a9]?=some (.cells #[.int .i64 J,.int .i64 O,.int .i64 X,.int .i64 Y,.int .i64 Z,.int .i64 δ,.int .i64 γ,.int .i64 ι,.int .i64 θ,.int .i64 η] 25 (0,0))):=⟨bk⟩
                have a3:Aside0 (cz.heap[τ]?=some (.cells #[.slice a4 φ.length a5,.slice a6 ν.length a8] 50 (0,0))):=⟨bl⟩
                have a7:Aside0 (cz.heap[ak]?=some (.cells #[.slice none 0 0,.slice none 0 0] 50 (0,0))):=⟨bm⟩
                have al:Aside0 (Below w.heap.size w cz):=⟨bn⟩
                clear ε
                clear B
                clear ζ
                clear HB
                clear bj bk bl bm bn
                have ao:= ξ
                have ε :=ρ
                have B:=a3
                have ζ :=a7
                have HB:=al
                clear ξ ρ a3 a7 al
                have hHeld:cz.cell? ⟨τ,0,none⟩=some (.slice a4 φ.length a5)∧cz.cell? ⟨τ,1,none⟩=some (.slice a6 ν.length a8):=hS_
                refine Zf (a':=?_) ?_ ?_
                rotate_left
                ·simp only[Q8,Act.put,qS]
                 rfl
                refine Kj (i:=0) (j:=9) (Ni:=some 24) (Nj:=some 11) (bN 11 119) (bN 11 630) rfl rfl rfl rfl (X5 HT_.out kr) (by decide) (by decide) (fun K hK=>?_) (fun K hK=>?_)
                ·skip
                 refine Kd.Zq k36 _ 36 ?hg (N:=24) ?hd (xs:=([]:List (S36))) (inner:=[]) (ok:=fun _=>True) (okp:=fun _=>True) ?hr ?hp (fun _ hk=>hk) trivial (Below.refl _ _) (Nat.le_refl _) (by simp) ?_;(case hd=>rfl);(case hg=>rfl);(case hr=>go_simp <;> rfl);(case hp=>exact(Reps.none _ _))
                 intro b4 bf cg hb hg_ hnew_
                 clear hg_ hnew_
                 (first|rw[← ev.out] at cg|(simp only[Int.reduceToNat] at cg;rw[← ev.out] at cg))
                 have ap:=Aside0.mk (Kd.Q3 cg (Qi HB.out))
                 replace ao:=sRb ao hb
                 replace ε :=sBk ε hb
                 replace B:=sBk B hb
                 replace ζ :=sBk ζ hb
                 replace HB:=sHb hb
                 clear hb cg
                 refine hK.out _ _ ⟨qc B,qc B⟩ (fun hHeld=>?_)
                 clear hK K
                 refine qN (some 24) ?_
                 exact Zf (by first|(simp only[Q8,Act.put,qS];done)|(simp only[Q8,Act.put,qS];rfl)) (lu (b4,b5) _ ⟨hHeld,ap.out,ao.out,ε.out,B.out,ζ.out,HB.out⟩)
                ·skip
                 refine Xa ?hg (N:=11) ?hd (cs:=#[.slice none 0 0,.slice none 0 0]) (t:=50) ?hr ?_;(case hd=>rfl);(case hg=>rfl);(case hr=>go_simp <;> rfl)
                 intro ω hg bf hbox hb
                 have ψ :=Aside0.mk hbox
                 have b7:=sGe hg
                 have b9:=sGe hg
                 have ab:=sNl ε hg
                 have ag:=sNg ε hg
                 have aa:=sNl B hg
                 have ah:=sNg B hg
                 have ai:=sNl ζ hg
                 have aj:=sNg ζ hg
                 replace ao:=sRb ao hb
                 replace ε :=sBk ε hb
                 replace B:=sBk B hb
                 replace ζ :=sBk ζ hb
                 replace HB:=sHb hb
                 clear hb hbox hg
                 refine hK.out _ _ ⟨qc B,qc B⟩ (fun hHeld=>?_)
                 clear hK K
                 refine qN (some 11) ?_
                 exact Zf (by first|(simp only[Q8,Act.put,qS];done)|(simp only[Q8,Act.put,qS];rfl)) (lw (b5,ω) _ ⟨hHeld,ao.out,ε.out,B.out,ζ.out,ψ.out,b7.out,b9.out,ab.out,ag.out,aa.out,ah.out,ai.out,aj.out,HB.out⟩)
              ·skip
               rintro b4 cz ⟨hS_,bj,bk,bl,bm,bn⟩
               have ξ :Aside0 (Kd.R k36 36 cz w.heap.size (fun _=>True) b4 bo):=⟨bj⟩
               have ρ:Aside0 (cz.heap[a9]?=some (.cells #[.int .i64 J,.int .i64 O,.int .i64 X,.int .i64 Y,.int .i64 Z,.int .i64 δ,.int .i64 γ,.int .i64 ι,.int .i64 θ,.int .i64 η] 25 (0,0))):=⟨bk⟩
               have a3:Aside0 (cz.heap[τ]?=some (.cells #[.slice a4 φ.length a5,.slice a6 ν.length a8] 50 (0,0))):=⟨bl⟩
               have a7:Aside0 (cz.heap[ak]?=some (.cells #[.slice none 0 0,.slice none 0 0] 50 (0,0))):=⟨bm⟩
               have al:Aside0 (Below w.heap.size w cz):=⟨bn⟩
               clear ε
               clear B
               clear ζ
               clear HB
               clear bj bk bl bm bn
               have ap:= ξ
               have ε :=ρ
               have B:=a3
               have ζ :=a7
               have HB:=al
               clear ξ ρ a3 a7 al
               have hHeld:cz.cell? ⟨τ,0,none⟩=some (.slice a4 φ.length a5)∧cz.cell? ⟨τ,1,none⟩=some (.slice a6 ν.length a8):=hS_
               refine Zf (a':=?_) ?_ ?_
               rotate_left
               ·simp only[Q8,Act.put,qS]
                rfl
               refine Ms (i:=3) (j:=4) (k:=9) (Ni:=some 27) (Nj:=some 28) (Nk:=some 11) #[true,true,true,true,false,true,true,false,false,false,false] #[true,true,true,false,true,true,true,false,false,false,false] #[true,true,true,false,false,true,true,false,false,true,false] rfl rfl rfl rfl rfl rfl (Uk HT_.out kr) (by decide) (by decide) (by decide) (fun K hK=>?_) (fun K hK=>?_) (fun K hK=>?_)
               ·skip
                refine Kd.Zc k36 (w0:=w) w.heap.size (by rfl) (.tmp 24) (.tmp 26) 47 36 (.agg #[(.int .i64 0),(.int .i64 0),(.int .i64 0)]) 24 rfl Try.underlying47 Js rfl (by decide) (by omega) b4 bo φ _ _ _ (fun _=>True) (fun _=>False) rfl rfl ?aO ?aR (fun _ _ h=>h) (fun _ h=>h.elim) ?aF ?aB ?aS ?aL ?_
                (case aR=>exact(Kd.Qy bh.out HB.out))
                (case aB=>exact HB.out)
                (case aF=>exact(fun _ _=>trivial))
                (case aO=>exact ap.out)
                (case aS=>exact(Qi HB.out))
                (case aL=>have:=jy.out;omega)
                intro bq bf ho hb hg hat
                rw[← i6.out] at ho
                have ay:=Aside0.mk ho
                replace ε :=Aside0.mk (Q1 (g:=a9) (o:=.cells #[.int .i64 J,.int .i64 O,.int .i64 X,.int .i64 Y,.int .i64 Z,.int .i64 δ,.int .i64 γ,.int .i64 ι,.int .i64 θ,.int .i64 η] 25 (0,0)) ε.out hg (Kd.Z6 ap.out ε.out (by decide)))
                replace B:=Aside0.mk (Q1 (g:= τ) (o:=.cells #[.slice a4 φ.length a5,.slice a6 ν.length a8] 50 (0,0)) B.out hg (Kd.Z6 ap.out B.out (by decide)))
                replace ζ :=Aside0.mk (Q1 (g:=ak) (o:=.cells #[.slice none 0 0,.slice none 0 0] 50 (0,0)) ζ.out hg (Kd.Z6 ap.out ζ.out (by decide)))
                replace HB:=Aside0.mk hb
                clear ap
                clear ho hb hg hat
                refine hK.out _ _ ⟨qc B,qc B⟩ (fun hHeld=>?_)
                clear hK K
                refine qN (some 27) ?_
                exact Zf (by first|(simp only[Q8,Act.put,qS];done)|(simp only[Q8,Act.put,qS];rfl)) (o5 (b4,bq) _ ⟨hHeld,ay.out,ε.out,B.out,ζ.out,HB.out⟩)
               ·skip
                refine Kd.Zq k86 _ 86 ?hg (N:=28) ?hd (xs:=([]:List (S86))) (inner:=[]) (ok:=fun _=>True) (okp:=fun _=>True) ?hr ?hp (fun _ hk=>hk) trivial (Below.refl _ _) (Nat.le_refl _) (by simp) ?_;(case hd=>rfl);(case hg=>rfl);(case hr=>go_simp <;> rfl);(case hp=>exact(Reps.none _ _))
                intro b5 bf cg hb hg_ hnew_
                clear hg_ hnew_
                (first|rw[← cn.out] at cg|(simp only[Int.reduceToNat] at cg;rw[← cn.out] at cg))
                have ao:=Aside0.mk (Kd.Q3 cg (Qi HB.out))
                replace ap:=sRb ap hb
                replace ε :=sBk ε hb
                replace B:=sBk B hb
                replace ζ :=sBk ζ hb
                replace HB:=sHb hb
                clear hb cg
                refine hK.out _ _ ⟨qc B,qc B⟩ (fun hHeld=>?_)
                clear hK K
                refine qN (some 28) ?_
                exact Zf (by first|(simp only[Q8,Act.put,qS];done)|(simp only[Q8,Act.put,qS];rfl)) (lu (b4,b5) _ ⟨hHeld,ap.out,ao.out,ε.out,B.out,ζ.out,HB.out⟩)
               ·skip
                refine Xa ?hg (N:=11) ?hd (cs:=#[.slice none 0 0,.slice none 0 0]) (t:=50) ?hr ?_;(case hd=>rfl);(case hg=>rfl);(case hr=>go_simp <;> rfl)
                intro ω hg bf hbox hb
                have ψ :=Aside0.mk hbox
                have b7:=sGe hg
                have b9:=sGe hg
                have ab:=sNl ε hg
                have ag:=sNg ε hg
                have aa:=sNl B hg
                have ah:=sNg B hg
                have ai:=sNl ζ hg
                have aj:=sNg ζ hg
                replace ap:=sRb ap hb
                replace ε :=sBk ε hb
                replace B:=sBk B hb
                replace ζ :=sBk ζ hb
                replace HB:=sHb hb
                clear hb hbox hg
                refine hK.out _ _ ⟨qc B,qc B⟩ (fun hHeld=>?_)
                clear hK K
                refine qN (some 11) ?_
                exact Zf (by first|(simp only[Q8,Act.put,qS];done)|(simp only[Q8,Act.put,qS];rfl)) (lv (b4,ω) _ ⟨hHeld,ap.out,ε.out,B.out,ζ.out,ψ.out,b7.out,b9.out,ab.out,ag.out,aa.out,ah.out,ai.out,aj.out,HB.out⟩)
             ·skip
              rintro⟨b5,ω⟩ bf ⟨hS_,bj,bk,bl,bm,bn,cr,db,dc,dd,de,co,cp,cq,d2⟩
              have ξ :Aside0 (Kd.R k86 86 bf w.heap.size (fun _=>True) b5 ba):=⟨bj⟩
              have ρ:Aside0 (bf.heap[a9]?=some (.cells #[.int .i64 J,.int .i64 O,.int .i64 X,.int .i64 Y,.int .i64 Z,.int .i64 δ,.int .i64 γ,.int .i64 ι,.int .i64 θ,.int .i64 η] 25 (0,0))):=⟨bk⟩
              have a3:Aside0 (bf.heap[τ]?=some (.cells #[.slice a4 φ.length a5,.slice a6 ν.length a8] 50 (0,0))):=⟨bl⟩
              have a7:Aside0 (bf.heap[ak]?=some (.cells #[.slice none 0 0,.slice none 0 0] 50 (0,0))):=⟨bm⟩
              have al:Aside0 (bf.heap[ω]?=some (.cells #[.slice none 0 0,.slice none 0 0] 50 (0,0))):=⟨bn⟩
              have b1:Aside0 (w.heap.size ≤ ω):=⟨cr⟩
              have b8:Aside0 (w.heap.size ≤ ω):=⟨db⟩
              have bi:Aside0 (a9 ≠ ω):=⟨dc⟩
              have cf:Aside0 (ω ≠ a9):=⟨dd⟩
              have cx:Aside0 (τ ≠ ω):=⟨de⟩
              have bw:Aside0 (ω ≠ τ):=⟨co⟩
              have bz:Aside0 (ak ≠ ω):=⟨cp⟩
              have ca:Aside0 (ω ≠ ak):=⟨cq⟩
              have cm:Aside0 (Below w.heap.size w bf):=⟨d2⟩
              clear ε
              clear B
              clear ζ
              clear HB
              clear bj bk bl bm bn cr db dc dd de co cp cq d2
              have ao:= ξ
              have ε :=ρ
              have B:=a3
              have ζ :=a7
              have ψ :=al
              have b7:=b1
              have b9:=b8
              have ab:=bi
              have ag:=cf
              have aa:=cx
              have ah:=bw
              have ai:=bz
              have aj:=ca
              have HB:=cm
              clear ξ ρ a3 a7 al b1 b8 bi cf cx bw bz ca cm
              have hHeld:bf.cell? ⟨τ,0,none⟩=some (.slice a4 φ.length a5)∧bf.cell? ⟨τ,1,none⟩=some (.slice a6 ν.length a8):=hS_
              refine Zf (a':=?_) ?_ ?_
              rotate_left
              ·simp only[Q8,Act.put,qS]
               rfl
              refine Zb (i:=0) (N:=some 24) (bN 11 631) rfl rfl (Q4 HT_.out kr) (by decide) (fun K hK=>?_)
              refine Kd.Zq k36 _ 36 ?hg (N:=24) ?hd (xs:=([]:List (S36))) (inner:=[]) (ok:=fun _=>True) (okp:=fun _=>True) ?hr ?hp (fun _ hk=>hk) trivial (Below.refl _ _) (Nat.le_refl _) (by simp) ?_;(case hd=>rfl);(case hg=>rfl);(case hr=>go_simp <;> rfl);(case hp=>exact(Reps.none _ _))
              intro b4 bd ch hb hg_ hnew_
              clear hg_ hnew_
              (first|rw[← ev.out] at ch|(simp only[Int.reduceToNat] at ch;rw[← ev.out] at ch))
              have ap:=Aside0.mk (Kd.Q3 ch (Qi HB.out))
              replace ao:=sRb ao hb
              replace ε :=sBk ε hb
              replace B:=sBk B hb
              replace ζ :=sBk ζ hb
              replace ψ :=sBk ψ hb
              replace HB:=sHb hb
              clear hb ch
              refine hK.out _ _ ⟨qc B,qc B⟩ (fun hHeld=>?_)
              clear hK K
              refine qN (some 24) ?_
              exact Zf (by first|(simp only[Q8,Act.put,qS];done)|(simp only[Q8,Act.put,qS];rfl)) (hx (b4,b5,ω) _ ⟨hHeld,ap.out,ao.out,ε.out,B.out,ζ.out,ψ.out,b7.out,b9.out,ab.out,ag.out,aa.out,ah.out,ai.out,aj.out,HB.out⟩)
            ·skip
             rintro⟨b4,ω⟩ bf ⟨hS_,bj,bk,bl,bm,bn,cr,db,dc,dd,de,co,cp,cq,d2⟩
             have ξ :Aside0 (Kd.R k36 36 bf w.heap.size (fun _=>True) b4 bo):=⟨bj⟩
             have ρ:Aside0 (bf.heap[a9]?=some (.cells #[.int .i64 J,.int .i64 O,.int .i64 X,.int .i64 Y,.int .i64 Z,.int .i64 δ,.int .i64 γ,.int .i64 ι,.int .i64 θ,.int .i64 η] 25 (0,0))):=⟨bk⟩
             have a3:Aside0 (bf.heap[τ]?=some (.cells #[.slice a4 φ.length a5,.slice a6 ν.length a8] 50 (0,0))):=⟨bl⟩
             have a7:Aside0 (bf.heap[ak]?=some (.cells #[.slice none 0 0,.slice none 0 0] 50 (0,0))):=⟨bm⟩
             have al:Aside0 (bf.heap[ω]?=some (.cells #[.slice none 0 0,.slice none 0 0] 50 (0,0))):=⟨bn⟩
             have b1:Aside0 (w.heap.size ≤ ω):=⟨cr⟩
             have b8:Aside0 (w.heap.size ≤ ω):=⟨db⟩
             have bi:Aside0 (a9 ≠ ω):=⟨dc⟩
             have cf:Aside0 (ω ≠ a9):=⟨dd⟩
             have cx:Aside0 (τ ≠ ω):=⟨de⟩
             have bw:Aside0 (ω ≠ τ):=⟨co⟩
             have bz:Aside0 (ak ≠ ω):=⟨cp⟩
             have ca:Aside0 (ω ≠ ak):=⟨cq⟩
             have cm:Aside0 (Below w.heap.size w bf):=⟨d2⟩
             clear ε
             clear B
             clear ζ
             clear HB
             clear bj bk bl bm bn cr db dc dd de co cp cq d2
             have ap:= ξ
             have ε :=ρ
             have B:=a3
             have ζ :=a7
             have ψ :=al
             have b7:=b1
             have b9:=b8
             have ab:=bi
             have ag:=cf
             have aa:=cx
             have ah:=bw
             have ai:=bz
             have aj:=ca
             have HB:=cm
             clear ξ ρ a3 a7 al b1 b8 bi cf cx bw bz ca cm
             have hHeld:bf.cell? ⟨τ,0,none⟩=some (.slice a4 φ.length a5)∧bf.cell? ⟨τ,1,none⟩=some (.slice a6 ν.length a8):=hS_
             refine Zf (a':=?_) ?_ ?_
             rotate_left
             ·simp only[Q8,Act.put,qS]
              rfl
             refine Kj (i:=3) (j:=4) (Ni:=some 27) (Nj:=some 28) (bN 11 623) (bN 11 631) rfl rfl rfl rfl (X5 HT_.out kr) (by decide) (by decide) (fun K hK=>?_) (fun K hK=>?_)
             ·skip
              refine Kd.Zc k36 (w0:=w) w.heap.size (by rfl) (.tmp 24) (.tmp 26) 47 36 (.agg #[(.int .i64 0),(.int .i64 0),(.int .i64 0)]) 24 rfl Try.underlying47 Js rfl (by decide) (by omega) b4 bo φ _ _ _ (fun _=>True) (fun _=>False) rfl rfl ?aO ?aR (fun _ _ h=>h) (fun _ h=>h.elim) ?aF ?aB ?aS ?aL ?_
              (case aR=>exact(Kd.Qy bh.out HB.out))
              (case aB=>exact HB.out)
              (case aF=>exact(fun _ _=>trivial))
              (case aO=>exact ap.out)
              (case aS=>exact(Qi HB.out))
              (case aL=>have:=jy.out;omega)
              intro bq bd ho hb hg hat
              rw[← i6.out] at ho
              have ay:=Aside0.mk ho
              replace ε :=Aside0.mk (Q1 (g:=a9) (o:=.cells #[.int .i64 J,.int .i64 O,.int .i64 X,.int .i64 Y,.int .i64 Z,.int .i64 δ,.int .i64 γ,.int .i64 ι,.int .i64 θ,.int .i64 η] 25 (0,0)) ε.out hg (Kd.Z6 ap.out ε.out (by decide)))
              replace B:=Aside0.mk (Q1 (g:= τ) (o:=.cells #[.slice a4 φ.length a5,.slice a6 ν.length a8] 50 (0,0)) B.out hg (Kd.Z6 ap.out B.out (by decide)))
              replace ζ :=Aside0.mk (Q1 (g:=ak) (o:=.cells #[.slice none 0 0,.slice none 0 0] 50 (0,0)) ζ.out hg (Kd.Z6 ap.out ζ.out (by decide)))
              replace ψ :=Aside0.mk (Q1 (g:= ω) (o:=.cells #[.slice none 0 0,.slice none 0 0] 50 (0,0)) ψ.out hg (Kd.Z6 ap.out ψ.out (by decide)))
              replace HB:=Aside0.mk hb
              clear ap
              clear ho hb hg hat
              refine hK.out _ _ ⟨qc B,qc B⟩ (fun hHeld=>?_)
              clear hK K
              refine qN (some 27) ?_
              exact Zf (by first|(simp only[Q8,Act.put,qS];done)|(simp only[Q8,Act.put,qS];rfl)) (jg (b4,bq,ω) _ ⟨hHeld,ay.out,ε.out,B.out,ζ.out,ψ.out,b7.out,b9.out,ab.out,ag.out,aa.out,ah.out,ai.out,aj.out,HB.out⟩)
             ·skip
              refine Kd.Zq k86 _ 86 ?hg (N:=28) ?hd (xs:=([]:List (S86))) (inner:=[]) (ok:=fun _=>True) (okp:=fun _=>True) ?hr ?hp (fun _ hk=>hk) trivial (Below.refl _ _) (Nat.le_refl _) (by simp) ?_;(case hd=>rfl);(case hg=>rfl);(case hr=>go_simp <;> rfl);(case hp=>exact(Reps.none _ _))
              intro b5 bd ch hb hg_ hnew_
              clear hg_ hnew_
              (first|rw[← cn.out] at ch|(simp only[Int.reduceToNat] at ch;rw[← cn.out] at ch))
              have ao:=Aside0.mk (Kd.Q3 ch (Qi HB.out))
              replace ap:=sRb ap hb
              replace ε :=sBk ε hb
              replace B:=sBk B hb
              replace ζ :=sBk ζ hb
              replace ψ :=sBk ψ hb
              replace HB:=sHb hb
              clear hb ch
              refine hK.out _ _ ⟨qc B,qc B⟩ (fun hHeld=>?_)
              clear hK K
              refine qN (some 28) ?_
              exact Zf (by first|(simp only[Q8,Act.put,qS];done)|(simp only[Q8,Act.put,qS];rfl)) (hx (b4,b5,ω) _ ⟨hHeld,ap.out,ao.out,ε.out,B.out,ζ.out,ψ.out,b7.out,b9.out,ab.out,ag.out,aa.out,ah.out,ai.out,aj.out,HB.out⟩)
           ·skip
            rintro⟨b4,b5⟩ bd ⟨hS_,bj,bk,bl,bm,bn,cr⟩
            have ξ :Aside0 (Kd.R k36 36 bd w.heap.size (fun _=>True) b4 bo):=⟨bj⟩
            have ρ:Aside0 (Kd.R k86 86 bd w.heap.size (fun _=>True) b5 ba):=⟨bk⟩
            have a3:Aside0 (bd.heap[a9]?=some (.cells #[.int .i64 J,.int .i64 O,.int .i64 X,.int .i64 Y,.int .i64 Z,.int .i64 δ,.int .i64 γ,.int .i64 ι,.int .i64 θ,.int .i64 η] 25 (0,0))):=⟨bl⟩
            have a7:Aside0 (bd.heap[τ]?=some (.cells #[.slice a4 φ.length a5,.slice a6 ν.length a8] 50 (0,0))):=⟨bm⟩
            have al:Aside0 (bd.heap[ak]?=some (.cells #[.slice none 0 0,.slice none 0 0] 50 (0,0))):=⟨bn⟩
            have b1:Aside0 (Below w.heap.size w bd):=⟨cr⟩
            clear ε
            clear B
            clear ζ
            clear HB
            clear bj bk bl bm bn cr
            have ap:= ξ
            have ao:=ρ
            have ε :=a3
            have B:=a7
            have ζ :=al
            have HB:=b1
            clear ξ ρ a3 a7 al b1
            have hHeld:bd.cell? ⟨τ,0,none⟩=some (.slice a4 φ.length a5)∧bd.cell? ⟨τ,1,none⟩=some (.slice a6 ν.length a8):=hS_
            refine Zf (a':=?_) ?_ ?_
            rotate_left
            ·simp only[Q8,Act.put,qS]
             rfl
            refine Kj (i:=3) (j:=9) (Ni:=some 27) (Nj:=some 11) (bN 11 127) (bN 11 631) rfl rfl rfl rfl (X5 HT_.out kr) (by decide) (by decide) (fun K hK=>?_) (fun K hK=>?_)
            ·skip
             refine Kd.Zc k36 (w0:=w) w.heap.size (by rfl) (.tmp 24) (.tmp 26) 47 36 (.agg #[(.int .i64 0),(.int .i64 0),(.int .i64 0)]) 24 rfl Try.underlying47 Js rfl (by decide) (by omega) b4 bo φ _ _ _ (fun _=>True) (fun _=>False) rfl rfl ?aO ?aR (fun _ _ h=>h) (fun _ h=>h.elim) ?aF ?aB ?aS ?aL ?_
             (case aR=>exact(Kd.Qy bh.out HB.out))
             (case aB=>exact HB.out)
             (case aF=>exact(fun _ _=>trivial))
             (case aO=>exact ap.out)
             (case aS=>exact(Qi HB.out))
             (case aL=>have:=jy.out;omega)
             intro bq bs ho hb hg hat
             rw[← i6.out] at ho
             have ay:=Aside0.mk ho
             replace ε :=Aside0.mk (Q1 (g:=a9) (o:=.cells #[.int .i64 J,.int .i64 O,.int .i64 X,.int .i64 Y,.int .i64 Z,.int .i64 δ,.int .i64 γ,.int .i64 ι,.int .i64 θ,.int .i64 η] 25 (0,0)) ε.out hg (Kd.Z6 ap.out ε.out (by decide)))
             replace B:=Aside0.mk (Q1 (g:= τ) (o:=.cells #[.slice a4 φ.length a5,.slice a6 ν.length a8] 50 (0,0)) B.out hg (Kd.Z6 ap.out B.out (by decide)))
             replace ζ :=Aside0.mk (Q1 (g:=ak) (o:=.cells #[.slice none 0 0,.slice none 0 0] 50 (0,0)) ζ.out hg (Kd.Z6 ap.out ζ.out (by decide)))
             replace ao:=Aside0.mk (Kd.Y5 ao.out (Kd.Y4 ap.out) (by decide) hg)
             replace HB:=Aside0.mk hb
             clear ap
             clear ho hb hg hat
             refine hK.out _ _ ⟨qc B,qc B⟩ (fun hHeld=>?_)
             clear hK K
             refine qN (some 27) ?_
             exact Zf (by first|(simp only[Q8,Act.put,qS];done)|(simp only[Q8,Act.put,qS];rfl)) (jf (b4,bq,b5) _ ⟨hHeld,ay.out,ao.out,ε.out,B.out,ζ.out,HB.out⟩)
            ·skip
             refine Xa ?hg (N:=11) ?hd (cs:=#[.slice none 0 0,.slice none 0 0]) (t:=50) ?hr ?_;(case hd=>rfl);(case hg=>rfl);(case hr=>go_simp <;> rfl)
             intro ω hg bs hbox hb
             have ψ :=Aside0.mk hbox
             have b7:=sGe hg
             have b9:=sGe hg
             have ab:=sNl ε hg
             have ag:=sNg ε hg
             have aa:=sNl B hg
             have ah:=sNg B hg
             have ai:=sNl ζ hg
             have aj:=sNg ζ hg
             replace ap:=sRb ap hb
             replace ao:=sRb ao hb
             replace ε :=sBk ε hb
             replace B:=sBk B hb
             replace ζ :=sBk ζ hb
             replace HB:=sHb hb
             clear hb hbox hg
             refine hK.out _ _ ⟨qc B,qc B⟩ (fun hHeld=>?_)
             clear hK K
             refine qN (some 11) ?_
             exact Zf (by first|(simp only[Q8,Act.put,qS];done)|(simp only[Q8,Act.put,qS];rfl)) (hx (b4,b5,ω) _ ⟨hHeld,ap.out,ao.out,ε.out,B.out,ζ.out,ψ.out,b7.out,b9.out,ab.out,ag.out,aa.out,ah.out,ai.out,aj.out,HB.out⟩)
          ·skip
           rintro⟨b4,bq⟩ bf ⟨hS_,bj,bk,bl,bm,bn⟩
           have ξ :Aside0 (Kd.R k36 36 bf w.heap.size (fun _=>True) bq b3):=⟨bj⟩
           have ρ:Aside0 (bf.heap[a9]?=some (.cells #[.int .i64 J,.int .i64 O,.int .i64 X,.int .i64 Y,.int .i64 Z,.int .i64 δ,.int .i64 γ,.int .i64 ι,.int .i64 θ,.int .i64 η] 25 (0,0))):=⟨bk⟩
           have a3:Aside0 (bf.heap[τ]?=some (.cells #[.slice a4 φ.length a5,.slice a6 ν.length a8] 50 (0,0))):=⟨bl⟩
           have a7:Aside0 (bf.heap[ak]?=some (.cells #[.slice none 0 0,.slice none 0 0] 50 (0,0))):=⟨bm⟩
           have al:Aside0 (Below w.heap.size w bf):=⟨bn⟩
           clear ε
           clear B
           clear ζ
           clear HB
           clear bj bk bl bm bn
           have ay:= ξ
           have ε :=ρ
           have B:=a3
           have ζ :=a7
           have HB:=al
           clear ξ ρ a3 a7 al
           have hHeld:bf.cell? ⟨τ,0,none⟩=some (.slice a4 φ.length a5)∧bf.cell? ⟨τ,1,none⟩=some (.slice a6 ν.length a8):=hS_
           refine Zf (a':=?_) ?_ ?_
           rotate_left
           ·simp only[Q8,Act.put,qS]
            rfl
           refine Kj (i:=4) (j:=9) (Ni:=some 28) (Nj:=some 11) (bN 11 127) (bN 11 623) rfl rfl rfl rfl (X5 HT_.out kr) (by decide) (by decide) (fun K hK=>?_) (fun K hK=>?_)
           ·skip
            refine Kd.Zq k86 _ 86 ?hg (N:=28) ?hd (xs:=([]:List (S86))) (inner:=[]) (ok:=fun _=>True) (okp:=fun _=>True) ?hr ?hp (fun _ hk=>hk) trivial (Below.refl _ _) (Nat.le_refl _) (by simp) ?_;(case hd=>rfl);(case hg=>rfl);(case hr=>go_simp <;> rfl);(case hp=>exact(Reps.none _ _))
            intro b5 bd ch hb hg_ hnew_
            clear hg_ hnew_
            (first|rw[← cn.out] at ch|(simp only[Int.reduceToNat] at ch;rw[← cn.out] at ch))
            have ao:=Aside0.mk (Kd.Q3 ch (Qi HB.out))
            replace ay:=sRb ay hb
            replace ε :=sBk ε hb
            replace B:=sBk B hb
            replace ζ :=sBk ζ hb
            replace HB:=sHb hb
            clear hb ch
            refine hK.out _ _ ⟨qc B,qc B⟩ (fun hHeld=>?_)
            clear hK K
            refine qN (some 28) ?_
            exact Zf (by first|(simp only[Q8,Act.put,qS];done)|(simp only[Q8,Act.put,qS];rfl)) (jf (b4,bq,b5) _ ⟨hHeld,ay.out,ao.out,ε.out,B.out,ζ.out,HB.out⟩)
           ·skip
            refine Xa ?hg (N:=11) ?hd (cs:=#[.slice none 0 0,.slice none 0 0]) (t:=50) ?hr ?_;(case hd=>rfl);(case hg=>rfl);(case hr=>go_simp <;> rfl)
            intro ω hg bd hbox hb
            have ψ :=Aside0.mk hbox
            have b7:=sGe hg
            have b9:=sGe hg
            have ab:=sNl ε hg
            have ag:=sNg ε hg
            have aa:=sNl B hg
            have ah:=sNg B hg
            have ai:=sNl ζ hg
            have aj:=sNg ζ hg
            replace ay:=sRb ay hb
            replace ε :=sBk ε hb
            replace B:=sBk B hb
            replace ζ :=sBk ζ hb
            replace HB:=sHb hb
            clear hb hbox hg
            refine hK.out _ _ ⟨qc B,qc B⟩ (fun hHeld=>?_)
            clear hK K
            refine qN (some 11) ?_
            exact Zf (by first|(simp only[Q8,Act.put,qS];done)|(simp only[Q8,Act.put,qS];rfl)) (jg (b4,bq,ω) _ ⟨hHeld,ay.out,ε.out,B.out,ζ.out,ψ.out,b7.out,b9.out,ab.out,ag.out,aa.out,ah.out,ai.out,aj.out,HB.out⟩)
         ·skip
          rintro⟨b4,b5,ω⟩ bs ⟨hS_,bj,bk,bl,bm,bn,cr,db,dc,dd,de,co,cp,cq,d2,dw⟩
          have ξ :Aside0 (Kd.R k36 36 bs w.heap.size (fun _=>True) b4 bo):=⟨bj⟩
          have ρ:Aside0 (Kd.R k86 86 bs w.heap.size (fun _=>True) b5 ba):=⟨bk⟩
          have a3:Aside0 (bs.heap[a9]?=some (.cells #[.int .i64 J,.int .i64 O,.int .i64 X,.int .i64 Y,.int .i64 Z,.int .i64 δ,.int .i64 γ,.int .i64 ι,.int .i64 θ,.int .i64 η] 25 (0,0))):=⟨bl⟩
          have a7:Aside0 (bs.heap[τ]?=some (.cells #[.slice a4 φ.length a5,.slice a6 ν.length a8] 50 (0,0))):=⟨bm⟩
          have al:Aside0 (bs.heap[ak]?=some (.cells #[.slice none 0 0,.slice none 0 0] 50 (0,0))):=⟨bn⟩
          have b1:Aside0 (bs.heap[ω]?=some (.cells #[.slice none 0 0,.slice none 0 0] 50 (0,0))):=⟨cr⟩
          have b8:Aside0 (w.heap.size ≤ ω):=⟨db⟩
          have bi:Aside0 (w.heap.size ≤ ω):=⟨dc⟩
          have cf:Aside0 (a9 ≠ ω):=⟨dd⟩
          have cx:Aside0 (ω ≠ a9):=⟨de⟩
          have bw:Aside0 (τ ≠ ω):=⟨co⟩
          have bz:Aside0 (ω ≠ τ):=⟨cp⟩
          have ca:Aside0 (ak ≠ ω):=⟨cq⟩
          have cm:Aside0 (ω ≠ ak):=⟨d2⟩
          have dx:Aside0 (Below w.heap.size w bs):=⟨dw⟩
          clear ε
          clear B
          clear ζ
          clear HB
          clear bj bk bl bm bn cr db dc dd de co cp cq d2 dw
          have ap:= ξ
          have ao:=ρ
          have ε :=a3
          have B:=a7
          have ζ :=al
          have ψ :=b1
          have b7:=b8
          have b9:=bi
          have ab:=cf
          have ag:=cx
          have aa:=bw
          have ah:=bz
          have ai:=ca
          have aj:=cm
          have HB:=dx
          clear ξ ρ a3 a7 al b1 b8 bi cf cx bw bz ca cm dx
          have hHeld:bs.cell? ⟨τ,0,none⟩=some (.slice a4 φ.length a5)∧bs.cell? ⟨τ,1,none⟩=some (.slice a6 ν.length a8):=hS_
          refine Zf (a':=?_) ?_ ?_
          rotate_left
          ·simp only[Q8,Act.put,qS]
           rfl
          refine Zb (i:=3) (N:=some 27) (bN 11 639) rfl rfl (Q4 HT_.out kr) (by decide) (fun K hK=>?_)
          refine Kd.Zc k36 (w0:=w) w.heap.size (by rfl) (.tmp 24) (.tmp 26) 47 36 (.agg #[(.int .i64 0),(.int .i64 0),(.int .i64 0)]) 24 rfl Try.underlying47 Js rfl (by decide) (by omega) b4 bo φ _ _ _ (fun _=>True) (fun _=>False) rfl rfl ?aO ?aR (fun _ _ h=>h) (fun _ h=>h.elim) ?aF ?aB ?aS ?aL ?_
          (case aR=>exact(Kd.Qy bh.out HB.out))
          (case aB=>exact HB.out)
          (case aF=>exact(fun _ _=>trivial))
          (case aO=>exact ap.out)
          (case aS=>exact(Qi HB.out))
          (case aL=>have:=jy.out;omega)
          intro bq e9 ho hb hg hat
          rw[← i6.out] at ho
          have ay:=Aside0.mk ho
          replace ε :=Aside0.mk (Q1 (g:=a9) (o:=.cells #[.int .i64 J,.int .i64 O,.int .i64 X,.int .i64 Y,.int .i64 Z,.int .i64 δ,.int .i64 γ,.int .i64 ι,.int .i64 θ,.int .i64 η] 25 (0,0)) ε.out hg (Kd.Z6 ap.out ε.out (by decide)))
          replace B:=Aside0.mk (Q1 (g:= τ) (o:=.cells #[.slice a4 φ.length a5,.slice a6 ν.length a8] 50 (0,0)) B.out hg (Kd.Z6 ap.out B.out (by decide)))
          replace ζ :=Aside0.mk (Q1 (g:=ak) (o:=.cells #[.slice none 0 0,.slice none 0 0] 50 (0,0)) ζ.out hg (Kd.Z6 ap.out ζ.out (by decide)))
          replace ao:=Aside0.mk (Kd.Y5 ao.out (Kd.Y4 ap.out) (by decide) hg)
          replace ψ :=Aside0.mk (Q1 (g:= ω) (o:=.cells #[.slice none 0 0,.slice none 0 0] 50 (0,0)) ψ.out hg (Kd.Z6 ap.out ψ.out (by decide)))
          replace HB:=Aside0.mk hb
          clear ap
          clear ho hb hg hat
          refine hK.out _ _ ⟨qc B,qc B⟩ (fun hHeld=>?_)
          clear hK K
          refine qN (some 27) ?_
          exact Zf (by first|(simp only[Q8,Act.put,qS];done)|(simp only[Q8,Act.put,qS];rfl)) (fj (b4,bq,b5,ω) _ ⟨hHeld,ay.out,ao.out,ε.out,B.out,ζ.out,ψ.out,b7.out,b9.out,ab.out,ag.out,aa.out,ah.out,ai.out,aj.out,HB.out⟩)
        ·skip
         rintro⟨b4,bq,ω⟩ bd ⟨hS_,bj,bk,bl,bm,bn,cr,db,dc,dd,de,co,cp,cq,d2⟩
         have ξ :Aside0 (Kd.R k36 36 bd w.heap.size (fun _=>True) bq b3):=⟨bj⟩
         have ρ:Aside0 (bd.heap[a9]?=some (.cells #[.int .i64 J,.int .i64 O,.int .i64 X,.int .i64 Y,.int .i64 Z,.int .i64 δ,.int .i64 γ,.int .i64 ι,.int .i64 θ,.int .i64 η] 25 (0,0))):=⟨bk⟩
         have a3:Aside0 (bd.heap[τ]?=some (.cells #[.slice a4 φ.length a5,.slice a6 ν.length a8] 50 (0,0))):=⟨bl⟩
         have a7:Aside0 (bd.heap[ak]?=some (.cells #[.slice none 0 0,.slice none 0 0] 50 (0,0))):=⟨bm⟩
         have al:Aside0 (bd.heap[ω]?=some (.cells #[.slice none 0 0,.slice none 0 0] 50 (0,0))):=⟨bn⟩
         have b1:Aside0 (w.heap.size ≤ ω):=⟨cr⟩
         have b8:Aside0 (w.heap.size ≤ ω):=⟨db⟩
         have bi:Aside0 (a9 ≠ ω):=⟨dc⟩
         have cf:Aside0 (ω ≠ a9):=⟨dd⟩
         have cx:Aside0 (τ ≠ ω):=⟨de⟩
         have bw:Aside0 (ω ≠ τ):=⟨co⟩
         have bz:Aside0 (ak ≠ ω):=⟨cp⟩
         have ca:Aside0 (ω ≠ ak):=⟨cq⟩
         have cm:Aside0 (Below w.heap.size w bd):=⟨d2⟩
         clear ε
         clear B
         clear ζ
         clear HB
         clear bj bk bl bm bn cr db dc dd de co cp cq d2
         have ay:= ξ
         have ε :=ρ
         have B:=a3
         have ζ :=a7
         have ψ :=al
         have b7:=b1
         have b9:=b8
         have ab:=bi
         have ag:=cf
         have aa:=cx
         have ah:=bw
         have ai:=bz
         have aj:=ca
         have HB:=cm
         clear ξ ρ a3 a7 al b1 b8 bi cf cx bw bz ca cm
         have hHeld:bd.cell? ⟨τ,0,none⟩=some (.slice a4 φ.length a5)∧bd.cell? ⟨τ,1,none⟩=some (.slice a6 ν.length a8):=hS_
         refine Zf (a':=?_) ?_ ?_
         rotate_left
         ·simp only[Q8,Act.put,qS]
          rfl
         refine Zb (i:=4) (N:=some 28) (bN 11 639) rfl rfl (Q4 HT_.out kr) (by decide) (fun K hK=>?_)
         refine Kd.Zq k86 _ 86 ?hg (N:=28) ?hd (xs:=([]:List (S86))) (inner:=[]) (ok:=fun _=>True) (okp:=fun _=>True) ?hr ?hp (fun _ hk=>hk) trivial (Below.refl _ _) (Nat.le_refl _) (by simp) ?_;(case hd=>rfl);(case hg=>rfl);(case hr=>go_simp <;> rfl);(case hp=>exact(Reps.none _ _))
         intro b5 bs ig hb hg_ hnew_
         clear hg_ hnew_
         (first|rw[← cn.out] at ig|(simp only[Int.reduceToNat] at ig;rw[← cn.out] at ig))
         have ao:=Aside0.mk (Kd.Q3 ig (Qi HB.out))
         replace ay:=sRb ay hb
         replace ε :=sBk ε hb
         replace B:=sBk B hb
         replace ζ :=sBk ζ hb
         replace ψ :=sBk ψ hb
         replace HB:=sHb hb
         clear hb ig
         refine hK.out _ _ ⟨qc B,qc B⟩ (fun hHeld=>?_)
         clear hK K
         refine qN (some 28) ?_
         exact Zf (by first|(simp only[Q8,Act.put,qS];done)|(simp only[Q8,Act.put,qS];rfl)) (fj (b4,bq,b5,ω) _ ⟨hHeld,ay.out,ao.out,ε.out,B.out,ζ.out,ψ.out,b7.out,b9.out,ab.out,ag.out,aa.out,ah.out,ai.out,aj.out,HB.out⟩)
       ·skip
        rintro⟨b4,bq,b5⟩ bs ⟨hS_,bj,bk,bl,bm,bn,cr⟩
        have ξ :Aside0 (Kd.R k36 36 bs w.heap.size (fun _=>True) bq b3):=⟨bj⟩
        have ρ:Aside0 (Kd.R k86 86 bs w.heap.size (fun _=>True) b5 ba):=⟨bk⟩
        have a3:Aside0 (bs.heap[a9]?=some (.cells #[.int .i64 J,.int .i64 O,.int .i64 X,.int .i64 Y,.int .i64 Z,.int .i64 δ,.int .i64 γ,.int .i64 ι,.int .i64 θ,.int .i64 η] 25 (0,0))):=⟨bl⟩
        have a7:Aside0 (bs.heap[τ]?=some (.cells #[.slice a4 φ.length a5,.slice a6 ν.length a8] 50 (0,0))):=⟨bm⟩
        have al:Aside0 (bs.heap[ak]?=some (.cells #[.slice none 0 0,.slice none 0 0] 50 (0,0))):=⟨bn⟩
        have b1:Aside0 (Below w.heap.size w bs):=⟨cr⟩
        clear ε
        clear B
        clear ζ
        clear HB
        clear bj bk bl bm bn cr
        have ay:= ξ
        have ao:=ρ
        have ε :=a3
        have B:=a7
        have ζ :=al
        have HB:=b1
        clear ξ ρ a3 a7 al b1
        have hHeld:bs.cell? ⟨τ,0,none⟩=some (.slice a4 φ.length a5)∧bs.cell? ⟨τ,1,none⟩=some (.slice a6 ν.length a8):=hS_
        refine Zf (a':=?_) ?_ ?_
        rotate_left
        ·simp only[Q8,Act.put,qS]
         rfl
        refine Kj (i:=7) (j:=9) (Ni:=some 31) (Nj:=some 11) (bN 11 255) (bN 11 639) rfl rfl rfl rfl (X5 HT_.out kr) (by decide) (by decide) (fun K hK=>?_) (fun K hK=>?_)
        ·skip
         refine Kd.Zc k86 (w0:=w) w.heap.size (by rfl) (.tmp 28) (.tmp 30) 48 86 (.agg #[(.int .i64 0),(.int .i64 0)]) 16 rfl Try.underlying48 K4 rfl (by decide) (by omega) b5 ba ν _ _ _ (fun _=>True) (fun _=>False) rfl rfl ?aO ?aR (fun _ _ h=>h) (fun _ h=>h.elim) ?aF ?aB ?aS ?aL ?_
         (case aR=>exact(Kd.Qy br.out HB.out))
         (case aB=>exact HB.out)
         (case aF=>exact(fun _ _=>trivial))
         (case aO=>exact ao.out)
         (case aS=>exact(Qi HB.out))
         (case aL=>have:=mi.out;omega)
         intro ii e9 ho hb hg hat
         rw[← ln.out] at ho
         have ci:=Aside0.mk ho
         replace ε :=Aside0.mk (Q1 (g:=a9) (o:=.cells #[.int .i64 J,.int .i64 O,.int .i64 X,.int .i64 Y,.int .i64 Z,.int .i64 δ,.int .i64 γ,.int .i64 ι,.int .i64 θ,.int .i64 η] 25 (0,0)) ε.out hg (Kd.Z6 ao.out ε.out (by decide)))
         replace B:=Aside0.mk (Q1 (g:= τ) (o:=.cells #[.slice a4 φ.length a5,.slice a6 ν.length a8] 50 (0,0)) B.out hg (Kd.Z6 ao.out B.out (by decide)))
         replace ζ :=Aside0.mk (Q1 (g:=ak) (o:=.cells #[.slice none 0 0,.slice none 0 0] 50 (0,0)) ζ.out hg (Kd.Z6 ao.out ζ.out (by decide)))
         replace ay:=Aside0.mk (Kd.Y5 ay.out (Kd.Y4 ao.out) (by decide) hg)
         replace HB:=Aside0.mk hb
         clear ao
         clear ho hb hg hat
         obtain⟨om,oo,mj⟩:=Kd.Q7 ci.out
         (first|subst mj|(injection mj with ae av af;have aw:=ae.symm;have ax:=af.symm;clear ae av af;subst aw;subst ax))
         obtain⟨ki,kj,ij⟩:=Kd.Q7 ay.out
         (first|subst ij|(injection ij with ae av af;have aw:=ae.symm;have ax:=af.symm;clear ae av af;subst aw;subst ax))
         refine hK.out _ _ ⟨qc B,qc B⟩ (fun hHeld=>?_)
         clear hK K
         refine qN (some 31) ?_
         refine qP 8 (some 32) (bN 11 511) HT_ ?_
         exact Zf (by first|(simp only[Q8,Act.put,qS];done)|(simp only[Q8,Act.put,qS];rfl)) (k4 (b4,.slice ki b3.length kj,b5,.slice om bc.length oo) _ ⟨hHeld,ay.out,ci.out,ε.out,B.out,ζ.out,HB.out⟩)
        ·skip
         refine Xa ?hg (N:=11) ?hd (cs:=#[.slice none 0 0,.slice none 0 0]) (t:=50) ?hr ?_;(case hd=>rfl);(case hg=>rfl);(case hr=>go_simp <;> rfl)
         intro ω hg e9 hbox hb
         have ψ :=Aside0.mk hbox
         have b7:=sGe hg
         have b9:=sGe hg
         have ab:=sNl ε hg
         have ag:=sNg ε hg
         have aa:=sNl B hg
         have ah:=sNg B hg
         have ai:=sNl ζ hg
         have aj:=sNg ζ hg
         replace ay:=sRb ay hb
         replace ao:=sRb ao hb
         replace ε :=sBk ε hb
         replace B:=sBk B hb
         replace ζ :=sBk ζ hb
         replace HB:=sHb hb
         clear hb hbox hg
         refine hK.out _ _ ⟨qc B,qc B⟩ (fun hHeld=>?_)
         clear hK K
         refine qN (some 11) ?_
         exact Zf (by first|(simp only[Q8,Act.put,qS];done)|(simp only[Q8,Act.put,qS];rfl)) (fj (b4,bq,b5,ω) _ ⟨hHeld,ay.out,ao.out,ε.out,B.out,ζ.out,ψ.out,b7.out,b9.out,ab.out,ag.out,aa.out,ah.out,ai.out,aj.out,HB.out⟩)
      ·skip
       rintro⟨b4,bq,b5,ω⟩ e9 ⟨hS_,bj,bk,bl,bm,bn,cr,db,dc,dd,de,co,cp,cq,d2,dw⟩
       have ξ :Aside0 (Kd.R k36 36 e9 w.heap.size (fun _=>True) bq b3):=⟨bj⟩
       have ρ:Aside0 (Kd.R k86 86 e9 w.heap.size (fun _=>True) b5 ba):=⟨bk⟩
       have a3:Aside0 (e9.heap[a9]?=some (.cells #[.int .i64 J,.int .i64 O,.int .i64 X,.int .i64 Y,.int .i64 Z,.int .i64 δ,.int .i64 γ,.int .i64 ι,.int .i64 θ,.int .i64 η] 25 (0,0))):=⟨bl⟩
       have a7:Aside0 (e9.heap[τ]?=some (.cells #[.slice a4 φ.length a5,.slice a6 ν.length a8] 50 (0,0))):=⟨bm⟩
       have al:Aside0 (e9.heap[ak]?=some (.cells #[.slice none 0 0,.slice none 0 0] 50 (0,0))):=⟨bn⟩
       have b1:Aside0 (e9.heap[ω]?=some (.cells #[.slice none 0 0,.slice none 0 0] 50 (0,0))):=⟨cr⟩
       have b8:Aside0 (w.heap.size ≤ ω):=⟨db⟩
       have bi:Aside0 (w.heap.size ≤ ω):=⟨dc⟩
       have cf:Aside0 (a9 ≠ ω):=⟨dd⟩
       have cx:Aside0 (ω ≠ a9):=⟨de⟩
       have bw:Aside0 (τ ≠ ω):=⟨co⟩
       have bz:Aside0 (ω ≠ τ):=⟨cp⟩
       have ca:Aside0 (ak ≠ ω):=⟨cq⟩
       have cm:Aside0 (ω ≠ ak):=⟨d2⟩
       have dx:Aside0 (Below w.heap.size w e9):=⟨dw⟩
       clear ε
       clear B
       clear ζ
       clear HB
       clear bj bk bl bm bn cr db dc dd de co cp cq d2 dw
       have ay:= ξ
       have ao:=ρ
       have ε :=a3
       have B:=a7
       have ζ :=al
       have ψ :=b1
       have b7:=b8
       have b9:=bi
       have ab:=cf
       have ag:=cx
       have aa:=bw
       have ah:=bz
       have ai:=ca
       have aj:=cm
       have HB:=dx
       clear ξ ρ a3 a7 al b1 b8 bi cf cx bw bz ca cm dx
       have hHeld:e9.cell? ⟨τ,0,none⟩=some (.slice a4 φ.length a5)∧e9.cell? ⟨τ,1,none⟩=some (.slice a6 ν.length a8):=hS_
       refine Zf (a':=?_) ?_ ?_
       rotate_left
       ·simp only[Q8,Act.put,qS]
        rfl
       refine Zb (i:=7) (N:=some 31) (bN 11 767) rfl rfl (Q4 HT_.out kr) (by decide) (fun K hK=>?_)
       refine Kd.Zc k86 (w0:=w) w.heap.size (by rfl) (.tmp 28) (.tmp 30) 48 86 (.agg #[(.int .i64 0),(.int .i64 0)]) 16 rfl Try.underlying48 K4 rfl (by decide) (by omega) b5 ba ν _ _ _ (fun _=>True) (fun _=>False) rfl rfl ?aO ?aR (fun _ _ h=>h) (fun _ h=>h.elim) ?aF ?aB ?aS ?aL ?_
       (case aR=>exact(Kd.Qy br.out HB.out))
       (case aB=>exact HB.out)
       (case aF=>exact(fun _ _=>trivial))
       (case aO=>exact ao.out)
       (case aS=>exact(Qi HB.out))
       (case aL=>have:=mi.out;omega)
       intro ii ie ho hb hg hat
       rw[← ln.out] at ho
       have ci:=Aside0.mk ho
       replace ε :=Aside0.mk (Q1 (g:=a9) (o:=.cells #[.int .i64 J,.int .i64 O,.int .i64 X,.int .i64 Y,.int .i64 Z,.int .i64 δ,.int .i64 γ,.int .i64 ι,.int .i64 θ,.int .i64 η] 25 (0,0)) ε.out hg (Kd.Z6 ao.out ε.out (by decide)))
       replace B:=Aside0.mk (Q1 (g:= τ) (o:=.cells #[.slice a4 φ.length a5,.slice a6 ν.length a8] 50 (0,0)) B.out hg (Kd.Z6 ao.out B.out (by decide)))
       replace ζ :=Aside0.mk (Q1 (g:=ak) (o:=.cells #[.slice none 0 0,.slice none 0 0] 50 (0,0)) ζ.out hg (Kd.Z6 ao.out ζ.out (by decide)))
       replace ay:=Aside0.mk (Kd.Y5 ay.out (Kd.Y4 ao.out) (by decide) hg)
       replace ψ :=Aside0.mk (Q1 (g:= ω) (o:=.cells #[.slice none 0 0,.slice none 0 0] 50 (0,0)) ψ.out hg (Kd.Z6 ao.out ψ.out (by decide)))
       replace HB:=Aside0.mk hb
       clear ao
       clear ho hb hg hat
       obtain⟨ki,kj,ij⟩:=Kd.Q7 ci.out
       (first|subst ij|(injection ij with ae av af;have aw:=ae.symm;have ax:=af.symm;clear ae av af;subst aw;subst ax))
       obtain⟨kk,kl,ik⟩:=Kd.Q7 ay.out
       (first|subst ik|(injection ik with ae av af;have aw:=ae.symm;have ax:=af.symm;clear ae av af;subst aw;subst ax))
       refine hK.out _ _ ⟨qc B,qc B⟩ (fun hHeld=>?_)
       clear hK K
       refine qN (some 31) ?_
       refine qP 8 (some 32) (bN 11 1023) HT_ ?_
       exact Zf (by first|(simp only[Q8,Act.put,qS];done)|(simp only[Q8,Act.put,qS];rfl)) (gi (b4,.slice kk b3.length kl,b5,.slice ki bc.length kj,ω) _ ⟨hHeld,ay.out,ci.out,ε.out,B.out,ζ.out,ψ.out,b7.out,b9.out,ab.out,ag.out,aa.out,ah.out,ai.out,aj.out,HB.out⟩)
     ·skip
      rintro⟨b4,bq,b5,ii⟩ d8 ⟨hS_,bj,bk,bl,bm,bn,cr⟩
      have ξ :Aside0 (Kd.R k36 36 d8 w.heap.size (fun _=>True) bq b3):=⟨bj⟩
      have ρ:Aside0 (Kd.R k86 86 d8 w.heap.size (fun _=>True) ii bc):=⟨bk⟩
      have a3:Aside0 (d8.heap[a9]?=some (.cells #[.int .i64 J,.int .i64 O,.int .i64 X,.int .i64 Y,.int .i64 Z,.int .i64 δ,.int .i64 γ,.int .i64 ι,.int .i64 θ,.int .i64 η] 25 (0,0))):=⟨bl⟩
      have a7:Aside0 (d8.heap[τ]?=some (.cells #[.slice a4 φ.length a5,.slice a6 ν.length a8] 50 (0,0))):=⟨bm⟩
      have al:Aside0 (d8.heap[ak]?=some (.cells #[.slice none 0 0,.slice none 0 0] 50 (0,0))):=⟨bn⟩
      have b1:Aside0 (Below w.heap.size w d8):=⟨cr⟩
      clear ε
      clear B
      clear ζ
      clear HB
      clear bj bk bl bm bn cr
      have ay:= ξ
      have ci:=ρ
      have ε :=a3
      have B:=a7
      have ζ :=al
      have HB:=b1
      clear ξ ρ a3 a7 al b1
      have hHeld:d8.cell? ⟨τ,0,none⟩=some (.slice a4 φ.length a5)∧d8.cell? ⟨τ,1,none⟩=some (.slice a6 ν.length a8):=hS_
      obtain⟨kk,kl,ik⟩:=Kd.Q7 ci.out
      (first|subst ik|(injection ik with ae av af;have aw:=ae.symm;have ax:=af.symm;clear ae av af;subst aw;subst ax))
      obtain⟨bg,be,gm⟩:=Kd.Q7 ay.out
      (first|subst gm|(injection gm with ae av af;have aw:=ae.symm;have ax:=af.symm;clear ae av af;subst aw;subst ax))
      refine Zf (a':=?_) ?_ ?_
      rotate_left
      ·simp only[Q8,Act.put,qS]
       rfl
      refine Zb (i:=9) (N:=some 11) (bN 11 1023) rfl rfl (Q4 HT_.out kr) (by decide) (fun K hK=>?_)
      refine Xa ?hg (N:=11) ?hd (cs:=#[.slice none 0 0,.slice none 0 0]) (t:=50) ?hr ?_;(case hd=>rfl);(case hg=>rfl);(case hr=>go_simp <;> rfl)
      intro ω hg eo hbox hb
      have ψ :=Aside0.mk hbox
      have b7:=sGe hg
      have b9:=sGe hg
      have ab:=sNl ε hg
      have ag:=sNg ε hg
      have aa:=sNl B hg
      have ah:=sNg B hg
      have ai:=sNl ζ hg
      have aj:=sNg ζ hg
      replace ay:=sRb ay hb
      replace ci:=sRb ci hb
      replace ε :=sBk ε hb
      replace B:=sBk B hb
      replace ζ :=sBk ζ hb
      replace HB:=sHb hb
      clear hb hbox hg
      refine hK.out _ _ ⟨qc B,qc B⟩ (fun hHeld=>?_)
      clear hK K
      refine qN (some 11) ?_
      exact Zf (by first|(simp only[Q8,Act.put,qS];done)|(simp only[Q8,Act.put,qS];rfl)) (gi (b4,.slice bg b3.length be,b5,.slice kk bc.length kl,ω) _ ⟨hHeld,ay.out,ci.out,ε.out,B.out,ζ.out,ψ.out,b7.out,b9.out,ab.out,ag.out,aa.out,ah.out,ai.out,aj.out,HB.out⟩)
    rintro⟨b4,bq,b5,ii,ω⟩ dy ⟨hS_,bj,bk,bl,bm,bn,cr,db,dc,dd,de,co,cp,cq,d2,dw⟩
    have ξ :Aside0 (Kd.R k36 36 dy w.heap.size (fun _=>True) bq b3):=⟨bj⟩
    have ρ:Aside0 (Kd.R k86 86 dy w.heap.size (fun _=>True) ii bc):=⟨bk⟩
    have a3:Aside0 (dy.heap[a9]?=some (.cells #[.int .i64 J,.int .i64 O,.int .i64 X,.int .i64 Y,.int .i64 Z,.int .i64 δ,.int .i64 γ,.int .i64 ι,.int .i64 θ,.int .i64 η] 25 (0,0))):=⟨bl⟩
    have a7:Aside0 (dy.heap[τ]?=some (.cells #[.slice a4 φ.length a5,.slice a6 ν.length a8] 50 (0,0))):=⟨bm⟩
    have al:Aside0 (dy.heap[ak]?=some (.cells #[.slice none 0 0,.slice none 0 0] 50 (0,0))):=⟨bn⟩
    have b1:Aside0 (dy.heap[ω]?=some (.cells #[.slice none 0 0,.slice none 0 0] 50 (0,0))):=⟨cr⟩
    have b8:Aside0 (w.heap.size ≤ ω):=⟨db⟩
    have bi:Aside0 (w.heap.size ≤ ω):=⟨dc⟩
    have cf:Aside0 (a9 ≠ ω):=⟨dd⟩
    have cx:Aside0 (ω ≠ a9):=⟨de⟩
    have bw:Aside0 (τ ≠ ω):=⟨co⟩
    have bz:Aside0 (ω ≠ τ):=⟨cp⟩
    have ca:Aside0 (ak ≠ ω):=⟨cq⟩
    have cm:Aside0 (ω ≠ ak):=⟨d2⟩
    have dx:Aside0 (Below w.heap.size w dy):=⟨dw⟩
    clear ε
    clear B
    clear ζ
    clear HB
    clear bj bk bl bm bn cr db dc dd de co cp cq d2 dw
    have ay:= ξ
    have ci:=ρ
    have ε :=a3
    have B:=a7
    have ζ :=al
    have ψ :=b1
    have b7:=b8
    have b9:=bi
    have ab:=cf
    have ag:=cx
    have aa:=bw
    have ah:=bz
    have ai:=ca
    have aj:=cm
    have HB:=dx
    clear ξ ρ a3 a7 al b1 b8 bi cf cx bw bz ca cm dx
    have hHeld:dy.cell? ⟨τ,0,none⟩=some (.slice a4 φ.length a5)∧dy.cell? ⟨τ,1,none⟩=some (.slice a6 ν.length a8):=hS_
    obtain⟨bg,be,gm⟩:=Kd.Q7 ci.out
    (first|subst gm|(injection gm with ae av af;have aw:=ae.symm;have ax:=af.symm;clear ae av af;subst aw;subst ax))
    obtain⟨km,l3,mr⟩:=Kd.Q7 ay.out
    (first|subst mr|(injection mr with ae av af;have aw:=ae.symm;have ax:=af.symm;clear ae av af;subst aw;subst ax))
    refine Zf (a':=?_) ?_ ?_
    rotate_left
    ·simp only[Q8,Act.put,qS]
     rfl
    refine Zb (i:=10) (N:=none) (bN 11 2047) rfl rfl (Q4 HT_.out kr) (by decide) (fun K hK=>?_)
    have tf:dy.cell? ⟨ω,0,none⟩=some (.slice none 0 0):=(Qa ψ.out 0).trans rfl
    have ss:=Qc ψ.out 0
    have q9:=ab.out
    have qe:=aa.out
    have qf:=ai.out
    have qg:=ag.out
    have qh:=ah.out
    have qi:=aj.out
    have tg:dy.cell? ⟨ω,1,none⟩=some (.slice none 0 0):=(Qa ψ.out 1).trans rfl
    have st:=Qc ψ.out 1
    have qj:=ab.out
    have qk:=aa.out
    have ql:=ai.out
    have qm:=ag.out
    have qn:=ah.out
    have qo:=aj.out
    refine K8 (w1:=?_) (by rfl) rfl ?_ ?_
    rotate_left
    ·go_simp
     rfl
    refine hK.out _ _ ⟨((cell_far (p:=⟨ω,_,none⟩) aa.out _).trans (((cell_far (p:=⟨ω,_,none⟩) aa.out _).trans (hHeld.1)))),((cell_far (p:=⟨ω,_,none⟩) aa.out _).trans (((cell_far (p:=⟨ω,_,none⟩) aa.out _).trans (hHeld.2))))⟩ (fun hHeld=>?_)
    clear hK K
    refine Zx (Ze HT_.out kr) ?_
    have mu:=ag.out
    have mw:=ab.out
    have lr:=ah.out
    have ls:=aa.out
    have l7:=aj.out
    have l8:=ai.out
    obtain⟨fv,fw,fy,ga⟩:=qD2 ψ.out
    try go_wp2
    go_loopg [36] k (fun kq r6 w'=>∃ (a1:Int) (μ :List (S36)) (cj:Value),r6 = .int .i64 a1∧Aside0 (group_Spread.l0 kq l1 a2 (b3.length:Int) a1 J O X Y Z δ γ ι θ η μ bc=some (r1,r2,r3))∧Aside0 (kq≤k)∧Aside0 (Kd.R k36 36 w' w.heap.size (fun _=>True) cj μ)∧Aside0 (Kd.R k86 86 w' w.heap.size (fun _=>True) (.slice bg bc.length be) bc)∧Aside0 (w'.heap[a9]?=some (.cells #[.int .i64 J,.int .i64 O,.int .i64 X,.int .i64 Y,.int .i64 Z,.int .i64 δ,.int .i64 γ,.int .i64 ι,.int .i64 θ,.int .i64 η] 25 (0,0)))∧Aside0 (w'.heap[τ]?=some (.cells #[(.slice a4 φ.length a5),(.slice a6 ν.length a8)] 50 (0,0)))∧Aside0 (w'.heap[ak]?=some (.cells #[(.slice none 0 0),(.slice none 0 0)] 50 (0,0)))∧Aside0 (w'.heap[ω]?=some (.cells #[cj,(.slice bg bc.length be)] 50 (0,0)))∧Aside0 (Below w.heap.size w w')∧Aside0 (cj=(.slice km b3.length l3)))
    case atStart=>exact⟨(0),(b3),(.slice km b3.length l3),qR,H',⟨Nat.le_refl _⟩,⟨by(with_reducible repeat first|apply Kd.Qq|apply Kd.Qp|apply Kd.Qr);exact Kd.Qw (Kd.Qx (Kd.Qx (Kd.Q5 ay.out ψ.out (by decide)) (fun _ hk=>hk.2) _) (fun _ hk=>hk.2) _) (fun _ hk=>trivial)⟩,⟨by(with_reducible repeat first|apply Kd.Qq|apply Kd.Qp|apply Kd.Qr);exact Kd.Qw (Kd.Qx (Kd.Qx (Kd.Q5 ci.out ψ.out (by decide)) (fun _ hk=>hk.2) _) (fun _ hk=>hk.2) _) (fun _ hk=>trivial)⟩,⟨bka ε⟩,⟨bka B⟩,⟨bka ζ⟩,⟨by(with_reducible repeat first|refine Qm ?_ _|refine Qe ?_|refine Qn ?_ _);refine Ql (cs:=#[.slice km b3.length l3,.slice none 0 0]) ?_ 1 _ rfl;(with_reducible repeat first|refine Qm ?_ _|refine Qe ?_|refine Qn ?_ _);refine Ql (cs:=#[.slice none 0 0,.slice none 0 0]) ?_ 0 _ rfl;(with_reducible repeat first|refine Qm ?_ _|refine Qe ?_|refine Qn ?_ _);exact ψ.out⟩,⟨bel⟩,⟨rfl⟩⟩
    case round=>
     clear H'
     try clear p2
     try clear c3
     try clear c7
     try clear c8
     try clear oi
     try clear oj
     try clear gs
     try clear fv
     try clear fw
     try clear fy
     try clear ga
     obtain⟨a1,μ,cj,rfl,HA,b0,χ,am,ε,B,ζ,ψ,HB,h4⟩:=hrel
     cases gk with
     |zero=>exact absurd HA.out (by simp[group_Spread.l0])
     |succ k1=>
      have H:=HA.out
      clear HA
      simp only[group_Spread.l0] at H
      by_cases fb:a1<(b3.length:Int)
      ·rw[if_pos fb] at H
       have c37b0:decide (a1<(b3.length:Int))=true:=decide_eq_true fb
       clear fb
       by_cases iv:0≤a1
       ·rw[if_pos iv] at H
        have c38b0:decide (0≤a1)=true:=decide_eq_true iv
        clear iv
        by_cases gh:a1<(μ.length:Int)
        ·rw[if_pos gh] at H
         have c39b0:decide (a1<(μ.length:Int))=true:=decide_eq_true gh
         clear gh
         by_cases ec:((Qd μ a1).f2)≥0
         ·rw[if_pos ec] at H
          have c40b0:decide (0≤((Qd μ a1).f2))=true:=decide_eq_true ec
          clear ec
          by_cases jh:0≤((Qd μ a1).f2)
          ·rw[if_pos jh] at H
           have c41b0:=eq_true jh
           have c41b1:decide (0≤((Qd μ a1).f2))=true:=decide_eq_true jh
           clear jh
           obtain⟨fk,i7⟩:∃ j_:Int,(shr .i64 a2 ((Qd μ a1).f2))=j_:=⟨_,rfl⟩
           replace H:(if (Go.bits .and .i64 (fk) 1)=1 then (group_Spread.l0 k1 l1 a2 (b3.length:Int) (wrap64 (a1+1)) J O X Y Z δ γ ι θ η (μ.set (a1:Int).toNat (⟨(Qd μ a1).f0,(Qd μ a1).f1,(-1)⟩:S36)) bc) else (group_Spread.l0 k1 l1 a2 (b3.length:Int) (wrap64 (a1+1)) J O X Y Z δ γ ι θ η μ bc))=some (r1,r2,r3):=by first|(rw[i7] at H;exact H)|(simp only[i7] at H ⊢;exact H)
           have r7:(a2 / 2 ^ min ((Qd μ a1).f2).toNat 64)=fk:=i7
           have hji42z:((Qd μ a1).f2)≤64→(a2 / 2 ^ ((Qd μ a1).f2).toNat)=fk:=Jw i7
           by_cases i3:(Go.bits .and .i64 (fk) 1)=1
           ·rw[if_pos i3] at H
            have c43b0:((Go.bits .and .i64 (fk) 1)==1)=true:=beq_iff_eq.mpr i3
            have c43b1:((Go.bits .and .i64 (fk) 1) != 1)=false:=bne_eq_false_iff_eq.mpr i3
            clear i3
            obtain⟨l4,h5⟩:∃ y_:List (S36),y_=(μ.set (a1:Int).toNat (⟨(Qd μ a1).f0,(Qd μ a1).f1,(-1)⟩:S36)):=⟨_,rfl⟩
            replace H:(group_Spread.l0 k1 l1 a2 (b3.length:Int) (wrap64 (a1+1)) J O X Y Z δ γ ι θ η l4 bc)=some (r1,r2,r3):=by first|(rw[h5];with_reducible exact H)|(have an:=(Option.bind_some _ _).symm.trans H;rw[h5];with_reducible exact an)|(have an:=(Option.bind_some _ _).symm.trans H;with_reducible exact an)|with_reducible exact H|(rw[h5];exact H)|exact H
            have o6:=Aside0.mk h5
            clear h5
            have H':=Aside0.mk H
            clear H
            have i4:=ag.out
            have i5:=ab.out
            have jq:=ah.out
            have jr:=aa.out
            have lc:=aj.out
            have lf:=ai.out
            obtain⟨fc,fe,ff,fg⟩:=qD2 ψ.out
            obtain⟨ti,gn,oq⟩:=Kd.Q7 χ.out
            subst oq
            have e7:0≤(a1:Int):=of_decide_eq_true (by assumption)
            have e8:a1<(μ.length:Int):=of_decide_eq_true (by assumption)
            obtain⟨fx,il,gb,ge,gg⟩:=X3 (Kd.Qu χ.out).2.2 a1 e7 e8
            cases il
            replace e7:=eq_true e7
            replace e8:=eq_true e8
            (try rewrite[← h4.out])
            go_wp2_with (first|((with_reducible refine Qf (N:=13) rfl ?_);refine qE 13 #[.int .i64 0,.int .i64 0,.int .i64 0] 36 ?_;intro cb hg r4 hbox hb;have ce:=Aside0.mk hbox;have lx:=sGe hg;have ly:=sGe hg;have dq:=sNl ε hg;have dr:=sNg ε hg;have dt:=sNl B hg;have du:=sNg B hg;have dz:=sNl ζ hg;have e0:=sNg ζ hg;have e3:=sNl ψ hg;have e6:=sNg ψ hg;replace χ :=Aside0.mk (Kd.Z7 (Kd.Yv (kra χ) cb (Nat.le_of_eq hg.symm)) hb);replace am:=sRb am hb;replace ε :=sBk ε hb;replace B:=sBk B hb;replace ζ :=sBk ζ hb;replace ψ :=sBk ψ hb;replace HB:=sHb hb;clear hb hbox hg;have js:=dr.out;have jt:=dq.out;have su:=du.out;have sv:=dt.out;have sw:=e0.out;have sx:=dz.out;have sy:=e6.out;have t0:=e3.out;obtain⟨h8,h9,j2,ha,he,j4⟩:=qD3 ce.out)|((with_reducible refine Jg (t:=36) (p:=13) rfl ?_);refine Yz (t:=36) (p:=13) (v:=?vo_w56) (w1:=(((r4.setCell ⟨cb,0,none⟩ (.int .i64 ((Qd μ a1).f0))).setCell ⟨cb,1,none⟩ (.int .i64 ((Qd μ a1).f1))).setCell ⟨cb,2,none⟩ (.int .i64 ((Qd μ a1).f2)))) ?hg ?ho ?hn ?hr ?_;(case ho=>rfl);(case hg=>rfl);(case hn=>rfl);(case hr=>go_simp <;> rfl);intro d3 hw;have ξ :Aside0 (Kd.R k36 36 d3 w.heap.size (fun k_=>k_≠cb) (.slice (some fx) μ.length gn) μ):=⟨(by rw[hw];exact(by(with_reducible repeat first|apply Kd.Qq|apply Kd.Qp|apply Kd.Qr);exact Kd.Qw (Kd.Qx (Kd.Qx (Kd.Qx (Kd.Qw χ.out (fun k_ hk=>(⟨hk,hk.2⟩:_∧k_≠cb))) (fun _ hk=>hk.2) (.int .i64 ((Qd μ a1).f0))) (fun _ hk=>hk.2) (.int .i64 ((Qd μ a1).f1))) (fun _ hk=>hk.2) (.int .i64 ((Qd μ a1).f2))) (fun _ hk=>hk.1.2)))⟩;have ρ:Aside0 (Kd.R k86 86 d3 w.heap.size (fun _=>True) (.slice bg bc.length be) bc):=⟨(by rw[hw];exact(by(with_reducible repeat first|apply Kd.Qq|apply Kd.Qp|apply Kd.Qr);exact Kd.Qw (Kd.Qx (Kd.Qx (Kd.Qx (Kd.Q5 am.out ce.out (by decide)) (fun _ hk=>hk.2) (.int .i64 ((Qd μ a1).f0))) (fun _ hk=>hk.2) (.int .i64 ((Qd μ a1).f1))) (fun _ hk=>hk.2) (.int .i64 ((Qd μ a1).f2))) (fun _ hk=>trivial)))⟩;have a3:Aside0 (d3.heap[a9]?=some (.cells #[.int .i64 J,.int .i64 O,.int .i64 X,.int .i64 Y,.int .i64 Z,.int .i64 δ,.int .i64 γ,.int .i64 ι,.int .i64 θ,.int .i64 η] 25 (0,0))):=⟨(by rw[hw];exact(bka ε))⟩;have a7:Aside0 (d3.heap[τ]?=some (.cells #[.slice a4 φ.length a5,.slice a6 ν.length a8] 50 (0,0))):=⟨(by rw[hw];exact(bka B))⟩;have al:Aside0 (d3.heap[ak]?=some (.cells #[.slice none 0 0,.slice none 0 0] 50 (0,0))):=⟨(by rw[hw];exact(bka ζ))⟩;have b1:Aside0 (d3.heap[ω]?=some (.cells #[.slice (some fx) μ.length gn,.slice bg bc.length be] 50 (0,0))):=⟨(by rw[hw];exact(bka ψ))⟩;have b8:Aside0 (d3.heap[cb]?=some (.cells #[.int .i64 ((Qd μ a1).f0),.int .i64 ((Qd μ a1).f1),.int .i64 ((Qd μ a1).f2)] 36 (0,0))):=⟨(by rw[hw];exact(by(with_reducible repeat first|refine Qm ?_ _|refine Qe ?_|refine Qn ?_ _);refine Ql (cs:=#[.int .i64 ((Qd μ a1).f0),.int .i64 ((Qd μ a1).f1),.int .i64 0]) ?_ 2 _ rfl;(with_reducible repeat first|refine Qm ?_ _|refine Qe ?_|refine Qn ?_ _);refine Ql (cs:=#[.int .i64 ((Qd μ a1).f0),.int .i64 0,.int .i64 0]) ?_ 1 _ rfl;(with_reducible repeat first|refine Qm ?_ _|refine Qe ?_|refine Qn ?_ _);refine Ql (cs:=#[.int .i64 0,.int .i64 0,.int .i64 0]) ?_ 0 _ rfl;(with_reducible repeat first|refine Qm ?_ _|refine Qe ?_|refine Qn ?_ _);exact ce.out))⟩;have bi:Aside0 (Below w.heap.size w d3):=⟨(by rw[hw];exact bel)⟩;clear hw;clear χ;clear am;clear ε;clear B;clear ζ;clear ψ;clear ce;clear HB;have χ := ξ;have am:=ρ;have ε :=a3;have B:=a7;have ζ :=al;have ψ :=b1;have ce:=b8;have HB:=bi;clear ξ ρ a3 a7 al b1 b8 bi;obtain⟨j5,j6,j7,j8,j9,ja⟩:=qD3 ce.out;obtain⟨m5,m6,m7,m8⟩:=qD2 ψ.out;have p44:0≤(a1:Int):=of_decide_eq_true (by assumption);have k5:(a1:Int)<((μ.length:Int):Int):=of_decide_eq_true (by assumption);obtain⟨d0,az,ks,ms,ot,tj,mt⟩:=Kd.Uc χ.out (by omega);(first|cases ks|(injection ks with ea_ en_ ec_;(first|subst ea_|(injection ea_ with ea_;subst ea_));subst ec_;clear en_));have ou:=Aside0.mk ms;have tk:=Aside0.mk mt;clear ms ot mt;(first|simp only[add_plain] at gb|skip);(first|simp only[add_plain] at ge|skip);(first|simp only[add_plain] at gg|skip);obtain⟨tl,o7,my,i9,ia⟩:=Kd.Jl χ.out z36 (a1:Int) p44 k5;obtain rfl:=Ye my;have mz:d3.cell? ⟨d0,(a1:Int).toNat * 3,none⟩=some (.int .i64 ((Qd μ a1).f0)):=i9 0 _ rfl;have n0:d3.cell? ⟨d0,(a1:Int).toNat * 3+1,none⟩=some (.int .i64 ((Qd μ a1).f1)):=i9 1 _ rfl;have n1:d3.cell? ⟨d0,(a1:Int).toNat * 3+2,none⟩=some (.int .i64 ((Qd μ a1).f2)):=i9 2 _ rfl;have r8:d3.frozen? ⟨d0,(a1:Int).toNat * 3,none⟩=false:=ia 0;have rl:d3.frozen? ⟨d0,(a1:Int).toNat * 3+1,none⟩=false:=ia 1;have rm:d3.frozen? ⟨d0,(a1:Int).toNat * 3+2,none⟩=false:=ia 2;clear o7 i9 ia my;replace p44:=eq_true p44;replace k5:=eq_true k5;have n2:=Aside0.mk (show Kd.R k36 36 d3 w.heap.size (fun k_=>k_≠cb) (.slice (some ⟨d0,0,none⟩) μ.length gn) μ from(kra χ));obtain⟨tm,lz,n3,jz,m0⟩:=Kd.Jl n2.out z36 (a1:Int) (of_decide_eq_true (by assumption)) (by have h_:(a1:Int)<((μ.length:Int):Int):=of_decide_eq_true (by assumption);first|exact h_|(have e_:=(Kd.Qu χ.out).1;omega)|simpa using h_);obtain rfl:=Ye n3;have l5:=Kd.Lj n2.out (a1:Int) (of_decide_eq_true (by assumption)) (by have h_:(a1:Int)<((μ.length:Int):Int):=of_decide_eq_true (by assumption);first|exact h_|(have e_:=(Kd.Qu χ.out).1;omega)|simpa using h_) (seg:=[.int .i64 (-1)]) (j:=2) lz jz (show 3≤3 from by decide) (x':=(⟨(Qd μ a1).f0,(Qd μ a1).f1,(-1)⟩:S36)) (Kt _ _ _ (⟨(Qd μ a1).f0,(Qd μ a1).f1,(-1)⟩:S36)) (fun _ hk=>hk);have k6:=jz 2 _ rfl;(try simp only[show(k36).sz=3 from rfl,Nat.mul_one,Nat.add_zero] at k6);have na:=m0 2;(try simp only[show(k36).sz=3 from rfl,Nat.mul_one,Nat.add_zero] at na);clear lz jz m0 n3)|((with_reducible refine Jg (t:=3) (p:=56) rfl ?_);refine Yz (t:=3) (p:=56) (v:=?vo_w60) (w1:=(d3.setCell ⟨d0,(a1:Int).toNat * 3+2,none⟩ (.int .i64 (-1)))) ?hg ?ho ?hn ?hr ?_;(case ho=>rfl);(case hg=>rfl);(case hn=>rfl);(case hr=>go_simp <;> rfl);intro nb hw;have hg:d3.grownBy nb (some d0):=(by rw[hw];exact l5.2);have hp_:Kd.R k36 36 nb w.heap.size (fun k_=>k_≠cb) (.slice (some ⟨d0,0,none⟩) μ.length gn) l4:=(by rw[hw,o6.out];exact l5.1);clear l5;replace am:=Aside0.mk (Kd.Y5 (v:=(.slice (some ⟨d0,0,none⟩) μ.length gn)) (kra am) (Kd.Y4 χ.out) (by decide) hg);replace ε :=Aside0.mk (Q1 (g:=a9) (o:=.cells #[.int .i64 J,.int .i64 O,.int .i64 X,.int .i64 Y,.int .i64 Z,.int .i64 δ,.int .i64 γ,.int .i64 ι,.int .i64 θ,.int .i64 η] 25 (0,0)) (bka ε) hg (Kd.Z6 χ.out ε.out (by decide)));replace B:=Aside0.mk (Q1 (g:= τ) (o:=.cells #[.slice a4 φ.length a5,.slice a6 ν.length a8] 50 (0,0)) (bka B) hg (Kd.Z6 χ.out B.out (by decide)));replace ζ :=Aside0.mk (Q1 (g:=ak) (o:=.cells #[.slice none 0 0,.slice none 0 0] 50 (0,0)) (bka ζ) hg (Kd.Z6 χ.out ζ.out (by decide)));replace ψ :=Aside0.mk (Q1 (g:= ω) (o:=.cells #[.slice (some ⟨d0,0,none⟩) μ.length gn,.slice bg bc.length be] 50 (0,0)) (bka ψ) hg (Kd.Z6 χ.out ψ.out (by decide)));replace ce:=Aside0.mk (Q1 (g:=cb) (o:=.cells #[.int .i64 ((Qd μ a1).f0),.int .i64 ((Qd μ a1).f1),.int .i64 ((Qd μ a1).f2)] 36 (0,0)) (bka ce) hg (Kd.Ws χ.out (fun _ hk=>hk)));replace χ :=Aside0.mk hp_;replace HB:=Aside0.mk ((by rw[hw];exact Qv (HB.out) ou.out:Below w.heap.size w nb));clear hg hw hp_))
            rewrite[h4.out]
            go_roundg k1
            case measure=>have:=b0.out;omega
            case rel=>exact⟨(wrap64 (a1+1)),(l4),(.slice (some ⟨d0,0,none⟩) μ.length gn),rfl,H',⟨by have:=b0.out;omega⟩,⟨by(with_reducible repeat first|apply Kd.Qq|apply Kd.Qp|apply Kd.Qr);exact Kd.Qw χ.out (fun _ hk=>trivial)⟩,⟨by(with_reducible repeat first|apply Kd.Qq|apply Kd.Qp|apply Kd.Qr);exact am.out⟩,ε,B,ζ,ψ,HB,h4⟩
           ·rw[if_neg i3] at H
            have c43b0:((Go.bits .and .i64 (fk) 1)==1)=false:=beq_eq_false_iff_ne.mpr i3
            have c43b1:((Go.bits .and .i64 (fk) 1) != 1)=true:=bne_iff_ne.mpr i3
            have H':=Aside0.mk H
            clear H
            have ju:=ag.out
            have jv:=ab.out
            have np:=ah.out
            have ns:=aa.out
            have jw:=aj.out
            have jx:=ai.out
            obtain⟨hh,hj,hl,hu⟩:=qD2 ψ.out
            obtain⟨tn,ov,ow⟩:=Kd.Q7 χ.out
            subst ow
            have e7:0≤(a1:Int):=of_decide_eq_true (by assumption)
            have e8:a1<(μ.length:Int):=of_decide_eq_true (by assumption)
            obtain⟨fx,il,gb,ge,gg⟩:=X3 (Kd.Qu χ.out).2.2 a1 e7 e8
            cases il
            replace e7:=eq_true e7
            replace e8:=eq_true e8
            (try rewrite[← h4.out])
            go_wp2_with (first|((with_reducible refine Qf (N:=13) rfl ?_);refine qE 13 #[.int .i64 0,.int .i64 0,.int .i64 0] 36 ?_;intro cb hg qx hbox hb;have ce:=Aside0.mk hbox;have lx:=sGe hg;have ly:=sGe hg;have dq:=sNl ε hg;have dr:=sNg ε hg;have dt:=sNl B hg;have du:=sNg B hg;have dz:=sNl ζ hg;have e0:=sNg ζ hg;have e3:=sNl ψ hg;have e6:=sNg ψ hg;replace χ :=Aside0.mk (Kd.Z7 (Kd.Yv χ.out cb (Nat.le_of_eq hg.symm)) hb);replace am:=sRb am hb;replace ε :=sBk ε hb;replace B:=sBk B hb;replace ζ :=sBk ζ hb;replace ψ :=sBk ψ hb;replace HB:=sHb hb;clear hb hbox hg;have nt:=dr.out;have nu:=dq.out;have lg:=du.out;have lh:=dt.out;have qa:=e0.out;have qb:=dz.out;have si:=e6.out;have sj:=e3.out;obtain⟨iw,ix,iy,jb,jc,jd⟩:=qD3 ce.out))
            rewrite[h4.out]
            go_roundg k1
            case measure=>have:=b0.out;omega
            case rel=>exact⟨(wrap64 (a1+1)),(μ),(.slice (some fx) μ.length ov),qR,H',⟨by have:=b0.out;omega⟩,⟨by(with_reducible repeat first|apply Kd.Qq|apply Kd.Qp|apply Kd.Qr);exact Kd.Qw (Kd.Qx (Kd.Qx (Kd.Qx (Kd.Qw χ.out (fun k_ hk=>(⟨hk,hk.2⟩:_∧k_≠cb))) (fun _ hk=>hk.2) (.int .i64 ((Qd μ a1).f0))) (fun _ hk=>hk.2) (.int .i64 ((Qd μ a1).f1))) (fun _ hk=>hk.2) (.int .i64 ((Qd μ a1).f2))) (fun _ hk=>trivial)⟩,⟨by(with_reducible repeat first|apply Kd.Qq|apply Kd.Qp|apply Kd.Qr);exact Kd.Qw (Kd.Qx (Kd.Qx (Kd.Qx (Kd.Q5 am.out ce.out (by decide)) (fun _ hk=>hk.2) (.int .i64 ((Qd μ a1).f0))) (fun _ hk=>hk.2) (.int .i64 ((Qd μ a1).f1))) (fun _ hk=>hk.2) (.int .i64 ((Qd μ a1).f2))) (fun _ hk=>trivial)⟩,⟨bka ε⟩,⟨bka B⟩,⟨bka ζ⟩,⟨bka ψ⟩,⟨bel⟩,h4⟩
          ·rw[if_neg jh] at H
           exact absurd H (by simp)
         ·rw[if_neg ec] at H
          have c40b0:decide (0≤((Qd μ a1).f2))=false:=decide_eq_false ec
          clear ec
          have H':=Aside0.mk H
          clear H
          have t1:=ag.out
          have t2:=ab.out
          have t3:=ah.out
          have t4:=aa.out
          have nv:=aj.out
          have nw:=ai.out
          obtain⟨m9,ma,mb,mc⟩:=qD2 ψ.out
          obtain⟨gx,gj,gl⟩:=Kd.Q7 χ.out
          subst gl
          have e7:0≤(a1:Int):=of_decide_eq_true (by assumption)
          have e8:a1<(μ.length:Int):=of_decide_eq_true (by assumption)
          obtain⟨fx,il,gb,ge,gg⟩:=X3 (Kd.Qu χ.out).2.2 a1 e7 e8
          cases il
          replace e7:=eq_true e7
          replace e8:=eq_true e8
          (try rewrite[← h4.out])
          go_wp2_with (first|((with_reducible refine Qf (N:=13) rfl ?_);refine qE 13 #[.int .i64 0,.int .i64 0,.int .i64 0] 36 ?_;intro cb hg y8 hbox hb;have ce:=Aside0.mk hbox;have lx:=sGe hg;have ly:=sGe hg;have dq:=sNl ε hg;have dr:=sNg ε hg;have dt:=sNl B hg;have du:=sNg B hg;have dz:=sNl ζ hg;have e0:=sNg ζ hg;have e3:=sNl ψ hg;have e6:=sNg ψ hg;replace χ :=Aside0.mk (Kd.Z7 (Kd.Yv χ.out cb (Nat.le_of_eq hg.symm)) hb);replace am:=sRb am hb;replace ε :=sBk ε hb;replace B:=sBk B hb;replace ζ :=sBk ζ hb;replace ψ :=sBk ψ hb;replace HB:=sHb hb;clear hb hbox hg;have t5:=dr.out;have t6:=dq.out;have ll:=du.out;have lm:=dt.out;have lp:=e0.out;have lq:=dz.out;have nx:=e6.out;have ny:=e3.out;obtain⟨je,jj,jk,jl,jm,jp⟩:=qD3 ce.out))
          rewrite[h4.out]
          go_roundg k1
          case measure=>have:=b0.out;omega
          case rel=>exact⟨(wrap64 (a1+1)),(μ),(.slice (some fx) μ.length gj),qR,H',⟨by have:=b0.out;omega⟩,⟨by(with_reducible repeat first|apply Kd.Qq|apply Kd.Qp|apply Kd.Qr);exact Kd.Qw (Kd.Qx (Kd.Qx (Kd.Qx (Kd.Qw χ.out (fun k_ hk=>(⟨hk,hk.2⟩:_∧k_≠cb))) (fun _ hk=>hk.2) (.int .i64 ((Qd μ a1).f0))) (fun _ hk=>hk.2) (.int .i64 ((Qd μ a1).f1))) (fun _ hk=>hk.2) (.int .i64 ((Qd μ a1).f2))) (fun _ hk=>trivial)⟩,⟨by(with_reducible repeat first|apply Kd.Qq|apply Kd.Qp|apply Kd.Qr);exact Kd.Qw (Kd.Qx (Kd.Qx (Kd.Qx (Kd.Q5 am.out ce.out (by decide)) (fun _ hk=>hk.2) (.int .i64 ((Qd μ a1).f0))) (fun _ hk=>hk.2) (.int .i64 ((Qd μ a1).f1))) (fun _ hk=>hk.2) (.int .i64 ((Qd μ a1).f2))) (fun _ hk=>trivial)⟩,⟨bka ε⟩,⟨bka B⟩,⟨bka ζ⟩,⟨bka ψ⟩,⟨bel⟩,h4⟩
        ·rw[if_neg gh] at H
         exact absurd H (by simp)
       ·rw[if_neg iv] at H
        exact absurd H (by simp)
      ·rw[if_neg fb] at H
       have c37b0:decide (a1<(b3.length:Int))=false:=decide_eq_false fb
       clear fb
       have H':=Aside0.mk H
       clear H
       have t7:=ag.out
       have t8:=ab.out
       have t9:=ah.out
       have ta:=aa.out
       have tb:=aj.out
       have tc:=ai.out
       obtain⟨me,mf,mg,mh⟩:=qD2 ψ.out
       obtain⟨nc,nd,ox⟩:=Kd.Q7 χ.out
       subst ox
       go_wp2
       go_loopg [61] k1 (fun kq rn w'=>∃ (a0:Int) (κ :List (S36)) (cj:Value),rn = .int .i64 a0∧Aside0 (group_Spread.l1 kq l1 a2 (μ.length:Int) a0 J O X Y Z δ γ ι θ η κ bc=some (r1,r2,r3))∧Aside0 (kq≤k1)∧Aside0 (Kd.R k36 36 w' w.heap.size (fun _=>True) cj κ)∧Aside0 (Kd.R k86 86 w' w.heap.size (fun _=>True) (.slice bg bc.length be) bc)∧Aside0 (w'.heap[a9]?=some (.cells #[.int .i64 J,.int .i64 O,.int .i64 X,.int .i64 Y,.int .i64 Z,.int .i64 δ,.int .i64 γ,.int .i64 ι,.int .i64 θ,.int .i64 η] 25 (0,0)))∧Aside0 (w'.heap[τ]?=some (.cells #[(.slice a4 φ.length a5),(.slice a6 ν.length a8)] 50 (0,0)))∧Aside0 (w'.heap[ak]?=some (.cells #[(.slice none 0 0),(.slice none 0 0)] 50 (0,0)))∧Aside0 (w'.heap[ω]?=some (.cells #[cj,(.slice bg bc.length be)] 50 (0,0)))∧Aside0 (Below w.heap.size w w')∧Aside0 (cj=(.slice nc μ.length nd)))
       case atStart=>exact⟨(0),(μ),(.slice nc μ.length nd),rfl,H',⟨Nat.le_refl _⟩,⟨by(with_reducible repeat first|apply Kd.Qq|apply Kd.Qp|apply Kd.Qr);exact χ.out⟩,⟨by(with_reducible repeat first|apply Kd.Qq|apply Kd.Qp|apply Kd.Qr);exact am.out⟩,ε,B,ζ,ψ,HB,⟨rfl⟩⟩
       case round=>
        clear H'
        try clear p2
        try clear q2
        try clear qw
        try clear c3
        try clear c4
        try clear p4
        try clear q4
        try clear u5
        try clear qu
        try clear c5
        try clear qd
        try clear qv
        try clear c6
        try clear p6
        try clear c7
        try clear c8
        try clear u6
        try clear u7
        try clear tp
        try clear oi
        try clear oj
        try clear gs
        try clear fb
        try clear c37b0
        try clear iv
        try clear c38b0
        try clear gh
        try clear c39b0
        try clear ec
        try clear c40b0
        try clear jh
        try clear c41b0
        try clear c41b1
        try clear i3
        try clear c43b0
        try clear c43b1
        try clear qy
        try clear p44
        try clear k5
        try clear tq
        try clear tr
        try clear rj
        try clear rk
        try clear gt
        try clear iz
        try clear i0
        try clear fz
        try clear gw
        try clear kh
        try clear ts
        try clear tt
        try clear i1
        try clear gf
        try clear kt
        try clear p64
        try clear u9
        try clear ua
        try clear ub
        try clear uc
        try clear k3
        try clear ud
        try clear ue
        try clear uf
        try clear ug
        try clear uh
        try clear ui
        try clear uj
        try clear uk
        try clear ul
        try clear fv
        try clear fw
        try clear fc
        try clear fe
        try clear h8
        try clear h9
        try clear j2
        try clear j5
        try clear j6
        try clear j7
        try clear m5
        try clear m6
        try clear hh
        try clear hj
        try clear iw
        try clear ix
        try clear iy
        try clear m9
        try clear ma
        try clear je
        try clear jj
        try clear jk
        try clear me
        try clear mf
        try clear fy
        try clear ga
        try clear ff
        try clear fg
        try clear ha
        try clear he
        try clear j4
        try clear j8
        try clear j9
        try clear ja
        try clear m7
        try clear m8
        try clear hl
        try clear hu
        try clear jb
        try clear jc
        try clear jd
        try clear mb
        try clear mc
        try clear jl
        try clear jm
        try clear jp
        try clear mg
        try clear mh
        try clear gb
        try clear ge
        try clear gg
        try clear mz
        try clear n0
        try clear n1
        try clear k6
        try clear p2
        try clear e7
        try clear p44
        try clear e8
        try clear k5
        obtain⟨a0,κ,cj,rfl,HA,dp,χ,am,ε,B,ζ,ψ,HB,im⟩:=hrel
        cases gk with
        |zero=>exact absurd HA.out (by simp[group_Spread.l1])
        |succ k2=>
         have H:=HA.out
         clear HA
         simp only[group_Spread.l1] at H
         by_cases ji:a0<(μ.length:Int)
         ·rw[if_pos ji] at H
          have c88b0:decide (a0<(μ.length:Int))=true:=decide_eq_true ji
          clear ji
          by_cases m1:0≤a0
          ·rw[if_pos m1] at H
           have c89b0:decide (0≤a0)=true:=decide_eq_true m1
           clear m1
           by_cases hy:a0<(κ.length:Int)
           ·rw[if_pos hy] at H
            have c90b0:decide (a0<(κ.length:Int))=true:=decide_eq_true hy
            clear hy
            by_cases jn:((Qd κ a0).f2)<0
            ·rw[if_pos jn] at H
             have c91b0:decide (((Qd κ a0).f2)<0)=true:=decide_eq_true jn
             clear jn
             replace H:=Option.bind_eq_some_iff.mp H
             obtain⟨cd,nf,H⟩:=H
             replace H:(group_Spread.l1 k2 l1 a2 (μ.length:Int) (wrap64 (a0+1)) J O X Y Z δ γ ι θ η (κ.set (a0:Int).toNat (⟨(Qd κ a0).f0,(Qd κ a0).f1,cd⟩:S36)) bc)=some (r1,r2,r3):=H
             have rp:=Aside0.mk nf
             clear nf
             obtain⟨ng,h6⟩:∃ y_:List (S36),y_=(κ.set (a0:Int).toNat (⟨(Qd κ a0).f0,(Qd κ a0).f1,cd⟩:S36)):=⟨_,rfl⟩
             replace H:(group_Spread.l1 k2 l1 a2 (μ.length:Int) (wrap64 (a0+1)) J O X Y Z δ γ ι θ η ng bc)=some (r1,r2,r3):=by first|(rw[h6];with_reducible exact H)|(have an:=(Option.bind_some _ _).symm.trans H;rw[h6];with_reducible exact an)|(have an:=(Option.bind_some _ _).symm.trans H;with_reducible exact an)|with_reducible exact H|(rw[h6];exact H)|exact H
             have o8:=Aside0.mk h6
             clear h6
             have H':=Aside0.mk H
             clear H
             have nz:=ag.out
             have o0:=ab.out
             have sk:=ah.out
             have sl:=aa.out
             have sn:=aj.out
             have so:=ai.out
             obtain⟨qp,qq,qs,qt⟩:=qD2 ψ.out
             obtain⟨tu,io,oy⟩:=Kd.Q7 χ.out
             subst oy
             have et:0≤(a0:Int):=of_decide_eq_true (by assumption)
             have eu:a0<(κ.length:Int):=of_decide_eq_true (by assumption)
             obtain⟨au,ip,d4,d5,d6⟩:=X3 (Kd.Qu χ.out).2.2 a0 et eu
             cases ip
             replace et:=eq_true et
             replace eu:=eq_true eu
             (try rewrite[← im.out])
             try go_wp2_with (first|((with_reducible refine Qf (N:=15) rfl ?_);refine qE 15 #[.int .i64 0,.int .i64 0,.int .i64 0] 36 ?_;intro b2 hg h7 hbox hb;have bp:=Aside0.mk hbox;have o9:=sGe hg;have oa:=sGe hg;have fl:=sNl ε hg;have fm:=sNg ε hg;have fn:=sNl B hg;have fo:=sNg B hg;have fp:=sNl ζ hg;have fq:=sNg ζ hg;have fr:=sNl ψ hg;have ft:=sNg ψ hg;replace χ :=Aside0.mk (Kd.Z7 (Kd.Yv χ.out b2 (Nat.le_of_eq hg.symm)) hb);replace am:=sRb am hb;replace ε :=sBk ε hb;replace B:=sBk B hb;replace ζ :=sBk ζ hb;replace ψ :=sBk ψ hb;replace HB:=sHb hb;clear hb hbox hg;have r9:=fm.out;have ra:=fl.out;have rb:=fo.out;have rc:=fn.out;have re:=fq.out;have rf:=fp.out;have rh:=ft.out;have ri:=fr.out;obtain⟨ku,kv,kw,kx,ky,kz⟩:=qD3 bp.out))
             have ξ :Aside0 (Kd.R k36 36 (((h7.setCell ⟨b2,0,none⟩ (.int .i64 ((Qd κ a0).f0))).setCell ⟨b2,1,none⟩ (.int .i64 ((Qd κ a0).f1))).setCell ⟨b2,2,none⟩ (.int .i64 ((Qd κ a0).f2))) w.heap.size (fun k_=>k_≠b2) (.slice (some au) κ.length io) κ):=⟨by(with_reducible repeat first|apply Kd.Qq|apply Kd.Qp|apply Kd.Qr);exact Kd.Qw (Kd.Qx (Kd.Qx (Kd.Qx (Kd.Qw χ.out (fun k_ hk=>(⟨hk,hk.2⟩:_∧k_≠b2))) (fun _ hk=>hk.2) (.int .i64 ((Qd κ a0).f0))) (fun _ hk=>hk.2) (.int .i64 ((Qd κ a0).f1))) (fun _ hk=>hk.2) (.int .i64 ((Qd κ a0).f2))) (fun _ hk=>hk.1.2)⟩
             have ρ:Aside0 (Kd.R k86 86 (((h7.setCell ⟨b2,0,none⟩ (.int .i64 ((Qd κ a0).f0))).setCell ⟨b2,1,none⟩ (.int .i64 ((Qd κ a0).f1))).setCell ⟨b2,2,none⟩ (.int .i64 ((Qd κ a0).f2))) w.heap.size (fun _=>True) (.slice bg bc.length be) bc):=⟨by(with_reducible repeat first|apply Kd.Qq|apply Kd.Qp|apply Kd.Qr);exact Kd.Qw (Kd.Qx (Kd.Qx (Kd.Qx (Kd.Q5 am.out bp.out (by decide)) (fun _ hk=>hk.2) (.int .i64 ((Qd κ a0).f0))) (fun _ hk=>hk.2) (.int .i64 ((Qd κ a0).f1))) (fun _ hk=>hk.2) (.int .i64 ((Qd κ a0).f2))) (fun _ hk=>trivial)⟩
             have a3:Aside0 ((((h7.setCell ⟨b2,0,none⟩ (.int .i64 ((Qd κ a0).f0))).setCell ⟨b2,1,none⟩ (.int .i64 ((Qd κ a0).f1))).setCell ⟨b2,2,none⟩ (.int .i64 ((Qd κ a0).f2))).heap[a9]?=some (.cells #[.int .i64 J,.int .i64 O,.int .i64 X,.int .i64 Y,.int .i64 Z,.int .i64 δ,.int .i64 γ,.int .i64 ι,.int .i64 θ,.int .i64 η] 25 (0,0))):=⟨bka ε⟩
             have a7:Aside0 ((((h7.setCell ⟨b2,0,none⟩ (.int .i64 ((Qd κ a0).f0))).setCell ⟨b2,1,none⟩ (.int .i64 ((Qd κ a0).f1))).setCell ⟨b2,2,none⟩ (.int .i64 ((Qd κ a0).f2))).heap[τ]?=some (.cells #[.slice a4 φ.length a5,.slice a6 ν.length a8] 50 (0,0))):=⟨bka B⟩
             have al:Aside0 ((((h7.setCell ⟨b2,0,none⟩ (.int .i64 ((Qd κ a0).f0))).setCell ⟨b2,1,none⟩ (.int .i64 ((Qd κ a0).f1))).setCell ⟨b2,2,none⟩ (.int .i64 ((Qd κ a0).f2))).heap[ak]?=some (.cells #[.slice none 0 0,.slice none 0 0] 50 (0,0))):=⟨bka ζ⟩
             have b1:Aside0 ((((h7.setCell ⟨b2,0,none⟩ (.int .i64 ((Qd κ a0).f0))).setCell ⟨b2,1,none⟩ (.int .i64 ((Qd κ a0).f1))).setCell ⟨b2,2,none⟩ (.int .i64 ((Qd κ a0).f2))).heap[ω]?=some (.cells #[.slice (some au) κ.length io,.slice bg bc.length be] 50 (0,0))):=⟨bka ψ⟩
             have b8:Aside0 ((((h7.setCell ⟨b2,0,none⟩ (.int .i64 ((Qd κ a0).f0))).setCell ⟨b2,1,none⟩ (.int .i64 ((Qd κ a0).f1))).setCell ⟨b2,2,none⟩ (.int .i64 ((Qd κ a0).f2))).heap[b2]?=some (.cells #[.int .i64 ((Qd κ a0).f0),.int .i64 ((Qd κ a0).f1),.int .i64 ((Qd κ a0).f2)] 36 (0,0))):=⟨by refine Ql (cs:=#[.int .i64 ((Qd κ a0).f0),.int .i64 ((Qd κ a0).f1),.int .i64 0]) ?_ 2 _ rfl;refine Ql (cs:=#[.int .i64 ((Qd κ a0).f0),.int .i64 0,.int .i64 0]) ?_ 1 _ rfl;refine Ql (cs:=#[.int .i64 0,.int .i64 0,.int .i64 0]) ?_ 0 _ rfl;exact bp.out⟩
             have bi:Aside0 (Below w.heap.size w (((h7.setCell ⟨b2,0,none⟩ (.int .i64 ((Qd κ a0).f0))).setCell ⟨b2,1,none⟩ (.int .i64 ((Qd κ a0).f1))).setCell ⟨b2,2,none⟩ (.int .i64 ((Qd κ a0).f2)))):=⟨bel⟩
             (try clear χ)
             (try clear am)
             (try clear ε)
             (try clear B)
             (try clear ζ)
             (try clear ψ)
             (try clear bp)
             (try clear HB)
             generalize(((h7.setCell ⟨b2,0,none⟩ (.int .i64 ((Qd κ a0).f0))).setCell ⟨b2,1,none⟩ (.int .i64 ((Qd κ a0).f1))).setCell ⟨b2,2,none⟩ (.int .i64 ((Qd κ a0).f2)))=oz at ξ ρ a3 a7 al b1 b8 bi ⊢
             have χ := ξ
             have am:=ρ
             have ε :=a3
             have B:=a7
             have ζ :=al
             have ψ :=b1
             have bp:=b8
             have HB:=bi
             clear ξ ρ a3 a7 al b1 b8 bi
             replace χ :=Aside0.mk (Kd.Qr χ.out)
             replace am:=Aside0.mk (Kd.Qr am.out)
             replace ε :=Aside0.mk (Qe ε.out)
             replace B:=Aside0.mk (Qe B.out)
             replace ζ :=Aside0.mk (Qe ζ.out)
             replace ψ :=Aside0.mk (Qe ψ.out)
             replace bp:=Aside0.mk (Qe bp.out)
             replace HB:=Aside0.mk (Qg HB.out)
             refine Zi (n:=12) (S:=fun w'=>w'.cell? ⟨ω,0,none⟩=some (.slice (some au) κ.length io)∧w'.cell? ⟨ω,1,none⟩=some (.slice bg bc.length be)∧w'.cell? ⟨a9,0,none⟩=some (.int .i64 J)∧w'.cell? ⟨a9,1,none⟩=some (.int .i64 O)∧w'.cell? ⟨a9,2,none⟩=some (.int .i64 X)∧w'.cell? ⟨a9,3,none⟩=some (.int .i64 Y)∧w'.cell? ⟨a9,4,none⟩=some (.int .i64 Z)∧w'.cell? ⟨a9,5,none⟩=some (.int .i64 δ)∧w'.cell? ⟨a9,6,none⟩=some (.int .i64 γ)∧w'.cell? ⟨a9,7,none⟩=some (.int .i64 ι)∧w'.cell? ⟨a9,8,none⟩=some (.int .i64 θ)∧w'.cell? ⟨a9,9,none⟩=some (.int .i64 η)∧w'.cell? ⟨b2,0,none⟩=some (.int .i64 ((Qd κ a0).f0))∧w'.cell? ⟨b2,1,none⟩=some (.int .i64 ((Qd κ a0).f1))∧w'.cell? ⟨b2,2,none⟩=some (.int .i64 ((Qd κ a0).f2))) (ds:=[11]) #[false,false,false,false,false,false,false,false,false,false,false,false] kr rfl rfl ⟨(Qa ψ.out 0).trans rfl,(Qa ψ.out 1).trans rfl,(Qa ε.out 0).trans rfl,(Qa ε.out 1).trans rfl,(Qa ε.out 2).trans rfl,(Qa ε.out 3).trans rfl,(Qa ε.out 4).trans rfl,(Qa ε.out 5).trans rfl,(Qa ε.out 6).trans rfl,(Qa ε.out 7).trans rfl,(Qa ε.out 8).trans rfl,(Qa ε.out 9).trans rfl,(Qa bp.out 0).trans rfl,(Qa bp.out 1).trans rfl,(Qa bp.out 2).trans rfl⟩ (fun hHeld=>?_);refine Q9 group_Spread.tab15 group_Spread.Dm (fun HT_ HW_=>?_)
             generalize oz.drew=tv at χ am ε B ζ ψ bp HB hHeld ⊢
             refine qP 0 (some 69) (bN 12 1) HT_ ?_
             refine qP 2 (some 71) (bN 12 5) HT_ ?_
             refine qP 4 (some 73) (bN 12 21) HT_ ?_
             refine qP 5 (some 74) (bN 12 53) HT_ ?_
             refine qT 1 (some 70) (bN 12 55) HT_ HW_ hHeld ?_
             refine qT 3 (some 72) (bN 12 63) HT_ HW_ hHeld ?_
             refine qT 6 (some 75) (bN 12 127) HT_ HW_ hHeld ?_
             refine qT 7 (some 76) (bN 12 255) HT_ HW_ hHeld ?_
             refine Zb (i:=8) (N:=some 77) (bN 12 511) rfl rfl (Q4 HT_.out kr) (by decide) (fun K hK=>?_)
             refine Za Try.func38 kr rfl #[.agg #[.int .i64 J,.int .i64 O,.int .i64 X,.int .i64 Y,.int .i64 Z,.int .i64 δ,.int .i64 γ,.int .i64 ι,.int .i64 θ,.int .i64 η],.slice A1 l1.length c1,.int .i64 a2,.agg #[.slice (some au) κ.length io,.slice bg bc.length be],.agg #[.int .i64 ((Qd κ a0).f0),.int .i64 ((Qd κ a0).f1),.int .i64 ((Qd κ a0).f2)]] (by rfl) rfl rfl qM ?_
             with_reducible refine(group_pick.calls k2 J O X Y Z δ γ ι θ η _ _ l1 a2 _ _ κ _ _ bc ((Qd κ a0).f0) ((Qd κ a0).f1) ((Qd κ a0).f2) cd _ ?side1 ?side2 ?side3 ?side4 ?side5 ?side6 rp.out).mono ?_
             (case side1=>exact(Kd.Qy d1.out HB.out))
             (case side2=>exact dk.out)
             (case side3=>exact(Kd.Qu χ.out).2.2)
             (case side4=>exact(Kd.Qu χ.out).2.1)
             (case side5=>exact(Kd.Qu am.out).2.2)
             (case side6=>exact(Kd.Qu am.out).2.1)
             rintro e tw ⟨rfl,hb⟩
             refine⟨_,rfl, ?_⟩
             replace χ :=sRb χ hb
             replace am:=sRb am hb
             replace ε :=sBk ε hb
             replace B:=sBk B hb
             replace ζ :=sBk ζ hb
             replace ψ :=sBk ψ hb
             replace bp:=sBk bp hb
             replace HB:=sHb hb
             (try clear hb)
             (try clear ac)
             (try clear hk)
             (try clear hi)
             have nh:0≤(a0:Int):=of_decide_eq_true (by assumption)
             have ni:(a0:Int)<((κ.length:Int):Int):=of_decide_eq_true (by assumption)
             obtain⟨fu,tx,nj,nk,p0,ty,nl⟩:=Kd.Uc χ.out (by omega)
             (first|cases nj|(injection nj with ea_ en_ ec_;(first|subst ea_|(injection ea_ with ea_;subst ea_));subst ec_;clear en_))
             have tz:=Aside0.mk nk
             have p1:=Aside0.mk nl
             clear nk p0 nl
             (first|simp only[add_plain] at d4|skip)
             (first|simp only[add_plain] at d5|skip)
             (first|simp only[add_plain] at d6|skip)
             obtain⟨u0,ob,nm,ib,ic⟩:=Kd.Jl χ.out z36 (a0:Int) nh ni
             obtain rfl:=Ye nm
             have rq:World.cell? _ ⟨fu,(a0:Int).toNat * 3,none⟩=some (.int .i64 ((Qd κ a0).f0)):=ib 0 _ rfl
             have rr:World.cell? _ ⟨fu,(a0:Int).toNat * 3+1,none⟩=some (.int .i64 ((Qd κ a0).f1)):=ib 1 _ rfl
             have rs:World.cell? _ ⟨fu,(a0:Int).toNat * 3+2,none⟩=some (.int .i64 ((Qd κ a0).f2)):=ib 2 _ rfl
             have rt:World.frozen? _ ⟨fu,(a0:Int).toNat * 3,none⟩=false:=ic 0
             have ru:World.frozen? _ ⟨fu,(a0:Int).toNat * 3+1,none⟩=false:=ic 1
             have rv:World.frozen? _ ⟨fu,(a0:Int).toNat * 3+2,none⟩=false:=ic 2
             clear ob ib ic nm
             replace nh:=eq_true nh
             replace ni:=eq_true ni
             (try rewrite[← im.out])
             obtain⟨td,k7,m2,k8,nn⟩:=Kd.Jl χ.out z36 (a0:Int) (of_decide_eq_true (by assumption)) (by have h_:(a0:Int)<((κ.length:Int):Int):=of_decide_eq_true (by assumption);first|exact h_|(have e_:=(Kd.Qu χ.out).1;omega)|simpa using h_)
             obtain rfl:=Ye m2
             have k0:=(Kd.Lj χ.out (a0:Int) (of_decide_eq_true (by assumption)) (by have h_:(a0:Int)<((κ.length:Int):Int):=of_decide_eq_true (by assumption);first|exact h_|(have e_:=(Kd.Qu χ.out).1;omega)|simpa using h_) (seg:=[.int .i64 cd]) (j:=2) k7 k8 (show 3≤3 from by decide) (x':=(⟨(Qd κ a0).f0,(Qd κ a0).f1,cd⟩:S36)) (Kt _ _ _ (⟨(Qd κ a0).f0,(Qd κ a0).f1,cd⟩:S36)) (fun _ hk=>hk)).1
             rw[← o8.out] at k0
             have oc:=Aside0.mk k0
             clear k7 k8 nn m2 k0
             refine hK.out _ _ ⟨qc ψ,qc ψ,qc ε,qc ε,qc ε,qc ε,qc ε,qc ε,qc ε,qc ε,qc ε,qc ε,qc bp,qc bp,qc bp⟩ (fun hHeld=>?_)
             clear hK K
             refine qN (some 77) ?_
             refine qP 9 (some 78) (bN 12 1023) HT_ ?_
             refine qP 10 (some 79) (bN 12 2047) HT_ ?_
             refine last_ (i:=11) (N:=none) #[true,true,true,true,true,true,true,true,true,true,true,true] rfl rfl (Q4 HT_.out kr) (by decide) (fun K hK=>?_)
             refine K8 (w1:=?_) (by rfl) rfl ?_ ?_
             rotate_left
             ·go_simp
              rfl
             refine hK.out _ _ ?_
             clear hK K
             refine Zx (Ze HT_.out kr) ?_
             try go_wp2
             rewrite[im.out]
             go_roundg k2
             case measure=>have:=b0.out;have:=dp.out;omega
             case rel=>exact⟨(wrap64 (a0+1)),(ng),(.slice (some ⟨fu,0,none⟩) κ.length io),qR,H',⟨by have:=b0.out;have:=dp.out;omega⟩,⟨by(with_reducible repeat first|apply Kd.Qq|apply Kd.Qp|apply Kd.Qr);exact Kd.Qw oc.out (fun _ hk=>trivial)⟩,⟨by(with_reducible repeat first|apply Kd.Qq|apply Kd.Qp|apply Kd.Qr);exact Kd.Qw (Kd.Qx (p:=⟨fu,(a0:Int).toNat * 3+2,none⟩) (Kd.Q5 am.out p1.out (by decide)) (fun _ hk=>hk.2) (.int .i64 cd)) (fun _ hk=>trivial)⟩,⟨by(with_reducible repeat first|refine Qm ?_ _|refine Qe ?_|refine Qn ?_ _);refine Yb ?_ (by have h_:=Kd.Z6 χ.out ε.out (by decide);intro e_;exact h_ (by rw[e_];rfl)) _;(with_reducible repeat first|refine Qm ?_ _|refine Qe ?_|refine Qn ?_ _);exact ε.out⟩,⟨by(with_reducible repeat first|refine Qm ?_ _|refine Qe ?_|refine Qn ?_ _);refine Yb ?_ (by have h_:=Kd.Z6 χ.out B.out (by decide);intro e_;exact h_ (by rw[e_];rfl)) _;(with_reducible repeat first|refine Qm ?_ _|refine Qe ?_|refine Qn ?_ _);exact B.out⟩,⟨by(with_reducible repeat first|refine Qm ?_ _|refine Qe ?_|refine Qn ?_ _);refine Yb ?_ (by have h_:=Kd.Z6 χ.out ζ.out (by decide);intro e_;exact h_ (by rw[e_];rfl)) _;(with_reducible repeat first|refine Qm ?_ _|refine Qe ?_|refine Qn ?_ _);exact ζ.out⟩,⟨by(with_reducible repeat first|refine Qm ?_ _|refine Qe ?_|refine Qn ?_ _);refine Yb ?_ (by have h_:=Kd.Z6 χ.out ψ.out (by decide);intro e_;exact h_ (by rw[e_];rfl)) _;(with_reducible repeat first|refine Qm ?_ _|refine Qe ?_|refine Qn ?_ _);exact ψ.out⟩,⟨bel⟩,im⟩
            ·rw[if_neg jn] at H
             have c91b0:decide (((Qd κ a0).f2)<0)=false:=decide_eq_false jn
             clear jn
             have H':=Aside0.mk H
             clear H
             have rx:=ag.out
             have ry:=ab.out
             have rz:=ah.out
             have s0:=aa.out
             have s1:=aj.out
             have s2:=ai.out
             obtain⟨k9,ka,kb,kc⟩:=qD2 ψ.out
             obtain⟨te,od,oe⟩:=Kd.Q7 χ.out
             subst oe
             have et:0≤(a0:Int):=of_decide_eq_true (by assumption)
             have eu:a0<(κ.length:Int):=of_decide_eq_true (by assumption)
             obtain⟨au,ip,d4,d5,d6⟩:=X3 (Kd.Qu χ.out).2.2 a0 et eu
             cases ip
             replace et:=eq_true et
             replace eu:=eq_true eu
             (try rewrite[← im.out])
             go_wp2_with (first|((with_reducible refine Qf (N:=15) rfl ?_);refine qE 15 #[.int .i64 0,.int .i64 0,.int .i64 0] 36 ?_;intro b2 hg ol hbox hb;have bp:=Aside0.mk hbox;have o9:=sGe hg;have oa:=sGe hg;have fl:=sNl ε hg;have fm:=sNg ε hg;have fn:=sNl B hg;have fo:=sNg B hg;have fp:=sNl ζ hg;have fq:=sNg ζ hg;have fr:=sNl ψ hg;have ft:=sNg ψ hg;replace χ :=Aside0.mk (Kd.Z7 (Kd.Yv χ.out b2 (Nat.le_of_eq hg.symm)) hb);replace am:=sRb am hb;replace ε :=sBk ε hb;replace B:=sBk B hb;replace ζ :=sBk ζ hb;replace ψ :=sBk ψ hb;replace HB:=sHb hb;clear hb hbox hg;have s3:=fm.out;have s4:=fl.out;have s5:=fo.out;have s6:=fn.out;have ml:=fq.out;have mm:=fp.out;have mo:=ft.out;have mq:=fr.out;obtain⟨kd,ke,p5,kf,kg,p7⟩:=qD3 bp.out))
             rewrite[im.out]
             go_roundg k2
             case measure=>have:=b0.out;have:=dp.out;omega
             case rel=>exact⟨(wrap64 (a0+1)),(κ),(.slice (some au) κ.length od),qR,H',⟨by have:=b0.out;have:=dp.out;omega⟩,⟨by(with_reducible repeat first|apply Kd.Qq|apply Kd.Qp|apply Kd.Qr);exact Kd.Qw (Kd.Qx (Kd.Qx (Kd.Qx (Kd.Qw χ.out (fun k_ hk=>(⟨hk,hk.2⟩:_∧k_≠b2))) (fun _ hk=>hk.2) (.int .i64 ((Qd κ a0).f0))) (fun _ hk=>hk.2) (.int .i64 ((Qd κ a0).f1))) (fun _ hk=>hk.2) (.int .i64 ((Qd κ a0).f2))) (fun _ hk=>trivial)⟩,⟨by(with_reducible repeat first|apply Kd.Qq|apply Kd.Qp|apply Kd.Qr);exact Kd.Qw (Kd.Qx (Kd.Qx (Kd.Qx (Kd.Q5 am.out bp.out (by decide)) (fun _ hk=>hk.2) (.int .i64 ((Qd κ a0).f0))) (fun _ hk=>hk.2) (.int .i64 ((Qd κ a0).f1))) (fun _ hk=>hk.2) (.int .i64 ((Qd κ a0).f2))) (fun _ hk=>trivial)⟩,⟨bka ε⟩,⟨bka B⟩,⟨bka ζ⟩,⟨bka ψ⟩,⟨bel⟩,im⟩
           ·rw[if_neg hy] at H
            exact absurd H (by simp)
          ·rw[if_neg m1] at H
           exact absurd H (by simp)
         ·rw[if_neg ji] at H
          have c88b0:decide (a0<(μ.length:Int))=false:=decide_eq_false ji
          clear ji
          simp only[Option.some.injEq,Prod.mk.injEq] at H
          obtain⟨rfl,rfl,rfl⟩:=H
          have nq:=ag.out
          have nr:=ab.out
          have s7:=ah.out
          have s8:=aa.out
          have s9:=aj.out
          have sa:=ai.out
          obtain⟨kn,ko,kp,l2⟩:=qD2 ψ.out
          obtain⟨m3,m4,oh⟩:=Kd.Q7 χ.out
          subst oh
          have sb:=ey.out
          have sc:=ew.out
          have sd:=f7.out
          have se:=ez.out
          obtain⟨p8,p9,pa,pb⟩:=qD2 ζ.out
          go_wp2
          refine bodyPost_ret (Z9 rfl _ _ ak 50 #[.slice m3 κ.length m4,.slice bg bc.length be] (0,0) _ rfl (by refine Ql (cs:=#[.slice m3 κ.length m4,.slice none 0 0]) ?_ 1 _ rfl;refine Ql (cs:=#[.slice none 0 0,.slice none 0 0]) ?_ 0 _ rfl;exact ζ.out) Try.underlying50 rfl kr) rfl ?_
          exact⟨_,_,by first|rfl|(simp[Qk,Qj] <;> rfl)|(simp[*,Qk,Qj] <;> rfl),by(with_reducible repeat first|apply Kd.Qq|apply Kd.Qp|apply Kd.Qr);exact Kd.Qw (Kd.Qx (Kd.Qx (Kd.Q5 χ.out ζ.out (by decide)) (fun _ hk=>hk.2) _) (fun _ hk=>hk.2) _) (fun _ hk=>trivial),by(with_reducible repeat first|apply Kd.Qq|apply Kd.Qp|apply Kd.Qr);exact Kd.Qw (Kd.Qx (Kd.Qx (Kd.Q5 am.out ζ.out (by decide)) (fun _ hk=>hk.2) _) (fun _ hk=>hk.2) _) (fun _ hk=>trivial),bel⟩
   ·rw[if_neg c8] at H
    exact absurd H (by simp)
  ·rw[if_neg c7] at H
   exact absurd H (by simp)
 ·rw[if_neg c6] at H
  have c6b0:(ar==0)=false:=beq_eq_false_iff_ne.mpr c6
  have c6b1:(ar != 0)=true:=bne_iff_ne.mpr c6
  simp only[Option.some.injEq,Prod.mk.injEq] at H
  obtain⟨rfl,rfl,rfl⟩:=H
  go_enter Try.func21,Try.ntmps21
  go_wp2_with (first|((with_reducible refine Qf (N:=4) rfl ?_);refine qE 4 #[.int .i64 J,.int .i64 O,.int .i64 X,.int .i64 Y,.int .i64 Z,.int .i64 δ,.int .i64 γ,.int .i64 ι,.int .i64 θ,.int .i64 η] 25 ?_;intro a9 hg u1 hbox hb;have ε :=Aside0.mk hbox;have l6:=sGe hg;have jo:=sGe hg;replace HB:=sHb hb;clear hb hbox hg)|((with_reducible refine Qf (N:=7) rfl ?_);refine qE 7 #[.slice a4 φ.length a5,.slice a6 ν.length a8] 50 ?_;intro τ hg u2 hbox hb;have B:=Aside0.mk hbox;have o1:=sGe hg;have o2:=sGe hg;have fh:=sNl ε hg;have fi:=sNg ε hg;replace ε :=sBk ε hb;replace HB:=sHb hb;clear hb hbox hg)|((with_reducible refine Qf (N:=8) rfl ?_);refine qE 8 #[.slice none 0 0,.slice none 0 0] 50 ?_;intro ak hg u3 hbox hb;have ζ :=Aside0.mk hbox;have o3:=sGe hg;have o4:=sGe hg;have ew:=sNl ε hg;have ey:=sNg ε hg;have ez:=sNl B hg;have f7:=sNg B hg;replace ε :=sBk ε hb;replace B:=sBk B hb;replace HB:=sHb hb;clear hb hbox hg;have sf:=fh.out;have sg:=fi.out;have sh:=ew.out;have sp:=ey.out;obtain⟨pc,pd,pe,pf,pg,pi,pj,pk,pm,pn,po,pp,pq,pr,pt,pu,pv,pw,px,py⟩:=Zn ε.out;have sq:=ez.out;have sr:=f7.out;obtain⟨pz,q0,q1,q3⟩:=qD2 B.out)|((with_reducible refine Qo (f:=17) rfl ?_);refine Q6 (some 19) rfl rfl Try.func17 kr rfl #[.agg #[.int .i64 J,.int .i64 O,.int .i64 X,.int .i64 Y,.int .i64 Z,.int .i64 δ,.int .i64 γ,.int .i64 ι,.int .i64 θ,.int .i64 η],.slice A1 l1.length c1,.agg #[.slice a4 φ.length a5,.slice a6 ν.length a8]] rfl qM ?_;(with_reducible refine(group_Check.calls k J O X Y Z δ γ ι θ η _ _ l1 _ _ φ _ _ ν ar _ ?side1 ?side2 ?side3 ?side4 ?side5 ?side6 A5.out).mono ?_);(case side1=>exact(Kd.Qy d1.out HB.out));(case side2=>exact dk.out);(case side3=>exact(Kd.Qy bh.out HB.out));(case side4=>exact bu.out);(case side5=>exact(Kd.Qy br.out HB.out));(case side6=>exact bv.out);rintro e u4 ⟨rfl,hb⟩;refine⟨_,rfl, ?_⟩;replace ε :=sBk ε hb;replace B:=sBk B hb;replace ζ :=sBk ζ hb;replace HB:=sHb hb;(try clear hb);(try clear ac);(try clear hk);(try clear hi);obtain⟨q5,q6,q7,q8⟩:=qD2 ζ.out))
  refine bodyPost_ret (Z9 rfl _ _ ak 50 #[.slice none 0 0,.slice none 0 0] (0,0) _ rfl (by refine Ql (cs:=#[.slice none 0 0,.slice none 0 0]) ?_ 1 _ rfl;refine Ql (cs:=#[.slice none 0 0,.slice none 0 0]) ?_ 0 _ rfl;exact ζ.out) Try.underlying50 rfl kr) rfl ?_
  exact⟨_,_,by first|rfl|(simp[Qk,Qj] <;> rfl)|(simp[*,Qk,Qj] <;> rfl),by first|exact Kd.X0 _ _ _ _ _|exact Kd.Yx _ _ _ _ _|exact Kd.Yt _ _ _ _ _|exact Kd.Yw _ _ _ _ _|exact Kd.Yu _ _ _ _ _,by first|exact Kd.X0 _ _ _ _ _|exact Kd.Yx _ _ _ _ _|exact Kd.Yt _ _ _ _ _|exact Kd.Yw _ _ _ _ _|exact Kd.Yu _ _ _ _ _,bel⟩
end Go.Proofs.Ytmfffemidlhcpaa.C
