/- Texts of this claim, one behind the other: what the law's functions come to, walked (printed by a program, with the words that the print uses), and what that is, in plain Lean. No conditions of their own. -/
import Derived.Test.YtmfffemidlhcpaaQGroupAll7
import Derived.WalkMore
namespace Go.Proofs.Ytmfffemidlhcpaa.C
open Go.RowKit Go.Proofs.YtmfffemidlhcpaaW.PrintWords Go.Proofs.YtmfffemidlhcpaaW.PrintLast Go.Proofs.YtmfffemidlhcpaaW.PrintMore
attribute [local go_sem] Zv Zt Z6 Z5 Zk Zj Zu Zs
set_option linter.unusedVariables false
set_option linter.unusedSimpArgs false
def group_pick.l0:Nat→Int→Int→Int→Int→Int→Int→Int→Int→Int→Int→Int→Int→Int→Int→List (S31)→List (S36)→List (S86)→Int→Int→Int→Option (Int)
 |0,_,_,_,_,_,_,_,_,_,_,_,_,_,_,_,_,_,_,_,_=>none
 |k+1,Z,σ,τ,B,J,O,X,Y,γ,δ,ε,ζ,η,θ,ι,κ,μ,ν,ξ,ρ=>if B < τ then (if 0≤B then (if (Go.bits .and .i64 (shr .i64 Z B) 1)=1 then (group_pick.l0 k Z σ τ (wrap64 (B+1)) J O X Y γ δ ε ζ η θ ι κ μ ν ξ ρ) else (if σ<0 then (group_pick.l0 k Z B τ (wrap64 (B+1)) J O X Y γ δ ε ζ η θ ι κ μ ν ξ ρ) else ((group_pick_1.f k B J O X Y γ δ ε ζ η θ ι κ μ ν ξ ρ).bind fun aj=>((group_pick_1.f k σ J O X Y γ δ ε ζ η θ ι κ μ ν ξ ρ).bind fun ψ =>(if aj < ψ then (group_pick.l0 k Z B τ (wrap64 (B+1)) J O X Y γ δ ε ζ η θ ι κ μ ν ξ ρ) else (group_pick.l0 k Z σ τ (wrap64 (B+1)) J O X Y γ δ ε ζ η θ ι κ μ ν ξ ρ)))))) else (none)) else (some σ)
def group_pick.f (k:Nat) (J:Int) (O:Int) (X:Int) (Y:Int) (Z:Int) (δ :Int) (γ:Int) (θ :Int) (η :Int) (ζ :Int) (l1:List (S31)) (a2:Int) (φ :List (S36)) (ρ:List (S86)) (aa:Int) (ae:Int) (af:Int):Option (Int):=group_pick.l0 k a2 (-1) (l1.length:Int) 0 J O X Y Z δ γ θ η ζ l1 φ ρ aa ae af
theorem group_pick.Zo:∀ k,(∀ O X Y J Z y5 y6 y7 y8 y9 γ δ ζ η θ ι κ ε μ ν,LeO (group_pick.l0 k O X Y J Z y5 y6 y7 y8 y9 γ δ ζ η θ ι κ ε μ ν) (group_pick.l0 (k+1) O X Y J Z y5 y6 y7 y8 y9 γ δ ζ η θ ι κ ε μ ν))
 |0=>fun _ _ _ _ _ _ _ _ _ _ _ _ _ _ _ _ _ _ _ _ r h=>by simp[group_pick.l0] at h
 |k+1=>by
  have B:=group_pick.Zo k
  ·intro O X Y J Z y5 y6 y7 y8 y9 γ δ ζ η θ ι κ ε μ ν
   unfold group_pick.l0
   repeat' first
   |(with_reducible exact B _ _ _ _ _ _ _ _ _ _ _ _ _ _ _ _ _ _ _ _)
   |(with_reducible exact group_pick_1.mono _ _ _ _ _ _ _ _ _ _ _ _ _ _ _ _ _ _)
   |(with_reducible exact LeO.refl _)
   |(with_reducible exact LeO.none _)
   |(with_reducible refine LeO.ite ?_ ?_)
   |(with_reducible refine LeO.bind ?_ (fun _=>?_))
   |exact B _ _ _ _ _ _ _ _ _ _ _ _ _ _ _ _ _ _ _ _
   |exact group_pick_1.mono _ _ _ _ _ _ _ _ _ _ _ _ _ _ _ _ _ _
   |exact LeO.none _
   |refine LeO.ite ?_ ?_
   |refine LeO.bind ?_ (fun _=>?_)
theorem group_pick.mono:∀ J Y a2 a3 O a5 X a7 a8 a9 Z γ δ ζ ε η θ k,LeO (group_pick.f k J Y a2 a3 O a5 X a7 a8 a9 Z γ δ ζ ε η θ) (group_pick.f (k+1) J Y a2 a3 O a5 X a7 a8 a9 Z γ δ ζ ε η θ):=by
 intro J Y a2 a3 O a5 X a7 a8 a9 Z γ δ ζ ε η θ k
 have B:=group_pick.Zo k
 unfold group_pick.f
 repeat' first
   |(with_reducible exact B _ _ _ _ _ _ _ _ _ _ _ _ _ _ _ _ _ _ _ _)
   |(with_reducible exact group_pick_1.mono _ _ _ _ _ _ _ _ _ _ _ _ _ _ _ _ _ _)
   |(with_reducible exact LeO.refl _)
   |(with_reducible exact LeO.none _)
   |(with_reducible refine LeO.ite ?_ ?_)
   |(with_reducible refine LeO.bind ?_ (fun _=>?_))
   |exact B _ _ _ _ _ _ _ _ _ _ _ _ _ _ _ _ _ _ _ _
   |exact group_pick_1.mono _ _ _ _ _ _ _ _ _ _ _ _ _ _ _ _ _ _
   |exact LeO.none _
   |refine LeO.ite ?_ ?_
   |refine LeO.bind ?_ (fun _=>?_)
set_option maxHeartbeats 8000000 in
set_option maxRecDepth 100000 in
theorem group_pick.calls (k:Nat) (J:Int) (O:Int) (X:Int) (Y:Int) (Z:Int) (δ :Int) (γ:Int) (θ :Int) (η :Int) (ζ :Int) (A1:Option Addr) (c1:Nat) (l1:List (S31)) (a2:Int) (a5:Option Addr) (a7:Nat) (φ :List (S36)) (a8:Option Addr) (a9:Nat) (ρ:List (S86)) (aa:Int) (ae:Int) (af:Int) (r:Int) (w:World) (cv:Kd.C k31 w A1 l1.length l1) (ct:l1.length≤c1) (dh:Kd.C k36 w a5 φ.length φ) (di: φ.length≤a7) (dj:Kd.C k86 w a8 ρ.length ρ) (dk:ρ.length≤a9) (h:group_pick.f k J O X Y Z δ γ θ η ζ l1 a2 φ ρ aa ae af=some r):
  Calls Try.prog 38 #[.agg #[.int .i64 J,.int .i64 O,.int .i64 X,.int .i64 Y,.int .i64 Z,.int .i64 δ,.int .i64 γ,.int .i64 θ,.int .i64 η,.int .i64 ζ],.slice A1 l1.length c1,.int .i64 a2,.agg #[.slice a5 φ.length a7,.slice a8 ρ.length a9],.agg #[.int .i64 aa,.int .i64 ae,.int .i64 af]] w fun e w'=>e = .returned (.int .i64 r)∧Below w.heap.size w w':=by
 have ew:=Try.underlying25
 have ey:=Try.underlying50
 have dm:=Try.underlying36
 have cu:=Aside0.mk cv
 have d4:=Aside0.mk ct
 clear cv ct
 have bu:=Aside0.mk dh
 have cq:=Aside0.mk di
 clear dh di
 have cf:=Aside0.mk dj
 have cr:=Aside0.mk dk
 clear dj dk
 have HB:=Aside0.mk (Below.refl w.heap.size w)
 have H:(group_pick.l0 k a2 (-1) (l1.length:Int) 0 J O X Y Z δ γ θ η ζ l1 φ ρ aa ae af)=some r:=h
 clear h
 have H':=Aside0.mk H
 clear H
 go_enter Try.func38,Try.ntmps38
 go_wp2_with (first|((with_reducible refine Qf (N:=5) rfl ?_);refine qE 5 #[.int .i64 J,.int .i64 O,.int .i64 X,.int .i64 Y,.int .i64 Z,.int .i64 δ,.int .i64 γ,.int .i64 θ,.int .i64 η,.int .i64 ζ] 25 ?_;intro ν hg w6 hbox hb;have ε :=Aside0.mk hbox;have gn:=sGe hg;have gp:=sGe hg;replace HB:=sHb hb;clear hb hbox hg)|((with_reducible refine Qf (N:=6) rfl ?_);refine qE 6 #[.slice A1 l1.length c1] 46 ?_;intro ω hg w7 hbox hb;have B:=Aside0.mk hbox;have fc:=sGe hg;have fe:=sGe hg;have ak:=sNl ε hg;have am:=sNg ε hg;replace ε :=sBk ε hb;replace HB:=sHb hb;clear hb hbox hg)|((with_reducible refine Qf (N:=8) rfl ?_);refine qE 8 #[.slice a5 φ.length a7,.slice a8 ρ.length a9] 50 ?_;intro a0 hg w8 hbox hb;have κ :=Aside0.mk hbox;have ff:=sGe hg;have fg:=sGe hg;have aw:=sNl ε hg;have ax:=sNg ε hg;have an:=sNl B hg;have ap:=sNg B hg;replace ε :=sBk ε hb;replace B:=sBk B hb;replace HB:=sHb hb;clear hb hbox hg)|((with_reducible refine Qf (N:=9) rfl ?_);refine qE 9 #[.int .i64 aa,.int .i64 ae,.int .i64 af] 36 ?_;intro a1 hg w9 hbox hb;have τ :=Aside0.mk hbox;have fh:=sGe hg;have gq:=sGe hg;have ay:=sNl ε hg;have az:=sNg ε hg;have ar:=sNl B hg;have au:=sNg B hg;have b0:=sNl κ hg;have b1:=sNg κ hg;replace ε :=sBk ε hb;replace B:=sBk B hb;replace κ :=sBk κ hb;replace HB:=sHb hb;clear hb hbox hg;have bv:=am.out;have cp:=ak.out;have ft:=an.out;have gh:=ap.out;have gl:=ar.out;have gm:=au.out;obtain⟨ab,ac⟩:=qD1 B.out))
 go_step3
 go_wp2
 go_step3
 go_wp2
 go_loopg [12,17] k (fun kq ev fa w'=>∃ (χ :Int) (ι :Int),ev = .int .i64 χ ∧ fa = .int .i64 ι ∧ Aside0 (group_pick.l0 kq a2 χ (l1.length:Int) ι J O X Y Z δ γ θ η ζ l1 φ ρ aa ae af=some r)∧Aside0 (kq≤k)∧Aside0 (w'.heap[ν]?=some (.cells #[.int .i64 J,.int .i64 O,.int .i64 X,.int .i64 Y,.int .i64 Z,.int .i64 δ,.int .i64 γ,.int .i64 θ,.int .i64 η,.int .i64 ζ] 25 (0,0)))∧Aside0 (w'.heap[ω]?=some (.cells #[(.slice A1 l1.length c1)] 46 (0,0)))∧Aside0 (w'.heap[a0]?=some (.cells #[(.slice a5 φ.length a7),(.slice a8 ρ.length a9)] 50 (0,0)))∧Aside0 (w'.heap[a1]?=some (.cells #[.int .i64 aa,.int .i64 ae,.int .i64 af] 36 (0,0)))∧Aside0 (Below w.heap.size w w'))
 case atStart=>exact⟨((-1)),(0),rfl,rfl,H',⟨Nat.le_refl _⟩,ε,B,κ,τ,HB⟩
 case round=>
  clear H'
  try clear c1
  try clear p2
  try clear c3
  try clear c10
  try clear ah
  try clear ai
  try clear ab
  try clear ac
  obtain⟨χ,ι,rfl,rfl,HA,ao,ε,B,κ,τ,HB⟩:=hrel
  cases gk with
  |zero=>exact absurd HA.out (by simp[group_pick.l0])
  |succ k1=>
   have H:=HA.out
   clear HA
   simp only[group_pick.l0] at H
   by_cases ag: ι < (l1.length:Int)
   ·rw[if_pos ag] at H
    have c14b0:decide (ι < (l1.length:Int))=true:=decide_eq_true ag
    clear ag
    by_cases b4:0 ≤ ι
    ·rw[if_pos b4] at H
     have c15b0:=eq_true b4
     have c15b1:decide (0 ≤ ι)=true:=decide_eq_true b4
     clear b4
     obtain⟨av,b2⟩:∃ j_:Int,(shr .i64 a2 ι)=j_:=⟨_,rfl⟩
     replace H:(if (Go.bits .and .i64 (av) 1)=1 then (group_pick.l0 k1 a2 χ (l1.length:Int) (wrap64 (ι + 1)) J O X Y Z δ γ θ η ζ l1 φ ρ aa ae af) else (if χ < 0 then (group_pick.l0 k1 a2 ι (l1.length:Int) (wrap64 (ι + 1)) J O X Y Z δ γ θ η ζ l1 φ ρ aa ae af) else ((group_pick_1.f k1 ι J O X Y Z δ γ θ η ζ l1 φ ρ aa ae af).bind fun aj=>((group_pick_1.f k1 χ J O X Y Z δ γ θ η ζ l1 φ ρ aa ae af).bind fun ψ =>(if aj < ψ then (group_pick.l0 k1 a2 ι (l1.length:Int) (wrap64 (ι + 1)) J O X Y Z δ γ θ η ζ l1 φ ρ aa ae af) else (group_pick.l0 k1 a2 χ (l1.length:Int) (wrap64 (ι + 1)) J O X Y Z δ γ θ η ζ l1 φ ρ aa ae af))))))=some r:=by first|(rw[b2] at H;exact H)|(simp only[b2] at H ⊢;exact H)
     have fb:(a2 / 2 ^ min ι.toNat 64)=av:=b2
     have hji16z: ι ≤ 64→(a2 / 2 ^ ι.toNat)=av:=Yp b2
     by_cases σ:(Go.bits .and .i64 (av) 1)=1
     ·rw[if_pos σ] at H
      have c17b0:((Go.bits .and .i64 (av) 1)==1)=true:=beq_iff_eq.mpr σ
      have c17b1:((Go.bits .and .i64 (av) 1) != 1)=false:=bne_eq_false_iff_eq.mpr σ
      clear σ
      have H':=Aside0.mk H
      clear H
      go_wp2
      go_roundg k1
      case measure=>have:=ao.out;omega
      case rel=>exact⟨(χ),(wrap64 (ι + 1)),rfl,rfl,H',⟨by have:=ao.out;omega⟩,ε,B,κ,τ,HB⟩
     ·rw[if_neg σ] at H
      have c17b0:((Go.bits .and .i64 (av) 1)==1)=false:=beq_eq_false_iff_ne.mpr σ
      have c17b1:((Go.bits .and .i64 (av) 1) != 1)=true:=bne_iff_ne.mpr σ
      by_cases be: χ < 0
      ·rw[if_pos be] at H
       have c18b0:decide (χ < 0)=true:=decide_eq_true be
       clear be
       have H':=Aside0.mk H
       clear H
       go_wp2
       go_roundg k1
       case measure=>have:=ao.out;omega
       case rel=>exact⟨(ι),(wrap64 (ι + 1)),rfl,rfl,H',⟨by have:=ao.out;omega⟩,ε,B,κ,τ,HB⟩
      ·rw[if_neg be] at H
       have c18b0:decide (χ < 0)=false:=decide_eq_false be
       clear be
       replace H:=Option.bind_eq_some_iff.mp H
       obtain⟨aj,b5,H⟩:=H
       replace H:((group_pick_1.f k1 χ J O X Y Z δ γ θ η ζ l1 φ ρ aa ae af).bind fun ψ =>(if aj < ψ then (group_pick.l0 k1 a2 ι (l1.length:Int) (wrap64 (ι + 1)) J O X Y Z δ γ θ η ζ l1 φ ρ aa ae af) else (group_pick.l0 k1 a2 χ (l1.length:Int) (wrap64 (ι + 1)) J O X Y Z δ γ θ η ζ l1 φ ρ aa ae af)))=some r:=H
       have b7:=Aside0.mk b5
       clear b5
       replace H:=Option.bind_eq_some_iff.mp H
       obtain⟨ψ,b6,H⟩:=H
       replace H:(if aj < ψ then (group_pick.l0 k1 a2 ι (l1.length:Int) (wrap64 (ι + 1)) J O X Y Z δ γ θ η ζ l1 φ ρ aa ae af) else (group_pick.l0 k1 a2 χ (l1.length:Int) (wrap64 (ι + 1)) J O X Y Z δ γ θ η ζ l1 φ ρ aa ae af))=some r:=H
       have ko:=Aside0.mk b6
       clear b6
       by_cases ba:aj < ψ
       ·rw[if_pos ba] at H
        have c21b0:decide (aj < ψ)=true:=decide_eq_true ba
        clear ba
        have H':=Aside0.mk H
        clear H
        have ei:=ak.out
        have gf:=am.out
        have lb:=aw.out
        have lc:=ax.out
        have bw:=ay.out
        have cj:=az.out
        obtain⟨ea,ek,dw,dl,e0,e3,e4,e9,b8,b9,el,em,dx,en,et,eu,ez,fr,bb,bc⟩:=Zl ε.out
        have bi:=an.out
        have bs:=ap.out
        have bz:=ar.out
        have ca:=au.out
        obtain⟨eb,ed⟩:=qD1 B.out
        have ql:=b0.out
        have qm:=b1.out
        obtain⟨d7,d8,d9,da⟩:=qD2 κ.out
        obtain⟨f7,fu,fv,fw,fx,fy⟩:=qD3 τ.out
        go_wp2_with (first|(go_at_call 58;(with_reducible refine(group_pick_1.calls k1 ι J O X Y Z δ γ θ η ζ _ _ l1 _ _ φ _ _ ρ aa ae af aj _ ?side1 ?side2 ?side3 ?side4 ?side5 ?side6 b7.out ν ω a0 a1 ε.out B.out κ.out τ.out).mono ?_);(case side1=>exact(Kd.Qv cu.out HB.out));(case side2=>exact d4.out);(case side3=>exact(Kd.Qv bu.out HB.out));(case side4=>exact cq.out);(case side5=>exact(Kd.Qv cf.out HB.out));(case side6=>exact cr.out);rintro e ki ⟨rfl,hb⟩;have μ :=Aside0.mk (Qy (g:= ν) (o:=.cells #[.int .i64 J,.int .i64 O,.int .i64 X,.int .i64 Y,.int .i64 Z,.int .i64 δ,.int .i64 γ,.int .i64 θ,.int .i64 η,.int .i64 ζ] 25 (0,0)) ε.out hb);have ξ :=Aside0.mk (Qy (g:= ω) (o:=.cells #[.slice A1 l1.length c1] 46 (0,0)) B.out hb);have a3:=Aside0.mk (Qy (g:=a0) (o:=.cells #[.slice a5 φ.length a7,.slice a8 ρ.length a9] 50 (0,0)) κ.out hb);have a4:=Aside0.mk (Qy (g:=a1) (o:=.cells #[.int .i64 aa,.int .i64 ae,.int .i64 af] 36 (0,0)) τ.out hb);have al:=Aside0.mk (Q0 HB.out hb);clear ε;clear B;clear κ;clear τ;clear HB;have ε := μ;have B:= ξ;have κ :=a3;have τ :=a4;have HB:=al;clear μ ξ a3 a4 al;(try clear hb);(try clear a6);(try clear hk);(try clear hi);obtain⟨d0,d1,db,fj,fk,fl,fm,hy,i0,i1,d2,d3,dc,fn,fo,fp,fq,i2,i3,i4⟩:=Zl ε.out;obtain⟨dn,e8⟩:=qD1 B.out;obtain⟨ee,ef,eg,eh⟩:=qD2 κ.out;obtain⟨fz,ga,b3,gb,ge,bh⟩:=qD3 τ.out)|(go_at_call 58;(with_reducible refine(group_pick_1.calls k1 χ J O X Y Z δ γ θ η ζ _ _ l1 _ _ φ _ _ ρ aa ae af ψ _ ?side1 ?side2 ?side3 ?side4 ?side5 ?side6 ko.out ν ω a0 a1 ε.out B.out κ.out τ.out).mono ?_);(case side1=>exact(Kd.Qv cu.out HB.out));(case side2=>exact d4.out);(case side3=>exact(Kd.Qv bu.out HB.out));(case side4=>exact cq.out);(case side5=>exact(Kd.Qv cf.out HB.out));(case side6=>exact cr.out);rintro e gg ⟨rfl,hb⟩;have μ :=Aside0.mk (Qy (g:= ν) (o:=.cells #[.int .i64 J,.int .i64 O,.int .i64 X,.int .i64 Y,.int .i64 Z,.int .i64 δ,.int .i64 γ,.int .i64 θ,.int .i64 η,.int .i64 ζ] 25 (0,0)) ε.out hb);have ξ :=Aside0.mk (Qy (g:= ω) (o:=.cells #[.slice A1 l1.length c1] 46 (0,0)) B.out hb);have a3:=Aside0.mk (Qy (g:=a0) (o:=.cells #[.slice a5 φ.length a7,.slice a8 ρ.length a9] 50 (0,0)) κ.out hb);have a4:=Aside0.mk (Qy (g:=a1) (o:=.cells #[.int .i64 aa,.int .i64 ae,.int .i64 af] 36 (0,0)) τ.out hb);have al:=Aside0.mk (Q0 HB.out hb);clear ε;clear B;clear κ;clear τ;clear HB;have ε := μ;have B:= ξ;have κ :=a3;have τ :=a4;have HB:=al;clear μ ξ a3 a4 al;(try clear hb);(try clear a6);(try clear hk);(try clear hi)))
        go_roundg k1
        case measure=>have:=ao.out;omega
        case rel=>exact⟨(ι),(wrap64 (ι + 1)),rfl,rfl,H',⟨by have:=ao.out;omega⟩,ε,B,κ,τ,HB⟩
       ·rw[if_neg ba] at H
        have c21b0:decide (aj < ψ)=false:=decide_eq_false ba
        clear ba
        have H':=Aside0.mk H
        clear H
        have gi:=ak.out
        have gj:=am.out
        have cw:=aw.out
        have cx:=ax.out
        have gr:=ay.out
        have gx:=az.out
        obtain⟨dr,dt,dy,hj,i5,i6,i7,bd,bf,bg,du,dv,dz,i9,ia,ib,ic,bj,bk,bl⟩:=Zl ε.out
        have gy:=an.out
        have gz:=ap.out
        have cg:=ar.out
        have ck:=au.out
        obtain⟨cm,dq⟩:=qD1 B.out
        have ma:=b0.out
        have mb:=b1.out
        obtain⟨hl,ho,hu,hx⟩:=qD2 κ.out
        obtain⟨lf,lg,n0,lh,ll,n1⟩:=qD3 τ.out
        go_wp2_with (first|(go_at_call 58;(with_reducible refine(group_pick_1.calls k1 ι J O X Y Z δ γ θ η ζ _ _ l1 _ _ φ _ _ ρ aa ae af aj _ ?side1 ?side2 ?side3 ?side4 ?side5 ?side6 b7.out ν ω a0 a1 ε.out B.out κ.out τ.out).mono ?_);(case side1=>exact(Kd.Qv cu.out HB.out));(case side2=>exact d4.out);(case side3=>exact(Kd.Qv bu.out HB.out));(case side4=>exact cq.out);(case side5=>exact(Kd.Qv cf.out HB.out));(case side6=>exact cr.out);rintro e fi ⟨rfl,hb⟩;have μ :=Aside0.mk (Qy (g:= ν) (o:=.cells #[.int .i64 J,.int .i64 O,.int .i64 X,.int .i64 Y,.int .i64 Z,.int .i64 δ,.int .i64 γ,.int .i64 θ,.int .i64 η,.int .i64 ζ] 25 (0,0)) ε.out hb);have ξ :=Aside0.mk (Qy (g:= ω) (o:=.cells #[.slice A1 l1.length c1] 46 (0,0)) B.out hb);have a3:=Aside0.mk (Qy (g:=a0) (o:=.cells #[.slice a5 φ.length a7,.slice a8 ρ.length a9] 50 (0,0)) κ.out hb);have a4:=Aside0.mk (Qy (g:=a1) (o:=.cells #[.int .i64 aa,.int .i64 ae,.int .i64 af] 36 (0,0)) τ.out hb);have al:=Aside0.mk (Q0 HB.out hb);clear ε;clear B;clear κ;clear τ;clear HB;have ε := μ;have B:= ξ;have κ :=a3;have τ :=a4;have HB:=al;clear μ ξ a3 a4 al;(try clear hb);(try clear a6);(try clear hk);(try clear hi);obtain⟨bm,bn,bo,bp,bq,br,cb,cd,ce,ch,ci,cn,co,d5,de,df,dp,e5,e6,e7⟩:=Zl ε.out;obtain⟨ip,ix⟩:=qD1 B.out;obtain⟨ec,ej,eo,ep⟩:=qD2 κ.out;obtain⟨cy,cz,iy,d6,dd,iz⟩:=qD3 τ.out)|(go_at_call 58;(with_reducible refine(group_pick_1.calls k1 χ J O X Y Z δ γ θ η ζ _ _ l1 _ _ φ _ _ ρ aa ae af ψ _ ?side1 ?side2 ?side3 ?side4 ?side5 ?side6 ko.out ν ω a0 a1 ε.out B.out κ.out τ.out).mono ?_);(case side1=>exact(Kd.Qv cu.out HB.out));(case side2=>exact d4.out);(case side3=>exact(Kd.Qv bu.out HB.out));(case side4=>exact cq.out);(case side5=>exact(Kd.Qv cf.out HB.out));(case side6=>exact cr.out);rintro e er ⟨rfl,hb⟩;have μ :=Aside0.mk (Qy (g:= ν) (o:=.cells #[.int .i64 J,.int .i64 O,.int .i64 X,.int .i64 Y,.int .i64 Z,.int .i64 δ,.int .i64 γ,.int .i64 θ,.int .i64 η,.int .i64 ζ] 25 (0,0)) ε.out hb);have ξ :=Aside0.mk (Qy (g:= ω) (o:=.cells #[.slice A1 l1.length c1] 46 (0,0)) B.out hb);have a3:=Aside0.mk (Qy (g:=a0) (o:=.cells #[.slice a5 φ.length a7,.slice a8 ρ.length a9] 50 (0,0)) κ.out hb);have a4:=Aside0.mk (Qy (g:=a1) (o:=.cells #[.int .i64 aa,.int .i64 ae,.int .i64 af] 36 (0,0)) τ.out hb);have al:=Aside0.mk (Q0 HB.out hb);clear ε;clear B;clear κ;clear τ;clear HB;have ε := μ;have B:= ξ;have κ :=a3;have τ :=a4;have HB:=al;clear μ ξ a3 a4 al;(try clear hb);(try clear a6);(try clear hk);(try clear hi)))
        go_roundg k1
        case measure=>have:=ao.out;omega
        case rel=>exact⟨(χ),(wrap64 (ι + 1)),rfl,rfl,H',⟨by have:=ao.out;omega⟩,ε,B,κ,τ,HB⟩
    ·rw[if_neg b4] at H
     exact absurd H (by simp)
   ·rw[if_neg ag] at H
    have c14b0:decide (ι < (l1.length:Int))=false:=decide_eq_false ag
    clear ag
    obtain rfl:=Option.some.inj H
    go_wp2
    (try rw[Exit.noGoto_ret])
    go_ret
    exact⟨rfl,HB.out⟩
def group_Pick.f (k:Nat) (J:Int) (O:Int) (X:Int) (Y:Int) (Z:Int) (δ :Int) (γ:Int) (θ :Int) (η :Int) (ζ :Int) (l1:List (S31)) (a2:Int) (φ :List (S36)) (ρ:List (S86)) (aa:Int) (ae:Int) (af:Int):Option (Int×Int):=(group_Check.f k J O X Y Z δ γ θ η ζ l1 φ ρ).bind fun μ =>(if μ = 0 then ((group_house.f J O X Y Z δ γ θ η ζ l1).bind fun a0=>((group_hall.f k a0.1 a0.2 aa ae af).bind fun a3=>(if a3=true then ((group_pick.f k J O X Y Z δ γ θ η ζ l1 a2 φ ρ aa ae af).bind fun ν =>(some (ν,0))) else (some (0,210))))) else (some (0,μ)))
theorem group_Pick.mono:∀ J Y a2 a3 O a5 X a7 a8 a9 Z γ δ ζ ε η θ k,LeO (group_Pick.f k J Y a2 a3 O a5 X a7 a8 a9 Z γ δ ζ ε η θ) (group_Pick.f (k+1) J Y a2 a3 O a5 X a7 a8 a9 Z γ δ ζ ε η θ):=by
 intro J Y a2 a3 O a5 X a7 a8 a9 Z γ δ ζ ε η θ k
 unfold group_Pick.f
 repeat' first
   |(with_reducible exact group_Check.mono _ _ _ _ _ _ _ _ _ _ _ _ _ _)
   |(with_reducible exact group_hall.mono _ _ _ _ _ _)
   |(with_reducible exact group_pick.mono _ _ _ _ _ _ _ _ _ _ _ _ _ _ _ _ _ _)
   |(with_reducible exact LeO.refl _)
   |(with_reducible exact LeO.none _)
   |(with_reducible refine LeO.ite ?_ ?_)
   |(with_reducible refine LeO.bind ?_ (fun _=>?_))
   |exact group_Check.mono _ _ _ _ _ _ _ _ _ _ _ _ _ _
   |exact group_hall.mono _ _ _ _ _ _
   |exact group_pick.mono _ _ _ _ _ _ _ _ _ _ _ _ _ _ _ _ _ _
   |exact LeO.none _
   |refine LeO.ite ?_ ?_
   |refine LeO.bind ?_ (fun _=>?_)
set_option maxHeartbeats 8000000 in
set_option maxRecDepth 100000 in
theorem group_Pick.calls (k:Nat) (J:Int) (O:Int) (X:Int) (Y:Int) (Z:Int) (δ :Int) (γ:Int) (θ :Int) (η :Int) (ζ :Int) (A1:Option Addr) (c1:Nat) (l1:List (S31)) (a2:Int) (a5:Option Addr) (a7:Nat) (φ :List (S36)) (a8:Option Addr) (a9:Nat) (ρ:List (S86)) (aa:Int) (ae:Int) (af:Int) (r1:Int) (r2:Int) (w:World) (cv:Kd.C k31 w A1 l1.length l1) (ct:l1.length≤c1) (dh:Kd.C k36 w a5 φ.length φ) (di: φ.length≤a7) (dj:Kd.C k86 w a8 ρ.length ρ) (dk:ρ.length≤a9) (h:group_Pick.f k J O X Y Z δ γ θ η ζ l1 a2 φ ρ aa ae af=some (r1,r2)):
  Calls Try.prog 14 #[.agg #[.int .i64 J,.int .i64 O,.int .i64 X,.int .i64 Y,.int .i64 Z,.int .i64 δ,.int .i64 γ,.int .i64 θ,.int .i64 η,.int .i64 ζ],.slice A1 l1.length c1,.int .i64 a2,.agg #[.slice a5 φ.length a7,.slice a8 ρ.length a9],.agg #[.int .i64 aa,.int .i64 ae,.int .i64 af]] w fun e w'=>e = .returned (.tuple #[.int .i64 r1,.int .i64 r2])∧Below w.heap.size w w':=by
 have ew:=Try.underlying25
 have ey:=Try.underlying50
 have dm:=Try.underlying36
 have cu:=Aside0.mk cv
 have d4:=Aside0.mk ct
 clear cv ct
 have bu:=Aside0.mk dh
 have cq:=Aside0.mk di
 clear dh di
 have cf:=Aside0.mk dj
 have cr:=Aside0.mk dk
 clear dj dk
 have HB:=Aside0.mk (Below.refl w.heap.size w)
 have H:((group_Check.f k J O X Y Z δ γ θ η ζ l1 φ ρ).bind fun μ =>(if μ = 0 then ((group_house.f J O X Y Z δ γ θ η ζ l1).bind fun a0=>((group_hall.f k a0.1 a0.2 aa ae af).bind fun a3=>(if a3=true then ((group_pick.f k J O X Y Z δ γ θ η ζ l1 a2 φ ρ aa ae af).bind fun ν =>(some (ν,0))) else (some (0,210))))) else (some (0,μ))))=some (r1,r2):=h
 clear h
 replace H:=Option.bind_eq_some_iff.mp H
 obtain⟨μ,b0,H⟩:=H
 replace H:(if μ = 0 then ((group_house.f J O X Y Z δ γ θ η ζ l1).bind fun a0=>((group_hall.f k a0.1 a0.2 aa ae af).bind fun a3=>(if a3=true then ((group_pick.f k J O X Y Z δ γ θ η ζ l1 a2 φ ρ aa ae af).bind fun ν =>(some (ν,0))) else (some (0,210))))) else (some (0,μ)))=some (r1,r2):=H
 have A6:=Aside0.mk b0
 clear b0
 by_cases c7: μ = 0
 ·rw[if_pos c7] at H
  have c7b0:(μ == 0)=true:=beq_iff_eq.mpr c7
  have c7b1:(μ != 0)=false:=bne_eq_false_iff_eq.mpr c7
  clear c7
  replace H:=Option.bind_eq_some_iff.mp H
  obtain⟨⟨a4,ab⟩,gf,H⟩:=H
  replace H:((group_hall.f k a4 ab aa ae af).bind fun a3=>(if a3=true then ((group_pick.f k J O X Y Z δ γ θ η ζ l1 a2 φ ρ aa ae af).bind fun ν =>(some (ν,0))) else (some (0,210))))=some (r1,r2):=H
  have A8:=Aside0.mk gf
  clear gf
  replace H:=Option.bind_eq_some_iff.mp H
  obtain⟨a3,bw,H⟩:=H
  replace H:(if a3=true then ((group_pick.f k J O X Y Z δ γ θ η ζ l1 a2 φ ρ aa ae af).bind fun ν =>(some (ν,0))) else (some (0,210)))=some (r1,r2):=H
  have A9:=Aside0.mk bw
  clear bw
  by_cases c10:a3=true
  ·subst c10
   have H1:((group_pick.f k J O X Y Z δ γ θ η ζ l1 a2 φ ρ aa ae af).bind fun ν =>(some (ν,0)))=some (r1,r2):=by rw[if_pos rfl] at H;exact H
   clear H
   have H:=H1
   clear H1
   replace H:=Option.bind_eq_some_iff.mp H
   obtain⟨ν,bh,H⟩:=H
   replace H:(some (ν,0))=some (r1,r2):=H
   have da:=Aside0.mk bh
   clear bh
   simp only[Option.some.injEq,Prod.mk.injEq] at H
   obtain⟨rfl,rfl⟩:=H
   go_enter Try.func14,Try.ntmps14
   try go_wp2_with (first|((with_reducible refine Qf (N:=5) rfl ?_);refine qE 5 #[.int .i64 J,.int .i64 O,.int .i64 X,.int .i64 Y,.int .i64 Z,.int .i64 δ,.int .i64 γ,.int .i64 θ,.int .i64 η,.int .i64 ζ] 25 ?_;intro κ hg he hbox hb;have B:=Aside0.mk hbox;have ac:=sGe hg;have ag:=sGe hg;replace HB:=sHb hb;clear hb hbox hg)|((with_reducible refine Qf (N:=8) rfl ?_);refine qE 8 #[.slice a5 φ.length a7,.slice a8 ρ.length a9] 50 ?_;intro ah hg ch hbox hb;have ι :=Aside0.mk hbox;have ai:=sGe hg;have ao:=sGe hg;have ξ :=sNl B hg;have σ:=sNg B hg;replace B:=sBk B hb;replace HB:=sHb hb;clear hb hbox hg)|((with_reducible refine Qf (N:=9) rfl ?_);refine qE 9 #[.int .i64 aa,.int .i64 ae,.int .i64 af] 36 ?_;intro a1 hg ft hbox hb;have ε :=Aside0.mk hbox;have ap:=sGe hg;have au:=sGe hg;have τ :=sNl B hg;have χ :=sNg B hg;have ψ :=sNl ι hg;have ω :=sNg ι hg;replace B:=sBk B hb;replace ι :=sBk ι hb;replace HB:=sHb hb;clear hb hbox hg;have gn:= ξ.out;have gp:=σ.out;have de:= τ.out;have fr:= χ.out;obtain⟨ay,az,bz,al,ar,av,b4,ba,ce,ci,b1,b2,ca,cj,en,fa,fb,fc,fe,ff⟩:=Zl B.out;have d5:= ψ.out;have ev:= ω.out;obtain⟨aj,ak,am,an⟩:=qD2 ι.out)|((with_reducible refine Qp (f:=17) rfl ?_);refine Q4 (some 16) rfl rfl Try.func17 kr rfl #[.agg #[.int .i64 J,.int .i64 O,.int .i64 X,.int .i64 Y,.int .i64 Z,.int .i64 δ,.int .i64 γ,.int .i64 θ,.int .i64 η,.int .i64 ζ],.slice A1 l1.length c1,.agg #[.slice a5 φ.length a7,.slice a8 ρ.length a9]] rfl qM ?_;(with_reducible refine(group_Check.calls k J O X Y Z δ γ θ η ζ _ _ l1 _ _ φ _ _ ρ μ _ ?side1 ?side2 ?side3 ?side4 ?side5 ?side6 A6.out).mono ?_);(case side1=>exact(Kd.Qv cu.out HB.out));(case side2=>exact d4.out);(case side3=>exact(Kd.Qv bu.out HB.out));(case side4=>exact cq.out);(case side5=>exact(Kd.Qv cf.out HB.out));(case side6=>exact cr.out);rintro e dl ⟨rfl,hb⟩;refine⟨_,rfl, ?_⟩;replace B:=sBk B hb;replace ι :=sBk ι hb;replace ε :=sBk ε hb;replace HB:=sHb hb;(try clear hb);(try clear a6);(try clear hk);(try clear hi)))
   replace B:=Aside0.mk (Qe B.out)
   replace ι :=Aside0.mk (Qe ι.out)
   replace ε :=Aside0.mk (Qe ε.out)
   replace HB:=Aside0.mk (Qg HB.out)
   refine Zh (n:=6) (S:=fun w'=>w'.cell? ⟨κ,0,none⟩=some (.int .i64 J)∧w'.cell? ⟨κ,1,none⟩=some (.int .i64 O)∧w'.cell? ⟨κ,2,none⟩=some (.int .i64 X)∧w'.cell? ⟨κ,3,none⟩=some (.int .i64 Y)∧w'.cell? ⟨κ,4,none⟩=some (.int .i64 Z)∧w'.cell? ⟨κ,5,none⟩=some (.int .i64 δ)∧w'.cell? ⟨κ,6,none⟩=some (.int .i64 γ)∧w'.cell? ⟨κ,7,none⟩=some (.int .i64 θ)∧w'.cell? ⟨κ,8,none⟩=some (.int .i64 η)∧w'.cell? ⟨κ,9,none⟩=some (.int .i64 ζ)∧w'.cell? ⟨a1,0,none⟩=some (.int .i64 aa)∧w'.cell? ⟨a1,1,none⟩=some (.int .i64 ae)∧w'.cell? ⟨a1,2,none⟩=some (.int .i64 af)) (ds:=[]) #[false,false,false,false,false,false] kr rfl rfl ⟨(Qa B.out 0).trans rfl,(Qa B.out 1).trans rfl,(Qa B.out 2).trans rfl,(Qa B.out 3).trans rfl,(Qa B.out 4).trans rfl,(Qa B.out 5).trans rfl,(Qa B.out 6).trans rfl,(Qa B.out 7).trans rfl,(Qa B.out 8).trans rfl,(Qa B.out 9).trans rfl,(Qa ε.out 0).trans rfl,(Qa ε.out 1).trans rfl,(Qa ε.out 2).trans rfl⟩ (fun hHeld=>?_)
   generalize dl.drew=bs at B ι ε HB hHeld ⊢
   refine qV 1 (some 21) (bN 6 2) ?_
   refine qW 0 (some 20) (bN 6 3) hHeld ?_
   refine qW 3 (some 23) (bN 6 11) hHeld ?_
   refine Vg (i:=2) (N:=some 22) (bN 6 15) rfl rfl kr (by decide) (fun K hK=>?_)
   refine Q9 Try.func37 kr rfl #[.agg #[.int .i64 J,.int .i64 O,.int .i64 X,.int .i64 Y,.int .i64 Z,.int .i64 δ,.int .i64 γ,.int .i64 θ,.int .i64 η,.int .i64 ζ],.slice A1 l1.length c1] (by rfl) rfl rfl qM ?_
   with_reducible refine(group_house.calls J O X Y Z δ γ θ η ζ _ _ l1 a4 ab _ ?side1 ?side2 A8.out).mono ?_
   (case side1=>exact(Kd.Qv cu.out HB.out))
   (case side2=>exact d4.out)
   rintro e br ⟨rfl,hb⟩
   refine⟨_,rfl, ?_⟩
   replace B:=sBk B hb
   replace ι :=sBk ι hb
   replace ε :=sBk ε hb
   replace HB:=sHb hb
   (try clear hb)
   (try clear a6)
   (try clear hk)
   (try clear hi)
   refine hK.out _ _ ⟨qc B,qc B,qc B,qc B,qc B,qc B,qc B,qc B,qc B,qc B,qc ε,qc ε,qc ε⟩ (fun hHeld=>?_)
   clear hK K
   refine qN (some 22) ?_
   refine Vg (i:=4) (N:=some 24) (bN 6 31) rfl rfl kr (by decide) (fun K hK=>?_)
   refine Q9 Try.func30 kr rfl #[.agg #[.int .i64 a4,.int .i64 ab],.agg #[.int .i64 aa,.int .i64 ae,.int .i64 af]] (by rfl) rfl rfl qM ?_
   with_reducible refine(group_hall.calls k a4 ab aa ae af true _ A9.out).mono ?_
   rintro e bm ⟨rfl,hb⟩
   refine⟨_,rfl, ?_⟩
   replace B:=sBk B hb
   replace ι :=sBk ι hb
   replace ε :=sBk ε hb
   replace HB:=sHb hb
   (try clear hb)
   (try clear a6)
   (try clear hk)
   (try clear hi)
   refine hK.out _ _ ⟨qc B,qc B,qc B,qc B,qc B,qc B,qc B,qc B,qc B,qc B,qc ε,qc ε,qc ε⟩ (fun hHeld=>?_)
   clear hK K
   refine qN (some 24) ?_
   refine qV 5 (some 25) (bN 6 63) ?_
   refine Z2 kr ?_
   obtain⟨bn,bo,cm,dr,dt,du,dv,dw,dx,dy,bp,bq,cn,dz,e0,e3,e4,e5,e6,e7⟩:=Zl B.out
   obtain⟨ea,ek,el,em⟩:=qD2 ι.out
   obtain⟨cp,cw,ep,ec,eo,er⟩:=qD3 ε.out
   try go_wp2_with (first|((with_reducible refine Qp (f:=38) rfl ?_);refine Q4 (some 31) rfl rfl Try.func38 kr rfl #[.agg #[.int .i64 J,.int .i64 O,.int .i64 X,.int .i64 Y,.int .i64 Z,.int .i64 δ,.int .i64 γ,.int .i64 θ,.int .i64 η,.int .i64 ζ],.slice A1 l1.length c1,.int .i64 a2,.agg #[.slice a5 φ.length a7,.slice a8 ρ.length a9],.agg #[.int .i64 aa,.int .i64 ae,.int .i64 af]] rfl qM ?_;(with_reducible refine(group_pick.calls k J O X Y Z δ γ θ η ζ _ _ l1 a2 _ _ φ _ _ ρ aa ae af ν _ ?side1 ?side2 ?side3 ?side4 ?side5 ?side6 da.out).mono ?_);(case side1=>exact(Kd.Qv cu.out HB.out));(case side2=>exact d4.out);(case side3=>exact(Kd.Qv bu.out HB.out));(case side4=>exact cq.out);(case side5=>exact(Kd.Qv cf.out HB.out));(case side6=>exact cr.out);rintro e df ⟨rfl,hb⟩;refine⟨_,rfl, ?_⟩;replace B:=sBk B hb;replace ι :=sBk ι hb;replace ε :=sBk ε hb;replace HB:=sHb hb;(try clear hb);(try clear a6);(try clear hk);(try clear hi)))
   go_ret2
   exact⟨rfl,HB.out⟩
  ·replace c10:=Bool.eq_false_iff.mpr c10
   subst c10
   have H1:(some (0,210))=some (r1,r2):=by rw[if_neg (show ¬ (false=true) by decide)] at H;exact H
   clear H
   have H:=H1
   clear H1
   simp only[Option.some.injEq,Prod.mk.injEq] at H
   obtain⟨rfl,rfl⟩:=H
   go_enter Try.func14,Try.ntmps14
   try go_wp2_with (first|((with_reducible refine Qf (N:=5) rfl ?_);refine qE 5 #[.int .i64 J,.int .i64 O,.int .i64 X,.int .i64 Y,.int .i64 Z,.int .i64 δ,.int .i64 γ,.int .i64 θ,.int .i64 η,.int .i64 ζ] 25 ?_;intro κ hg e9 hbox hb;have B:=Aside0.mk hbox;have ac:=sGe hg;have ag:=sGe hg;replace HB:=sHb hb;clear hb hbox hg)|((with_reducible refine Qf (N:=8) rfl ?_);refine qE 8 #[.slice a5 φ.length a7,.slice a8 ρ.length a9] 50 ?_;intro ah hg bv hbox hb;have ι :=Aside0.mk hbox;have ai:=sGe hg;have ao:=sGe hg;have ξ :=sNl B hg;have σ:=sNg B hg;replace B:=sBk B hb;replace HB:=sHb hb;clear hb hbox hg)|((with_reducible refine Qf (N:=9) rfl ?_);refine qE 9 #[.int .i64 aa,.int .i64 ae,.int .i64 af] 36 ?_;intro a1 hg ej hbox hb;have ε :=Aside0.mk hbox;have ap:=sGe hg;have au:=sGe hg;have τ :=sNl B hg;have χ :=sNg B hg;have ψ :=sNl ι hg;have ω :=sNg ι hg;replace B:=sBk B hb;replace ι :=sBk ι hb;replace HB:=sHb hb;clear hb hbox hg;have fg:= ξ.out;have fh:=σ.out;have m8:= τ.out;have m9:= χ.out;obtain⟨d0,d1,db,fj,fk,fl,fm,hy,i0,i1,d2,d3,dc,fn,fo,fp,fq,i2,i3,i4⟩:=Zl B.out;have lm:= ψ.out;have ln:= ω.out;obtain⟨ee,ef,eg,eh⟩:=qD2 ι.out)|((with_reducible refine Qp (f:=17) rfl ?_);refine Q4 (some 16) rfl rfl Try.func17 kr rfl #[.agg #[.int .i64 J,.int .i64 O,.int .i64 X,.int .i64 Y,.int .i64 Z,.int .i64 δ,.int .i64 γ,.int .i64 θ,.int .i64 η,.int .i64 ζ],.slice A1 l1.length c1,.agg #[.slice a5 φ.length a7,.slice a8 ρ.length a9]] rfl qM ?_;(with_reducible refine(group_Check.calls k J O X Y Z δ γ θ η ζ _ _ l1 _ _ φ _ _ ρ μ _ ?side1 ?side2 ?side3 ?side4 ?side5 ?side6 A6.out).mono ?_);(case side1=>exact(Kd.Qv cu.out HB.out));(case side2=>exact d4.out);(case side3=>exact(Kd.Qv bu.out HB.out));(case side4=>exact cq.out);(case side5=>exact(Kd.Qv cf.out HB.out));(case side6=>exact cr.out);rintro e gq ⟨rfl,hb⟩;refine⟨_,rfl, ?_⟩;replace B:=sBk B hb;replace ι :=sBk ι hb;replace ε :=sBk ε hb;replace HB:=sHb hb;(try clear hb);(try clear a6);(try clear hk);(try clear hi)))
   replace B:=Aside0.mk (Qe B.out)
   replace ι :=Aside0.mk (Qe ι.out)
   replace ε :=Aside0.mk (Qe ε.out)
   replace HB:=Aside0.mk (Qg HB.out)
   refine Zh (n:=6) (S:=fun w'=>w'.cell? ⟨κ,0,none⟩=some (.int .i64 J)∧w'.cell? ⟨κ,1,none⟩=some (.int .i64 O)∧w'.cell? ⟨κ,2,none⟩=some (.int .i64 X)∧w'.cell? ⟨κ,3,none⟩=some (.int .i64 Y)∧w'.cell? ⟨κ,4,none⟩=some (.int .i64 Z)∧w'.cell? ⟨κ,5,none⟩=some (.int .i64 δ)∧w'.cell? ⟨κ,6,none⟩=some (.int .i64 γ)∧w'.cell? ⟨κ,7,none⟩=some (.int .i64 θ)∧w'.cell? ⟨κ,8,none⟩=some (.int .i64 η)∧w'.cell? ⟨κ,9,none⟩=some (.int .i64 ζ)∧w'.cell? ⟨a1,0,none⟩=some (.int .i64 aa)∧w'.cell? ⟨a1,1,none⟩=some (.int .i64 ae)∧w'.cell? ⟨a1,2,none⟩=some (.int .i64 af)) (ds:=[]) #[false,false,false,false,false,false] kr rfl rfl ⟨(Qa B.out 0).trans rfl,(Qa B.out 1).trans rfl,(Qa B.out 2).trans rfl,(Qa B.out 3).trans rfl,(Qa B.out 4).trans rfl,(Qa B.out 5).trans rfl,(Qa B.out 6).trans rfl,(Qa B.out 7).trans rfl,(Qa B.out 8).trans rfl,(Qa B.out 9).trans rfl,(Qa ε.out 0).trans rfl,(Qa ε.out 1).trans rfl,(Qa ε.out 2).trans rfl⟩ (fun hHeld=>?_)
   generalize gq.drew=gg at B ι ε HB hHeld ⊢
   refine qV 1 (some 21) (bN 6 2) ?_
   refine qW 0 (some 20) (bN 6 3) hHeld ?_
   refine qW 3 (some 23) (bN 6 11) hHeld ?_
   refine Vg (i:=2) (N:=some 22) (bN 6 15) rfl rfl kr (by decide) (fun K hK=>?_)
   refine Q9 Try.func37 kr rfl #[.agg #[.int .i64 J,.int .i64 O,.int .i64 X,.int .i64 Y,.int .i64 Z,.int .i64 δ,.int .i64 γ,.int .i64 θ,.int .i64 η,.int .i64 ζ],.slice A1 l1.length c1] (by rfl) rfl rfl qM ?_
   with_reducible refine(group_house.calls J O X Y Z δ γ θ η ζ _ _ l1 a4 ab _ ?side1 ?side2 A8.out).mono ?_
   (case side1=>exact(Kd.Qv cu.out HB.out))
   (case side2=>exact d4.out)
   rintro e j9 ⟨rfl,hb⟩
   refine⟨_,rfl, ?_⟩
   replace B:=sBk B hb
   replace ι :=sBk ι hb
   replace ε :=sBk ε hb
   replace HB:=sHb hb
   (try clear hb)
   (try clear a6)
   (try clear hk)
   (try clear hi)
   refine hK.out _ _ ⟨qc B,qc B,qc B,qc B,qc B,qc B,qc B,qc B,qc B,qc B,qc ε,qc ε,qc ε⟩ (fun hHeld=>?_)
   clear hK K
   refine qN (some 22) ?_
   refine Vg (i:=4) (N:=some 24) (bN 6 31) rfl rfl kr (by decide) (fun K hK=>?_)
   refine Q9 Try.func30 kr rfl #[.agg #[.int .i64 a4,.int .i64 ab],.agg #[.int .i64 aa,.int .i64 ae,.int .i64 af]] (by rfl) rfl rfl qM ?_
   with_reducible refine(group_hall.calls k a4 ab aa ae af false _ A9.out).mono ?_
   rintro e sd ⟨rfl,hb⟩
   refine⟨_,rfl, ?_⟩
   replace B:=sBk B hb
   replace ι :=sBk ι hb
   replace ε :=sBk ε hb
   replace HB:=sHb hb
   (try clear hb)
   (try clear a6)
   (try clear hk)
   (try clear hi)
   refine hK.out _ _ ⟨qc B,qc B,qc B,qc B,qc B,qc B,qc B,qc B,qc B,qc B,qc ε,qc ε,qc ε⟩ (fun hHeld=>?_)
   clear hK K
   refine qN (some 24) ?_
   refine qV 5 (some 25) (bN 6 63) ?_
   refine Z2 kr ?_
   try go_wp2
   go_ret2
   exact⟨rfl,HB.out⟩
 ·rw[if_neg c7] at H
  have c7b0:(μ == 0)=false:=beq_eq_false_iff_ne.mpr c7
  have c7b1:(μ != 0)=true:=bne_iff_ne.mpr c7
  simp only[Option.some.injEq,Prod.mk.injEq] at H
  obtain⟨rfl,rfl⟩:=H
  go_enter Try.func14,Try.ntmps14
  go_wp2_with (first|((with_reducible refine Qf (N:=5) rfl ?_);refine qE 5 #[.int .i64 J,.int .i64 O,.int .i64 X,.int .i64 Y,.int .i64 Z,.int .i64 δ,.int .i64 γ,.int .i64 θ,.int .i64 η,.int .i64 ζ] 25 ?_;intro κ hg kt hbox hb;have B:=Aside0.mk hbox;have ac:=sGe hg;have ag:=sGe hg;replace HB:=sHb hb;clear hb hbox hg)|((with_reducible refine Qf (N:=8) rfl ?_);refine qE 8 #[.slice a5 φ.length a7,.slice a8 ρ.length a9] 50 ?_;intro ah hg aw hbox hb;have ι :=Aside0.mk hbox;have ai:=sGe hg;have ao:=sGe hg;have ξ :=sNl B hg;have σ:=sNg B hg;replace B:=sBk B hb;replace HB:=sHb hb;clear hb hbox hg)|((with_reducible refine Qf (N:=9) rfl ?_);refine qE 9 #[.int .i64 aa,.int .i64 ae,.int .i64 af] 36 ?_;intro a1 hg kh hbox hb;have ε :=Aside0.mk hbox;have ap:=sGe hg;have au:=sGe hg;have τ :=sNl B hg;have χ :=sNg B hg;have ψ :=sNl ι hg;have ω :=sNg ι hg;replace B:=sBk B hb;replace ι :=sBk ι hb;replace HB:=sHb hb;clear hb hbox hg;have cg:= ξ.out;have ck:=σ.out;have h9:= τ.out;have ha:= χ.out;obtain⟨gk,gl,ie,ig,ih,ii,ij,k6,k7,k8,gm,gw,ik,il,im,io,ip,k9,ka,kb⟩:=Zl B.out;have ju:= ψ.out;have jv:= ω.out;obtain⟨lf,lg,lh,ll⟩:=qD2 ι.out)|((with_reducible refine Qp (f:=17) rfl ?_);refine Q4 (some 16) rfl rfl Try.func17 kr rfl #[.agg #[.int .i64 J,.int .i64 O,.int .i64 X,.int .i64 Y,.int .i64 Z,.int .i64 δ,.int .i64 γ,.int .i64 θ,.int .i64 η,.int .i64 ζ],.slice A1 l1.length c1,.agg #[.slice a5 φ.length a7,.slice a8 ρ.length a9]] rfl qM ?_;(with_reducible refine(group_Check.calls k J O X Y Z δ γ θ η ζ _ _ l1 _ _ φ _ _ ρ μ _ ?side1 ?side2 ?side3 ?side4 ?side5 ?side6 A6.out).mono ?_);(case side1=>exact(Kd.Qv cu.out HB.out));(case side2=>exact d4.out);(case side3=>exact(Kd.Qv bu.out HB.out));(case side4=>exact cq.out);(case side5=>exact(Kd.Qv cf.out HB.out));(case side6=>exact cr.out);rintro e fi ⟨rfl,hb⟩;refine⟨_,rfl, ?_⟩;replace B:=sBk B hb;replace ι :=sBk ι hb;replace ε :=sBk ε hb;replace HB:=sHb hb;(try clear hb);(try clear a6);(try clear hk);(try clear hi)))
  go_ret2
  exact⟨rfl,HB.out⟩
mutual
def group_Spread.l0:Nat→List (S31)→Int→Int→Int→Int→Int→Int→Int→Int→Int→Int→Int→Int→Int→List (S36)→List (S86)→Option ((List (S36))×(List (S86))×Int)
 |0,_,_,_,_,_,_,_,_,_,_,_,_,_,_,_,_=>none
 |k+1,J,Z,ν,μ,X,Y,γ,δ,ε,ζ,η,θ,ι,κ,B,O=>if μ < ν then (if 0 ≤ μ then (if μ < (B.length:Int) then (if ((Qc B μ).f2)≥0 then (if 0≤((Qc B μ).f2) then (if (Go.bits .and .i64 (shr .i64 Z ((Qc B μ).f2)) 1)=1 then (group_Spread.l0 k J Z ν (wrap64 (μ + 1)) X Y γ δ ε ζ η θ ι κ (B.set (μ :Int).toNat (⟨(Qc B μ).f0,(Qc B μ).f1,(-1)⟩:S36)) O) else (group_Spread.l0 k J Z ν (wrap64 (μ + 1)) X Y γ δ ε ζ η θ ι κ B O)) else (none)) else (group_Spread.l0 k J Z ν (wrap64 (μ + 1)) X Y γ δ ε ζ η θ ι κ B O)) else (none)) else (none)) else (group_Spread.l1 k J Z (B.length:Int) 0 X Y γ δ ε ζ η θ ι κ B O)
def group_Spread.l1:Nat→List (S31)→Int→Int→Int→Int→Int→Int→Int→Int→Int→Int→Int→Int→Int→List (S36)→List (S86)→Option ((List (S36))×(List (S86))×Int)
 |0,_,_,_,_,_,_,_,_,_,_,_,_,_,_,_,_=>none
 |k+1,J,Z,ν,μ,X,Y,γ,δ,ε,ζ,η,θ,ι,κ,B,O=>if μ < ν then (if 0 ≤ μ then (if μ < (B.length:Int) then (if ((Qc B μ).f2)<0 then ((group_pick.f k X Y γ δ ε ζ η θ ι κ J Z B O ((Qc B μ).f0) ((Qc B μ).f1) ((Qc B μ).f2)).bind fun cn=>(group_Spread.l1 k J Z ν (wrap64 (μ + 1)) X Y γ δ ε ζ η θ ι κ (B.set (μ :Int).toNat (⟨(Qc B μ).f0,(Qc B μ).f1,cn⟩:S36)) O)) else (group_Spread.l1 k J Z ν (wrap64 (μ + 1)) X Y γ δ ε ζ η θ ι κ B O)) else (none)) else (none)) else (some (B,O,0))
end
def group_Spread.f (k:Nat) (J:Int) (O:Int) (X:Int) (Y:Int) (Z:Int) (δ :Int) (γ:Int) (θ :Int) (η :Int) (ζ :Int) (l1:List (S31)) (a2:Int) (φ :List (S36)) (ρ:List (S86)):Option ((List (S36))×(List (S86))×Int):=(group_Check.f k J O X Y Z δ γ θ η ζ l1 φ ρ).bind fun aw=>(if aw=0 then ((some (([]:List (S36)):List (S36))).bind fun bp=>(if bp.length + φ.length<5864062014805 then ((some (bp ++ φ :List (S36))).bind fun b2=>((some (([]:List (S86)):List (S86))).bind fun bf=>(if bf.length+ρ.length<8796093022208 then (group_Spread.l0 k l1 a2 (b2.length:Int) 0 J O X Y Z δ γ θ η ζ b2 (bf++ρ)) else (none)))) else (none))) else (some (([]:List (S36)),([]:List (S86)),aw)))
theorem group_Spread.Zo:∀ k,(∀ O X Y J Z y5 y6 y7 y8 y9 γ δ ζ η θ ι,LeO (group_Spread.l0 k O X Y J Z y5 y6 y7 y8 y9 γ δ ζ η θ ι) (group_Spread.l0 (k+1) O X Y J Z y5 y6 y7 y8 y9 γ δ ζ η θ ι))∧(∀ O X Y J Z y5 y6 y7 y8 y9 γ δ ζ η θ ι,LeO (group_Spread.l1 k O X Y J Z y5 y6 y7 y8 y9 γ δ ζ η θ ι) (group_Spread.l1 (k+1) O X Y J Z y5 y6 y7 y8 y9 γ δ ζ η θ ι))
 |0=>⟨fun _ _ _ _ _ _ _ _ _ _ _ _ _ _ _ _ r h=>by simp[group_Spread.l0] at h,fun _ _ _ _ _ _ _ _ _ _ _ _ _ _ _ _ r h=>by simp[group_Spread.l1] at h⟩
 |k+1=>by
  obtain⟨B,ε⟩:=group_Spread.Zo k
  refine⟨?_, ?_⟩
  ·intro O X Y J Z y5 y6 y7 y8 y9 γ δ ζ η θ ι
   unfold group_Spread.l0
   repeat' first
   |(with_reducible exact B _ _ _ _ _ _ _ _ _ _ _ _ _ _ _ _)
   |(with_reducible exact ε _ _ _ _ _ _ _ _ _ _ _ _ _ _ _ _)
   |(with_reducible exact group_Check.mono _ _ _ _ _ _ _ _ _ _ _ _ _ _)
   |(with_reducible exact group_pick.mono _ _ _ _ _ _ _ _ _ _ _ _ _ _ _ _ _ _)
   |(with_reducible exact LeO.refl _)
   |(with_reducible exact LeO.none _)
   |(with_reducible refine LeO.ite ?_ ?_)
   |(with_reducible refine LeO.bind ?_ (fun _=>?_))
   |exact B _ _ _ _ _ _ _ _ _ _ _ _ _ _ _ _
   |exact ε _ _ _ _ _ _ _ _ _ _ _ _ _ _ _ _
   |exact group_Check.mono _ _ _ _ _ _ _ _ _ _ _ _ _ _
   |exact group_pick.mono _ _ _ _ _ _ _ _ _ _ _ _ _ _ _ _ _ _
   |exact LeO.none _
   |refine LeO.ite ?_ ?_
   |refine LeO.bind ?_ (fun _=>?_)
  ·intro O X Y J Z y5 y6 y7 y8 y9 γ δ ζ η θ ι
   unfold group_Spread.l1
   repeat' first
   |(with_reducible exact B _ _ _ _ _ _ _ _ _ _ _ _ _ _ _ _)
   |(with_reducible exact ε _ _ _ _ _ _ _ _ _ _ _ _ _ _ _ _)
   |(with_reducible exact group_Check.mono _ _ _ _ _ _ _ _ _ _ _ _ _ _)
   |(with_reducible exact group_pick.mono _ _ _ _ _ _ _ _ _ _ _ _ _ _ _ _ _ _)
   |(with_reducible exact LeO.refl _)
   |(with_reducible exact LeO.none _)
   |(with_reducible refine LeO.ite ?_ ?_)
   |(with_reducible refine LeO.bind ?_ (fun _=>?_))
   |exact B _ _ _ _ _ _ _ _ _ _ _ _ _ _ _ _
   |exact ε _ _ _ _ _ _ _ _ _ _ _ _ _ _ _ _
   |exact group_Check.mono _ _ _ _ _ _ _ _ _ _ _ _ _ _
   |exact group_pick.mono _ _ _ _ _ _ _ _ _ _ _ _ _ _ _ _ _ _
   |exact LeO.none _
   |refine LeO.ite ?_ ?_
   |refine LeO.bind ?_ (fun _=>?_)
theorem group_Spread.mono:∀ J Y a2 a3 O a5 X a7 a8 a9 Z γ δ ζ k,LeO (group_Spread.f k J Y a2 a3 O a5 X a7 a8 a9 Z γ δ ζ) (group_Spread.f (k+1) J Y a2 a3 O a5 X a7 a8 a9 Z γ δ ζ):=by
 intro J Y a2 a3 O a5 X a7 a8 a9 Z γ δ ζ k
 obtain⟨B,ε⟩:=group_Spread.Zo k
 unfold group_Spread.f
 repeat' first
   |(with_reducible exact B _ _ _ _ _ _ _ _ _ _ _ _ _ _ _ _)
   |(with_reducible exact ε _ _ _ _ _ _ _ _ _ _ _ _ _ _ _ _)
   |(with_reducible exact group_Check.mono _ _ _ _ _ _ _ _ _ _ _ _ _ _)
   |(with_reducible exact group_pick.mono _ _ _ _ _ _ _ _ _ _ _ _ _ _ _ _ _ _)
   |(with_reducible exact LeO.refl _)
   |(with_reducible exact LeO.none _)
   |(with_reducible refine LeO.ite ?_ ?_)
   |(with_reducible refine LeO.bind ?_ (fun _=>?_))
   |exact B _ _ _ _ _ _ _ _ _ _ _ _ _ _ _ _
   |exact ε _ _ _ _ _ _ _ _ _ _ _ _ _ _ _ _
   |exact group_Check.mono _ _ _ _ _ _ _ _ _ _ _ _ _ _
   |exact group_pick.mono _ _ _ _ _ _ _ _ _ _ _ _ _ _ _ _ _ _
   |exact LeO.none _
   |refine LeO.ite ?_ ?_
   |refine LeO.bind ?_ (fun _=>?_)
def group_Spread.T4:Bool×List (List Nat×List Nat):=(true,[([],[]),([],[]),([1],[1]),([0,2],[0,2]),([],[]),([],[]),([5],[5]),([4,6,3],[4,6]),([3,7],[3,7]),([],[]),([9,8,7,0,1,2,3,4,5,6,7,8,9],[8,9])])
def group_Spread.B4:List Nat:=[0,0,2,7,0,0,32,127,255,0,1023]
theorem group_Spread.Vz:rtab .any (opsOf Try.f21 4)=group_Spread.T4:=by kernel_rfl
theorem group_Spread.K1:Zq group_Spread.T4.2 group_Spread.B4=true:=by kernel_rfl
def group_Spread.T15:Bool×List (List Nat×List Nat):=(true,[([],[]),([0],[0]),([],[]),([],[]),([],[]),([],[]),([],[]),([],[]),([3,4,5,6,7],[3,4,5,6,7]),([1,2,0,1,2,3,4,5,6,7,8],[1,2]),([9,0,1,2,3,4,5,6,7,8],[9]),([10,8,8,0,1,2,3,4,5,6,7,8],[8,10])])
def group_Spread.B15:List Nat:=[0,1,0,0,0,0,0,0,248,511,1023,2047]
theorem group_Spread.tab15:rtab .any (opsOf Try.f21 15)=group_Spread.T15:=by kernel_rfl
theorem group_Spread.Dw:Zq group_Spread.T15.2 group_Spread.B15=true:=by kernel_rfl
set_option maxHeartbeats 8000000 in
set_option maxRecDepth 100000 in
theorem group_Spread.calls (k:Nat) (J:Int) (O:Int) (X:Int) (Y:Int) (Z:Int) (δ :Int) (γ:Int) (θ :Int) (η :Int) (ζ :Int) (A1:Option Addr) (c1:Nat) (l1:List (S31)) (a2:Int) (a5:Option Addr) (a7:Nat) (φ :List (S36)) (a8:Option Addr) (a9:Nat) (ρ:List (S86)) (r1:List (S36)) (r2:List (S86)) (r3:Int) (w:World) (cv:Kd.C k31 w A1 l1.length l1) (ct:l1.length≤c1) (dh:Kd.C k36 w a5 φ.length φ) (di: φ.length≤a7) (dj:Kd.C k86 w a8 ρ.length ρ) (dk:ρ.length≤a9) (h:group_Spread.f k J O X Y Z δ γ θ η ζ l1 a2 φ ρ=some (r1,r2,r3)):
  Calls Try.prog 21 #[.agg #[.int .i64 J,.int .i64 O,.int .i64 X,.int .i64 Y,.int .i64 Z,.int .i64 δ,.int .i64 γ,.int .i64 θ,.int .i64 η,.int .i64 ζ],.slice A1 l1.length c1,.int .i64 a2,.agg #[.slice a5 φ.length a7,.slice a8 ρ.length a9]] w fun e w'=>∃ bg e4:Value,e = .returned (.tuple #[.agg #[bg,e4],.int .i64 r3])∧Kd.R k36 36 w' w.heap.size (fun _=>True) bg r1∧Kd.R k86 86 w' w.heap.size (fun _=>True) e4 r2∧Below w.heap.size w w':=by
 have ew:=Try.underlying25
 have ey:=Try.underlying50
 have dm:=Try.underlying36
 have cu:=Aside0.mk cv
 have d4:=Aside0.mk ct
 clear cv ct
 have bu:=Aside0.mk dh
 have cq:=Aside0.mk di
 clear dh di
 have cf:=Aside0.mk dj
 have cr:=Aside0.mk dk
 clear dj dk
 have HB:=Aside0.mk (Below.refl w.heap.size w)
 have H:((group_Check.f k J O X Y Z δ γ θ η ζ l1 φ ρ).bind fun aw=>(if aw=0 then ((some (([]:List (S36)):List (S36))).bind fun bp=>(if bp.length + φ.length<5864062014805 then ((some (bp ++ φ :List (S36))).bind fun b2=>((some (([]:List (S86)):List (S86))).bind fun bf=>(if bf.length+ρ.length<8796093022208 then (group_Spread.l0 k l1 a2 (b2.length:Int) 0 J O X Y Z δ γ θ η ζ b2 (bf++ρ)) else (none)))) else (none))) else (some (([]:List (S36)),([]:List (S86)),aw))))=some (r1,r2,r3):=h
 clear h
 replace H:=Option.bind_eq_some_iff.mp H
 obtain⟨aw,bv,H⟩:=H
 replace H:(if aw=0 then ((some (([]:List (S36)):List (S36))).bind fun bp=>(if bp.length + φ.length<5864062014805 then ((some (bp ++ φ :List (S36))).bind fun b2=>((some (([]:List (S86)):List (S86))).bind fun bf=>(if bf.length+ρ.length<8796093022208 then (group_Spread.l0 k l1 a2 (b2.length:Int) 0 J O X Y Z δ γ θ η ζ b2 (bf++ρ)) else (none)))) else (none))) else (some (([]:List (S36)),([]:List (S86)),aw)))=some (r1,r2,r3):=H
 have A5:=Aside0.mk bv
 clear bv
 by_cases c6:aw=0
 ·rw[if_pos c6] at H
  have c6b0:(aw==0)=true:=beq_iff_eq.mpr c6
  have c6b1:(aw != 0)=false:=bne_eq_false_iff_eq.mpr c6
  clear c6
  obtain⟨bp,gs⟩:∃ y_:List (S36),y_=(([]:List (S36))):=⟨_,rfl⟩
  replace H:(if bp.length + φ.length<5864062014805 then ((some (bp ++ φ :List (S36))).bind fun b2=>((some (([]:List (S86)):List (S86))).bind fun bf=>(if bf.length+ρ.length<8796093022208 then (group_Spread.l0 k l1 a2 (b2.length:Int) 0 J O X Y Z δ γ θ η ζ b2 (bf++ρ)) else (none)))) else (none))=some (r1,r2,r3):=by first|(rw[gs];with_reducible exact H)|(have an:=(Option.bind_some _ _).symm.trans H;rw[gs];with_reducible exact an)|(have an:=(Option.bind_some _ _).symm.trans H;with_reducible exact an)|with_reducible exact H|(rw[gs];exact H)|exact H
  have eo:=Aside0.mk gs
  clear gs
  by_cases c7:bp.length + φ.length<5864062014805
  ·rw[if_pos c7] at H
   have k0:=Aside0.mk c7
   clear c7
   obtain⟨b2,gt⟩:∃ y_:List (S36),y_=(bp ++ φ):=⟨_,rfl⟩
   replace H:((some (([]:List (S86)):List (S86))).bind fun bf=>(if bf.length+ρ.length<8796093022208 then (group_Spread.l0 k l1 a2 (b2.length:Int) 0 J O X Y Z δ γ θ η ζ b2 (bf++ρ)) else (none)))=some (r1,r2,r3):=by first|(rw[gt];with_reducible exact H)|(have an:=(Option.bind_some _ _).symm.trans H;rw[gt];with_reducible exact an)|(have an:=(Option.bind_some _ _).symm.trans H;with_reducible exact an)|with_reducible exact H|(rw[gt];exact H)|exact H
   have hl:=Aside0.mk gt
   clear gt
   obtain⟨bf,gu⟩:∃ y_:List (S86),y_=(([]:List (S86))):=⟨_,rfl⟩
   replace H:(if bf.length+ρ.length<8796093022208 then (group_Spread.l0 k l1 a2 (b2.length:Int) 0 J O X Y Z δ γ θ η ζ b2 (bf++ρ)) else (none))=some (r1,r2,r3):=by first|(rw[gu];with_reducible exact H)|(have an:=(Option.bind_some _ _).symm.trans H;rw[gu];with_reducible exact an)|(have an:=(Option.bind_some _ _).symm.trans H;with_reducible exact an)|with_reducible exact H|(rw[gu];exact H)|exact H
   have d2:=Aside0.mk gu
   clear gu
   by_cases c8:bf.length+ρ.length<8796093022208
   ·rw[if_pos c8] at H
    have mj:=Aside0.mk c8
    clear c8
    obtain⟨bj,gv⟩:∃ y_:List (S86),y_=(bf++ρ):=⟨_,rfl⟩
    replace H:(group_Spread.l0 k l1 a2 (b2.length:Int) 0 J O X Y Z δ γ θ η ζ b2 bj)=some (r1,r2,r3):=by first|(rw[gv];with_reducible exact H)|(have an:=(Option.bind_some _ _).symm.trans H;rw[gv];with_reducible exact an)|(have an:=(Option.bind_some _ _).symm.trans H;with_reducible exact an)|with_reducible exact H|(rw[gv];exact H)|exact H
    have ll:=Aside0.mk gv
    clear gv
    have H':=Aside0.mk H
    clear H
    go_enter Try.func21,Try.ntmps21
    try go_wp2_with (first|((with_reducible refine Qf (N:=4) rfl ?_);refine qE 4 #[.int .i64 J,.int .i64 O,.int .i64 X,.int .i64 Y,.int .i64 Z,.int .i64 δ,.int .i64 γ,.int .i64 θ,.int .i64 η,.int .i64 ζ] 25 ?_;intro aa hg w9 hbox hb;have ε :=Aside0.mk hbox;have l2:=sGe hg;have jr:=sGe hg;replace HB:=sHb hb;clear hb hbox hg)|((with_reducible refine Qf (N:=7) rfl ?_);refine qE 7 #[.slice a5 φ.length a7,.slice a8 ρ.length a9] 50 ?_;intro τ hg ni hbox hb;have B:=Aside0.mk hbox;have o5:=sGe hg;have o6:=sGe hg;have fg:=sNl ε hg;have fh:=sNg ε hg;replace ε :=sBk ε hb;replace HB:=sHb hb;clear hb hbox hg)|((with_reducible refine Qf (N:=8) rfl ?_);refine qE 8 #[.slice none 0 0,.slice none 0 0] 50 ?_;intro ak hg ec hbox hb;have ι :=Aside0.mk hbox;have o7:=sGe hg;have o8:=sGe hg;have ep:=sNl ε hg;have er:=sNg ε hg;have et:=sNl B hg;have eu:=sNg B hg;replace ε :=sBk ε hb;replace B:=sBk B hb;replace HB:=sHb hb;clear hb hbox hg;have gl:=fg.out;have gm:=fh.out;have js:=ep.out;have jt:=er.out;obtain⟨cz,d5,e5,e6,e7,eb,ed,ev,ij,ik,d6,dd,ee,ef,eg,eh,ei,f7,il,im⟩:=Zl ε.out;have gn:=et.out;have gp:=eu.out;obtain⟨db,dc,dn,e8⟩:=qD2 B.out)|((with_reducible refine Qp (f:=17) rfl ?_);refine Q4 (some 19) rfl rfl Try.func17 kr rfl #[.agg #[.int .i64 J,.int .i64 O,.int .i64 X,.int .i64 Y,.int .i64 Z,.int .i64 δ,.int .i64 γ,.int .i64 θ,.int .i64 η,.int .i64 ζ],.slice A1 l1.length c1,.agg #[.slice a5 φ.length a7,.slice a8 ρ.length a9]] rfl qM ?_;(with_reducible refine(group_Check.calls k J O X Y Z δ γ θ η ζ _ _ l1 _ _ φ _ _ ρ aw _ ?side1 ?side2 ?side3 ?side4 ?side5 ?side6 A5.out).mono ?_);(case side1=>exact(Kd.Qv cu.out HB.out));(case side2=>exact d4.out);(case side3=>exact(Kd.Qv bu.out HB.out));(case side4=>exact cq.out);(case side5=>exact(Kd.Qv cf.out HB.out));(case side6=>exact cr.out);rintro e d3 ⟨rfl,hb⟩;refine⟨_,rfl, ?_⟩;replace ε :=sBk ε hb;replace B:=sBk B hb;replace ι :=sBk ι hb;replace HB:=sHb hb;(try clear hb);(try clear a6);(try clear hk);(try clear hi)))
    replace ε :=Aside0.mk (Qe ε.out)
    replace B:=Aside0.mk (Qe B.out)
    replace ι :=Aside0.mk (Qe ι.out)
    replace HB:=Aside0.mk (Qg HB.out)
    refine Zh (n:=11) (S:=fun w'=>w'.cell? ⟨τ,0,none⟩=some (.slice a5 φ.length a7)∧w'.cell? ⟨τ,1,none⟩=some (.slice a8 ρ.length a9)) (ds:=[]) #[false,false,false,false,false,false,false,false,false,false,false] kr rfl rfl ⟨(Qa B.out 0).trans rfl,(Qa B.out 1).trans rfl⟩ (fun hHeld=>?_);refine Q8 group_Spread.Vz group_Spread.K1 (fun HT_ HW_=>?_)
    generalize d3.drew=hh at ε B ι HB hHeld ⊢
    refine qP 1 (some 25) (bN 11 2) HT_ ?_
    refine qP 5 (some 29) (bN 11 34) HT_ ?_
    refine qT 2 (some 26) (bN 11 38) HT_ HW_ hHeld ?_
    refine qT 6 (some 30) (bN 11 102) HT_ HW_ hHeld ?_
    refine X7 (σ:=Value×Value×Value×Value×Nat) 1 (bN 11 1023) (fun s_=>[(24,s_.1),(27,s_.2.1),(28,s_.2.2.1),(31,s_.2.2.2.1),(11,.pointer (some ⟨s_.2.2.2.2,0,none⟩)),(32,.agg #[s_.2.1,s_.2.2.2.1])]) (fun s_ w'=>(w'.cell? ⟨τ,0,none⟩=some (.slice a5 φ.length a7)∧w'.cell? ⟨τ,1,none⟩=some (.slice a8 ρ.length a9))∧(Kd.R k36 36 w' w.heap.size (fun _=>True) s_.2.1 b2)∧(Kd.R k86 86 w' w.heap.size (fun _=>True) s_.2.2.2.1 bj)∧(w'.heap[aa]?=some (.cells #[.int .i64 J,.int .i64 O,.int .i64 X,.int .i64 Y,.int .i64 Z,.int .i64 δ,.int .i64 γ,.int .i64 θ,.int .i64 η,.int .i64 ζ] 25 (0,0)))∧(w'.heap[τ]?=some (.cells #[.slice a5 φ.length a7,.slice a8 ρ.length a9] 50 (0,0)))∧(w'.heap[ak]?=some (.cells #[.slice none 0 0,.slice none 0 0] 50 (0,0)))∧(w'.heap[s_.2.2.2.2]?=some (.cells #[.slice none 0 0,.slice none 0 0] 50 (0,0)))∧(w.heap.size≤s_.2.2.2.2)∧(w.heap.size≤s_.2.2.2.2)∧(aa≠s_.2.2.2.2)∧(s_.2.2.2.2≠aa)∧(τ ≠ s_.2.2.2.2)∧(s_.2.2.2.2 ≠ τ)∧(ak≠s_.2.2.2.2)∧(s_.2.2.2.2≠ak)∧(Below w.heap.size w w')) ?_ ?_
    rotate_left
    ·intro gh
     refine X7 (σ:=Value×Value×Value×Value) 2 (bN 11 511) (fun s_=>[(24,s_.1),(27,s_.2.1),(28,s_.2.2.1),(31,s_.2.2.2),(32,.agg #[s_.2.1,s_.2.2.2])]) (fun s_ w'=>(w'.cell? ⟨τ,0,none⟩=some (.slice a5 φ.length a7)∧w'.cell? ⟨τ,1,none⟩=some (.slice a8 ρ.length a9))∧(Kd.R k36 36 w' w.heap.size (fun _=>True) s_.2.1 b2)∧(Kd.R k86 86 w' w.heap.size (fun _=>True) s_.2.2.2 bj)∧(w'.heap[aa]?=some (.cells #[.int .i64 J,.int .i64 O,.int .i64 X,.int .i64 Y,.int .i64 Z,.int .i64 δ,.int .i64 γ,.int .i64 θ,.int .i64 η,.int .i64 ζ] 25 (0,0)))∧(w'.heap[τ]?=some (.cells #[.slice a5 φ.length a7,.slice a8 ρ.length a9] 50 (0,0)))∧(w'.heap[ak]?=some (.cells #[.slice none 0 0,.slice none 0 0] 50 (0,0)))∧(Below w.heap.size w w')) ?_ ?_
     rotate_left
     ·intro k8
      refine X7 (σ:=Value×Value×Value×Nat) 3 (bN 11 639) (fun s_=>[(24,s_.1),(27,s_.2.1),(28,s_.2.2.1),(11,.pointer (some ⟨s_.2.2.2,0,none⟩))]) (fun s_ w'=>(w'.cell? ⟨τ,0,none⟩=some (.slice a5 φ.length a7)∧w'.cell? ⟨τ,1,none⟩=some (.slice a8 ρ.length a9))∧(Kd.R k36 36 w' w.heap.size (fun _=>True) s_.2.1 b2)∧(Kd.R k86 86 w' w.heap.size (fun _=>True) s_.2.2.1 bf)∧(w'.heap[aa]?=some (.cells #[.int .i64 J,.int .i64 O,.int .i64 X,.int .i64 Y,.int .i64 Z,.int .i64 δ,.int .i64 γ,.int .i64 θ,.int .i64 η,.int .i64 ζ] 25 (0,0)))∧(w'.heap[τ]?=some (.cells #[.slice a5 φ.length a7,.slice a8 ρ.length a9] 50 (0,0)))∧(w'.heap[ak]?=some (.cells #[.slice none 0 0,.slice none 0 0] 50 (0,0)))∧(w'.heap[s_.2.2.2]?=some (.cells #[.slice none 0 0,.slice none 0 0] 50 (0,0)))∧(w.heap.size≤s_.2.2.2)∧(w.heap.size≤s_.2.2.2)∧(aa≠s_.2.2.2)∧(s_.2.2.2≠aa)∧(τ ≠ s_.2.2.2)∧(s_.2.2.2 ≠ τ)∧(ak≠s_.2.2.2)∧(s_.2.2.2≠ak)∧(Below w.heap.size w w')) ?_ ?_
      rotate_left
      ·intro fi
       refine X7 (σ:=Value×Value×Value) 4 (bN 11 127) (fun s_=>[(24,s_.1),(27,s_.2.1),(28,s_.2.2)]) (fun s_ w'=>(w'.cell? ⟨τ,0,none⟩=some (.slice a5 φ.length a7)∧w'.cell? ⟨τ,1,none⟩=some (.slice a8 ρ.length a9))∧(Kd.R k36 36 w' w.heap.size (fun _=>True) s_.2.1 b2)∧(Kd.R k86 86 w' w.heap.size (fun _=>True) s_.2.2 bf)∧(w'.heap[aa]?=some (.cells #[.int .i64 J,.int .i64 O,.int .i64 X,.int .i64 Y,.int .i64 Z,.int .i64 δ,.int .i64 γ,.int .i64 θ,.int .i64 η,.int .i64 ζ] 25 (0,0)))∧(w'.heap[τ]?=some (.cells #[.slice a5 φ.length a7,.slice a8 ρ.length a9] 50 (0,0)))∧(w'.heap[ak]?=some (.cells #[.slice none 0 0,.slice none 0 0] 50 (0,0)))∧(Below w.heap.size w w')) ?_ ?_
       rotate_left
       ·intro jn
        refine X7 (σ:=Value×Value×Nat) 4 (bN 11 623) (fun s_=>[(24,s_.1),(27,s_.2.1),(11,.pointer (some ⟨s_.2.2,0,none⟩))]) (fun s_ w'=>(w'.cell? ⟨τ,0,none⟩=some (.slice a5 φ.length a7)∧w'.cell? ⟨τ,1,none⟩=some (.slice a8 ρ.length a9))∧(Kd.R k36 36 w' w.heap.size (fun _=>True) s_.2.1 b2)∧(w'.heap[aa]?=some (.cells #[.int .i64 J,.int .i64 O,.int .i64 X,.int .i64 Y,.int .i64 Z,.int .i64 δ,.int .i64 γ,.int .i64 θ,.int .i64 η,.int .i64 ζ] 25 (0,0)))∧(w'.heap[τ]?=some (.cells #[.slice a5 φ.length a7,.slice a8 ρ.length a9] 50 (0,0)))∧(w'.heap[ak]?=some (.cells #[.slice none 0 0,.slice none 0 0] 50 (0,0)))∧(w'.heap[s_.2.2]?=some (.cells #[.slice none 0 0,.slice none 0 0] 50 (0,0)))∧(w.heap.size≤s_.2.2)∧(w.heap.size≤s_.2.2)∧(aa≠s_.2.2)∧(s_.2.2≠aa)∧(τ ≠ s_.2.2)∧(s_.2.2 ≠ τ)∧(ak≠s_.2.2)∧(s_.2.2≠ak)∧(Below w.heap.size w w')) ?_ ?_
        rotate_left
        ·intro jo
         refine X7 (σ:=Value×Value×Nat) 4 (bN 11 631) (fun s_=>[(24,s_.1),(28,s_.2.1),(11,.pointer (some ⟨s_.2.2,0,none⟩))]) (fun s_ w'=>(w'.cell? ⟨τ,0,none⟩=some (.slice a5 φ.length a7)∧w'.cell? ⟨τ,1,none⟩=some (.slice a8 ρ.length a9))∧(Kd.R k36 36 w' w.heap.size (fun _=>True) s_.1 bp)∧(Kd.R k86 86 w' w.heap.size (fun _=>True) s_.2.1 bf)∧(w'.heap[aa]?=some (.cells #[.int .i64 J,.int .i64 O,.int .i64 X,.int .i64 Y,.int .i64 Z,.int .i64 δ,.int .i64 γ,.int .i64 θ,.int .i64 η,.int .i64 ζ] 25 (0,0)))∧(w'.heap[τ]?=some (.cells #[.slice a5 φ.length a7,.slice a8 ρ.length a9] 50 (0,0)))∧(w'.heap[ak]?=some (.cells #[.slice none 0 0,.slice none 0 0] 50 (0,0)))∧(w'.heap[s_.2.2]?=some (.cells #[.slice none 0 0,.slice none 0 0] 50 (0,0)))∧(w.heap.size≤s_.2.2)∧(w.heap.size≤s_.2.2)∧(aa≠s_.2.2)∧(s_.2.2≠aa)∧(τ ≠ s_.2.2)∧(s_.2.2 ≠ τ)∧(ak≠s_.2.2)∧(s_.2.2≠ak)∧(Below w.heap.size w w')) ?_ ?_
         rotate_left
         ·intro h6
          refine X7 (σ:=Value×Value) 5 (bN 11 111) (fun s_=>[(24,s_.1),(27,s_.2)]) (fun s_ w'=>(w'.cell? ⟨τ,0,none⟩=some (.slice a5 φ.length a7)∧w'.cell? ⟨τ,1,none⟩=some (.slice a8 ρ.length a9))∧(Kd.R k36 36 w' w.heap.size (fun _=>True) s_.2 b2)∧(w'.heap[aa]?=some (.cells #[.int .i64 J,.int .i64 O,.int .i64 X,.int .i64 Y,.int .i64 Z,.int .i64 δ,.int .i64 γ,.int .i64 θ,.int .i64 η,.int .i64 ζ] 25 (0,0)))∧(w'.heap[τ]?=some (.cells #[.slice a5 φ.length a7,.slice a8 ρ.length a9] 50 (0,0)))∧(w'.heap[ak]?=some (.cells #[.slice none 0 0,.slice none 0 0] 50 (0,0)))∧(Below w.heap.size w w')) ?_ ?_
          rotate_left
          ·intro o9
           refine X7 (σ:=Value×Value) 5 (bN 11 119) (fun s_=>[(24,s_.1),(28,s_.2)]) (fun s_ w'=>(w'.cell? ⟨τ,0,none⟩=some (.slice a5 φ.length a7)∧w'.cell? ⟨τ,1,none⟩=some (.slice a8 ρ.length a9))∧(Kd.R k36 36 w' w.heap.size (fun _=>True) s_.1 bp)∧(Kd.R k86 86 w' w.heap.size (fun _=>True) s_.2 bf)∧(w'.heap[aa]?=some (.cells #[.int .i64 J,.int .i64 O,.int .i64 X,.int .i64 Y,.int .i64 Z,.int .i64 δ,.int .i64 γ,.int .i64 θ,.int .i64 η,.int .i64 ζ] 25 (0,0)))∧(w'.heap[τ]?=some (.cells #[.slice a5 φ.length a7,.slice a8 ρ.length a9] 50 (0,0)))∧(w'.heap[ak]?=some (.cells #[.slice none 0 0,.slice none 0 0] 50 (0,0)))∧(Below w.heap.size w w')) ?_ ?_
           rotate_left
           ·intro lp
            refine X7 (σ:=Value×Nat) 5 (bN 11 615) (fun s_=>[(24,s_.1),(11,.pointer (some ⟨s_.2,0,none⟩))]) (fun s_ w'=>(w'.cell? ⟨τ,0,none⟩=some (.slice a5 φ.length a7)∧w'.cell? ⟨τ,1,none⟩=some (.slice a8 ρ.length a9))∧(Kd.R k36 36 w' w.heap.size (fun _=>True) s_.1 bp)∧(w'.heap[aa]?=some (.cells #[.int .i64 J,.int .i64 O,.int .i64 X,.int .i64 Y,.int .i64 Z,.int .i64 δ,.int .i64 γ,.int .i64 θ,.int .i64 η,.int .i64 ζ] 25 (0,0)))∧(w'.heap[τ]?=some (.cells #[.slice a5 φ.length a7,.slice a8 ρ.length a9] 50 (0,0)))∧(w'.heap[ak]?=some (.cells #[.slice none 0 0,.slice none 0 0] 50 (0,0)))∧(w'.heap[s_.2]?=some (.cells #[.slice none 0 0,.slice none 0 0] 50 (0,0)))∧(w.heap.size≤s_.2)∧(w.heap.size≤s_.2)∧(aa≠s_.2)∧(s_.2≠aa)∧(τ ≠ s_.2)∧(s_.2 ≠ τ)∧(ak≠s_.2)∧(s_.2≠ak)∧(Below w.heap.size w w')) ?_ ?_
            rotate_left
            ·intro lq
             refine X7 (σ:=Value×Nat) 5 (bN 11 630) (fun s_=>[(28,s_.1),(11,.pointer (some ⟨s_.2,0,none⟩))]) (fun s_ w'=>(w'.cell? ⟨τ,0,none⟩=some (.slice a5 φ.length a7)∧w'.cell? ⟨τ,1,none⟩=some (.slice a8 ρ.length a9))∧(Kd.R k86 86 w' w.heap.size (fun _=>True) s_.1 bf)∧(w'.heap[aa]?=some (.cells #[.int .i64 J,.int .i64 O,.int .i64 X,.int .i64 Y,.int .i64 Z,.int .i64 δ,.int .i64 γ,.int .i64 θ,.int .i64 η,.int .i64 ζ] 25 (0,0)))∧(w'.heap[τ]?=some (.cells #[.slice a5 φ.length a7,.slice a8 ρ.length a9] 50 (0,0)))∧(w'.heap[ak]?=some (.cells #[.slice none 0 0,.slice none 0 0] 50 (0,0)))∧(w'.heap[s_.2]?=some (.cells #[.slice none 0 0,.slice none 0 0] 50 (0,0)))∧(w.heap.size≤s_.2)∧(w.heap.size≤s_.2)∧(aa≠s_.2)∧(s_.2≠aa)∧(τ ≠ s_.2)∧(s_.2 ≠ τ)∧(ak≠s_.2)∧(s_.2≠ak)∧(Below w.heap.size w w')) ?_ ?_
             rotate_left
             ·intro lr
              refine X7 (σ:=Value) 6 (bN 11 103) (fun s_=>[(24,s_)]) (fun s_ w'=>(w'.cell? ⟨τ,0,none⟩=some (.slice a5 φ.length a7)∧w'.cell? ⟨τ,1,none⟩=some (.slice a8 ρ.length a9))∧(Kd.R k36 36 w' w.heap.size (fun _=>True) s_ bp)∧(w'.heap[aa]?=some (.cells #[.int .i64 J,.int .i64 O,.int .i64 X,.int .i64 Y,.int .i64 Z,.int .i64 δ,.int .i64 γ,.int .i64 θ,.int .i64 η,.int .i64 ζ] 25 (0,0)))∧(w'.heap[τ]?=some (.cells #[.slice a5 φ.length a7,.slice a8 ρ.length a9] 50 (0,0)))∧(w'.heap[ak]?=some (.cells #[.slice none 0 0,.slice none 0 0] 50 (0,0)))∧(Below w.heap.size w w')) ?_ ?_
              rotate_left
              ·intro r4
               refine X7 (σ:=Value) 6 (bN 11 118) (fun s_=>[(28,s_)]) (fun s_ w'=>(w'.cell? ⟨τ,0,none⟩=some (.slice a5 φ.length a7)∧w'.cell? ⟨τ,1,none⟩=some (.slice a8 ρ.length a9))∧(Kd.R k86 86 w' w.heap.size (fun _=>True) s_ bf)∧(w'.heap[aa]?=some (.cells #[.int .i64 J,.int .i64 O,.int .i64 X,.int .i64 Y,.int .i64 Z,.int .i64 δ,.int .i64 γ,.int .i64 θ,.int .i64 η,.int .i64 ζ] 25 (0,0)))∧(w'.heap[τ]?=some (.cells #[.slice a5 φ.length a7,.slice a8 ρ.length a9] 50 (0,0)))∧(w'.heap[ak]?=some (.cells #[.slice none 0 0,.slice none 0 0] 50 (0,0)))∧(Below w.heap.size w w')) ?_ ?_
               rotate_left
               ·intro r5
                refine X7 (σ:=Nat) 6 (bN 11 614) (fun s_=>[(11,.pointer (some ⟨s_,0,none⟩))]) (fun s_ w'=>(w'.cell? ⟨τ,0,none⟩=some (.slice a5 φ.length a7)∧w'.cell? ⟨τ,1,none⟩=some (.slice a8 ρ.length a9))∧(w'.heap[aa]?=some (.cells #[.int .i64 J,.int .i64 O,.int .i64 X,.int .i64 Y,.int .i64 Z,.int .i64 δ,.int .i64 γ,.int .i64 θ,.int .i64 η,.int .i64 ζ] 25 (0,0)))∧(w'.heap[τ]?=some (.cells #[.slice a5 φ.length a7,.slice a8 ρ.length a9] 50 (0,0)))∧(w'.heap[ak]?=some (.cells #[.slice none 0 0,.slice none 0 0] 50 (0,0)))∧(w'.heap[s_]?=some (.cells #[.slice none 0 0,.slice none 0 0] 50 (0,0)))∧(w.heap.size≤s_)∧(w.heap.size≤s_)∧(aa≠s_)∧(s_≠aa)∧(τ ≠ s_)∧(s_ ≠ τ)∧(ak≠s_)∧(s_≠ak)∧(Below w.heap.size w w')) ?_ ?_
                rotate_left
                ·intro r6
                 refine Mx (i:=0) (j:=4) (k:=9) (Ni:=some 24) (Nj:=some 28) (Nk:=some 11) #[true,true,true,false,false,true,true,false,false,false,false] #[false,true,true,false,true,true,true,false,false,false,false] #[false,true,true,false,false,true,true,false,false,true,false] rfl rfl rfl rfl rfl rfl (Up HT_.out kr) (by decide) (by decide) (by decide) (fun K hK=>?_) (fun K hK=>?_) (fun K hK=>?_)
                 ·skip
                  refine Kd.Zp k36 _ 36 ?hg (N:=24) ?hd (xs:=([]:List (S36))) (inner:=[]) (ok:=fun _=>True) (okp:=fun _=>True) ?hr ?hp (fun _ hk=>hk) trivial (Below.refl _ _) (Nat.le_refl _) (by simp) ?_;(case hd=>rfl);(case hg=>rfl);(case hr=>go_simp <;> rfl);(case hp=>exact(Reps.none _ _))
                  intro b4 bc ek hb hg_ hnew_
                  clear hg_ hnew_
                  (first|rw[← eo.out] at ek|(simp only[Int.reduceToNat] at ek;rw[← eo.out] at ek))
                  have ax:=Aside0.mk (Kd.Q3 ek (Qh HB.out))
                  replace ε :=sBk ε hb
                  replace B:=sBk B hb
                  replace ι :=sBk ι hb
                  replace HB:=sHb hb
                  clear hb ek
                  refine hK.out _ _ ⟨qc B,qc B⟩ (fun hHeld=>?_)
                  clear hK K
                  refine qN (some 24) ?_
                  exact Ze (by first|(simp only[Q6,Act.put,qS];done)|(simp only[Q6,Act.put,qS];rfl)) (r4 (b4) _ ⟨hHeld,ax.out,ε.out,B.out,ι.out,HB.out⟩)
                 ·skip
                  refine Kd.Zp k86 _ 86 ?hg (N:=28) ?hd (xs:=([]:List (S86))) (inner:=[]) (ok:=fun _=>True) (okp:=fun _=>True) ?hr ?hp (fun _ hk=>hk) trivial (Below.refl _ _) (Nat.le_refl _) (by simp) ?_;(case hd=>rfl);(case hg=>rfl);(case hr=>go_simp <;> rfl);(case hp=>exact(Reps.none _ _))
                  intro ba bc ek hb hg_ hnew_
                  clear hg_ hnew_
                  (first|rw[← d2.out] at ek|(simp only[Int.reduceToNat] at ek;rw[← d2.out] at ek))
                  have av:=Aside0.mk (Kd.Q3 ek (Qh HB.out))
                  replace ε :=sBk ε hb
                  replace B:=sBk B hb
                  replace ι :=sBk ι hb
                  replace HB:=sHb hb
                  clear hb ek
                  refine hK.out _ _ ⟨qc B,qc B⟩ (fun hHeld=>?_)
                  clear hK K
                  refine qN (some 28) ?_
                  exact Ze (by first|(simp only[Q6,Act.put,qS];done)|(simp only[Q6,Act.put,qS];rfl)) (r5 (ba) _ ⟨hHeld,av.out,ε.out,B.out,ι.out,HB.out⟩)
                 ·skip
                  refine Z0 ?hg (N:=11) ?hd (cs:=#[.slice none 0 0,.slice none 0 0]) (t:=50) ?hr ?_;(case hd=>rfl);(case hg=>rfl);(case hr=>go_simp <;> rfl)
                  intro ω hg bc hbox hb
                  have ψ :=Aside0.mk hbox
                  have bd:=sGe hg
                  have be:=sGe hg
                  have af:=sNl ε hg
                  have ag:=sNg ε hg
                  have ae:=sNl B hg
                  have ah:=sNg B hg
                  have ai:=sNl ι hg
                  have aj:=sNg ι hg
                  replace ε :=sBk ε hb
                  replace B:=sBk B hb
                  replace ι :=sBk ι hb
                  replace HB:=sHb hb
                  clear hb hbox hg
                  refine hK.out _ _ ⟨qc B,qc B⟩ (fun hHeld=>?_)
                  clear hK K
                  refine qN (some 11) ?_
                  exact Ze (by first|(simp only[Q6,Act.put,qS];done)|(simp only[Q6,Act.put,qS];rfl)) (r6 (ω) _ ⟨hHeld,ε.out,B.out,ι.out,ψ.out,bd.out,be.out,af.out,ag.out,ae.out,ah.out,ai.out,aj.out,HB.out⟩)
                ·skip
                 rintro ω dl ⟨hS_,b5,b6,b7,b8,b9,bl,ch,ci,cj,ck,bh,bw,bz⟩
                 have μ :Aside0 (dl.heap[aa]?=some (.cells #[.int .i64 J,.int .i64 O,.int .i64 X,.int .i64 Y,.int .i64 Z,.int .i64 δ,.int .i64 γ,.int .i64 θ,.int .i64 η,.int .i64 ζ] 25 (0,0))):=⟨b5⟩
                 have ξ :Aside0 (dl.heap[τ]?=some (.cells #[.slice a5 φ.length a7,.slice a8 ρ.length a9] 50 (0,0))):=⟨b6⟩
                 have a3:Aside0 (dl.heap[ak]?=some (.cells #[.slice none 0 0,.slice none 0 0] 50 (0,0))):=⟨b7⟩
                 have a4:Aside0 (dl.heap[ω]?=some (.cells #[.slice none 0 0,.slice none 0 0] 50 (0,0))):=⟨b8⟩
                 have al:Aside0 (w.heap.size ≤ ω):=⟨b9⟩
                 have az:Aside0 (w.heap.size ≤ ω):=⟨bl⟩
                 have b3:Aside0 (aa ≠ ω):=⟨ch⟩
                 have bb:Aside0 (ω ≠ aa):=⟨ci⟩
                 have bk:Aside0 (τ ≠ ω):=⟨cj⟩
                 have ca:Aside0 (ω ≠ τ):=⟨ck⟩
                 have bi:Aside0 (ak ≠ ω):=⟨bh⟩
                 have cb:Aside0 (ω ≠ ak):=⟨bw⟩
                 have cd:Aside0 (Below w.heap.size w dl):=⟨bz⟩
                 clear ε
                 clear B
                 clear ι
                 clear HB
                 clear b5 b6 b7 b8 b9 bl ch ci cj ck bh bw bz
                 have ε := μ
                 have B:= ξ
                 have ι :=a3
                 have ψ :=a4
                 have bd:=al
                 have be:=az
                 have af:=b3
                 have ag:=bb
                 have ae:=bk
                 have ah:=ca
                 have ai:=bi
                 have aj:=cb
                 have HB:=cd
                 clear μ ξ a3 a4 al az b3 bb bk ca bi cb cd
                 have hHeld:dl.cell? ⟨τ,0,none⟩=some (.slice a5 φ.length a7)∧dl.cell? ⟨τ,1,none⟩=some (.slice a8 ρ.length a9):=hS_
                 refine Ze (a':=?_) ?_ ?_
                 rotate_left
                 ·simp only[Q6,Act.put,qS]
                  rfl
                 refine J8 (i:=0) (j:=4) (Ni:=some 24) (Nj:=some 28) (bN 11 615) (bN 11 630) rfl rfl rfl rfl (Xt HT_.out kr) (by decide) (by decide) (fun K hK=>?_) (fun K hK=>?_)
                 ·skip
                  refine Kd.Zp k36 _ 36 ?hg (N:=24) ?hd (xs:=([]:List (S36))) (inner:=[]) (ok:=fun _=>True) (okp:=fun _=>True) ?hr ?hp (fun _ hk=>hk) trivial (Below.refl _ _) (Nat.le_refl _) (by simp) ?_;(case hd=>rfl);(case hg=>rfl);(case hr=>go_simp <;> rfl);(case hp=>exact(Reps.none _ _))
                  intro b4 bs el hb hg_ hnew_
                  clear hg_ hnew_
                  (first|rw[← eo.out] at el|(simp only[Int.reduceToNat] at el;rw[← eo.out] at el))
                  have ax:=Aside0.mk (Kd.Q3 el (Qh HB.out))
                  replace ε :=sBk ε hb
                  replace B:=sBk B hb
                  replace ι :=sBk ι hb
                  replace ψ :=sBk ψ hb
                  replace HB:=sHb hb
                  clear hb el
                  refine hK.out _ _ ⟨qc B,qc B⟩ (fun hHeld=>?_)
                  clear hK K
                  refine qN (some 24) ?_
                  exact Ze (by first|(simp only[Q6,Act.put,qS];done)|(simp only[Q6,Act.put,qS];rfl)) (lq (b4,ω) _ ⟨hHeld,ax.out,ε.out,B.out,ι.out,ψ.out,bd.out,be.out,af.out,ag.out,ae.out,ah.out,ai.out,aj.out,HB.out⟩)
                 ·skip
                  refine Kd.Zp k86 _ 86 ?hg (N:=28) ?hd (xs:=([]:List (S86))) (inner:=[]) (ok:=fun _=>True) (okp:=fun _=>True) ?hr ?hp (fun _ hk=>hk) trivial (Below.refl _ _) (Nat.le_refl _) (by simp) ?_;(case hd=>rfl);(case hg=>rfl);(case hr=>go_simp <;> rfl);(case hp=>exact(Reps.none _ _))
                  intro ba bs el hb hg_ hnew_
                  clear hg_ hnew_
                  (first|rw[← d2.out] at el|(simp only[Int.reduceToNat] at el;rw[← d2.out] at el))
                  have av:=Aside0.mk (Kd.Q3 el (Qh HB.out))
                  replace ε :=sBk ε hb
                  replace B:=sBk B hb
                  replace ι :=sBk ι hb
                  replace ψ :=sBk ψ hb
                  replace HB:=sHb hb
                  clear hb el
                  refine hK.out _ _ ⟨qc B,qc B⟩ (fun hHeld=>?_)
                  clear hK K
                  refine qN (some 28) ?_
                  exact Ze (by first|(simp only[Q6,Act.put,qS];done)|(simp only[Q6,Act.put,qS];rfl)) (lr (ba,ω) _ ⟨hHeld,av.out,ε.out,B.out,ι.out,ψ.out,bd.out,be.out,af.out,ag.out,ae.out,ah.out,ai.out,aj.out,HB.out⟩)
               ·skip
                rintro ba bs ⟨hS_,b5,b6,b7,b8,b9⟩
                have μ :Aside0 (Kd.R k86 86 bs w.heap.size (fun _=>True) ba bf):=⟨b5⟩
                have ξ :Aside0 (bs.heap[aa]?=some (.cells #[.int .i64 J,.int .i64 O,.int .i64 X,.int .i64 Y,.int .i64 Z,.int .i64 δ,.int .i64 γ,.int .i64 θ,.int .i64 η,.int .i64 ζ] 25 (0,0))):=⟨b6⟩
                have a3:Aside0 (bs.heap[τ]?=some (.cells #[.slice a5 φ.length a7,.slice a8 ρ.length a9] 50 (0,0))):=⟨b7⟩
                have a4:Aside0 (bs.heap[ak]?=some (.cells #[.slice none 0 0,.slice none 0 0] 50 (0,0))):=⟨b8⟩
                have al:Aside0 (Below w.heap.size w bs):=⟨b9⟩
                clear ε
                clear B
                clear ι
                clear HB
                clear b5 b6 b7 b8 b9
                have av:= μ
                have ε := ξ
                have B:=a3
                have ι :=a4
                have HB:=al
                clear μ ξ a3 a4 al
                have hHeld:bs.cell? ⟨τ,0,none⟩=some (.slice a5 φ.length a7)∧bs.cell? ⟨τ,1,none⟩=some (.slice a8 ρ.length a9):=hS_
                refine Ze (a':=?_) ?_ ?_
                rotate_left
                ·simp only[Q6,Act.put,qS]
                 rfl
                refine J8 (i:=0) (j:=9) (Ni:=some 24) (Nj:=some 11) (bN 11 119) (bN 11 630) rfl rfl rfl rfl (Xt HT_.out kr) (by decide) (by decide) (fun K hK=>?_) (fun K hK=>?_)
                ·skip
                 refine Kd.Zp k36 _ 36 ?hg (N:=24) ?hd (xs:=([]:List (S36))) (inner:=[]) (ok:=fun _=>True) (okp:=fun _=>True) ?hr ?hp (fun _ hk=>hk) trivial (Below.refl _ _) (Nat.le_refl _) (by simp) ?_;(case hd=>rfl);(case hg=>rfl);(case hr=>go_simp <;> rfl);(case hp=>exact(Reps.none _ _))
                 intro b4 br cx hb hg_ hnew_
                 clear hg_ hnew_
                 (first|rw[← eo.out] at cx|(simp only[Int.reduceToNat] at cx;rw[← eo.out] at cx))
                 have ax:=Aside0.mk (Kd.Q3 cx (Qh HB.out))
                 replace av:=sRb av hb
                 replace ε :=sBk ε hb
                 replace B:=sBk B hb
                 replace ι :=sBk ι hb
                 replace HB:=sHb hb
                 clear hb cx
                 refine hK.out _ _ ⟨qc B,qc B⟩ (fun hHeld=>?_)
                 clear hK K
                 refine qN (some 24) ?_
                 exact Ze (by first|(simp only[Q6,Act.put,qS];done)|(simp only[Q6,Act.put,qS];rfl)) (lp (b4,ba) _ ⟨hHeld,ax.out,av.out,ε.out,B.out,ι.out,HB.out⟩)
                ·skip
                 refine Z0 ?hg (N:=11) ?hd (cs:=#[.slice none 0 0,.slice none 0 0]) (t:=50) ?hr ?_;(case hd=>rfl);(case hg=>rfl);(case hr=>go_simp <;> rfl)
                 intro ω hg br hbox hb
                 have ψ :=Aside0.mk hbox
                 have bd:=sGe hg
                 have be:=sGe hg
                 have af:=sNl ε hg
                 have ag:=sNg ε hg
                 have ae:=sNl B hg
                 have ah:=sNg B hg
                 have ai:=sNl ι hg
                 have aj:=sNg ι hg
                 replace av:=sRb av hb
                 replace ε :=sBk ε hb
                 replace B:=sBk B hb
                 replace ι :=sBk ι hb
                 replace HB:=sHb hb
                 clear hb hbox hg
                 refine hK.out _ _ ⟨qc B,qc B⟩ (fun hHeld=>?_)
                 clear hK K
                 refine qN (some 11) ?_
                 exact Ze (by first|(simp only[Q6,Act.put,qS];done)|(simp only[Q6,Act.put,qS];rfl)) (lr (ba,ω) _ ⟨hHeld,av.out,ε.out,B.out,ι.out,ψ.out,bd.out,be.out,af.out,ag.out,ae.out,ah.out,ai.out,aj.out,HB.out⟩)
              ·skip
               rintro b4 bs ⟨hS_,b5,b6,b7,b8,b9⟩
               have μ :Aside0 (Kd.R k36 36 bs w.heap.size (fun _=>True) b4 bp):=⟨b5⟩
               have ξ :Aside0 (bs.heap[aa]?=some (.cells #[.int .i64 J,.int .i64 O,.int .i64 X,.int .i64 Y,.int .i64 Z,.int .i64 δ,.int .i64 γ,.int .i64 θ,.int .i64 η,.int .i64 ζ] 25 (0,0))):=⟨b6⟩
               have a3:Aside0 (bs.heap[τ]?=some (.cells #[.slice a5 φ.length a7,.slice a8 ρ.length a9] 50 (0,0))):=⟨b7⟩
               have a4:Aside0 (bs.heap[ak]?=some (.cells #[.slice none 0 0,.slice none 0 0] 50 (0,0))):=⟨b8⟩
               have al:Aside0 (Below w.heap.size w bs):=⟨b9⟩
               clear ε
               clear B
               clear ι
               clear HB
               clear b5 b6 b7 b8 b9
               have ax:= μ
               have ε := ξ
               have B:=a3
               have ι :=a4
               have HB:=al
               clear μ ξ a3 a4 al
               have hHeld:bs.cell? ⟨τ,0,none⟩=some (.slice a5 φ.length a7)∧bs.cell? ⟨τ,1,none⟩=some (.slice a8 ρ.length a9):=hS_
               refine Ze (a':=?_) ?_ ?_
               rotate_left
               ·simp only[Q6,Act.put,qS]
                rfl
               refine Mx (i:=3) (j:=4) (k:=9) (Ni:=some 27) (Nj:=some 28) (Nk:=some 11) #[true,true,true,true,false,true,true,false,false,false,false] #[true,true,true,false,true,true,true,false,false,false,false] #[true,true,true,false,false,true,true,false,false,true,false] rfl rfl rfl rfl rfl rfl (Up HT_.out kr) (by decide) (by decide) (by decide) (fun K hK=>?_) (fun K hK=>?_) (fun K hK=>?_)
               ·skip
                refine Kd.Zc k36 (w0:=w) w.heap.size (by rfl) (.tmp 24) (.tmp 26) 47 36 (.agg #[(.int .i64 0),(.int .i64 0),(.int .i64 0)]) 24 rfl Try.underlying47 Jy rfl (by decide) (by omega) b4 bp φ _ _ _ (fun _=>True) (fun _=>False) rfl rfl ?aO ?aR (fun _ _ h=>h) (fun _ h=>h.elim) ?aF ?aB ?aS ?aL ?_
                (case aR=>exact(Kd.Qv bu.out HB.out))
                (case aB=>exact HB.out)
                (case aF=>exact(fun _ _=>trivial))
                (case aO=>exact ax.out)
                (case aS=>exact(Qh HB.out))
                (case aL=>have:=k0.out;omega)
                intro ce br ho hb hg hat
                rw[← hl.out] at ho
                have b0:=Aside0.mk ho
                replace ε :=Aside0.mk (Q2 (g:=aa) (o:=.cells #[.int .i64 J,.int .i64 O,.int .i64 X,.int .i64 Y,.int .i64 Z,.int .i64 δ,.int .i64 γ,.int .i64 θ,.int .i64 η,.int .i64 ζ] 25 (0,0)) ε.out hg (Kd.Z4 ax.out ε.out (by decide)))
                replace B:=Aside0.mk (Q2 (g:= τ) (o:=.cells #[.slice a5 φ.length a7,.slice a8 ρ.length a9] 50 (0,0)) B.out hg (Kd.Z4 ax.out B.out (by decide)))
                replace ι :=Aside0.mk (Q2 (g:=ak) (o:=.cells #[.slice none 0 0,.slice none 0 0] 50 (0,0)) ι.out hg (Kd.Z4 ax.out ι.out (by decide)))
                replace HB:=Aside0.mk hb
                clear ax
                clear ho hb hg hat
                refine hK.out _ _ ⟨qc B,qc B⟩ (fun hHeld=>?_)
                clear hK K
                refine qN (some 27) ?_
                exact Ze (by first|(simp only[Q6,Act.put,qS];done)|(simp only[Q6,Act.put,qS];rfl)) (o9 (b4,ce) _ ⟨hHeld,b0.out,ε.out,B.out,ι.out,HB.out⟩)
               ·skip
                refine Kd.Zp k86 _ 86 ?hg (N:=28) ?hd (xs:=([]:List (S86))) (inner:=[]) (ok:=fun _=>True) (okp:=fun _=>True) ?hr ?hp (fun _ hk=>hk) trivial (Below.refl _ _) (Nat.le_refl _) (by simp) ?_;(case hd=>rfl);(case hg=>rfl);(case hr=>go_simp <;> rfl);(case hp=>exact(Reps.none _ _))
                intro ba br cx hb hg_ hnew_
                clear hg_ hnew_
                (first|rw[← d2.out] at cx|(simp only[Int.reduceToNat] at cx;rw[← d2.out] at cx))
                have av:=Aside0.mk (Kd.Q3 cx (Qh HB.out))
                replace ax:=sRb ax hb
                replace ε :=sBk ε hb
                replace B:=sBk B hb
                replace ι :=sBk ι hb
                replace HB:=sHb hb
                clear hb cx
                refine hK.out _ _ ⟨qc B,qc B⟩ (fun hHeld=>?_)
                clear hK K
                refine qN (some 28) ?_
                exact Ze (by first|(simp only[Q6,Act.put,qS];done)|(simp only[Q6,Act.put,qS];rfl)) (lp (b4,ba) _ ⟨hHeld,ax.out,av.out,ε.out,B.out,ι.out,HB.out⟩)
               ·skip
                refine Z0 ?hg (N:=11) ?hd (cs:=#[.slice none 0 0,.slice none 0 0]) (t:=50) ?hr ?_;(case hd=>rfl);(case hg=>rfl);(case hr=>go_simp <;> rfl)
                intro ω hg br hbox hb
                have ψ :=Aside0.mk hbox
                have bd:=sGe hg
                have be:=sGe hg
                have af:=sNl ε hg
                have ag:=sNg ε hg
                have ae:=sNl B hg
                have ah:=sNg B hg
                have ai:=sNl ι hg
                have aj:=sNg ι hg
                replace ax:=sRb ax hb
                replace ε :=sBk ε hb
                replace B:=sBk B hb
                replace ι :=sBk ι hb
                replace HB:=sHb hb
                clear hb hbox hg
                refine hK.out _ _ ⟨qc B,qc B⟩ (fun hHeld=>?_)
                clear hK K
                refine qN (some 11) ?_
                exact Ze (by first|(simp only[Q6,Act.put,qS];done)|(simp only[Q6,Act.put,qS];rfl)) (lq (b4,ω) _ ⟨hHeld,ax.out,ε.out,B.out,ι.out,ψ.out,bd.out,be.out,af.out,ag.out,ae.out,ah.out,ai.out,aj.out,HB.out⟩)
             ·skip
              rintro⟨ba,ω⟩ br ⟨hS_,b5,b6,b7,b8,b9,bl,ch,ci,cj,ck,bh,bw,bz,co⟩
              have μ :Aside0 (Kd.R k86 86 br w.heap.size (fun _=>True) ba bf):=⟨b5⟩
              have ξ :Aside0 (br.heap[aa]?=some (.cells #[.int .i64 J,.int .i64 O,.int .i64 X,.int .i64 Y,.int .i64 Z,.int .i64 δ,.int .i64 γ,.int .i64 θ,.int .i64 η,.int .i64 ζ] 25 (0,0))):=⟨b6⟩
              have a3:Aside0 (br.heap[τ]?=some (.cells #[.slice a5 φ.length a7,.slice a8 ρ.length a9] 50 (0,0))):=⟨b7⟩
              have a4:Aside0 (br.heap[ak]?=some (.cells #[.slice none 0 0,.slice none 0 0] 50 (0,0))):=⟨b8⟩
              have al:Aside0 (br.heap[ω]?=some (.cells #[.slice none 0 0,.slice none 0 0] 50 (0,0))):=⟨b9⟩
              have az:Aside0 (w.heap.size ≤ ω):=⟨bl⟩
              have b3:Aside0 (w.heap.size ≤ ω):=⟨ch⟩
              have bb:Aside0 (aa ≠ ω):=⟨ci⟩
              have bk:Aside0 (ω ≠ aa):=⟨cj⟩
              have ca:Aside0 (τ ≠ ω):=⟨ck⟩
              have bi:Aside0 (ω ≠ τ):=⟨bh⟩
              have cb:Aside0 (ak ≠ ω):=⟨bw⟩
              have cd:Aside0 (ω ≠ ak):=⟨bz⟩
              have cp:Aside0 (Below w.heap.size w br):=⟨co⟩
              clear ε
              clear B
              clear ι
              clear HB
              clear b5 b6 b7 b8 b9 bl ch ci cj ck bh bw bz co
              have av:= μ
              have ε := ξ
              have B:=a3
              have ι :=a4
              have ψ :=al
              have bd:=az
              have be:=b3
              have af:=bb
              have ag:=bk
              have ae:=ca
              have ah:=bi
              have ai:=cb
              have aj:=cd
              have HB:=cp
              clear μ ξ a3 a4 al az b3 bb bk ca bi cb cd cp
              have hHeld:br.cell? ⟨τ,0,none⟩=some (.slice a5 φ.length a7)∧br.cell? ⟨τ,1,none⟩=some (.slice a8 ρ.length a9):=hS_
              refine Ze (a':=?_) ?_ ?_
              rotate_left
              ·simp only[Q6,Act.put,qS]
               rfl
              refine qK 0 (some 24) (bN 11 631) HT_ fun K hK=>?_
              refine Kd.Zp k36 _ 36 ?hg (N:=24) ?hd (xs:=([]:List (S36))) (inner:=[]) (ok:=fun _=>True) (okp:=fun _=>True) ?hr ?hp (fun _ hk=>hk) trivial (Below.refl _ _) (Nat.le_refl _) (by simp) ?_;(case hd=>rfl);(case hg=>rfl);(case hr=>go_simp <;> rfl);(case hp=>exact(Reps.none _ _))
              intro b4 bm cy hb hg_ hnew_
              clear hg_ hnew_
              (first|rw[← eo.out] at cy|(simp only[Int.reduceToNat] at cy;rw[← eo.out] at cy))
              have ax:=Aside0.mk (Kd.Q3 cy (Qh HB.out))
              replace av:=sRb av hb
              replace ε :=sBk ε hb
              replace B:=sBk B hb
              replace ι :=sBk ι hb
              replace ψ :=sBk ψ hb
              replace HB:=sHb hb
              clear hb cy
              refine hK.out _ _ ⟨qc B,qc B⟩ (fun hHeld=>?_)
              clear hK K
              refine qN (some 24) ?_
              exact Ze (by first|(simp only[Q6,Act.put,qS];done)|(simp only[Q6,Act.put,qS];rfl)) (h6 (b4,ba,ω) _ ⟨hHeld,ax.out,av.out,ε.out,B.out,ι.out,ψ.out,bd.out,be.out,af.out,ag.out,ae.out,ah.out,ai.out,aj.out,HB.out⟩)
            ·skip
             rintro⟨b4,ω⟩ br ⟨hS_,b5,b6,b7,b8,b9,bl,ch,ci,cj,ck,bh,bw,bz,co⟩
             have μ :Aside0 (Kd.R k36 36 br w.heap.size (fun _=>True) b4 bp):=⟨b5⟩
             have ξ :Aside0 (br.heap[aa]?=some (.cells #[.int .i64 J,.int .i64 O,.int .i64 X,.int .i64 Y,.int .i64 Z,.int .i64 δ,.int .i64 γ,.int .i64 θ,.int .i64 η,.int .i64 ζ] 25 (0,0))):=⟨b6⟩
             have a3:Aside0 (br.heap[τ]?=some (.cells #[.slice a5 φ.length a7,.slice a8 ρ.length a9] 50 (0,0))):=⟨b7⟩
             have a4:Aside0 (br.heap[ak]?=some (.cells #[.slice none 0 0,.slice none 0 0] 50 (0,0))):=⟨b8⟩
             have al:Aside0 (br.heap[ω]?=some (.cells #[.slice none 0 0,.slice none 0 0] 50 (0,0))):=⟨b9⟩
             have az:Aside0 (w.heap.size ≤ ω):=⟨bl⟩
             have b3:Aside0 (w.heap.size ≤ ω):=⟨ch⟩
             have bb:Aside0 (aa ≠ ω):=⟨ci⟩
             have bk:Aside0 (ω ≠ aa):=⟨cj⟩
             have ca:Aside0 (τ ≠ ω):=⟨ck⟩
             have bi:Aside0 (ω ≠ τ):=⟨bh⟩
             have cb:Aside0 (ak ≠ ω):=⟨bw⟩
             have cd:Aside0 (ω ≠ ak):=⟨bz⟩
             have cp:Aside0 (Below w.heap.size w br):=⟨co⟩
             clear ε
             clear B
             clear ι
             clear HB
             clear b5 b6 b7 b8 b9 bl ch ci cj ck bh bw bz co
             have ax:= μ
             have ε := ξ
             have B:=a3
             have ι :=a4
             have ψ :=al
             have bd:=az
             have be:=b3
             have af:=bb
             have ag:=bk
             have ae:=ca
             have ah:=bi
             have ai:=cb
             have aj:=cd
             have HB:=cp
             clear μ ξ a3 a4 al az b3 bb bk ca bi cb cd cp
             have hHeld:br.cell? ⟨τ,0,none⟩=some (.slice a5 φ.length a7)∧br.cell? ⟨τ,1,none⟩=some (.slice a8 ρ.length a9):=hS_
             refine Ze (a':=?_) ?_ ?_
             rotate_left
             ·simp only[Q6,Act.put,qS]
              rfl
             refine J8 (i:=3) (j:=4) (Ni:=some 27) (Nj:=some 28) (bN 11 623) (bN 11 631) rfl rfl rfl rfl (Xt HT_.out kr) (by decide) (by decide) (fun K hK=>?_) (fun K hK=>?_)
             ·skip
              refine Kd.Zc k36 (w0:=w) w.heap.size (by rfl) (.tmp 24) (.tmp 26) 47 36 (.agg #[(.int .i64 0),(.int .i64 0),(.int .i64 0)]) 24 rfl Try.underlying47 Jy rfl (by decide) (by omega) b4 bp φ _ _ _ (fun _=>True) (fun _=>False) rfl rfl ?aO ?aR (fun _ _ h=>h) (fun _ h=>h.elim) ?aF ?aB ?aS ?aL ?_
              (case aR=>exact(Kd.Qv bu.out HB.out))
              (case aB=>exact HB.out)
              (case aF=>exact(fun _ _=>trivial))
              (case aO=>exact ax.out)
              (case aS=>exact(Qh HB.out))
              (case aL=>have:=k0.out;omega)
              intro ce bm ho hb hg hat
              rw[← hl.out] at ho
              have b0:=Aside0.mk ho
              replace ε :=Aside0.mk (Q2 (g:=aa) (o:=.cells #[.int .i64 J,.int .i64 O,.int .i64 X,.int .i64 Y,.int .i64 Z,.int .i64 δ,.int .i64 γ,.int .i64 θ,.int .i64 η,.int .i64 ζ] 25 (0,0)) ε.out hg (Kd.Z4 ax.out ε.out (by decide)))
              replace B:=Aside0.mk (Q2 (g:= τ) (o:=.cells #[.slice a5 φ.length a7,.slice a8 ρ.length a9] 50 (0,0)) B.out hg (Kd.Z4 ax.out B.out (by decide)))
              replace ι :=Aside0.mk (Q2 (g:=ak) (o:=.cells #[.slice none 0 0,.slice none 0 0] 50 (0,0)) ι.out hg (Kd.Z4 ax.out ι.out (by decide)))
              replace ψ :=Aside0.mk (Q2 (g:= ω) (o:=.cells #[.slice none 0 0,.slice none 0 0] 50 (0,0)) ψ.out hg (Kd.Z4 ax.out ψ.out (by decide)))
              replace HB:=Aside0.mk hb
              clear ax
              clear ho hb hg hat
              refine hK.out _ _ ⟨qc B,qc B⟩ (fun hHeld=>?_)
              clear hK K
              refine qN (some 27) ?_
              exact Ze (by first|(simp only[Q6,Act.put,qS];done)|(simp only[Q6,Act.put,qS];rfl)) (jo (b4,ce,ω) _ ⟨hHeld,b0.out,ε.out,B.out,ι.out,ψ.out,bd.out,be.out,af.out,ag.out,ae.out,ah.out,ai.out,aj.out,HB.out⟩)
             ·skip
              refine Kd.Zp k86 _ 86 ?hg (N:=28) ?hd (xs:=([]:List (S86))) (inner:=[]) (ok:=fun _=>True) (okp:=fun _=>True) ?hr ?hp (fun _ hk=>hk) trivial (Below.refl _ _) (Nat.le_refl _) (by simp) ?_;(case hd=>rfl);(case hg=>rfl);(case hr=>go_simp <;> rfl);(case hp=>exact(Reps.none _ _))
              intro ba bm cy hb hg_ hnew_
              clear hg_ hnew_
              (first|rw[← d2.out] at cy|(simp only[Int.reduceToNat] at cy;rw[← d2.out] at cy))
              have av:=Aside0.mk (Kd.Q3 cy (Qh HB.out))
              replace ax:=sRb ax hb
              replace ε :=sBk ε hb
              replace B:=sBk B hb
              replace ι :=sBk ι hb
              replace ψ :=sBk ψ hb
              replace HB:=sHb hb
              clear hb cy
              refine hK.out _ _ ⟨qc B,qc B⟩ (fun hHeld=>?_)
              clear hK K
              refine qN (some 28) ?_
              exact Ze (by first|(simp only[Q6,Act.put,qS];done)|(simp only[Q6,Act.put,qS];rfl)) (h6 (b4,ba,ω) _ ⟨hHeld,ax.out,av.out,ε.out,B.out,ι.out,ψ.out,bd.out,be.out,af.out,ag.out,ae.out,ah.out,ai.out,aj.out,HB.out⟩)
           ·skip
            rintro⟨b4,ba⟩ bm ⟨hS_,b5,b6,b7,b8,b9,bl⟩
            have μ :Aside0 (Kd.R k36 36 bm w.heap.size (fun _=>True) b4 bp):=⟨b5⟩
            have ξ :Aside0 (Kd.R k86 86 bm w.heap.size (fun _=>True) ba bf):=⟨b6⟩
            have a3:Aside0 (bm.heap[aa]?=some (.cells #[.int .i64 J,.int .i64 O,.int .i64 X,.int .i64 Y,.int .i64 Z,.int .i64 δ,.int .i64 γ,.int .i64 θ,.int .i64 η,.int .i64 ζ] 25 (0,0))):=⟨b7⟩
            have a4:Aside0 (bm.heap[τ]?=some (.cells #[.slice a5 φ.length a7,.slice a8 ρ.length a9] 50 (0,0))):=⟨b8⟩
            have al:Aside0 (bm.heap[ak]?=some (.cells #[.slice none 0 0,.slice none 0 0] 50 (0,0))):=⟨b9⟩
            have az:Aside0 (Below w.heap.size w bm):=⟨bl⟩
            clear ε
            clear B
            clear ι
            clear HB
            clear b5 b6 b7 b8 b9 bl
            have ax:= μ
            have av:= ξ
            have ε :=a3
            have B:=a4
            have ι :=al
            have HB:=az
            clear μ ξ a3 a4 al az
            have hHeld:bm.cell? ⟨τ,0,none⟩=some (.slice a5 φ.length a7)∧bm.cell? ⟨τ,1,none⟩=some (.slice a8 ρ.length a9):=hS_
            refine Ze (a':=?_) ?_ ?_
            rotate_left
            ·simp only[Q6,Act.put,qS]
             rfl
            refine J8 (i:=3) (j:=9) (Ni:=some 27) (Nj:=some 11) (bN 11 127) (bN 11 631) rfl rfl rfl rfl (Xt HT_.out kr) (by decide) (by decide) (fun K hK=>?_) (fun K hK=>?_)
            ·skip
             refine Kd.Zc k36 (w0:=w) w.heap.size (by rfl) (.tmp 24) (.tmp 26) 47 36 (.agg #[(.int .i64 0),(.int .i64 0),(.int .i64 0)]) 24 rfl Try.underlying47 Jy rfl (by decide) (by omega) b4 bp φ _ _ _ (fun _=>True) (fun _=>False) rfl rfl ?aO ?aR (fun _ _ h=>h) (fun _ h=>h.elim) ?aF ?aB ?aS ?aL ?_
             (case aR=>exact(Kd.Qv bu.out HB.out))
             (case aB=>exact HB.out)
             (case aF=>exact(fun _ _=>trivial))
             (case aO=>exact ax.out)
             (case aS=>exact(Qh HB.out))
             (case aL=>have:=k0.out;omega)
             intro ce cg ho hb hg hat
             rw[← hl.out] at ho
             have b0:=Aside0.mk ho
             replace ε :=Aside0.mk (Q2 (g:=aa) (o:=.cells #[.int .i64 J,.int .i64 O,.int .i64 X,.int .i64 Y,.int .i64 Z,.int .i64 δ,.int .i64 γ,.int .i64 θ,.int .i64 η,.int .i64 ζ] 25 (0,0)) ε.out hg (Kd.Z4 ax.out ε.out (by decide)))
             replace B:=Aside0.mk (Q2 (g:= τ) (o:=.cells #[.slice a5 φ.length a7,.slice a8 ρ.length a9] 50 (0,0)) B.out hg (Kd.Z4 ax.out B.out (by decide)))
             replace ι :=Aside0.mk (Q2 (g:=ak) (o:=.cells #[.slice none 0 0,.slice none 0 0] 50 (0,0)) ι.out hg (Kd.Z4 ax.out ι.out (by decide)))
             replace av:=Aside0.mk (Kd.Y9 av.out (Kd.Y8 ax.out) (by decide) hg)
             replace HB:=Aside0.mk hb
             clear ax
             clear ho hb hg hat
             refine hK.out _ _ ⟨qc B,qc B⟩ (fun hHeld=>?_)
             clear hK K
             refine qN (some 27) ?_
             exact Ze (by first|(simp only[Q6,Act.put,qS];done)|(simp only[Q6,Act.put,qS];rfl)) (jn (b4,ce,ba) _ ⟨hHeld,b0.out,av.out,ε.out,B.out,ι.out,HB.out⟩)
            ·skip
             refine Z0 ?hg (N:=11) ?hd (cs:=#[.slice none 0 0,.slice none 0 0]) (t:=50) ?hr ?_;(case hd=>rfl);(case hg=>rfl);(case hr=>go_simp <;> rfl)
             intro ω hg cg hbox hb
             have ψ :=Aside0.mk hbox
             have bd:=sGe hg
             have be:=sGe hg
             have af:=sNl ε hg
             have ag:=sNg ε hg
             have ae:=sNl B hg
             have ah:=sNg B hg
             have ai:=sNl ι hg
             have aj:=sNg ι hg
             replace ax:=sRb ax hb
             replace av:=sRb av hb
             replace ε :=sBk ε hb
             replace B:=sBk B hb
             replace ι :=sBk ι hb
             replace HB:=sHb hb
             clear hb hbox hg
             refine hK.out _ _ ⟨qc B,qc B⟩ (fun hHeld=>?_)
             clear hK K
             refine qN (some 11) ?_
             exact Ze (by first|(simp only[Q6,Act.put,qS];done)|(simp only[Q6,Act.put,qS];rfl)) (h6 (b4,ba,ω) _ ⟨hHeld,ax.out,av.out,ε.out,B.out,ι.out,ψ.out,bd.out,be.out,af.out,ag.out,ae.out,ah.out,ai.out,aj.out,HB.out⟩)
          ·skip
           rintro⟨b4,ce⟩ br ⟨hS_,b5,b6,b7,b8,b9⟩
           have μ :Aside0 (Kd.R k36 36 br w.heap.size (fun _=>True) ce b2):=⟨b5⟩
           have ξ :Aside0 (br.heap[aa]?=some (.cells #[.int .i64 J,.int .i64 O,.int .i64 X,.int .i64 Y,.int .i64 Z,.int .i64 δ,.int .i64 γ,.int .i64 θ,.int .i64 η,.int .i64 ζ] 25 (0,0))):=⟨b6⟩
           have a3:Aside0 (br.heap[τ]?=some (.cells #[.slice a5 φ.length a7,.slice a8 ρ.length a9] 50 (0,0))):=⟨b7⟩
           have a4:Aside0 (br.heap[ak]?=some (.cells #[.slice none 0 0,.slice none 0 0] 50 (0,0))):=⟨b8⟩
           have al:Aside0 (Below w.heap.size w br):=⟨b9⟩
           clear ε
           clear B
           clear ι
           clear HB
           clear b5 b6 b7 b8 b9
           have b0:= μ
           have ε := ξ
           have B:=a3
           have ι :=a4
           have HB:=al
           clear μ ξ a3 a4 al
           have hHeld:br.cell? ⟨τ,0,none⟩=some (.slice a5 φ.length a7)∧br.cell? ⟨τ,1,none⟩=some (.slice a8 ρ.length a9):=hS_
           refine Ze (a':=?_) ?_ ?_
           rotate_left
           ·simp only[Q6,Act.put,qS]
            rfl
           refine J8 (i:=4) (j:=9) (Ni:=some 28) (Nj:=some 11) (bN 11 127) (bN 11 623) rfl rfl rfl rfl (Xt HT_.out kr) (by decide) (by decide) (fun K hK=>?_) (fun K hK=>?_)
           ·skip
            refine Kd.Zp k86 _ 86 ?hg (N:=28) ?hd (xs:=([]:List (S86))) (inner:=[]) (ok:=fun _=>True) (okp:=fun _=>True) ?hr ?hp (fun _ hk=>hk) trivial (Below.refl _ _) (Nat.le_refl _) (by simp) ?_;(case hd=>rfl);(case hg=>rfl);(case hr=>go_simp <;> rfl);(case hp=>exact(Reps.none _ _))
            intro ba bm cy hb hg_ hnew_
            clear hg_ hnew_
            (first|rw[← d2.out] at cy|(simp only[Int.reduceToNat] at cy;rw[← d2.out] at cy))
            have av:=Aside0.mk (Kd.Q3 cy (Qh HB.out))
            replace b0:=sRb b0 hb
            replace ε :=sBk ε hb
            replace B:=sBk B hb
            replace ι :=sBk ι hb
            replace HB:=sHb hb
            clear hb cy
            refine hK.out _ _ ⟨qc B,qc B⟩ (fun hHeld=>?_)
            clear hK K
            refine qN (some 28) ?_
            exact Ze (by first|(simp only[Q6,Act.put,qS];done)|(simp only[Q6,Act.put,qS];rfl)) (jn (b4,ce,ba) _ ⟨hHeld,b0.out,av.out,ε.out,B.out,ι.out,HB.out⟩)
           ·skip
            refine Z0 ?hg (N:=11) ?hd (cs:=#[.slice none 0 0,.slice none 0 0]) (t:=50) ?hr ?_;(case hd=>rfl);(case hg=>rfl);(case hr=>go_simp <;> rfl)
            intro ω hg bm hbox hb
            have ψ :=Aside0.mk hbox
            have bd:=sGe hg
            have be:=sGe hg
            have af:=sNl ε hg
            have ag:=sNg ε hg
            have ae:=sNl B hg
            have ah:=sNg B hg
            have ai:=sNl ι hg
            have aj:=sNg ι hg
            replace b0:=sRb b0 hb
            replace ε :=sBk ε hb
            replace B:=sBk B hb
            replace ι :=sBk ι hb
            replace HB:=sHb hb
            clear hb hbox hg
            refine hK.out _ _ ⟨qc B,qc B⟩ (fun hHeld=>?_)
            clear hK K
            refine qN (some 11) ?_
            exact Ze (by first|(simp only[Q6,Act.put,qS];done)|(simp only[Q6,Act.put,qS];rfl)) (jo (b4,ce,ω) _ ⟨hHeld,b0.out,ε.out,B.out,ι.out,ψ.out,bd.out,be.out,af.out,ag.out,ae.out,ah.out,ai.out,aj.out,HB.out⟩)
         ·skip
          rintro⟨b4,ba,ω⟩ cg ⟨hS_,b5,b6,b7,b8,b9,bl,ch,ci,cj,ck,bh,bw,bz,co,fw⟩
          have μ :Aside0 (Kd.R k36 36 cg w.heap.size (fun _=>True) b4 bp):=⟨b5⟩
          have ξ :Aside0 (Kd.R k86 86 cg w.heap.size (fun _=>True) ba bf):=⟨b6⟩
          have a3:Aside0 (cg.heap[aa]?=some (.cells #[.int .i64 J,.int .i64 O,.int .i64 X,.int .i64 Y,.int .i64 Z,.int .i64 δ,.int .i64 γ,.int .i64 θ,.int .i64 η,.int .i64 ζ] 25 (0,0))):=⟨b7⟩
          have a4:Aside0 (cg.heap[τ]?=some (.cells #[.slice a5 φ.length a7,.slice a8 ρ.length a9] 50 (0,0))):=⟨b8⟩
          have al:Aside0 (cg.heap[ak]?=some (.cells #[.slice none 0 0,.slice none 0 0] 50 (0,0))):=⟨b9⟩
          have az:Aside0 (cg.heap[ω]?=some (.cells #[.slice none 0 0,.slice none 0 0] 50 (0,0))):=⟨bl⟩
          have b3:Aside0 (w.heap.size ≤ ω):=⟨ch⟩
          have bb:Aside0 (w.heap.size ≤ ω):=⟨ci⟩
          have bk:Aside0 (aa ≠ ω):=⟨cj⟩
          have ca:Aside0 (ω ≠ aa):=⟨ck⟩
          have bi:Aside0 (τ ≠ ω):=⟨bh⟩
          have cb:Aside0 (ω ≠ τ):=⟨bw⟩
          have cd:Aside0 (ak ≠ ω):=⟨bz⟩
          have cp:Aside0 (ω ≠ ak):=⟨co⟩
          have fx:Aside0 (Below w.heap.size w cg):=⟨fw⟩
          clear ε
          clear B
          clear ι
          clear HB
          clear b5 b6 b7 b8 b9 bl ch ci cj ck bh bw bz co fw
          have ax:= μ
          have av:= ξ
          have ε :=a3
          have B:=a4
          have ι :=al
          have ψ :=az
          have bd:=b3
          have be:=bb
          have af:=bk
          have ag:=ca
          have ae:=bi
          have ah:=cb
          have ai:=cd
          have aj:=cp
          have HB:=fx
          clear μ ξ a3 a4 al az b3 bb bk ca bi cb cd cp fx
          have hHeld:cg.cell? ⟨τ,0,none⟩=some (.slice a5 φ.length a7)∧cg.cell? ⟨τ,1,none⟩=some (.slice a8 ρ.length a9):=hS_
          refine Ze (a':=?_) ?_ ?_
          rotate_left
          ·simp only[Q6,Act.put,qS]
           rfl
          refine qK 3 (some 27) (bN 11 639) HT_ fun K hK=>?_
          refine Kd.Zc k36 (w0:=w) w.heap.size (by rfl) (.tmp 24) (.tmp 26) 47 36 (.agg #[(.int .i64 0),(.int .i64 0),(.int .i64 0)]) 24 rfl Try.underlying47 Jy rfl (by decide) (by omega) b4 bp φ _ _ _ (fun _=>True) (fun _=>False) rfl rfl ?aO ?aR (fun _ _ h=>h) (fun _ h=>h.elim) ?aF ?aB ?aS ?aL ?_
          (case aR=>exact(Kd.Qv bu.out HB.out))
          (case aB=>exact HB.out)
          (case aF=>exact(fun _ _=>trivial))
          (case aO=>exact ax.out)
          (case aS=>exact(Qh HB.out))
          (case aL=>have:=k0.out;omega)
          intro ce ea ho hb hg hat
          rw[← hl.out] at ho
          have b0:=Aside0.mk ho
          replace ε :=Aside0.mk (Q2 (g:=aa) (o:=.cells #[.int .i64 J,.int .i64 O,.int .i64 X,.int .i64 Y,.int .i64 Z,.int .i64 δ,.int .i64 γ,.int .i64 θ,.int .i64 η,.int .i64 ζ] 25 (0,0)) ε.out hg (Kd.Z4 ax.out ε.out (by decide)))
          replace B:=Aside0.mk (Q2 (g:= τ) (o:=.cells #[.slice a5 φ.length a7,.slice a8 ρ.length a9] 50 (0,0)) B.out hg (Kd.Z4 ax.out B.out (by decide)))
          replace ι :=Aside0.mk (Q2 (g:=ak) (o:=.cells #[.slice none 0 0,.slice none 0 0] 50 (0,0)) ι.out hg (Kd.Z4 ax.out ι.out (by decide)))
          replace av:=Aside0.mk (Kd.Y9 av.out (Kd.Y8 ax.out) (by decide) hg)
          replace ψ :=Aside0.mk (Q2 (g:= ω) (o:=.cells #[.slice none 0 0,.slice none 0 0] 50 (0,0)) ψ.out hg (Kd.Z4 ax.out ψ.out (by decide)))
          replace HB:=Aside0.mk hb
          clear ax
          clear ho hb hg hat
          refine hK.out _ _ ⟨qc B,qc B⟩ (fun hHeld=>?_)
          clear hK K
          refine qN (some 27) ?_
          exact Ze (by first|(simp only[Q6,Act.put,qS];done)|(simp only[Q6,Act.put,qS];rfl)) (fi (b4,ce,ba,ω) _ ⟨hHeld,b0.out,av.out,ε.out,B.out,ι.out,ψ.out,bd.out,be.out,af.out,ag.out,ae.out,ah.out,ai.out,aj.out,HB.out⟩)
        ·skip
         rintro⟨b4,ce,ω⟩ bm ⟨hS_,b5,b6,b7,b8,b9,bl,ch,ci,cj,ck,bh,bw,bz,co⟩
         have μ :Aside0 (Kd.R k36 36 bm w.heap.size (fun _=>True) ce b2):=⟨b5⟩
         have ξ :Aside0 (bm.heap[aa]?=some (.cells #[.int .i64 J,.int .i64 O,.int .i64 X,.int .i64 Y,.int .i64 Z,.int .i64 δ,.int .i64 γ,.int .i64 θ,.int .i64 η,.int .i64 ζ] 25 (0,0))):=⟨b6⟩
         have a3:Aside0 (bm.heap[τ]?=some (.cells #[.slice a5 φ.length a7,.slice a8 ρ.length a9] 50 (0,0))):=⟨b7⟩
         have a4:Aside0 (bm.heap[ak]?=some (.cells #[.slice none 0 0,.slice none 0 0] 50 (0,0))):=⟨b8⟩
         have al:Aside0 (bm.heap[ω]?=some (.cells #[.slice none 0 0,.slice none 0 0] 50 (0,0))):=⟨b9⟩
         have az:Aside0 (w.heap.size ≤ ω):=⟨bl⟩
         have b3:Aside0 (w.heap.size ≤ ω):=⟨ch⟩
         have bb:Aside0 (aa ≠ ω):=⟨ci⟩
         have bk:Aside0 (ω ≠ aa):=⟨cj⟩
         have ca:Aside0 (τ ≠ ω):=⟨ck⟩
         have bi:Aside0 (ω ≠ τ):=⟨bh⟩
         have cb:Aside0 (ak ≠ ω):=⟨bw⟩
         have cd:Aside0 (ω ≠ ak):=⟨bz⟩
         have cp:Aside0 (Below w.heap.size w bm):=⟨co⟩
         clear ε
         clear B
         clear ι
         clear HB
         clear b5 b6 b7 b8 b9 bl ch ci cj ck bh bw bz co
         have b0:= μ
         have ε := ξ
         have B:=a3
         have ι :=a4
         have ψ :=al
         have bd:=az
         have be:=b3
         have af:=bb
         have ag:=bk
         have ae:=ca
         have ah:=bi
         have ai:=cb
         have aj:=cd
         have HB:=cp
         clear μ ξ a3 a4 al az b3 bb bk ca bi cb cd cp
         have hHeld:bm.cell? ⟨τ,0,none⟩=some (.slice a5 φ.length a7)∧bm.cell? ⟨τ,1,none⟩=some (.slice a8 ρ.length a9):=hS_
         refine Ze (a':=?_) ?_ ?_
         rotate_left
         ·simp only[Q6,Act.put,qS]
          rfl
         refine qK 4 (some 28) (bN 11 639) HT_ fun K hK=>?_
         refine Kd.Zp k86 _ 86 ?hg (N:=28) ?hd (xs:=([]:List (S86))) (inner:=[]) (ok:=fun _=>True) (okp:=fun _=>True) ?hr ?hp (fun _ hk=>hk) trivial (Below.refl _ _) (Nat.le_refl _) (by simp) ?_;(case hd=>rfl);(case hg=>rfl);(case hr=>go_simp <;> rfl);(case hp=>exact(Reps.none _ _))
         intro ba cg i3 hb hg_ hnew_
         clear hg_ hnew_
         (first|rw[← d2.out] at i3|(simp only[Int.reduceToNat] at i3;rw[← d2.out] at i3))
         have av:=Aside0.mk (Kd.Q3 i3 (Qh HB.out))
         replace b0:=sRb b0 hb
         replace ε :=sBk ε hb
         replace B:=sBk B hb
         replace ι :=sBk ι hb
         replace ψ :=sBk ψ hb
         replace HB:=sHb hb
         clear hb i3
         refine hK.out _ _ ⟨qc B,qc B⟩ (fun hHeld=>?_)
         clear hK K
         refine qN (some 28) ?_
         exact Ze (by first|(simp only[Q6,Act.put,qS];done)|(simp only[Q6,Act.put,qS];rfl)) (fi (b4,ce,ba,ω) _ ⟨hHeld,b0.out,av.out,ε.out,B.out,ι.out,ψ.out,bd.out,be.out,af.out,ag.out,ae.out,ah.out,ai.out,aj.out,HB.out⟩)
       ·skip
        rintro⟨b4,ce,ba⟩ cg ⟨hS_,b5,b6,b7,b8,b9,bl⟩
        have μ :Aside0 (Kd.R k36 36 cg w.heap.size (fun _=>True) ce b2):=⟨b5⟩
        have ξ :Aside0 (Kd.R k86 86 cg w.heap.size (fun _=>True) ba bf):=⟨b6⟩
        have a3:Aside0 (cg.heap[aa]?=some (.cells #[.int .i64 J,.int .i64 O,.int .i64 X,.int .i64 Y,.int .i64 Z,.int .i64 δ,.int .i64 γ,.int .i64 θ,.int .i64 η,.int .i64 ζ] 25 (0,0))):=⟨b7⟩
        have a4:Aside0 (cg.heap[τ]?=some (.cells #[.slice a5 φ.length a7,.slice a8 ρ.length a9] 50 (0,0))):=⟨b8⟩
        have al:Aside0 (cg.heap[ak]?=some (.cells #[.slice none 0 0,.slice none 0 0] 50 (0,0))):=⟨b9⟩
        have az:Aside0 (Below w.heap.size w cg):=⟨bl⟩
        clear ε
        clear B
        clear ι
        clear HB
        clear b5 b6 b7 b8 b9 bl
        have b0:= μ
        have av:= ξ
        have ε :=a3
        have B:=a4
        have ι :=al
        have HB:=az
        clear μ ξ a3 a4 al az
        have hHeld:cg.cell? ⟨τ,0,none⟩=some (.slice a5 φ.length a7)∧cg.cell? ⟨τ,1,none⟩=some (.slice a8 ρ.length a9):=hS_
        refine Ze (a':=?_) ?_ ?_
        rotate_left
        ·simp only[Q6,Act.put,qS]
         rfl
        refine J8 (i:=7) (j:=9) (Ni:=some 31) (Nj:=some 11) (bN 11 255) (bN 11 639) rfl rfl rfl rfl (Xt HT_.out kr) (by decide) (by decide) (fun K hK=>?_) (fun K hK=>?_)
        ·skip
         refine Kd.Zc k86 (w0:=w) w.heap.size (by rfl) (.tmp 28) (.tmp 30) 48 86 (.agg #[(.int .i64 0),(.int .i64 0)]) 16 rfl Try.underlying48 K6 rfl (by decide) (by omega) ba bf ρ _ _ _ (fun _=>True) (fun _=>False) rfl rfl ?aO ?aR (fun _ _ h=>h) (fun _ h=>h.elim) ?aF ?aB ?aS ?aL ?_
         (case aR=>exact(Kd.Qv cf.out HB.out))
         (case aB=>exact HB.out)
         (case aF=>exact(fun _ _=>trivial))
         (case aO=>exact av.out)
         (case aS=>exact(Qh HB.out))
         (case aL=>have:=mj.out;omega)
         intro i4 ea ho hb hg hat
         rw[← ll.out] at ho
         have d0:=Aside0.mk ho
         replace ε :=Aside0.mk (Q2 (g:=aa) (o:=.cells #[.int .i64 J,.int .i64 O,.int .i64 X,.int .i64 Y,.int .i64 Z,.int .i64 δ,.int .i64 γ,.int .i64 θ,.int .i64 η,.int .i64 ζ] 25 (0,0)) ε.out hg (Kd.Z4 av.out ε.out (by decide)))
         replace B:=Aside0.mk (Q2 (g:= τ) (o:=.cells #[.slice a5 φ.length a7,.slice a8 ρ.length a9] 50 (0,0)) B.out hg (Kd.Z4 av.out B.out (by decide)))
         replace ι :=Aside0.mk (Q2 (g:=ak) (o:=.cells #[.slice none 0 0,.slice none 0 0] 50 (0,0)) ι.out hg (Kd.Z4 av.out ι.out (by decide)))
         replace b0:=Aside0.mk (Kd.Y9 b0.out (Kd.Y8 av.out) (by decide) hg)
         replace HB:=Aside0.mk hb
         clear av
         clear ho hb hg hat
         obtain⟨om,oo,ml⟩:=Kd.Q5 d0.out
         (first|subst ml|(injection ml with ab ap ac;have ar:=ab.symm;have au:=ac.symm;clear ab ap ac;subst ar;subst au))
         obtain⟨kn,kt,ib⟩:=Kd.Q5 b0.out
         (first|subst ib|(injection ib with ab ap ac;have ar:=ab.symm;have au:=ac.symm;clear ab ap ac;subst ar;subst au))
         refine hK.out _ _ ⟨qc B,qc B⟩ (fun hHeld=>?_)
         clear hK K
         refine qN (some 31) ?_
         refine qP 8 (some 32) (bN 11 511) HT_ ?_
         exact Ze (by first|(simp only[Q6,Act.put,qS];done)|(simp only[Q6,Act.put,qS];rfl)) (k8 (b4,.slice kn b2.length kt,ba,.slice om bj.length oo) _ ⟨hHeld,b0.out,d0.out,ε.out,B.out,ι.out,HB.out⟩)
        ·skip
         refine Z0 ?hg (N:=11) ?hd (cs:=#[.slice none 0 0,.slice none 0 0]) (t:=50) ?hr ?_;(case hd=>rfl);(case hg=>rfl);(case hr=>go_simp <;> rfl)
         intro ω hg ea hbox hb
         have ψ :=Aside0.mk hbox
         have bd:=sGe hg
         have be:=sGe hg
         have af:=sNl ε hg
         have ag:=sNg ε hg
         have ae:=sNl B hg
         have ah:=sNg B hg
         have ai:=sNl ι hg
         have aj:=sNg ι hg
         replace b0:=sRb b0 hb
         replace av:=sRb av hb
         replace ε :=sBk ε hb
         replace B:=sBk B hb
         replace ι :=sBk ι hb
         replace HB:=sHb hb
         clear hb hbox hg
         refine hK.out _ _ ⟨qc B,qc B⟩ (fun hHeld=>?_)
         clear hK K
         refine qN (some 11) ?_
         exact Ze (by first|(simp only[Q6,Act.put,qS];done)|(simp only[Q6,Act.put,qS];rfl)) (fi (b4,ce,ba,ω) _ ⟨hHeld,b0.out,av.out,ε.out,B.out,ι.out,ψ.out,bd.out,be.out,af.out,ag.out,ae.out,ah.out,ai.out,aj.out,HB.out⟩)
      ·skip
       rintro⟨b4,ce,ba,ω⟩ ea ⟨hS_,b5,b6,b7,b8,b9,bl,ch,ci,cj,ck,bh,bw,bz,co,fw⟩
       have μ :Aside0 (Kd.R k36 36 ea w.heap.size (fun _=>True) ce b2):=⟨b5⟩
       have ξ :Aside0 (Kd.R k86 86 ea w.heap.size (fun _=>True) ba bf):=⟨b6⟩
       have a3:Aside0 (ea.heap[aa]?=some (.cells #[.int .i64 J,.int .i64 O,.int .i64 X,.int .i64 Y,.int .i64 Z,.int .i64 δ,.int .i64 γ,.int .i64 θ,.int .i64 η,.int .i64 ζ] 25 (0,0))):=⟨b7⟩
       have a4:Aside0 (ea.heap[τ]?=some (.cells #[.slice a5 φ.length a7,.slice a8 ρ.length a9] 50 (0,0))):=⟨b8⟩
       have al:Aside0 (ea.heap[ak]?=some (.cells #[.slice none 0 0,.slice none 0 0] 50 (0,0))):=⟨b9⟩
       have az:Aside0 (ea.heap[ω]?=some (.cells #[.slice none 0 0,.slice none 0 0] 50 (0,0))):=⟨bl⟩
       have b3:Aside0 (w.heap.size ≤ ω):=⟨ch⟩
       have bb:Aside0 (w.heap.size ≤ ω):=⟨ci⟩
       have bk:Aside0 (aa ≠ ω):=⟨cj⟩
       have ca:Aside0 (ω ≠ aa):=⟨ck⟩
       have bi:Aside0 (τ ≠ ω):=⟨bh⟩
       have cb:Aside0 (ω ≠ τ):=⟨bw⟩
       have cd:Aside0 (ak ≠ ω):=⟨bz⟩
       have cp:Aside0 (ω ≠ ak):=⟨co⟩
       have fx:Aside0 (Below w.heap.size w ea):=⟨fw⟩
       clear ε
       clear B
       clear ι
       clear HB
       clear b5 b6 b7 b8 b9 bl ch ci cj ck bh bw bz co fw
       have b0:= μ
       have av:= ξ
       have ε :=a3
       have B:=a4
       have ι :=al
       have ψ :=az
       have bd:=b3
       have be:=bb
       have af:=bk
       have ag:=ca
       have ae:=bi
       have ah:=cb
       have ai:=cd
       have aj:=cp
       have HB:=fx
       clear μ ξ a3 a4 al az b3 bb bk ca bi cb cd cp fx
       have hHeld:ea.cell? ⟨τ,0,none⟩=some (.slice a5 φ.length a7)∧ea.cell? ⟨τ,1,none⟩=some (.slice a8 ρ.length a9):=hS_
       refine Ze (a':=?_) ?_ ?_
       rotate_left
       ·simp only[Q6,Act.put,qS]
        rfl
       refine qK 7 (some 31) (bN 11 767) HT_ fun K hK=>?_
       refine Kd.Zc k86 (w0:=w) w.heap.size (by rfl) (.tmp 28) (.tmp 30) 48 86 (.agg #[(.int .i64 0),(.int .i64 0)]) 16 rfl Try.underlying48 K6 rfl (by decide) (by omega) ba bf ρ _ _ _ (fun _=>True) (fun _=>False) rfl rfl ?aO ?aR (fun _ _ h=>h) (fun _ h=>h.elim) ?aF ?aB ?aS ?aL ?_
       (case aR=>exact(Kd.Qv cf.out HB.out))
       (case aB=>exact HB.out)
       (case aF=>exact(fun _ _=>trivial))
       (case aO=>exact av.out)
       (case aS=>exact(Qh HB.out))
       (case aL=>have:=mj.out;omega)
       intro i4 i2 ho hb hg hat
       rw[← ll.out] at ho
       have d0:=Aside0.mk ho
       replace ε :=Aside0.mk (Q2 (g:=aa) (o:=.cells #[.int .i64 J,.int .i64 O,.int .i64 X,.int .i64 Y,.int .i64 Z,.int .i64 δ,.int .i64 γ,.int .i64 θ,.int .i64 η,.int .i64 ζ] 25 (0,0)) ε.out hg (Kd.Z4 av.out ε.out (by decide)))
       replace B:=Aside0.mk (Q2 (g:= τ) (o:=.cells #[.slice a5 φ.length a7,.slice a8 ρ.length a9] 50 (0,0)) B.out hg (Kd.Z4 av.out B.out (by decide)))
       replace ι :=Aside0.mk (Q2 (g:=ak) (o:=.cells #[.slice none 0 0,.slice none 0 0] 50 (0,0)) ι.out hg (Kd.Z4 av.out ι.out (by decide)))
       replace b0:=Aside0.mk (Kd.Y9 b0.out (Kd.Y8 av.out) (by decide) hg)
       replace ψ :=Aside0.mk (Q2 (g:= ω) (o:=.cells #[.slice none 0 0,.slice none 0 0] 50 (0,0)) ψ.out hg (Kd.Z4 av.out ψ.out (by decide)))
       replace HB:=Aside0.mk hb
       clear av
       clear ho hb hg hat
       obtain⟨kn,kt,ib⟩:=Kd.Q5 d0.out
       (first|subst ib|(injection ib with ab ap ac;have ar:=ab.symm;have au:=ac.symm;clear ab ap ac;subst ar;subst au))
       obtain⟨ku,kv,ic⟩:=Kd.Q5 b0.out
       (first|subst ic|(injection ic with ab ap ac;have ar:=ab.symm;have au:=ac.symm;clear ab ap ac;subst ar;subst au))
       refine hK.out _ _ ⟨qc B,qc B⟩ (fun hHeld=>?_)
       clear hK K
       refine qN (some 31) ?_
       refine qP 8 (some 32) (bN 11 1023) HT_ ?_
       exact Ze (by first|(simp only[Q6,Act.put,qS];done)|(simp only[Q6,Act.put,qS];rfl)) (gh (b4,.slice ku b2.length kv,ba,.slice kn bj.length kt,ω) _ ⟨hHeld,b0.out,d0.out,ε.out,B.out,ι.out,ψ.out,bd.out,be.out,af.out,ag.out,ae.out,ah.out,ai.out,aj.out,HB.out⟩)
     ·skip
      rintro⟨b4,ce,ba,i4⟩ df ⟨hS_,b5,b6,b7,b8,b9,bl⟩
      have μ :Aside0 (Kd.R k36 36 df w.heap.size (fun _=>True) ce b2):=⟨b5⟩
      have ξ :Aside0 (Kd.R k86 86 df w.heap.size (fun _=>True) i4 bj):=⟨b6⟩
      have a3:Aside0 (df.heap[aa]?=some (.cells #[.int .i64 J,.int .i64 O,.int .i64 X,.int .i64 Y,.int .i64 Z,.int .i64 δ,.int .i64 γ,.int .i64 θ,.int .i64 η,.int .i64 ζ] 25 (0,0))):=⟨b7⟩
      have a4:Aside0 (df.heap[τ]?=some (.cells #[.slice a5 φ.length a7,.slice a8 ρ.length a9] 50 (0,0))):=⟨b8⟩
      have al:Aside0 (df.heap[ak]?=some (.cells #[.slice none 0 0,.slice none 0 0] 50 (0,0))):=⟨b9⟩
      have az:Aside0 (Below w.heap.size w df):=⟨bl⟩
      clear ε
      clear B
      clear ι
      clear HB
      clear b5 b6 b7 b8 b9 bl
      have b0:= μ
      have d0:= ξ
      have ε :=a3
      have B:=a4
      have ι :=al
      have HB:=az
      clear μ ξ a3 a4 al az
      have hHeld:df.cell? ⟨τ,0,none⟩=some (.slice a5 φ.length a7)∧df.cell? ⟨τ,1,none⟩=some (.slice a8 ρ.length a9):=hS_
      obtain⟨ku,kv,ic⟩:=Kd.Q5 d0.out
      (first|subst ic|(injection ic with ab ap ac;have ar:=ab.symm;have au:=ac.symm;clear ab ap ac;subst ar;subst au))
      obtain⟨bo,bn,gi⟩:=Kd.Q5 b0.out
      (first|subst gi|(injection gi with ab ap ac;have ar:=ab.symm;have au:=ac.symm;clear ab ap ac;subst ar;subst au))
      refine Ze (a':=?_) ?_ ?_
      rotate_left
      ·simp only[Q6,Act.put,qS]
       rfl
      refine qK 9 (some 11) (bN 11 1023) HT_ fun K hK=>?_
      refine Z0 ?hg (N:=11) ?hd (cs:=#[.slice none 0 0,.slice none 0 0]) (t:=50) ?hr ?_;(case hd=>rfl);(case hg=>rfl);(case hr=>go_simp <;> rfl)
      intro ω hg ej hbox hb
      have ψ :=Aside0.mk hbox
      have bd:=sGe hg
      have be:=sGe hg
      have af:=sNl ε hg
      have ag:=sNg ε hg
      have ae:=sNl B hg
      have ah:=sNg B hg
      have ai:=sNl ι hg
      have aj:=sNg ι hg
      replace b0:=sRb b0 hb
      replace d0:=sRb d0 hb
      replace ε :=sBk ε hb
      replace B:=sBk B hb
      replace ι :=sBk ι hb
      replace HB:=sHb hb
      clear hb hbox hg
      refine hK.out _ _ ⟨qc B,qc B⟩ (fun hHeld=>?_)
      clear hK K
      refine qN (some 11) ?_
      exact Ze (by first|(simp only[Q6,Act.put,qS];done)|(simp only[Q6,Act.put,qS];rfl)) (gh (b4,.slice bo b2.length bn,ba,.slice ku bj.length kv,ω) _ ⟨hHeld,b0.out,d0.out,ε.out,B.out,ι.out,ψ.out,bd.out,be.out,af.out,ag.out,ae.out,ah.out,ai.out,aj.out,HB.out⟩)
    rintro⟨b4,ce,ba,i4,ω⟩ e9 ⟨hS_,b5,b6,b7,b8,b9,bl,ch,ci,cj,ck,bh,bw,bz,co,fw⟩
    have μ :Aside0 (Kd.R k36 36 e9 w.heap.size (fun _=>True) ce b2):=⟨b5⟩
    have ξ :Aside0 (Kd.R k86 86 e9 w.heap.size (fun _=>True) i4 bj):=⟨b6⟩
    have a3:Aside0 (e9.heap[aa]?=some (.cells #[.int .i64 J,.int .i64 O,.int .i64 X,.int .i64 Y,.int .i64 Z,.int .i64 δ,.int .i64 γ,.int .i64 θ,.int .i64 η,.int .i64 ζ] 25 (0,0))):=⟨b7⟩
    have a4:Aside0 (e9.heap[τ]?=some (.cells #[.slice a5 φ.length a7,.slice a8 ρ.length a9] 50 (0,0))):=⟨b8⟩
    have al:Aside0 (e9.heap[ak]?=some (.cells #[.slice none 0 0,.slice none 0 0] 50 (0,0))):=⟨b9⟩
    have az:Aside0 (e9.heap[ω]?=some (.cells #[.slice none 0 0,.slice none 0 0] 50 (0,0))):=⟨bl⟩
    have b3:Aside0 (w.heap.size ≤ ω):=⟨ch⟩
    have bb:Aside0 (w.heap.size ≤ ω):=⟨ci⟩
    have bk:Aside0 (aa ≠ ω):=⟨cj⟩
    have ca:Aside0 (ω ≠ aa):=⟨ck⟩
    have bi:Aside0 (τ ≠ ω):=⟨bh⟩
    have cb:Aside0 (ω ≠ τ):=⟨bw⟩
    have cd:Aside0 (ak ≠ ω):=⟨bz⟩
    have cp:Aside0 (ω ≠ ak):=⟨co⟩
    have fx:Aside0 (Below w.heap.size w e9):=⟨fw⟩
    clear ε
    clear B
    clear ι
    clear HB
    clear b5 b6 b7 b8 b9 bl ch ci cj ck bh bw bz co fw
    have b0:= μ
    have d0:= ξ
    have ε :=a3
    have B:=a4
    have ι :=al
    have ψ :=az
    have bd:=b3
    have be:=bb
    have af:=bk
    have ag:=ca
    have ae:=bi
    have ah:=cb
    have ai:=cd
    have aj:=cp
    have HB:=fx
    clear μ ξ a3 a4 al az b3 bb bk ca bi cb cd cp fx
    have hHeld:e9.cell? ⟨τ,0,none⟩=some (.slice a5 φ.length a7)∧e9.cell? ⟨τ,1,none⟩=some (.slice a8 ρ.length a9):=hS_
    obtain⟨bo,bn,gi⟩:=Kd.Q5 d0.out
    (first|subst gi|(injection gi with ab ap ac;have ar:=ab.symm;have au:=ac.symm;clear ab ap ac;subst ar;subst au))
    obtain⟨kw,kx,mq⟩:=Kd.Q5 b0.out
    (first|subst mq|(injection mq with ab ap ac;have ar:=ab.symm;have au:=ac.symm;clear ab ap ac;subst ar;subst au))
    refine Ze (a':=?_) ?_ ?_
    rotate_left
    ·simp only[Q6,Act.put,qS]
     rfl
    refine qK 10 (none) (bN 11 2047) HT_ fun K hK=>?_
    have tb:e9.cell? ⟨ω,0,none⟩=some (.slice none 0 0):=(Qa ψ.out 0).trans rfl
    have se:=Qb ψ.out 0
    have qb:=af.out
    have qd:=ae.out
    have qe:=ai.out
    have qf:=ag.out
    have qg:=ah.out
    have qh:=aj.out
    have tc:e9.cell? ⟨ω,1,none⟩=some (.slice none 0 0):=(Qa ψ.out 1).trans rfl
    have sf:=Qb ψ.out 1
    have qi:=af.out
    have qj:=ae.out
    have qk:=ai.out
    have ql:=ag.out
    have qm:=ah.out
    have qn:=aj.out
    refine Kq (w1:=?_) (by rfl) rfl ?_ ?_
    rotate_left
    ·go_simp
     rfl
    refine hK.out _ _ ⟨((cell_far (p:=⟨ω,_,none⟩) ae.out _).trans (((cell_far (p:=⟨ω,_,none⟩) ae.out _).trans (hHeld.1)))),((cell_far (p:=⟨ω,_,none⟩) ae.out _).trans (((cell_far (p:=⟨ω,_,none⟩) ae.out _).trans (hHeld.2))))⟩ (fun hHeld=>?_)
    clear hK K
    refine Z2 (Zf HT_.out kr) ?_
    have l3:=ag.out
    have l4:=af.out
    have lm:=ah.out
    have ln:=ae.out
    have l5:=aj.out
    have l6:=ai.out
    obtain⟨fz,ga,gb,ge⟩:=qD2 ψ.out
    try go_wp2
    go_loopg [36] k (fun kq r7 w'=>∃ (a1:Int) (ν :List (S36)) (d1:Value),r7 = .int .i64 a1∧Aside0 (group_Spread.l0 kq l1 a2 (b2.length:Int) a1 J O X Y Z δ γ θ η ζ ν bj=some (r1,r2,r3))∧Aside0 (kq≤k)∧Aside0 (Kd.R k36 36 w' w.heap.size (fun _=>True) d1 ν)∧Aside0 (Kd.R k86 86 w' w.heap.size (fun _=>True) (.slice bo bj.length bn) bj)∧Aside0 (w'.heap[aa]?=some (.cells #[.int .i64 J,.int .i64 O,.int .i64 X,.int .i64 Y,.int .i64 Z,.int .i64 δ,.int .i64 γ,.int .i64 θ,.int .i64 η,.int .i64 ζ] 25 (0,0)))∧Aside0 (w'.heap[τ]?=some (.cells #[(.slice a5 φ.length a7),(.slice a8 ρ.length a9)] 50 (0,0)))∧Aside0 (w'.heap[ak]?=some (.cells #[(.slice none 0 0),(.slice none 0 0)] 50 (0,0)))∧Aside0 (w'.heap[ω]?=some (.cells #[d1,(.slice bo bj.length bn)] 50 (0,0)))∧Aside0 (Below w.heap.size w w')∧Aside0 (d1=(.slice kw b2.length kx)))
    case atStart=>exact⟨(0),(b2),(.slice kw b2.length kx),qR,H',⟨Nat.le_refl _⟩,⟨by(with_reducible repeat first|apply Kd.Qm|apply Kd.Ql|apply Kd.Qs);exact Kd.Qw (Kd.Qz (Kd.Qz (Kd.Q7 b0.out ψ.out (by decide)) (fun _ hk=>hk.2) _) (fun _ hk=>hk.2) _) (fun _ hk=>trivial)⟩,⟨by(with_reducible repeat first|apply Kd.Qm|apply Kd.Ql|apply Kd.Qs);exact Kd.Qw (Kd.Qz (Kd.Qz (Kd.Q7 d0.out ψ.out (by decide)) (fun _ hk=>hk.2) _) (fun _ hk=>hk.2) _) (fun _ hk=>trivial)⟩,⟨bka ε⟩,⟨bka B⟩,⟨bka ι⟩,⟨by(with_reducible repeat first|refine Qn ?_ _|refine Qe ?_|refine Qo ?_ _);refine Qq (cs:=#[.slice kw b2.length kx,.slice none 0 0]) ?_ 1 _ rfl;(with_reducible repeat first|refine Qn ?_ _|refine Qe ?_|refine Qo ?_ _);refine Qq (cs:=#[.slice none 0 0,.slice none 0 0]) ?_ 0 _ rfl;(with_reducible repeat first|refine Qn ?_ _|refine Qe ?_|refine Qo ?_ _);exact ψ.out⟩,⟨bel⟩,⟨rfl⟩⟩
    case round=>
     clear H'
     try clear p2
     try clear c3
     try clear c7
     try clear c8
     try clear ol
     try clear ix
     try clear gq
     try clear fz
     try clear ga
     try clear gb
     try clear ge
     obtain⟨a1,ν,d1,rfl,HA,ao,χ,am,ε,B,ι,ψ,HB,gw⟩:=hrel
     cases gk with
     |zero=>exact absurd HA.out (by simp[group_Spread.l0])
     |succ k1=>
      have H:=HA.out
      clear HA
      simp only[group_Spread.l0] at H
      by_cases fa:a1<(b2.length:Int)
      ·rw[if_pos fa] at H
       have c37b0:decide (a1<(b2.length:Int))=true:=decide_eq_true fa
       clear fa
       by_cases io:0≤a1
       ·rw[if_pos io] at H
        have c38b0:decide (0≤a1)=true:=decide_eq_true io
        clear io
        by_cases gg:a1<(ν.length:Int)
        ·rw[if_pos gg] at H
         have c39b0:decide (a1<(ν.length:Int))=true:=decide_eq_true gg
         clear gg
         by_cases de:((Qc ν a1).f2)≥0
         ·rw[if_pos de] at H
          have c40b0:decide (0≤((Qc ν a1).f2))=true:=decide_eq_true de
          clear de
          by_cases i6:0≤((Qc ν a1).f2)
          ·rw[if_pos i6] at H
           have c41b0:=eq_true i6
           have c41b1:decide (0≤((Qc ν a1).f2))=true:=decide_eq_true i6
           clear i6
           obtain⟨fj,hu⟩:∃ j_:Int,(shr .i64 a2 ((Qc ν a1).f2))=j_:=⟨_,rfl⟩
           replace H:(if (Go.bits .and .i64 (fj) 1)=1 then (group_Spread.l0 k1 l1 a2 (b2.length:Int) (wrap64 (a1+1)) J O X Y Z δ γ θ η ζ (ν.set (a1:Int).toNat (⟨(Qc ν a1).f0,(Qc ν a1).f1,(-1)⟩:S36)) bj) else (group_Spread.l0 k1 l1 a2 (b2.length:Int) (wrap64 (a1+1)) J O X Y Z δ γ θ η ζ ν bj))=some (r1,r2,r3):=by first|(rw[hu] at H;exact H)|(simp only[hu] at H ⊢;exact H)
           have r8:(a2 / 2 ^ min ((Qc ν a1).f2).toNat 64)=fj:=hu
           have hji42z:((Qc ν a1).f2)≤64→(a2 / 2 ^ ((Qc ν a1).f2).toNat)=fj:=Yp hu
           by_cases i7:(Go.bits .and .i64 (fj) 1)=1
           ·rw[if_pos i7] at H
            have c43b0:((Go.bits .and .i64 (fj) 1)==1)=true:=beq_iff_eq.mpr i7
            have c43b1:((Go.bits .and .i64 (fj) 1) != 1)=false:=bne_eq_false_iff_eq.mpr i7
            clear i7
            obtain⟨ky,gx⟩:∃ y_:List (S36),y_=(ν.set (a1:Int).toNat (⟨(Qc ν a1).f0,(Qc ν a1).f1,(-1)⟩:S36)):=⟨_,rfl⟩
            replace H:(group_Spread.l0 k1 l1 a2 (b2.length:Int) (wrap64 (a1+1)) J O X Y Z δ γ θ η ζ ky bj)=some (r1,r2,r3):=by first|(rw[gx];with_reducible exact H)|(have an:=(Option.bind_some _ _).symm.trans H;rw[gx];with_reducible exact an)|(have an:=(Option.bind_some _ _).symm.trans H;with_reducible exact an)|with_reducible exact H|(rw[gx];exact H)|exact H
            have oa:=Aside0.mk gx
            clear gx
            have H':=Aside0.mk H
            clear H
            have ma:=ag.out
            have mb:=af.out
            have ju:=ah.out
            have jv:=ae.out
            have l7:=aj.out
            have l8:=ai.out
            obtain⟨fb,fc,fe,ff⟩:=qD2 ψ.out
            obtain⟨td,gj,oq⟩:=Kd.Q5 χ.out
            subst oq
            have e0:0≤(a1:Int):=of_decide_eq_true (by assumption)
            have e3:a1<(ν.length:Int):=of_decide_eq_true (by assumption)
            obtain⟨fu,ie,fv,fy,gf⟩:=Z9 (Kd.Qr χ.out).2.2 a1 e0 e3
            cases ie
            replace e0:=eq_true e0
            replace e3:=eq_true e3
            (try rewrite[← gw.out])
            go_wp2_with (first|((with_reducible refine Qf (N:=13) rfl ?_);refine qE 13 #[.int .i64 0,.int .i64 0,.int .i64 0] 36 ?_;intro cm hg vt hbox hb;have cw:=Aside0.mk hbox;have ls:=sGe hg;have lu:=sGe hg;have dr:=sNl ε hg;have dt:=sNg ε hg;have du:=sNl B hg;have dv:=sNg B hg;have dw:=sNl ι hg;have dx:=sNg ι hg;have dy:=sNl ψ hg;have dz:=sNg ψ hg;replace χ :=Aside0.mk (Kd.Za (Kd.Yy (kra χ) cm (Nat.le_of_eq hg.symm)) hb);replace am:=sRb am hb;replace ε :=sBk ε hb;replace B:=sBk B hb;replace ι :=sBk ι hb;replace ψ :=sBk ψ hb;replace HB:=sHb hb;clear hb hbox hg;have jw:=dt.out;have jx:=dr.out;have sg:=dv.out;have sh:=du.out;have si:=dx.out;have sj:=dw.out;have sp:=dz.out;have sq:=dy.out;obtain⟨gz,h0,iy,h4,h5,j3⟩:=qD3 cw.out)|((with_reducible refine Jm (t:=36) (p:=13) rfl ?_);refine Y3 (t:=36) (p:=13) (v:=?vo_w56) (w1:=(((vt.setCell ⟨cm,0,none⟩ (.int .i64 ((Qc ν a1).f0))).setCell ⟨cm,1,none⟩ (.int .i64 ((Qc ν a1).f1))).setCell ⟨cm,2,none⟩ (.int .i64 ((Qc ν a1).f2)))) ?hg ?ho ?hn ?hr ?_;(case ho=>rfl);(case hg=>rfl);(case hn=>rfl);(case hr=>go_simp <;> rfl);intro d7 hw;have μ :Aside0 (Kd.R k36 36 d7 w.heap.size (fun k_=>k_≠cm) (.slice (some fu) ν.length gj) ν):=⟨(by rw[hw];exact(by(with_reducible repeat first|apply Kd.Qm|apply Kd.Ql|apply Kd.Qs);exact Kd.Qw (Kd.Qz (Kd.Qz (Kd.Qz (Kd.Qw χ.out (fun k_ hk=>(⟨hk,hk.2⟩:_∧k_≠cm))) (fun _ hk=>hk.2) (.int .i64 ((Qc ν a1).f0))) (fun _ hk=>hk.2) (.int .i64 ((Qc ν a1).f1))) (fun _ hk=>hk.2) (.int .i64 ((Qc ν a1).f2))) (fun _ hk=>hk.1.2)))⟩;have ξ :Aside0 (Kd.R k86 86 d7 w.heap.size (fun _=>True) (.slice bo bj.length bn) bj):=⟨(by rw[hw];exact(by(with_reducible repeat first|apply Kd.Qm|apply Kd.Ql|apply Kd.Qs);exact Kd.Qw (Kd.Qz (Kd.Qz (Kd.Qz (Kd.Q7 am.out cw.out (by decide)) (fun _ hk=>hk.2) (.int .i64 ((Qc ν a1).f0))) (fun _ hk=>hk.2) (.int .i64 ((Qc ν a1).f1))) (fun _ hk=>hk.2) (.int .i64 ((Qc ν a1).f2))) (fun _ hk=>trivial)))⟩;have a3:Aside0 (d7.heap[aa]?=some (.cells #[.int .i64 J,.int .i64 O,.int .i64 X,.int .i64 Y,.int .i64 Z,.int .i64 δ,.int .i64 γ,.int .i64 θ,.int .i64 η,.int .i64 ζ] 25 (0,0))):=⟨(by rw[hw];exact(bka ε))⟩;have a4:Aside0 (d7.heap[τ]?=some (.cells #[.slice a5 φ.length a7,.slice a8 ρ.length a9] 50 (0,0))):=⟨(by rw[hw];exact(bka B))⟩;have al:Aside0 (d7.heap[ak]?=some (.cells #[.slice none 0 0,.slice none 0 0] 50 (0,0))):=⟨(by rw[hw];exact(bka ι))⟩;have az:Aside0 (d7.heap[ω]?=some (.cells #[.slice (some fu) ν.length gj,.slice bo bj.length bn] 50 (0,0))):=⟨(by rw[hw];exact(bka ψ))⟩;have b3:Aside0 (d7.heap[cm]?=some (.cells #[.int .i64 ((Qc ν a1).f0),.int .i64 ((Qc ν a1).f1),.int .i64 ((Qc ν a1).f2)] 36 (0,0))):=⟨(by rw[hw];exact(by(with_reducible repeat first|refine Qn ?_ _|refine Qe ?_|refine Qo ?_ _);refine Qq (cs:=#[.int .i64 ((Qc ν a1).f0),.int .i64 ((Qc ν a1).f1),.int .i64 0]) ?_ 2 _ rfl;(with_reducible repeat first|refine Qn ?_ _|refine Qe ?_|refine Qo ?_ _);refine Qq (cs:=#[.int .i64 ((Qc ν a1).f0),.int .i64 0,.int .i64 0]) ?_ 1 _ rfl;(with_reducible repeat first|refine Qn ?_ _|refine Qe ?_|refine Qo ?_ _);refine Qq (cs:=#[.int .i64 0,.int .i64 0,.int .i64 0]) ?_ 0 _ rfl;(with_reducible repeat first|refine Qn ?_ _|refine Qe ?_|refine Qo ?_ _);exact cw.out))⟩;have bb:Aside0 (Below w.heap.size w d7):=⟨(by rw[hw];exact bel)⟩;clear hw;clear χ;clear am;clear ε;clear B;clear ι;clear ψ;clear cw;clear HB;have χ := μ;have am:= ξ;have ε :=a3;have B:=a4;have ι :=al;have ψ :=az;have cw:=b3;have HB:=bb;clear μ ξ a3 a4 al az b3 bb;obtain⟨j7,jc,jd,je,jf,jg⟩:=qD3 cw.out;obtain⟨m2,m3,m5,m6⟩:=qD2 ψ.out;have p44:0≤(a1:Int):=of_decide_eq_true (by assumption);have k9:(a1:Int)<((ν.length:Int):Int):=of_decide_eq_true (by assumption);obtain⟨dp,te,mr,ms,ot,tf,mt⟩:=Kd.Ui χ.out (by omega);(first|cases mr|(injection mr with ea_ en_ ec_;(first|subst ea_|(injection ea_ with ea_;subst ea_));subst ec_;clear en_));have ou:=Aside0.mk ms;have tg:=Aside0.mk mt;clear ms ot mt;(first|simp only[add_plain] at fv|skip);(first|simp only[add_plain] at fy|skip);(first|simp only[add_plain] at gf|skip);obtain⟨ti,ob,mu,hx,hy⟩:=Kd.Jr χ.out z36 (a1:Int) p44 k9;obtain rfl:=Ya mu;have mw:d7.cell? ⟨dp,(a1:Int).toNat * 3,none⟩=some (.int .i64 ((Qc ν a1).f0)):=hx 0 _ rfl;have my:d7.cell? ⟨dp,(a1:Int).toNat * 3+1,none⟩=some (.int .i64 ((Qc ν a1).f1)):=hx 1 _ rfl;have mz:d7.cell? ⟨dp,(a1:Int).toNat * 3+2,none⟩=some (.int .i64 ((Qc ν a1).f2)):=hx 2 _ rfl;have r9:d7.frozen? ⟨dp,(a1:Int).toNat * 3,none⟩=false:=hy 0;have ra:d7.frozen? ⟨dp,(a1:Int).toNat * 3+1,none⟩=false:=hy 1;have rb:d7.frozen? ⟨dp,(a1:Int).toNat * 3+2,none⟩=false:=hy 2;clear ob hx hy mu;replace p44:=eq_true p44;replace k9:=eq_true k9;have n0:=Aside0.mk (show Kd.R k36 36 d7 w.heap.size (fun k_=>k_≠cm) (.slice (some ⟨dp,0,none⟩) ν.length gj) ν from(kra χ));obtain⟨tj,lv,n1,k3,lw⟩:=Kd.Jr n0.out z36 (a1:Int) (of_decide_eq_true (by assumption)) (by have h_:(a1:Int)<((ν.length:Int):Int):=of_decide_eq_true (by assumption);first|exact h_|(have e_:=(Kd.Qr χ.out).1;omega)|simpa using h_);obtain rfl:=Ya n1;have kz:=Kd.Lm n0.out (a1:Int) (of_decide_eq_true (by assumption)) (by have h_:(a1:Int)<((ν.length:Int):Int):=of_decide_eq_true (by assumption);first|exact h_|(have e_:=(Kd.Qr χ.out).1;omega)|simpa using h_) (seg:=[.int .i64 (-1)]) (j:=2) lv k3 (show 3≤3 from by decide) (x':=(⟨(Qc ν a1).f0,(Qc ν a1).f1,(-1)⟩:S36)) (Kw _ _ _ (⟨(Qc ν a1).f0,(Qc ν a1).f1,(-1)⟩:S36)) (fun _ hk=>hk);have ka:=k3 2 _ rfl;(try simp only[show(k36).sz=3 from rfl,Nat.mul_one,Nat.add_zero] at ka);have nd:=lw 2;(try simp only[show(k36).sz=3 from rfl,Nat.mul_one,Nat.add_zero] at nd);clear lv k3 lw n1)|((with_reducible refine Jm (t:=3) (p:=56) rfl ?_);refine Y3 (t:=3) (p:=56) (v:=?vo_w60) (w1:=(d7.setCell ⟨dp,(a1:Int).toNat * 3+2,none⟩ (.int .i64 (-1)))) ?hg ?ho ?hn ?hr ?_;(case ho=>rfl);(case hg=>rfl);(case hn=>rfl);(case hr=>go_simp <;> rfl);intro nf hw;have hg:d7.grownBy nf (some dp):=(by rw[hw];exact kz.2);have hp_:Kd.R k36 36 nf w.heap.size (fun k_=>k_≠cm) (.slice (some ⟨dp,0,none⟩) ν.length gj) ky:=(by rw[hw,oa.out];exact kz.1);clear kz;replace am:=Aside0.mk (Kd.Y9 (v:=(.slice (some ⟨dp,0,none⟩) ν.length gj)) (kra am) (Kd.Y8 χ.out) (by decide) hg);replace ε :=Aside0.mk (Q2 (g:=aa) (o:=.cells #[.int .i64 J,.int .i64 O,.int .i64 X,.int .i64 Y,.int .i64 Z,.int .i64 δ,.int .i64 γ,.int .i64 θ,.int .i64 η,.int .i64 ζ] 25 (0,0)) (bka ε) hg (Kd.Z4 χ.out ε.out (by decide)));replace B:=Aside0.mk (Q2 (g:= τ) (o:=.cells #[.slice a5 φ.length a7,.slice a8 ρ.length a9] 50 (0,0)) (bka B) hg (Kd.Z4 χ.out B.out (by decide)));replace ι :=Aside0.mk (Q2 (g:=ak) (o:=.cells #[.slice none 0 0,.slice none 0 0] 50 (0,0)) (bka ι) hg (Kd.Z4 χ.out ι.out (by decide)));replace ψ :=Aside0.mk (Q2 (g:= ω) (o:=.cells #[.slice (some ⟨dp,0,none⟩) ν.length gj,.slice bo bj.length bn] 50 (0,0)) (bka ψ) hg (Kd.Z4 χ.out ψ.out (by decide)));replace cw:=Aside0.mk (Q2 (g:=cm) (o:=.cells #[.int .i64 ((Qc ν a1).f0),.int .i64 ((Qc ν a1).f1),.int .i64 ((Qc ν a1).f2)] 36 (0,0)) (bka cw) hg (Kd.W4 χ.out (fun _ hk=>hk)));replace χ :=Aside0.mk hp_;replace HB:=Aside0.mk ((by rw[hw];exact Qx (HB.out) ou.out:Below w.heap.size w nf));clear hg hw hp_))
            rewrite[gw.out]
            go_roundg k1
            case measure=>have:=ao.out;omega
            case rel=>exact⟨(wrap64 (a1+1)),(ky),(.slice (some ⟨dp,0,none⟩) ν.length gj),rfl,H',⟨by have:=ao.out;omega⟩,⟨by(with_reducible repeat first|apply Kd.Qm|apply Kd.Ql|apply Kd.Qs);exact Kd.Qw χ.out (fun _ hk=>trivial)⟩,⟨by(with_reducible repeat first|apply Kd.Qm|apply Kd.Ql|apply Kd.Qs);exact am.out⟩,ε,B,ι,ψ,HB,gw⟩
           ·rw[if_neg i7] at H
            have c43b0:((Go.bits .and .i64 (fj) 1)==1)=false:=beq_eq_false_iff_ne.mpr i7
            have c43b1:((Go.bits .and .i64 (fj) 1) != 1)=true:=bne_iff_ne.mpr i7
            have H':=Aside0.mk H
            clear H
            have jy:=ag.out
            have jz:=af.out
            have nz:=ah.out
            have o0:=ae.out
            have nk:=aj.out
            have nl:=ai.out
            obtain⟨j8,j9,ja,jb⟩:=qD2 ψ.out
            obtain⟨tk,ov,ow⟩:=Kd.Q5 χ.out
            subst ow
            have e0:0≤(a1:Int):=of_decide_eq_true (by assumption)
            have e3:a1<(ν.length:Int):=of_decide_eq_true (by assumption)
            obtain⟨fu,ie,fv,fy,gf⟩:=Z9 (Kd.Qr χ.out).2.2 a1 e0 e3
            cases ie
            replace e0:=eq_true e0
            replace e3:=eq_true e3
            (try rewrite[← gw.out])
            go_wp2_with (first|((with_reducible refine Qf (N:=13) rfl ?_);refine qE 13 #[.int .i64 0,.int .i64 0,.int .i64 0] 36 ?_;intro cm hg qx hbox hb;have cw:=Aside0.mk hbox;have ls:=sGe hg;have lu:=sGe hg;have dr:=sNl ε hg;have dt:=sNg ε hg;have du:=sNl B hg;have dv:=sNg B hg;have dw:=sNl ι hg;have dx:=sNg ι hg;have dy:=sNl ψ hg;have dz:=sNg ψ hg;replace χ :=Aside0.mk (Kd.Za (Kd.Yy χ.out cm (Nat.le_of_eq hg.symm)) hb);replace am:=sRb am hb;replace ε :=sBk ε hb;replace B:=sBk B hb;replace ι :=sBk ι hb;replace ψ :=sBk ψ hb;replace HB:=sHb hb;clear hb hbox hg;have sk:=dt.out;have sl:=dr.out;have l9:=dv.out;have lf:=du.out;have nx:=dx.out;have ny:=dw.out;have sr:=dz.out;have ss:=dy.out;obtain⟨ip,iq,ir,iu,iv,iw⟩:=qD3 cw.out))
            rewrite[gw.out]
            go_roundg k1
            case measure=>have:=ao.out;omega
            case rel=>exact⟨(wrap64 (a1+1)),(ν),(.slice (some fu) ν.length ov),qR,H',⟨by have:=ao.out;omega⟩,⟨by(with_reducible repeat first|apply Kd.Qm|apply Kd.Ql|apply Kd.Qs);exact Kd.Qw (Kd.Qz (Kd.Qz (Kd.Qz (Kd.Qw χ.out (fun k_ hk=>(⟨hk,hk.2⟩:_∧k_≠cm))) (fun _ hk=>hk.2) (.int .i64 ((Qc ν a1).f0))) (fun _ hk=>hk.2) (.int .i64 ((Qc ν a1).f1))) (fun _ hk=>hk.2) (.int .i64 ((Qc ν a1).f2))) (fun _ hk=>trivial)⟩,⟨by(with_reducible repeat first|apply Kd.Qm|apply Kd.Ql|apply Kd.Qs);exact Kd.Qw (Kd.Qz (Kd.Qz (Kd.Qz (Kd.Q7 am.out cw.out (by decide)) (fun _ hk=>hk.2) (.int .i64 ((Qc ν a1).f0))) (fun _ hk=>hk.2) (.int .i64 ((Qc ν a1).f1))) (fun _ hk=>hk.2) (.int .i64 ((Qc ν a1).f2))) (fun _ hk=>trivial)⟩,⟨bka ε⟩,⟨bka B⟩,⟨bka ι⟩,⟨bka ψ⟩,⟨bel⟩,gw⟩
          ·rw[if_neg i6] at H
           exact absurd H (by simp)
         ·rw[if_neg de] at H
          have c40b0:decide (0≤((Qc ν a1).f2))=false:=decide_eq_false de
          clear de
          have H':=Aside0.mk H
          clear H
          have st:=ag.out
          have su:=af.out
          have sv:=ah.out
          have sw:=ae.out
          have sn:=aj.out
          have so:=ai.out
          obtain⟨n2,n3,na,nb⟩:=qD2 ψ.out
          obtain⟨tl,ox,oy⟩:=Kd.Q5 χ.out
          subst oy
          have e0:0≤(a1:Int):=of_decide_eq_true (by assumption)
          have e3:a1<(ν.length:Int):=of_decide_eq_true (by assumption)
          obtain⟨fu,ie,fv,fy,gf⟩:=Z9 (Kd.Qr χ.out).2.2 a1 e0 e3
          cases ie
          replace e0:=eq_true e0
          replace e3:=eq_true e3
          (try rewrite[← gw.out])
          go_wp2_with (first|((with_reducible refine Qf (N:=13) rfl ?_);refine qE 13 #[.int .i64 0,.int .i64 0,.int .i64 0] 36 ?_;intro cm hg u1 hbox hb;have cw:=Aside0.mk hbox;have ls:=sGe hg;have lu:=sGe hg;have dr:=sNl ε hg;have dt:=sNg ε hg;have du:=sNl B hg;have dv:=sNg B hg;have dw:=sNl ι hg;have dx:=sNg ι hg;have dy:=sNl ψ hg;have dz:=sNg ψ hg;replace χ :=Aside0.mk (Kd.Za (Kd.Yy χ.out cm (Nat.le_of_eq hg.symm)) hb);replace am:=sRb am hb;replace ε :=sBk ε hb;replace B:=sBk B hb;replace ι :=sBk ι hb;replace ψ :=sBk ψ hb;replace HB:=sHb hb;clear hb hbox hg;have sx:=dt.out;have sy:=dr.out;have lb:=dv.out;have lc:=du.out;have lg:=dx.out;have lh:=dw.out;have o1:=dz.out;have o2:=dy.out;obtain⟨jh,ji,jj,jk,jl,jm⟩:=qD3 cw.out))
          rewrite[gw.out]
          go_roundg k1
          case measure=>have:=ao.out;omega
          case rel=>exact⟨(wrap64 (a1+1)),(ν),(.slice (some fu) ν.length ox),qR,H',⟨by have:=ao.out;omega⟩,⟨by(with_reducible repeat first|apply Kd.Qm|apply Kd.Ql|apply Kd.Qs);exact Kd.Qw (Kd.Qz (Kd.Qz (Kd.Qz (Kd.Qw χ.out (fun k_ hk=>(⟨hk,hk.2⟩:_∧k_≠cm))) (fun _ hk=>hk.2) (.int .i64 ((Qc ν a1).f0))) (fun _ hk=>hk.2) (.int .i64 ((Qc ν a1).f1))) (fun _ hk=>hk.2) (.int .i64 ((Qc ν a1).f2))) (fun _ hk=>trivial)⟩,⟨by(with_reducible repeat first|apply Kd.Qm|apply Kd.Ql|apply Kd.Qs);exact Kd.Qw (Kd.Qz (Kd.Qz (Kd.Qz (Kd.Q7 am.out cw.out (by decide)) (fun _ hk=>hk.2) (.int .i64 ((Qc ν a1).f0))) (fun _ hk=>hk.2) (.int .i64 ((Qc ν a1).f1))) (fun _ hk=>hk.2) (.int .i64 ((Qc ν a1).f2))) (fun _ hk=>trivial)⟩,⟨bka ε⟩,⟨bka B⟩,⟨bka ι⟩,⟨bka ψ⟩,⟨bel⟩,gw⟩
        ·rw[if_neg gg] at H
         exact absurd H (by simp)
       ·rw[if_neg io] at H
        exact absurd H (by simp)
      ·rw[if_neg fa] at H
       have c37b0:decide (a1<(b2.length:Int))=false:=decide_eq_false fa
       clear fa
       have H':=Aside0.mk H
       clear H
       have t0:=ag.out
       have t1:=af.out
       have t2:=ah.out
       have t3:=ae.out
       have t4:=aj.out
       have t5:=ai.out
       obtain⟨m7,m8,m9,me⟩:=qD2 ψ.out
       obtain⟨i9,ia,iz⟩:=Kd.Q5 χ.out
       subst iz
       go_wp2
       go_loopg [61] k1 (fun kq rc w'=>∃ (a0:Int) (κ :List (S36)) (d1:Value),rc = .int .i64 a0∧Aside0 (group_Spread.l1 kq l1 a2 (ν.length:Int) a0 J O X Y Z δ γ θ η ζ κ bj=some (r1,r2,r3))∧Aside0 (kq≤k1)∧Aside0 (Kd.R k36 36 w' w.heap.size (fun _=>True) d1 κ)∧Aside0 (Kd.R k86 86 w' w.heap.size (fun _=>True) (.slice bo bj.length bn) bj)∧Aside0 (w'.heap[aa]?=some (.cells #[.int .i64 J,.int .i64 O,.int .i64 X,.int .i64 Y,.int .i64 Z,.int .i64 δ,.int .i64 γ,.int .i64 θ,.int .i64 η,.int .i64 ζ] 25 (0,0)))∧Aside0 (w'.heap[τ]?=some (.cells #[(.slice a5 φ.length a7),(.slice a8 ρ.length a9)] 50 (0,0)))∧Aside0 (w'.heap[ak]?=some (.cells #[(.slice none 0 0),(.slice none 0 0)] 50 (0,0)))∧Aside0 (w'.heap[ω]?=some (.cells #[d1,(.slice bo bj.length bn)] 50 (0,0)))∧Aside0 (Below w.heap.size w w')∧Aside0 (d1=(.slice i9 ν.length ia)))
       case atStart=>exact⟨(0),(ν),(.slice i9 ν.length ia),rfl,H',⟨Nat.le_refl _⟩,⟨by(with_reducible repeat first|apply Kd.Qm|apply Kd.Ql|apply Kd.Qs);exact χ.out⟩,⟨by(with_reducible repeat first|apply Kd.Qm|apply Kd.Ql|apply Kd.Qs);exact am.out⟩,ε,B,ι,ψ,HB,⟨rfl⟩⟩
       case round=>
        clear H'
        try clear p2
        try clear q2
        try clear qw
        try clear c3
        try clear c4
        try clear p4
        try clear q4
        try clear u2
        try clear qu
        try clear c5
        try clear qy
        try clear qv
        try clear c6
        try clear p6
        try clear c7
        try clear c8
        try clear u3
        try clear u4
        try clear tm
        try clear ol
        try clear ix
        try clear gq
        try clear fa
        try clear c37b0
        try clear io
        try clear c38b0
        try clear gg
        try clear c39b0
        try clear de
        try clear c40b0
        try clear i6
        try clear c41b0
        try clear c41b1
        try clear i7
        try clear c43b0
        try clear c43b1
        try clear qz
        try clear p44
        try clear k9
        try clear tn
        try clear tp
        try clear us
        try clear r0
        try clear gr
        try clear km
        try clear ha
        try clear i5
        try clear k6
        try clear k5
        try clear tq
        try clear tr
        try clear he
        try clear h9
        try clear yr
        try clear p64
        try clear yt
        try clear u5
        try clear nj
        try clear u6
        try clear k7
        try clear mc
        try clear yu
        try clear qp
        try clear u7
        try clear u9
        try clear ua
        try clear ub
        try clear uc
        try clear ud
        try clear fz
        try clear ga
        try clear fb
        try clear fc
        try clear gz
        try clear h0
        try clear iy
        try clear j7
        try clear jc
        try clear jd
        try clear m2
        try clear m3
        try clear j8
        try clear j9
        try clear ip
        try clear iq
        try clear ir
        try clear n2
        try clear n3
        try clear jh
        try clear ji
        try clear jj
        try clear m7
        try clear m8
        try clear gb
        try clear ge
        try clear fe
        try clear ff
        try clear h4
        try clear h5
        try clear j3
        try clear je
        try clear jf
        try clear jg
        try clear m5
        try clear m6
        try clear ja
        try clear jb
        try clear iu
        try clear iv
        try clear iw
        try clear na
        try clear nb
        try clear jk
        try clear jl
        try clear jm
        try clear m9
        try clear me
        try clear fv
        try clear fy
        try clear gf
        try clear mw
        try clear my
        try clear mz
        try clear ka
        try clear p2
        try clear e0
        try clear p44
        try clear e3
        try clear k9
        obtain⟨a0,κ,d1,rfl,HA,dq,χ,am,ε,B,ι,ψ,HB,ig⟩:=hrel
        cases gk with
        |zero=>exact absurd HA.out (by simp[group_Spread.l1])
        |succ k2=>
         have H:=HA.out
         clear HA
         simp only[group_Spread.l1] at H
         by_cases jp:a0<(ν.length:Int)
         ·rw[if_pos jp] at H
          have c88b0:decide (a0<(ν.length:Int))=true:=decide_eq_true jp
          clear jp
          by_cases lx:0≤a0
          ·rw[if_pos lx] at H
           have c89b0:decide (0≤a0)=true:=decide_eq_true lx
           clear lx
           by_cases ly:a0<(κ.length:Int)
           ·rw[if_pos ly] at H
            have c90b0:decide (a0<(κ.length:Int))=true:=decide_eq_true ly
            clear ly
            by_cases jq:((Qc κ a0).f2)<0
            ·rw[if_pos jq] at H
             have c91b0:decide (((Qc κ a0).f2)<0)=true:=decide_eq_true jq
             clear jq
             replace H:=Option.bind_eq_some_iff.mp H
             obtain⟨cn,ng,H⟩:=H
             replace H:(group_Spread.l1 k2 l1 a2 (ν.length:Int) (wrap64 (a0+1)) J O X Y Z δ γ θ η ζ (κ.set (a0:Int).toNat (⟨(Qc κ a0).f0,(Qc κ a0).f1,cn⟩:S36)) bj)=some (r1,r2,r3):=H
             have re:=Aside0.mk ng
             clear ng
             obtain⟨nh,gy⟩:∃ y_:List (S36),y_=(κ.set (a0:Int).toNat (⟨(Qc κ a0).f0,(Qc κ a0).f1,cn⟩:S36)):=⟨_,rfl⟩
             replace H:(group_Spread.l1 k2 l1 a2 (ν.length:Int) (wrap64 (a0+1)) J O X Y Z δ γ θ η ζ nh bj)=some (r1,r2,r3):=by first|(rw[gy];with_reducible exact H)|(have an:=(Option.bind_some _ _).symm.trans H;rw[gy];with_reducible exact an)|(have an:=(Option.bind_some _ _).symm.trans H;with_reducible exact an)|with_reducible exact H|(rw[gy];exact H)|exact H
             have oc:=Aside0.mk gy
             clear gy
             have H':=Aside0.mk H
             clear H
             have o3:=ag.out
             have o4:=af.out
             have t6:=ah.out
             have t7:=ae.out
             have t8:=aj.out
             have t9:=ai.out
             obtain⟨qo,qq,qs,qt⟩:=qD2 ψ.out
             obtain⟨ts,ih,oz⟩:=Kd.Q5 χ.out
             subst oz
             have em:0≤(a0:Int):=of_decide_eq_true (by assumption)
             have en:a0<(κ.length:Int):=of_decide_eq_true (by assumption)
             obtain⟨ay,ii,d8,d9,da⟩:=Z9 (Kd.Qr χ.out).2.2 a0 em en
             cases ii
             replace em:=eq_true em
             replace en:=eq_true en
             (try rewrite[← ig.out])
             try go_wp2_with (first|((with_reducible refine Qf (N:=15) rfl ?_);refine qE 15 #[.int .i64 0,.int .i64 0,.int .i64 0] 36 ?_;intro b1 hg m4 hbox hb;have bq:=Aside0.mk hbox;have od:=sGe hg;have oe:=sGe hg;have fk:=sNl ε hg;have fl:=sNg ε hg;have fm:=sNl B hg;have fn:=sNg B hg;have fo:=sNl ι hg;have fp:=sNg ι hg;have fq:=sNl ψ hg;have fr:=sNg ψ hg;replace χ :=Aside0.mk (Kd.Za (Kd.Yy χ.out b1 (Nat.le_of_eq hg.symm)) hb);replace am:=sRb am hb;replace ε :=sBk ε hb;replace B:=sBk B hb;replace ι :=sBk ι hb;replace ψ :=sBk ψ hb;replace HB:=sHb hb;clear hb hbox hg;have uu:=fl.out;have uv:=fk.out;have uw:=fn.out;have ux:=fm.out;have rf:=fp.out;have rh:=fo.out;have uy:=fr.out;have uz:=fq.out;obtain⟨ns,nt,p0,nu,nv,p1⟩:=qD3 bq.out))
             have μ :Aside0 (Kd.R k36 36 (((m4.setCell ⟨b1,0,none⟩ (.int .i64 ((Qc κ a0).f0))).setCell ⟨b1,1,none⟩ (.int .i64 ((Qc κ a0).f1))).setCell ⟨b1,2,none⟩ (.int .i64 ((Qc κ a0).f2))) w.heap.size (fun k_=>k_≠b1) (.slice (some ay) κ.length ih) κ):=⟨by(with_reducible repeat first|apply Kd.Qm|apply Kd.Ql|apply Kd.Qs);exact Kd.Qw (Kd.Qz (Kd.Qz (Kd.Qz (Kd.Qw χ.out (fun k_ hk=>(⟨hk,hk.2⟩:_∧k_≠b1))) (fun _ hk=>hk.2) (.int .i64 ((Qc κ a0).f0))) (fun _ hk=>hk.2) (.int .i64 ((Qc κ a0).f1))) (fun _ hk=>hk.2) (.int .i64 ((Qc κ a0).f2))) (fun _ hk=>hk.1.2)⟩
             have ξ :Aside0 (Kd.R k86 86 (((m4.setCell ⟨b1,0,none⟩ (.int .i64 ((Qc κ a0).f0))).setCell ⟨b1,1,none⟩ (.int .i64 ((Qc κ a0).f1))).setCell ⟨b1,2,none⟩ (.int .i64 ((Qc κ a0).f2))) w.heap.size (fun _=>True) (.slice bo bj.length bn) bj):=⟨by(with_reducible repeat first|apply Kd.Qm|apply Kd.Ql|apply Kd.Qs);exact Kd.Qw (Kd.Qz (Kd.Qz (Kd.Qz (Kd.Q7 am.out bq.out (by decide)) (fun _ hk=>hk.2) (.int .i64 ((Qc κ a0).f0))) (fun _ hk=>hk.2) (.int .i64 ((Qc κ a0).f1))) (fun _ hk=>hk.2) (.int .i64 ((Qc κ a0).f2))) (fun _ hk=>trivial)⟩
             have a3:Aside0 ((((m4.setCell ⟨b1,0,none⟩ (.int .i64 ((Qc κ a0).f0))).setCell ⟨b1,1,none⟩ (.int .i64 ((Qc κ a0).f1))).setCell ⟨b1,2,none⟩ (.int .i64 ((Qc κ a0).f2))).heap[aa]?=some (.cells #[.int .i64 J,.int .i64 O,.int .i64 X,.int .i64 Y,.int .i64 Z,.int .i64 δ,.int .i64 γ,.int .i64 θ,.int .i64 η,.int .i64 ζ] 25 (0,0))):=⟨bka ε⟩
             have a4:Aside0 ((((m4.setCell ⟨b1,0,none⟩ (.int .i64 ((Qc κ a0).f0))).setCell ⟨b1,1,none⟩ (.int .i64 ((Qc κ a0).f1))).setCell ⟨b1,2,none⟩ (.int .i64 ((Qc κ a0).f2))).heap[τ]?=some (.cells #[.slice a5 φ.length a7,.slice a8 ρ.length a9] 50 (0,0))):=⟨bka B⟩
             have al:Aside0 ((((m4.setCell ⟨b1,0,none⟩ (.int .i64 ((Qc κ a0).f0))).setCell ⟨b1,1,none⟩ (.int .i64 ((Qc κ a0).f1))).setCell ⟨b1,2,none⟩ (.int .i64 ((Qc κ a0).f2))).heap[ak]?=some (.cells #[.slice none 0 0,.slice none 0 0] 50 (0,0))):=⟨bka ι⟩
             have az:Aside0 ((((m4.setCell ⟨b1,0,none⟩ (.int .i64 ((Qc κ a0).f0))).setCell ⟨b1,1,none⟩ (.int .i64 ((Qc κ a0).f1))).setCell ⟨b1,2,none⟩ (.int .i64 ((Qc κ a0).f2))).heap[ω]?=some (.cells #[.slice (some ay) κ.length ih,.slice bo bj.length bn] 50 (0,0))):=⟨bka ψ⟩
             have b3:Aside0 ((((m4.setCell ⟨b1,0,none⟩ (.int .i64 ((Qc κ a0).f0))).setCell ⟨b1,1,none⟩ (.int .i64 ((Qc κ a0).f1))).setCell ⟨b1,2,none⟩ (.int .i64 ((Qc κ a0).f2))).heap[b1]?=some (.cells #[.int .i64 ((Qc κ a0).f0),.int .i64 ((Qc κ a0).f1),.int .i64 ((Qc κ a0).f2)] 36 (0,0))):=⟨by refine Qq (cs:=#[.int .i64 ((Qc κ a0).f0),.int .i64 ((Qc κ a0).f1),.int .i64 0]) ?_ 2 _ rfl;refine Qq (cs:=#[.int .i64 ((Qc κ a0).f0),.int .i64 0,.int .i64 0]) ?_ 1 _ rfl;refine Qq (cs:=#[.int .i64 0,.int .i64 0,.int .i64 0]) ?_ 0 _ rfl;exact bq.out⟩
             have bb:Aside0 (Below w.heap.size w (((m4.setCell ⟨b1,0,none⟩ (.int .i64 ((Qc κ a0).f0))).setCell ⟨b1,1,none⟩ (.int .i64 ((Qc κ a0).f1))).setCell ⟨b1,2,none⟩ (.int .i64 ((Qc κ a0).f2)))):=⟨bel⟩
             (try clear χ)
             (try clear am)
             (try clear ε)
             (try clear B)
             (try clear ι)
             (try clear ψ)
             (try clear bq)
             (try clear HB)
             generalize(((m4.setCell ⟨b1,0,none⟩ (.int .i64 ((Qc κ a0).f0))).setCell ⟨b1,1,none⟩ (.int .i64 ((Qc κ a0).f1))).setCell ⟨b1,2,none⟩ (.int .i64 ((Qc κ a0).f2)))=v0 at μ ξ a3 a4 al az b3 bb ⊢
             have χ := μ
             have am:= ξ
             have ε :=a3
             have B:=a4
             have ι :=al
             have ψ :=az
             have bq:=b3
             have HB:=bb
             clear μ ξ a3 a4 al az b3 bb
             replace χ :=Aside0.mk (Kd.Qs χ.out)
             replace am:=Aside0.mk (Kd.Qs am.out)
             replace ε :=Aside0.mk (Qe ε.out)
             replace B:=Aside0.mk (Qe B.out)
             replace ι :=Aside0.mk (Qe ι.out)
             replace ψ :=Aside0.mk (Qe ψ.out)
             replace bq:=Aside0.mk (Qe bq.out)
             replace HB:=Aside0.mk (Qg HB.out)
             refine Zh (n:=12) (S:=fun w'=>w'.cell? ⟨ω,0,none⟩=some (.slice (some ay) κ.length ih)∧w'.cell? ⟨ω,1,none⟩=some (.slice bo bj.length bn)∧w'.cell? ⟨aa,0,none⟩=some (.int .i64 J)∧w'.cell? ⟨aa,1,none⟩=some (.int .i64 O)∧w'.cell? ⟨aa,2,none⟩=some (.int .i64 X)∧w'.cell? ⟨aa,3,none⟩=some (.int .i64 Y)∧w'.cell? ⟨aa,4,none⟩=some (.int .i64 Z)∧w'.cell? ⟨aa,5,none⟩=some (.int .i64 δ)∧w'.cell? ⟨aa,6,none⟩=some (.int .i64 γ)∧w'.cell? ⟨aa,7,none⟩=some (.int .i64 θ)∧w'.cell? ⟨aa,8,none⟩=some (.int .i64 η)∧w'.cell? ⟨aa,9,none⟩=some (.int .i64 ζ)∧w'.cell? ⟨b1,0,none⟩=some (.int .i64 ((Qc κ a0).f0))∧w'.cell? ⟨b1,1,none⟩=some (.int .i64 ((Qc κ a0).f1))∧w'.cell? ⟨b1,2,none⟩=some (.int .i64 ((Qc κ a0).f2))) (ds:=[11]) #[false,false,false,false,false,false,false,false,false,false,false,false] kr rfl rfl ⟨(Qa ψ.out 0).trans rfl,(Qa ψ.out 1).trans rfl,(Qa ε.out 0).trans rfl,(Qa ε.out 1).trans rfl,(Qa ε.out 2).trans rfl,(Qa ε.out 3).trans rfl,(Qa ε.out 4).trans rfl,(Qa ε.out 5).trans rfl,(Qa ε.out 6).trans rfl,(Qa ε.out 7).trans rfl,(Qa ε.out 8).trans rfl,(Qa ε.out 9).trans rfl,(Qa bq.out 0).trans rfl,(Qa bq.out 1).trans rfl,(Qa bq.out 2).trans rfl⟩ (fun hHeld=>?_);refine Q8 group_Spread.tab15 group_Spread.Dw (fun HT_ HW_=>?_)
             generalize v0.drew=tt at χ am ε B ι ψ bq HB hHeld ⊢
             refine qP 0 (some 69) (bN 12 1) HT_ ?_
             refine qP 2 (some 71) (bN 12 5) HT_ ?_
             refine qP 4 (some 73) (bN 12 21) HT_ ?_
             refine qP 5 (some 74) (bN 12 53) HT_ ?_
             refine qT 1 (some 70) (bN 12 55) HT_ HW_ hHeld ?_
             refine qT 3 (some 72) (bN 12 63) HT_ HW_ hHeld ?_
             refine qT 6 (some 75) (bN 12 127) HT_ HW_ hHeld ?_
             refine qT 7 (some 76) (bN 12 255) HT_ HW_ hHeld ?_
             refine qK 8 (some 77) (bN 12 511) HT_ fun K hK=>?_
             refine Q9 Try.func38 kr rfl #[.agg #[.int .i64 J,.int .i64 O,.int .i64 X,.int .i64 Y,.int .i64 Z,.int .i64 δ,.int .i64 γ,.int .i64 θ,.int .i64 η,.int .i64 ζ],.slice A1 l1.length c1,.int .i64 a2,.agg #[.slice (some ay) κ.length ih,.slice bo bj.length bn],.agg #[.int .i64 ((Qc κ a0).f0),.int .i64 ((Qc κ a0).f1),.int .i64 ((Qc κ a0).f2)]] (by rfl) rfl rfl qM ?_
             with_reducible refine(group_pick.calls k2 J O X Y Z δ γ θ η ζ _ _ l1 a2 _ _ κ _ _ bj ((Qc κ a0).f0) ((Qc κ a0).f1) ((Qc κ a0).f2) cn _ ?side1 ?side2 ?side3 ?side4 ?side5 ?side6 re.out).mono ?_
             (case side1=>exact(Kd.Qv cu.out HB.out))
             (case side2=>exact d4.out)
             (case side3=>exact(Kd.Qr χ.out).2.2)
             (case side4=>exact(Kd.Qr χ.out).2.1)
             (case side5=>exact(Kd.Qr am.out).2.2)
             (case side6=>exact(Kd.Qr am.out).2.1)
             rintro e ez ⟨rfl,hb⟩
             refine⟨_,rfl, ?_⟩
             replace χ :=sRb χ hb
             replace am:=sRb am hb
             replace ε :=sBk ε hb
             replace B:=sBk B hb
             replace ι :=sBk ι hb
             replace ψ :=sBk ψ hb
             replace bq:=sBk bq hb
             replace HB:=sHb hb
             (try clear hb)
             (try clear a6)
             (try clear hk)
             (try clear hi)
             have nm:0≤(a0:Int):=of_decide_eq_true (by assumption)
             have nn:(a0:Int)<((κ.length:Int):Int):=of_decide_eq_true (by assumption)
             obtain⟨ft,nc,nw,no,p5,tu,np⟩:=Kd.Ui χ.out (by omega)
             (first|cases nw|(injection nw with ea_ en_ ec_;(first|subst ea_|(injection ea_ with ea_;subst ea_));subst ec_;clear en_))
             have tv:=Aside0.mk no
             have p7:=Aside0.mk np
             clear no p5 np
             (first|simp only[add_plain] at d8|skip)
             (first|simp only[add_plain] at d9|skip)
             (first|simp only[add_plain] at da|skip)
             obtain⟨tw,oh,nq,i0,i1⟩:=Kd.Jr χ.out z36 (a0:Int) nm nn
             obtain rfl:=Ya nq
             have ri:World.cell? _ ⟨ft,(a0:Int).toNat * 3,none⟩=some (.int .i64 ((Qc κ a0).f0)):=i0 0 _ rfl
             have rj:World.cell? _ ⟨ft,(a0:Int).toNat * 3+1,none⟩=some (.int .i64 ((Qc κ a0).f1)):=i0 1 _ rfl
             have rk:World.cell? _ ⟨ft,(a0:Int).toNat * 3+2,none⟩=some (.int .i64 ((Qc κ a0).f2)):=i0 2 _ rfl
             have rl:World.frozen? _ ⟨ft,(a0:Int).toNat * 3,none⟩=false:=i1 0
             have rm:World.frozen? _ ⟨ft,(a0:Int).toNat * 3+1,none⟩=false:=i1 1
             have rn:World.frozen? _ ⟨ft,(a0:Int).toNat * 3+2,none⟩=false:=i1 2
             clear oh i0 i1 nq
             replace nm:=eq_true nm
             replace nn:=eq_true nn
             (try rewrite[← ig.out])
             obtain⟨ta,kb,lz,kc,nr⟩:=Kd.Jr χ.out z36 (a0:Int) (of_decide_eq_true (by assumption)) (by have h_:(a0:Int)<((κ.length:Int):Int):=of_decide_eq_true (by assumption);first|exact h_|(have e_:=(Kd.Qr χ.out).1;omega)|simpa using h_)
             obtain rfl:=Ya lz
             have k4:=(Kd.Lm χ.out (a0:Int) (of_decide_eq_true (by assumption)) (by have h_:(a0:Int)<((κ.length:Int):Int):=of_decide_eq_true (by assumption);first|exact h_|(have e_:=(Kd.Qr χ.out).1;omega)|simpa using h_) (seg:=[.int .i64 cn]) (j:=2) kb kc (show 3≤3 from by decide) (x':=(⟨(Qc κ a0).f0,(Qc κ a0).f1,cn⟩:S36)) (Kw _ _ _ (⟨(Qc κ a0).f0,(Qc κ a0).f1,cn⟩:S36)) (fun _ hk=>hk)).1
             rw[← oc.out] at k4
             have oi:=Aside0.mk k4
             clear kb kc nr lz k4
             refine hK.out _ _ ⟨qc ψ,qc ψ,qc ε,qc ε,qc ε,qc ε,qc ε,qc ε,qc ε,qc ε,qc ε,qc ε,qc bq,qc bq,qc bq⟩ (fun hHeld=>?_)
             clear hK K
             refine qN (some 77) ?_
             refine qP 9 (some 78) (bN 12 1023) HT_ ?_
             refine qP 10 (some 79) (bN 12 2047) HT_ ?_
             refine last_ (i:=11) (N:=none) #[true,true,true,true,true,true,true,true,true,true,true,true] rfl rfl (M9 HT_.out kr) (by decide) (fun K hK=>?_)
             refine Kq (w1:=?_) (by rfl) rfl ?_ ?_
             rotate_left
             ·go_simp
              rfl
             refine hK.out _ _ ?_
             clear hK K
             refine Z2 (Zf HT_.out kr) ?_
             try go_wp2
             rewrite[ig.out]
             go_roundg k2
             case measure=>have:=ao.out;have:=dq.out;omega
             case rel=>exact⟨(wrap64 (a0+1)),(nh),(.slice (some ⟨ft,0,none⟩) κ.length ih),qR,H',⟨by have:=ao.out;have:=dq.out;omega⟩,⟨by(with_reducible repeat first|apply Kd.Qm|apply Kd.Ql|apply Kd.Qs);exact Kd.Qw oi.out (fun _ hk=>trivial)⟩,⟨by(with_reducible repeat first|apply Kd.Qm|apply Kd.Ql|apply Kd.Qs);exact Kd.Qw (Kd.Qz (p:=⟨ft,(a0:Int).toNat * 3+2,none⟩) (Kd.Q7 am.out p7.out (by decide)) (fun _ hk=>hk.2) (.int .i64 cn)) (fun _ hk=>trivial)⟩,⟨by(with_reducible repeat first|refine Qn ?_ _|refine Qe ?_|refine Qo ?_ _);refine X4 ?_ (by have h_:=Kd.Z4 χ.out ε.out (by decide);intro e_;exact h_ (by rw[e_];rfl)) _;(with_reducible repeat first|refine Qn ?_ _|refine Qe ?_|refine Qo ?_ _);exact ε.out⟩,⟨by(with_reducible repeat first|refine Qn ?_ _|refine Qe ?_|refine Qo ?_ _);refine X4 ?_ (by have h_:=Kd.Z4 χ.out B.out (by decide);intro e_;exact h_ (by rw[e_];rfl)) _;(with_reducible repeat first|refine Qn ?_ _|refine Qe ?_|refine Qo ?_ _);exact B.out⟩,⟨by(with_reducible repeat first|refine Qn ?_ _|refine Qe ?_|refine Qo ?_ _);refine X4 ?_ (by have h_:=Kd.Z4 χ.out ι.out (by decide);intro e_;exact h_ (by rw[e_];rfl)) _;(with_reducible repeat first|refine Qn ?_ _|refine Qe ?_|refine Qo ?_ _);exact ι.out⟩,⟨by(with_reducible repeat first|refine Qn ?_ _|refine Qe ?_|refine Qo ?_ _);refine X4 ?_ (by have h_:=Kd.Z4 χ.out ψ.out (by decide);intro e_;exact h_ (by rw[e_];rfl)) _;(with_reducible repeat first|refine Qn ?_ _|refine Qe ?_|refine Qo ?_ _);exact ψ.out⟩,⟨bel⟩,ig⟩
            ·rw[if_neg jq] at H
             have c91b0:decide (((Qc κ a0).f2)<0)=false:=decide_eq_false jq
             clear jq
             have H':=Aside0.mk H
             clear H
             have rp:=ag.out
             have rq:=af.out
             have rr:=ah.out
             have rs:=ae.out
             have rt:=aj.out
             have ru:=ai.out
             obtain⟨kd,ke,kf,kg⟩:=qD2 ψ.out
             obtain⟨hj,h7,h8⟩:=Kd.Q5 χ.out
             subst h8
             have em:0≤(a0:Int):=of_decide_eq_true (by assumption)
             have en:a0<(κ.length:Int):=of_decide_eq_true (by assumption)
             obtain⟨ay,ii,d8,d9,da⟩:=Z9 (Kd.Qr χ.out).2.2 a0 em en
             cases ii
             replace em:=eq_true em
             replace en:=eq_true en
             (try rewrite[← ig.out])
             go_wp2_with (first|((with_reducible refine Qf (N:=15) rfl ?_);refine qE 15 #[.int .i64 0,.int .i64 0,.int .i64 0] 36 ?_;intro b1 hg ut hbox hb;have bq:=Aside0.mk hbox;have od:=sGe hg;have oe:=sGe hg;have fk:=sNl ε hg;have fl:=sNg ε hg;have fm:=sNl B hg;have fn:=sNg B hg;have fo:=sNl ι hg;have fp:=sNg ι hg;have fq:=sNl ψ hg;have fr:=sNg ψ hg;replace χ :=Aside0.mk (Kd.Za (Kd.Yy χ.out b1 (Nat.le_of_eq hg.symm)) hb);replace am:=sRb am hb;replace ε :=sBk ε hb;replace B:=sBk B hb;replace ι :=sBk ι hb;replace ψ :=sBk ψ hb;replace HB:=sHb hb;clear hb hbox hg;have rv:=fl.out;have rx:=fk.out;have ry:=fn.out;have rz:=fm.out;have mf:=fp.out;have mg:=fo.out;have mh:=fr.out;have mi:=fq.out;obtain⟨kh,ki,p8,kj,kk,p9⟩:=qD3 bq.out))
             rewrite[ig.out]
             go_roundg k2
             case measure=>have:=ao.out;have:=dq.out;omega
             case rel=>exact⟨(wrap64 (a0+1)),(κ),(.slice (some ay) κ.length h7),qR,H',⟨by have:=ao.out;have:=dq.out;omega⟩,⟨by(with_reducible repeat first|apply Kd.Qm|apply Kd.Ql|apply Kd.Qs);exact Kd.Qw (Kd.Qz (Kd.Qz (Kd.Qz (Kd.Qw χ.out (fun k_ hk=>(⟨hk,hk.2⟩:_∧k_≠b1))) (fun _ hk=>hk.2) (.int .i64 ((Qc κ a0).f0))) (fun _ hk=>hk.2) (.int .i64 ((Qc κ a0).f1))) (fun _ hk=>hk.2) (.int .i64 ((Qc κ a0).f2))) (fun _ hk=>trivial)⟩,⟨by(with_reducible repeat first|apply Kd.Qm|apply Kd.Ql|apply Kd.Qs);exact Kd.Qw (Kd.Qz (Kd.Qz (Kd.Qz (Kd.Q7 am.out bq.out (by decide)) (fun _ hk=>hk.2) (.int .i64 ((Qc κ a0).f0))) (fun _ hk=>hk.2) (.int .i64 ((Qc κ a0).f1))) (fun _ hk=>hk.2) (.int .i64 ((Qc κ a0).f2))) (fun _ hk=>trivial)⟩,⟨bka ε⟩,⟨bka B⟩,⟨bka ι⟩,⟨bka ψ⟩,⟨bel⟩,ig⟩
           ·rw[if_neg ly] at H
            exact absurd H (by simp)
          ·rw[if_neg lx] at H
           exact absurd H (by simp)
         ·rw[if_neg jp] at H
          have c88b0:decide (a0<(ν.length:Int))=false:=decide_eq_false jp
          clear jp
          simp only[Option.some.injEq,Prod.mk.injEq] at H
          obtain⟨rfl,rfl,rfl⟩:=H
          have mm:=ag.out
          have mo:=af.out
          have s0:=ah.out
          have s1:=ae.out
          have s2:=aj.out
          have s3:=ai.out
          obtain⟨kl,ko,kp,ks⟩:=qD2 ψ.out
          obtain⟨m0,m1,oj⟩:=Kd.Q5 χ.out
          subst oj
          have s4:=er.out
          have s5:=ep.out
          have s6:=eu.out
          have s7:=et.out
          obtain⟨pa,pb,pc,pd⟩:=qD2 ι.out
          go_wp2
          refine bodyPost_ret (Z8 rfl _ _ ak 50 #[.slice m0 κ.length m1,.slice bo bj.length bn] (0,0) _ rfl (by refine Qq (cs:=#[.slice m0 κ.length m1,.slice none 0 0]) ?_ 1 _ rfl;refine Qq (cs:=#[.slice none 0 0,.slice none 0 0]) ?_ 0 _ rfl;exact ι.out) Try.underlying50 rfl kr) rfl ?_
          exact⟨_,_,by first|rfl|(simp[Qk,Qj] <;> rfl)|(simp[*,Qk,Qj] <;> rfl),by(with_reducible repeat first|apply Kd.Qm|apply Kd.Ql|apply Kd.Qs);exact Kd.Qw (Kd.Qz (Kd.Qz (Kd.Q7 χ.out ι.out (by decide)) (fun _ hk=>hk.2) _) (fun _ hk=>hk.2) _) (fun _ hk=>trivial),by(with_reducible repeat first|apply Kd.Qm|apply Kd.Ql|apply Kd.Qs);exact Kd.Qw (Kd.Qz (Kd.Qz (Kd.Q7 am.out ι.out (by decide)) (fun _ hk=>hk.2) _) (fun _ hk=>hk.2) _) (fun _ hk=>trivial),bel⟩
   ·rw[if_neg c8] at H
    exact absurd H (by simp)
  ·rw[if_neg c7] at H
   exact absurd H (by simp)
 ·rw[if_neg c6] at H
  have c6b0:(aw==0)=false:=beq_eq_false_iff_ne.mpr c6
  have c6b1:(aw != 0)=true:=bne_iff_ne.mpr c6
  simp only[Option.some.injEq,Prod.mk.injEq] at H
  obtain⟨rfl,rfl,rfl⟩:=H
  go_enter Try.func21,Try.ntmps21
  go_wp2_with (first|((with_reducible refine Qf (N:=4) rfl ?_);refine qE 4 #[.int .i64 J,.int .i64 O,.int .i64 X,.int .i64 Y,.int .i64 Z,.int .i64 δ,.int .i64 γ,.int .i64 θ,.int .i64 η,.int .i64 ζ] 25 ?_;intro aa hg tx hbox hb;have ε :=Aside0.mk hbox;have l2:=sGe hg;have jr:=sGe hg;replace HB:=sHb hb;clear hb hbox hg)|((with_reducible refine Qf (N:=7) rfl ?_);refine qE 7 #[.slice a5 φ.length a7,.slice a8 ρ.length a9] 50 ?_;intro τ hg ty hbox hb;have B:=Aside0.mk hbox;have o5:=sGe hg;have o6:=sGe hg;have fg:=sNl ε hg;have fh:=sNg ε hg;replace ε :=sBk ε hb;replace HB:=sHb hb;clear hb hbox hg)|((with_reducible refine Qf (N:=8) rfl ?_);refine qE 8 #[.slice none 0 0,.slice none 0 0] 50 ?_;intro ak hg tz hbox hb;have ι :=Aside0.mk hbox;have o7:=sGe hg;have o8:=sGe hg;have ep:=sNl ε hg;have er:=sNg ε hg;have et:=sNl B hg;have eu:=sNg B hg;replace ε :=sBk ε hb;replace B:=sBk B hb;replace HB:=sHb hb;clear hb hbox hg;have s8:=fg.out;have s9:=fh.out;have sa:=ep.out;have sb:=er.out;obtain⟨pe,pf,pg,pi,pj,pk,pm,pn,po,pp,pq,pr,pt,pu,pv,pw,px,py,pz,q0⟩:=Zl ε.out;have sc:=et.out;have sd:=eu.out;obtain⟨q1,q3,q5,q6⟩:=qD2 B.out)|((with_reducible refine Qp (f:=17) rfl ?_);refine Q4 (some 19) rfl rfl Try.func17 kr rfl #[.agg #[.int .i64 J,.int .i64 O,.int .i64 X,.int .i64 Y,.int .i64 Z,.int .i64 δ,.int .i64 γ,.int .i64 θ,.int .i64 η,.int .i64 ζ],.slice A1 l1.length c1,.agg #[.slice a5 φ.length a7,.slice a8 ρ.length a9]] rfl qM ?_;(with_reducible refine(group_Check.calls k J O X Y Z δ γ θ η ζ _ _ l1 _ _ φ _ _ ρ aw _ ?side1 ?side2 ?side3 ?side4 ?side5 ?side6 A5.out).mono ?_);(case side1=>exact(Kd.Qv cu.out HB.out));(case side2=>exact d4.out);(case side3=>exact(Kd.Qv bu.out HB.out));(case side4=>exact cq.out);(case side5=>exact(Kd.Qv cf.out HB.out));(case side6=>exact cr.out);rintro e u0 ⟨rfl,hb⟩;refine⟨_,rfl, ?_⟩;replace ε :=sBk ε hb;replace B:=sBk B hb;replace ι :=sBk ι hb;replace HB:=sHb hb;(try clear hb);(try clear a6);(try clear hk);(try clear hi);obtain⟨q7,q8,q9,qa⟩:=qD2 ι.out))
  refine bodyPost_ret (Z8 rfl _ _ ak 50 #[.slice none 0 0,.slice none 0 0] (0,0) _ rfl (by refine Qq (cs:=#[.slice none 0 0,.slice none 0 0]) ?_ 1 _ rfl;refine Qq (cs:=#[.slice none 0 0,.slice none 0 0]) ?_ 0 _ rfl;exact ι.out) Try.underlying50 rfl kr) rfl ?_
  exact⟨_,_,by first|rfl|(simp[Qk,Qj] <;> rfl)|(simp[*,Qk,Qj] <;> rfl),by first|exact Kd.Xx _ _ _ _ _|exact Kd.Y0 _ _ _ _ _|exact Kd.Yw _ _ _ _ _|exact Kd.Yz _ _ _ _ _|exact Kd.Yx _ _ _ _ _,by first|exact Kd.Xx _ _ _ _ _|exact Kd.Y0 _ _ _ _ _|exact Kd.Yw _ _ _ _ _|exact Kd.Yz _ _ _ _ _|exact Kd.Yx _ _ _ _ _,bel⟩
end Go.Proofs.Ytmfffemidlhcpaa.C
