/- Texts of this claim, one behind the other: what the law's functions come to, walked (printed by a program, with the words that the print uses), and what that is, in plain Lean. No conditions of their own. -/
import Derived.Test.YtmfffemidlhcpaaQGroupBounds7
import Derived.WalkMore
namespace Go.Proofs.Ytmfffemidlhcpaa.C
open Go.RowKit Go.Proofs.YtmfffemidlhcpaaW.PrintWords Go.Proofs.YtmfffemidlhcpaaW.PrintLast Go.Proofs.YtmfffemidlhcpaaW.PrintMore
attribute [local go_sem] Zx Zv Z8 Z7 Zl Zk Zw Zu
set_option linter.unusedVariables false
set_option linter.unusedSimpArgs false
def group_pick.l0:Nat→Int→Int→Int→Int→Int→Int→Int→Int→Int→Int→Int→Int→Int→Int→List (S31)→List (S36)→List (S86)→Int→Int→Int→Option (Int)
 |0,_,_,_,_,_,_,_,_,_,_,_,_,_,_,_,_,_,_,_,_=>none
 |k+1,Y,σ,ρ,B,J,L,O,X,Z,γ,δ,ε,ζ,η,θ,ι,κ,μ,ν,ξ =>if B<ρ then (if 0≤B then (if (Go.bits .and .i64 (shr .i64 Y B) 1)=1 then (group_pick.l0 k Y σ ρ (wrap64 (B+1)) J L O X Z γ δ ε ζ η θ ι κ μ ν ξ) else (if σ<0 then (group_pick.l0 k Y B ρ (wrap64 (B+1)) J L O X Z γ δ ε ζ η θ ι κ μ ν ξ) else ((group_pick_1.f k B J L O X Z γ δ ε ζ η θ ι κ μ ν ξ).bind fun ai=>((group_pick_1.f k σ J L O X Z γ δ ε ζ η θ ι κ μ ν ξ).bind fun χ =>(if ai < χ then (group_pick.l0 k Y B ρ (wrap64 (B+1)) J L O X Z γ δ ε ζ η θ ι κ μ ν ξ) else (group_pick.l0 k Y σ ρ (wrap64 (B+1)) J L O X Z γ δ ε ζ η θ ι κ μ ν ξ)))))) else (none)) else (some σ)
def group_pick.f (k:Nat) (J:Int) (B:Int) (L:Int) (O:Int) (X:Int) (δ :Int) (γ:Int) (θ :Int) (η :Int) (ζ :Int) (l1:List (S31)) (a2:Int) (τ :List (S36)) (ρ:List (S86)) (a8:Int) (aa:Int) (ab:Int):Option (Int):=group_pick.l0 k a2 (-1) (l1.length:Int) 0 J B L O X δ γ θ η ζ l1 τ ρ a8 aa ab
theorem group_pick.Zi:∀ k,(∀ L O X B Y Z y6 y7 y8 y9 γ ε ζ η θ ι κ δ μ ν,LeO (group_pick.l0 k L O X B Y Z y6 y7 y8 y9 γ ε ζ η θ ι κ δ μ ν) (group_pick.l0 (k+1) L O X B Y Z y6 y7 y8 y9 γ ε ζ η θ ι κ δ μ ν))
 |0=>fun _ _ _ _ _ _ _ _ _ _ _ _ _ _ _ _ _ _ _ _ r h=>by simp[group_pick.l0] at h
 |k+1=>by
  have J:=group_pick.Zi k
  ·intro L O X B Y Z y6 y7 y8 y9 γ ε ζ η θ ι κ δ μ ν
   unfold group_pick.l0
   repeat' first
   |(with_reducible exact J _ _ _ _ _ _ _ _ _ _ _ _ _ _ _ _ _ _ _ _)
   |(with_reducible exact group_pick_1.mono _ _ _ _ _ _ _ _ _ _ _ _ _ _ _ _ _ _)
   |(with_reducible exact LeO.refl _)
   |(with_reducible exact LeO.none _)
   |(with_reducible refine LeO.ite ?_ ?_)
   |(with_reducible refine LeO.bind ?_ (fun _=>?_))
   |exact J _ _ _ _ _ _ _ _ _ _ _ _ _ _ _ _ _ _ _ _
   |exact group_pick_1.mono _ _ _ _ _ _ _ _ _ _ _ _ _ _ _ _ _ _
   |exact LeO.none _
   |refine LeO.ite ?_ ?_
   |refine LeO.bind ?_ (fun _=>?_)
theorem group_pick.mono:∀ B O a2 a3 L a5 X a7 a8 a9 Y Z γ ε δ ζ η k,LeO (group_pick.f k B O a2 a3 L a5 X a7 a8 a9 Y Z γ ε δ ζ η) (group_pick.f (k+1) B O a2 a3 L a5 X a7 a8 a9 Y Z γ ε δ ζ η):=by
 intro B O a2 a3 L a5 X a7 a8 a9 Y Z γ ε δ ζ η k
 have J:=group_pick.Zi k
 unfold group_pick.f
 repeat' first
   |(with_reducible exact J _ _ _ _ _ _ _ _ _ _ _ _ _ _ _ _ _ _ _ _)
   |(with_reducible exact group_pick_1.mono _ _ _ _ _ _ _ _ _ _ _ _ _ _ _ _ _ _)
   |(with_reducible exact LeO.refl _)
   |(with_reducible exact LeO.none _)
   |(with_reducible refine LeO.ite ?_ ?_)
   |(with_reducible refine LeO.bind ?_ (fun _=>?_))
   |exact J _ _ _ _ _ _ _ _ _ _ _ _ _ _ _ _ _ _ _ _
   |exact group_pick_1.mono _ _ _ _ _ _ _ _ _ _ _ _ _ _ _ _ _ _
   |exact LeO.none _
   |refine LeO.ite ?_ ?_
   |refine LeO.bind ?_ (fun _=>?_)
set_option maxHeartbeats 8000000 in
set_option maxRecDepth 100000 in
theorem group_pick.calls (k:Nat) (J:Int) (B:Int) (L:Int) (O:Int) (X:Int) (δ :Int) (γ:Int) (θ :Int) (η :Int) (ζ :Int) (A1:Option Addr) (c1:Nat) (l1:List (S31)) (a2:Int) (a3:Option Addr) (a4:Nat) (τ :List (S36)) (a5:Option Addr) (a6:Nat) (ρ:List (S86)) (a8:Int) (aa:Int) (ab:Int) (r:Int) (w:World) (dt:Kd.C k31 w A1 l1.length l1) (dl:l1.length≤c1) (dn:Kd.C k36 w a3 τ.length τ) (dp: τ.length≤a4) (dq:Kd.C k86 w a5 ρ.length ρ) (dr:ρ.length≤a6) (h:group_pick.f k J B L O X δ γ θ η ζ l1 a2 τ ρ a8 aa ab=some r):
  Calls Try.prog 38 #[.agg #[.int .i64 J,.int .i64 B,.int .i64 L,.int .i64 O,.int .i64 X,.int .i64 δ,.int .i64 γ,.int .i64 θ,.int .i64 η,.int .i64 ζ],.slice A1 l1.length c1,.int .i64 a2,.agg #[.slice a3 τ.length a4,.slice a5 ρ.length a6],.agg #[.int .i64 a8,.int .i64 aa,.int .i64 ab]] w fun e w'=>e = .returned (.int .i64 r)∧Below w.heap.size w w':=by
 have db:=Try.underlying25
 have fe:=Try.underlying50
 have d9:=Try.underlying36
 have de:=Aside0.mk dt
 have dw:=Aside0.mk dl
 clear dt dl
 have bk:=Aside0.mk dn
 have cd:=Aside0.mk dp
 clear dn dp
 have bz:=Aside0.mk dq
 have ce:=Aside0.mk dr
 clear dq dr
 have HB:=Aside0.mk (Below.refl w.heap.size w)
 have H:(group_pick.l0 k a2 (-1) (l1.length:Int) 0 J B L O X δ γ θ η ζ l1 τ ρ a8 aa ab)=some r:=h
 clear h
 have H':=Aside0.mk H
 clear H
 go_enter Try.func38,Try.ntmps38
 go_wp2_with (first|((with_reducible refine Qe (N:=5) rfl ?_);refine qE 5 #[.int .i64 J,.int .i64 B,.int .i64 L,.int .i64 O,.int .i64 X,.int .i64 δ,.int .i64 γ,.int .i64 θ,.int .i64 η,.int .i64 ζ] 25 ?_;intro κ hg w6 hbox hb;have Y:=Aside0.mk hbox;have h0:=sGe hg;have h4:=sGe hg;replace HB:=sHb hb;clear hb hbox hg)|((with_reducible refine Qe (N:=6) rfl ?_);refine qE 6 #[.slice A1 l1.length c1] 46 ?_;intro ψ hg w7 hbox hb;have Z:=Aside0.mk hbox;have gx:=sGe hg;have gy:=sGe hg;have aj:=sNl Y hg;have ak:=sNg Y hg;replace Y:=sBk Y hb;replace HB:=sHb hb;clear hb hbox hg)|((with_reducible refine Qe (N:=8) rfl ?_);refine qE 8 #[.slice a3 τ.length a4,.slice a5 ρ.length a6] 50 ?_;intro a0 hg w8 hbox hb;have ι :=Aside0.mk hbox;have gz:=sGe hg;have h5:=sGe hg;have ax:=sNl Y hg;have az:=sNg Y hg;have am:=sNl Z hg;have ao:=sNg Z hg;replace Y:=sBk Y hb;replace Z:=sBk Z hb;replace HB:=sHb hb;clear hb hbox hg)|((with_reducible refine Qe (N:=9) rfl ?_);refine qE 9 #[.int .i64 a8,.int .i64 aa,.int .i64 ab] 36 ?_;intro a1 hg w9 hbox hb;have μ :=Aside0.mk hbox;have h6:=sGe hg;have h7:=sGe hg;have b0:=sNl Y hg;have b1:=sNg Y hg;have au:=sNl Z hg;have av:=sNg Z hg;have b2:=sNl ι hg;have b3:=sNg ι hg;replace Y:=sBk Y hb;replace Z:=sBk Z hb;replace ι :=sBk ι hb;replace HB:=sHb hb;clear hb hbox hg;have el:=ak.out;have fj:=aj.out;have dm:=am.out;have fk:=ao.out;have gb:=au.out;have ge:=av.out;obtain⟨ap,ar⟩:=qD1 Z.out))
 go_step3
 go_wp2
 go_step3
 go_wp2
 go_loopg [12,17] k (fun kq gs gu w'=>∃ (ν :Int) (ε :Int),gs = .int .i64 ν ∧ gu = .int .i64 ε ∧ Aside0 (group_pick.l0 kq a2 ν (l1.length:Int) ε J B L O X δ γ θ η ζ l1 τ ρ a8 aa ab=some r)∧Aside0 (kq≤k)∧Aside0 (w'.heap[κ]?=some (.cells #[.int .i64 J,.int .i64 B,.int .i64 L,.int .i64 O,.int .i64 X,.int .i64 δ,.int .i64 γ,.int .i64 θ,.int .i64 η,.int .i64 ζ] 25 (0,0)))∧Aside0 (w'.heap[ψ]?=some (.cells #[(.slice A1 l1.length c1)] 46 (0,0)))∧Aside0 (w'.heap[a0]?=some (.cells #[(.slice a3 τ.length a4),(.slice a5 ρ.length a6)] 50 (0,0)))∧Aside0 (w'.heap[a1]?=some (.cells #[.int .i64 a8,.int .i64 aa,.int .i64 ab] 36 (0,0)))∧Aside0 (Below w.heap.size w w'))
 case atStart=>exact⟨((-1)),(0),rfl,rfl,H',⟨Nat.le_refl _⟩,Y,Z,ι,μ,HB⟩
 case round=>
  clear H'
  try clear c1
  try clear p2
  try clear c3
  try clear c10
  try clear ae
  try clear al
  try clear ap
  try clear ar
  obtain⟨ν,ε,rfl,rfl,HA,an,Y,Z,ι,μ,HB⟩:=hrel
  cases gk with
  |zero=>exact absurd HA.out (by simp[group_pick.l0])
  |succ k1=>
   have H:=HA.out
   clear HA
   simp only[group_pick.l0] at H
   by_cases ac: ε < (l1.length:Int)
   ·rw[if_pos ac] at H
    have c14b0:decide (ε < (l1.length:Int))=true:=decide_eq_true ac
    clear ac
    by_cases af:0 ≤ ε
    ·rw[if_pos af] at H
     have c15b0:=eq_true af
     have c15b1:decide (0 ≤ ε)=true:=decide_eq_true af
     clear af
     obtain⟨aw,b4⟩:∃ j_:Int,(shr .i64 a2 ε)=j_:=⟨_,rfl⟩
     replace H:(if (Go.bits .and .i64 (aw) 1)=1 then (group_pick.l0 k1 a2 ν (l1.length:Int) (wrap64 (ε + 1)) J B L O X δ γ θ η ζ l1 τ ρ a8 aa ab) else (if ν < 0 then (group_pick.l0 k1 a2 ε (l1.length:Int) (wrap64 (ε + 1)) J B L O X δ γ θ η ζ l1 τ ρ a8 aa ab) else ((group_pick_1.f k1 ε J B L O X δ γ θ η ζ l1 τ ρ a8 aa ab).bind fun ai=>((group_pick_1.f k1 ν J B L O X δ γ θ η ζ l1 τ ρ a8 aa ab).bind fun χ =>(if ai < χ then (group_pick.l0 k1 a2 ε (l1.length:Int) (wrap64 (ε + 1)) J B L O X δ γ θ η ζ l1 τ ρ a8 aa ab) else (group_pick.l0 k1 a2 ν (l1.length:Int) (wrap64 (ε + 1)) J B L O X δ γ θ η ζ l1 τ ρ a8 aa ab))))))=some r:=by first|(rw[b4] at H;exact H)|(simp only[b4] at H ⊢;exact H)
     have gv:(a2 / 2 ^ min ε.toNat 64)=aw:=b4
     have hji16z: ε ≤ 64→(a2 / 2 ^ ε.toNat)=aw:=Gy b4
     by_cases σ:(Go.bits .and .i64 (aw) 1)=1
     ·rw[if_pos σ] at H
      have c17b0:((Go.bits .and .i64 (aw) 1)==1)=true:=beq_iff_eq.mpr σ
      have c17b1:((Go.bits .and .i64 (aw) 1) != 1)=false:=bne_eq_false_iff_eq.mpr σ
      clear σ
      have H':=Aside0.mk H
      clear H
      go_wp2
      go_roundg k1
      case measure=>have:=an.out;omega
      case rel=>exact⟨(ν),(wrap64 (ε + 1)),rfl,rfl,H',⟨by have:=an.out;omega⟩,Y,Z,ι,μ,HB⟩
     ·rw[if_neg σ] at H
      have c17b0:((Go.bits .and .i64 (aw) 1)==1)=false:=beq_eq_false_iff_ne.mpr σ
      have c17b1:((Go.bits .and .i64 (aw) 1) != 1)=true:=bne_iff_ne.mpr σ
      by_cases b9: ν < 0
      ·rw[if_pos b9] at H
       have c18b0:decide (ν < 0)=true:=decide_eq_true b9
       clear b9
       have H':=Aside0.mk H
       clear H
       go_wp2
       go_roundg k1
       case measure=>have:=an.out;omega
       case rel=>exact⟨(ε),(wrap64 (ε + 1)),rfl,rfl,H',⟨by have:=an.out;omega⟩,Y,Z,ι,μ,HB⟩
      ·rw[if_neg b9] at H
       have c18b0:decide (ν < 0)=false:=decide_eq_false b9
       clear b9
       replace H:=Option.bind_eq_some_iff.mp H
       obtain⟨ai,b5,H⟩:=H
       replace H:((group_pick_1.f k1 ν J B L O X δ γ θ η ζ l1 τ ρ a8 aa ab).bind fun χ =>(if ai < χ then (group_pick.l0 k1 a2 ε (l1.length:Int) (wrap64 (ε + 1)) J B L O X δ γ θ η ζ l1 τ ρ a8 aa ab) else (group_pick.l0 k1 a2 ν (l1.length:Int) (wrap64 (ε + 1)) J B L O X δ γ θ η ζ l1 τ ρ a8 aa ab)))=some r:=H
       have b7:=Aside0.mk b5
       clear b5
       replace H:=Option.bind_eq_some_iff.mp H
       obtain⟨χ,b6,H⟩:=H
       replace H:(if ai < χ then (group_pick.l0 k1 a2 ε (l1.length:Int) (wrap64 (ε + 1)) J B L O X δ γ θ η ζ l1 τ ρ a8 aa ab) else (group_pick.l0 k1 a2 ν (l1.length:Int) (wrap64 (ε + 1)) J B L O X δ γ θ η ζ l1 τ ρ a8 aa ab))=some r:=H
       have bh:=Aside0.mk b6
       clear b6
       by_cases ag:ai < χ
       ·rw[if_pos ag] at H
        have c21b0:decide (ai < χ)=true:=decide_eq_true ag
        clear ag
        have H':=Aside0.mk H
        clear H
        have fh:=aj.out
        have fi:=ak.out
        have d2:=ax.out
        have d3:=az.out
        have bv:=b0.out
        have bw:=b1.out
        obtain⟨ec,ed,ba,dv,eo,fc,fl,bp,bd,be,ee,ef,cv,fm,fn,fo,fr,cr,bf,bi⟩:=Za Y.out
        have bs:=am.out
        have bu:=ao.out
        have gj:=au.out
        have gl:=av.out
        obtain⟨d4,d5⟩:=qD1 Z.out
        have e3:=b2.out
        have g8:=b3.out
        obtain⟨d7,df,dh,e4⟩:=qD2 ι.out
        obtain⟨ck,cm,cn,co,cp,cq⟩:=qD3 μ.out
        go_wp2_with (first|(go_at_call 58;(with_reducible refine(group_pick_1.calls k1 ε J B L O X δ γ θ η ζ _ _ l1 _ _ τ _ _ ρ a8 aa ab ai _ ?side1 ?side2 ?side3 ?side4 ?side5 ?side6 b7.out κ ψ a0 a1 Y.out Z.out ι.out μ.out).mono ?_);(case side1=>exact(Kd.Qt de.out HB.out));(case side2=>exact dw.out);(case side3=>exact(Kd.Qt bk.out HB.out));(case side4=>exact cd.out);(case side5=>exact(Kd.Qt bz.out HB.out));(case side6=>exact ce.out);rintro e jm ⟨rfl,hb⟩;have ξ :=Aside0.mk (Qs (g:= κ) (o:=.cells #[.int .i64 J,.int .i64 B,.int .i64 L,.int .i64 O,.int .i64 X,.int .i64 δ,.int .i64 γ,.int .i64 θ,.int .i64 η,.int .i64 ζ] 25 (0,0)) Y.out hb);have φ :=Aside0.mk (Qs (g:= ψ) (o:=.cells #[.slice A1 l1.length c1] 46 (0,0)) Z.out hb);have ω :=Aside0.mk (Qs (g:=a0) (o:=.cells #[.slice a3 τ.length a4,.slice a5 ρ.length a6] 50 (0,0)) ι.out hb);have a7:=Aside0.mk (Qs (g:=a1) (o:=.cells #[.int .i64 a8,.int .i64 aa,.int .i64 ab] 36 (0,0)) μ.out hb);have ah:=Aside0.mk (Qx HB.out hb);clear Y;clear Z;clear ι;clear μ;clear HB;have Y:= ξ;have Z:= φ;have ι := ω;have μ :=a7;have HB:=ah;clear ξ φ ω a7 ah;(try clear hb);(try clear a9);(try clear hk);(try clear hi);obtain⟨dc,dd,dy,ay,br,e5,e6,bj,bn,bo,du,dx,dz,ft,fu,fv,fw,d6,dj,eb⟩:=Za Y.out;obtain⟨ch,ci⟩:=qD1 Z.out;obtain⟨di,dk,fa,fb⟩:=qD2 ι.out;obtain⟨fy,fz,bc,g0,g1,bm⟩:=qD3 μ.out)|(go_at_call 58;(with_reducible refine(group_pick_1.calls k1 ν J B L O X δ γ θ η ζ _ _ l1 _ _ τ _ _ ρ a8 aa ab χ _ ?side1 ?side2 ?side3 ?side4 ?side5 ?side6 bh.out κ ψ a0 a1 Y.out Z.out ι.out μ.out).mono ?_);(case side1=>exact(Kd.Qt de.out HB.out));(case side2=>exact dw.out);(case side3=>exact(Kd.Qt bk.out HB.out));(case side4=>exact cd.out);(case side5=>exact(Kd.Qt bz.out HB.out));(case side6=>exact ce.out);rintro e eu ⟨rfl,hb⟩;have ξ :=Aside0.mk (Qs (g:= κ) (o:=.cells #[.int .i64 J,.int .i64 B,.int .i64 L,.int .i64 O,.int .i64 X,.int .i64 δ,.int .i64 γ,.int .i64 θ,.int .i64 η,.int .i64 ζ] 25 (0,0)) Y.out hb);have φ :=Aside0.mk (Qs (g:= ψ) (o:=.cells #[.slice A1 l1.length c1] 46 (0,0)) Z.out hb);have ω :=Aside0.mk (Qs (g:=a0) (o:=.cells #[.slice a3 τ.length a4,.slice a5 ρ.length a6] 50 (0,0)) ι.out hb);have a7:=Aside0.mk (Qs (g:=a1) (o:=.cells #[.int .i64 a8,.int .i64 aa,.int .i64 ab] 36 (0,0)) μ.out hb);have ah:=Aside0.mk (Qx HB.out hb);clear Y;clear Z;clear ι;clear μ;clear HB;have Y:= ξ;have Z:= φ;have ι := ω;have μ :=a7;have HB:=ah;clear ξ φ ω a7 ah;(try clear hb);(try clear a9);(try clear hk);(try clear hi)))
        go_roundg k1
        case measure=>have:=an.out;omega
        case rel=>exact⟨(ε),(wrap64 (ε + 1)),rfl,rfl,H',⟨by have:=an.out;omega⟩,Y,Z,ι,μ,HB⟩
       ·rw[if_neg ag] at H
        have c21b0:decide (ai < χ)=false:=decide_eq_false ag
        clear ag
        have H':=Aside0.mk H
        clear H
        have gm:=aj.out
        have gn:=ak.out
        have eh:=ax.out
        have ei:=az.out
        have ik:=b0.out
        have il:=b1.out
        obtain⟨ep,er,bq,i2,i3,i4,i5,b8,bb,bg,ez,f8,eg,i6,i7,i9,ia,bl,ca,cb⟩:=Za Y.out
        have ew:=am.out
        have ey:=ao.out
        have fq:=au.out
        have g2:=av.out
        obtain⟨cf,e8⟩:=qD1 Z.out
        have ha:=b2.out
        have he:=b3.out
        obtain⟨g9,gf,gg,gh⟩:=qD2 ι.out
        obtain⟨en,et,cg,fp,g3,cj⟩:=qD3 μ.out
        go_wp2_with (first|(go_at_call 58;(with_reducible refine(group_pick_1.calls k1 ε J B L O X δ γ θ η ζ _ _ l1 _ _ τ _ _ ρ a8 aa ab ai _ ?side1 ?side2 ?side3 ?side4 ?side5 ?side6 b7.out κ ψ a0 a1 Y.out Z.out ι.out μ.out).mono ?_);(case side1=>exact(Kd.Qt de.out HB.out));(case side2=>exact dw.out);(case side3=>exact(Kd.Qt bk.out HB.out));(case side4=>exact cd.out);(case side5=>exact(Kd.Qt bz.out HB.out));(case side6=>exact ce.out);rintro e gw ⟨rfl,hb⟩;have ξ :=Aside0.mk (Qs (g:= κ) (o:=.cells #[.int .i64 J,.int .i64 B,.int .i64 L,.int .i64 O,.int .i64 X,.int .i64 δ,.int .i64 γ,.int .i64 θ,.int .i64 η,.int .i64 ζ] 25 (0,0)) Y.out hb);have φ :=Aside0.mk (Qs (g:= ψ) (o:=.cells #[.slice A1 l1.length c1] 46 (0,0)) Z.out hb);have ω :=Aside0.mk (Qs (g:=a0) (o:=.cells #[.slice a3 τ.length a4,.slice a5 ρ.length a6] 50 (0,0)) ι.out hb);have a7:=Aside0.mk (Qs (g:=a1) (o:=.cells #[.int .i64 a8,.int .i64 aa,.int .i64 ab] 36 (0,0)) μ.out hb);have ah:=Aside0.mk (Qx HB.out hb);clear Y;clear Z;clear ι;clear μ;clear HB;have Y:= ξ;have Z:= φ;have ι := ω;have μ :=a7;have HB:=ah;clear ξ φ ω a7 ah;(try clear hb);(try clear a9);(try clear hk);(try clear hi);obtain⟨ct,cu,cw,d1,d8,da,e0,e7,e9,ea,ej,ek,em,ev,ff,fg,fx,g4,g5,g6⟩:=Za Y.out;obtain⟨gq,gr⟩:=qD1 Z.out;obtain⟨g7,ga,gi,gp⟩:=qD2 ι.out;obtain⟨cx,cy,jd,cz,d0,je⟩:=qD3 μ.out)|(go_at_call 58;(with_reducible refine(group_pick_1.calls k1 ν J B L O X δ γ θ η ζ _ _ l1 _ _ τ _ _ ρ a8 aa ab χ _ ?side1 ?side2 ?side3 ?side4 ?side5 ?side6 bh.out κ ψ a0 a1 Y.out Z.out ι.out μ.out).mono ?_);(case side1=>exact(Kd.Qt de.out HB.out));(case side2=>exact dw.out);(case side3=>exact(Kd.Qt bk.out HB.out));(case side4=>exact cd.out);(case side5=>exact(Kd.Qt bz.out HB.out));(case side6=>exact ce.out);rintro e gt ⟨rfl,hb⟩;have ξ :=Aside0.mk (Qs (g:= κ) (o:=.cells #[.int .i64 J,.int .i64 B,.int .i64 L,.int .i64 O,.int .i64 X,.int .i64 δ,.int .i64 γ,.int .i64 θ,.int .i64 η,.int .i64 ζ] 25 (0,0)) Y.out hb);have φ :=Aside0.mk (Qs (g:= ψ) (o:=.cells #[.slice A1 l1.length c1] 46 (0,0)) Z.out hb);have ω :=Aside0.mk (Qs (g:=a0) (o:=.cells #[.slice a3 τ.length a4,.slice a5 ρ.length a6] 50 (0,0)) ι.out hb);have a7:=Aside0.mk (Qs (g:=a1) (o:=.cells #[.int .i64 a8,.int .i64 aa,.int .i64 ab] 36 (0,0)) μ.out hb);have ah:=Aside0.mk (Qx HB.out hb);clear Y;clear Z;clear ι;clear μ;clear HB;have Y:= ξ;have Z:= φ;have ι := ω;have μ :=a7;have HB:=ah;clear ξ φ ω a7 ah;(try clear hb);(try clear a9);(try clear hk);(try clear hi)))
        go_roundg k1
        case measure=>have:=an.out;omega
        case rel=>exact⟨(ν),(wrap64 (ε + 1)),rfl,rfl,H',⟨by have:=an.out;omega⟩,Y,Z,ι,μ,HB⟩
    ·rw[if_neg af] at H
     exact absurd H (by simp)
   ·rw[if_neg ac] at H
    have c14b0:decide (ε < (l1.length:Int))=false:=decide_eq_false ac
    clear ac
    obtain rfl:=Option.some.inj H
    go_wp2
    (try rw[Exit.noGoto_ret])
    go_ret
    exact⟨rfl,HB.out⟩
def group_Pick.f (k:Nat) (J:Int) (B:Int) (L:Int) (O:Int) (X:Int) (δ :Int) (γ:Int) (θ :Int) (η :Int) (ζ :Int) (l1:List (S31)) (a2:Int) (τ :List (S36)) (ρ:List (S86)) (a8:Int) (aa:Int) (ab:Int):Option (Int×Int):=(group_Check.f k J B L O X δ γ θ η ζ l1 τ ρ).bind fun κ =>(if κ = 0 then ((group_house.f J B L O X δ γ θ η ζ l1).bind fun ω =>((group_hall.f k ω.1 ω.2 a8 aa ab).bind fun a1=>(if a1=true then ((group_pick.f k J B L O X δ γ θ η ζ l1 a2 τ ρ a8 aa ab).bind fun μ =>(some (μ,0))) else (some (0,210))))) else (some (0,κ)))
theorem group_Pick.mono:∀ B O a2 a3 L a5 X a7 a8 a9 Y Z γ ε δ ζ η k,LeO (group_Pick.f k B O a2 a3 L a5 X a7 a8 a9 Y Z γ ε δ ζ η) (group_Pick.f (k+1) B O a2 a3 L a5 X a7 a8 a9 Y Z γ ε δ ζ η):=by
 intro B O a2 a3 L a5 X a7 a8 a9 Y Z γ ε δ ζ η k
 unfold group_Pick.f
 repeat' first
   |(with_reducible exact group_Check.mono _ _ _ _ _ _ _ _ _ _ _ _ _ _)
   |(with_reducible exact group_hall.mono _ _ _ _ _ _)
   |(with_reducible exact group_pick.mono _ _ _ _ _ _ _ _ _ _ _ _ _ _ _ _ _ _)
   |(with_reducible exact LeO.refl _)
   |(with_reducible exact LeO.none _)
   |(with_reducible refine LeO.ite ?_ ?_)
   |(with_reducible refine LeO.bind ?_ (fun _=>?_))
   |exact group_Check.mono _ _ _ _ _ _ _ _ _ _ _ _ _ _
   |exact group_hall.mono _ _ _ _ _ _
   |exact group_pick.mono _ _ _ _ _ _ _ _ _ _ _ _ _ _ _ _ _ _
   |exact LeO.none _
   |refine LeO.ite ?_ ?_
   |refine LeO.bind ?_ (fun _=>?_)
set_option maxHeartbeats 8000000 in
set_option maxRecDepth 100000 in
theorem group_Pick.calls (k:Nat) (J:Int) (B:Int) (L:Int) (O:Int) (X:Int) (δ :Int) (γ:Int) (θ :Int) (η :Int) (ζ :Int) (A1:Option Addr) (c1:Nat) (l1:List (S31)) (a2:Int) (a3:Option Addr) (a4:Nat) (τ :List (S36)) (a5:Option Addr) (a6:Nat) (ρ:List (S86)) (a8:Int) (aa:Int) (ab:Int) (r1:Int) (r2:Int) (w:World) (dt:Kd.C k31 w A1 l1.length l1) (dl:l1.length≤c1) (dn:Kd.C k36 w a3 τ.length τ) (dp: τ.length≤a4) (dq:Kd.C k86 w a5 ρ.length ρ) (dr:ρ.length≤a6) (h:group_Pick.f k J B L O X δ γ θ η ζ l1 a2 τ ρ a8 aa ab=some (r1,r2)):
  Calls Try.prog 14 #[.agg #[.int .i64 J,.int .i64 B,.int .i64 L,.int .i64 O,.int .i64 X,.int .i64 δ,.int .i64 γ,.int .i64 θ,.int .i64 η,.int .i64 ζ],.slice A1 l1.length c1,.int .i64 a2,.agg #[.slice a3 τ.length a4,.slice a5 ρ.length a6],.agg #[.int .i64 a8,.int .i64 aa,.int .i64 ab]] w fun e w'=>e = .returned (.tuple #[.int .i64 r1,.int .i64 r2])∧Below w.heap.size w w':=by
 have db:=Try.underlying25
 have fe:=Try.underlying50
 have d9:=Try.underlying36
 have de:=Aside0.mk dt
 have dw:=Aside0.mk dl
 clear dt dl
 have bk:=Aside0.mk dn
 have cd:=Aside0.mk dp
 clear dn dp
 have bz:=Aside0.mk dq
 have ce:=Aside0.mk dr
 clear dq dr
 have HB:=Aside0.mk (Below.refl w.heap.size w)
 have H:((group_Check.f k J B L O X δ γ θ η ζ l1 τ ρ).bind fun κ =>(if κ = 0 then ((group_house.f J B L O X δ γ θ η ζ l1).bind fun ω =>((group_hall.f k ω.1 ω.2 a8 aa ab).bind fun a1=>(if a1=true then ((group_pick.f k J B L O X δ γ θ η ζ l1 a2 τ ρ a8 aa ab).bind fun μ =>(some (μ,0))) else (some (0,210))))) else (some (0,κ))))=some (r1,r2):=h
 clear h
 replace H:=Option.bind_eq_some_iff.mp H
 obtain⟨κ,ao,H⟩:=H
 replace H:(if κ = 0 then ((group_house.f J B L O X δ γ θ η ζ l1).bind fun ω =>((group_hall.f k ω.1 ω.2 a8 aa ab).bind fun a1=>(if a1=true then ((group_pick.f k J B L O X δ γ θ η ζ l1 a2 τ ρ a8 aa ab).bind fun μ =>(some (μ,0))) else (some (0,210))))) else (some (0,κ)))=some (r1,r2):=H
 have A6:=Aside0.mk ao
 clear ao
 by_cases c7: κ = 0
 ·rw[if_pos c7] at H
  have c7b0:(κ == 0)=true:=beq_iff_eq.mpr c7
  have c7b1:(κ != 0)=false:=bne_eq_false_iff_eq.mpr c7
  clear c7
  replace H:=Option.bind_eq_some_iff.mp H
  obtain⟨⟨a7,ac⟩,bl,H⟩:=H
  replace H:((group_hall.f k a7 ac a8 aa ab).bind fun a1=>(if a1=true then ((group_pick.f k J B L O X δ γ θ η ζ l1 a2 τ ρ a8 aa ab).bind fun μ =>(some (μ,0))) else (some (0,210))))=some (r1,r2):=H
  have A8:=Aside0.mk bl
  clear bl
  replace H:=Option.bind_eq_some_iff.mp H
  obtain⟨a1,cg,H⟩:=H
  replace H:(if a1=true then ((group_pick.f k J B L O X δ γ θ η ζ l1 a2 τ ρ a8 aa ab).bind fun μ =>(some (μ,0))) else (some (0,210)))=some (r1,r2):=H
  have A9:=Aside0.mk cg
  clear cg
  by_cases c10:a1=true
  ·subst c10
   have H1:((group_pick.f k J B L O X δ γ θ η ζ l1 a2 τ ρ a8 aa ab).bind fun μ =>(some (μ,0)))=some (r1,r2):=by rw[if_pos rfl] at H;exact H
   clear H
   have H:=H1
   clear H1
   replace H:=Option.bind_eq_some_iff.mp H
   obtain⟨μ,bc,H⟩:=H
   replace H:(some (μ,0))=some (r1,r2):=H
   have ea:=Aside0.mk bc
   clear bc
   simp only[Option.some.injEq,Prod.mk.injEq] at H
   obtain⟨rfl,rfl⟩:=H
   go_enter Try.func14,Try.ntmps14
   try go_wp2_with (first|((with_reducible refine Qe (N:=5) rfl ?_);refine qE 5 #[.int .i64 J,.int .i64 B,.int .i64 L,.int .i64 O,.int .i64 X,.int .i64 δ,.int .i64 γ,.int .i64 θ,.int .i64 η,.int .i64 ζ] 25 ?_;intro ι hg ep hbox hb;have Y:=Aside0.mk hbox;have ae:=sGe hg;have af:=sGe hg;replace HB:=sHb hb;clear hb hbox hg)|((with_reducible refine Qe (N:=8) rfl ?_);refine qE 8 #[.slice a3 τ.length a4,.slice a5 ρ.length a6] 50 ?_;intro ag hg ek hbox hb;have ε :=Aside0.mk hbox;have al:=sGe hg;have ap:=sGe hg;have ν :=sNl Y hg;have ξ :=sNg Y hg;replace Y:=sBk Y hb;replace HB:=sHb hb;clear hb hbox hg)|((with_reducible refine Qe (N:=9) rfl ?_);refine qE 9 #[.int .i64 a8,.int .i64 aa,.int .i64 ab] 36 ?_;intro a0 hg bq hbox hb;have Z:=Aside0.mk hbox;have ar:=sGe hg;have aw:=sGe hg;have σ:=sNl Y hg;have φ :=sNg Y hg;have χ :=sNl ε hg;have ψ :=sNg ε hg;replace Y:=sBk Y hb;replace ε :=sBk ε hb;replace HB:=sHb hb;clear hb hbox hg;have gf:= ν.out;have gg:= ξ.out;have e0:=σ.out;have e7:= φ.out;obtain⟨ah,ai,ba,bs,bu,bv,bw,cb,cr,ct,aj,ak,bf,cu,cv,cw,d7,d8,da,dh⟩:=Za Y.out;have cj:= χ.out;have d1:= ψ.out;obtain⟨am,an,au,av⟩:=qD2 ε.out)|((with_reducible refine Ql (f:=17) rfl ?_);refine Q2 (some 16) rfl rfl Try.func17 kr rfl #[.agg #[.int .i64 J,.int .i64 B,.int .i64 L,.int .i64 O,.int .i64 X,.int .i64 δ,.int .i64 γ,.int .i64 θ,.int .i64 η,.int .i64 ζ],.slice A1 l1.length c1,.agg #[.slice a3 τ.length a4,.slice a5 ρ.length a6]] rfl qM ?_;(with_reducible refine(group_Check.calls k J B L O X δ γ θ η ζ _ _ l1 _ _ τ _ _ ρ κ _ ?side1 ?side2 ?side3 ?side4 ?side5 ?side6 A6.out).mono ?_);(case side1=>exact(Kd.Qt de.out HB.out));(case side2=>exact dw.out);(case side3=>exact(Kd.Qt bk.out HB.out));(case side4=>exact cd.out);(case side5=>exact(Kd.Qt bz.out HB.out));(case side6=>exact ce.out);rintro e dv ⟨rfl,hb⟩;refine⟨_,rfl, ?_⟩;replace Y:=sBk Y hb;replace ε :=sBk ε hb;replace Z:=sBk Z hb;replace HB:=sHb hb;(try clear hb);(try clear a9);(try clear hk);(try clear hi)))
   replace Y:=Aside0.mk (Qd Y.out)
   replace ε :=Aside0.mk (Qd ε.out)
   replace Z:=Aside0.mk (Qd Z.out)
   replace HB:=Aside0.mk (Qf HB.out)
   refine Zn (n:=6) (S:=fun w'=>w'.cell? ⟨ι,0,none⟩=some (.int .i64 J)∧w'.cell? ⟨ι,1,none⟩=some (.int .i64 B)∧w'.cell? ⟨ι,2,none⟩=some (.int .i64 L)∧w'.cell? ⟨ι,3,none⟩=some (.int .i64 O)∧w'.cell? ⟨ι,4,none⟩=some (.int .i64 X)∧w'.cell? ⟨ι,5,none⟩=some (.int .i64 δ)∧w'.cell? ⟨ι,6,none⟩=some (.int .i64 γ)∧w'.cell? ⟨ι,7,none⟩=some (.int .i64 θ)∧w'.cell? ⟨ι,8,none⟩=some (.int .i64 η)∧w'.cell? ⟨ι,9,none⟩=some (.int .i64 ζ)∧w'.cell? ⟨a0,0,none⟩=some (.int .i64 a8)∧w'.cell? ⟨a0,1,none⟩=some (.int .i64 aa)∧w'.cell? ⟨a0,2,none⟩=some (.int .i64 ab)) (ds:=[]) #[false,false,false,false,false,false] kr rfl rfl ⟨(Qa Y.out 0).trans rfl,(Qa Y.out 1).trans rfl,(Qa Y.out 2).trans rfl,(Qa Y.out 3).trans rfl,(Qa Y.out 4).trans rfl,(Qa Y.out 5).trans rfl,(Qa Y.out 6).trans rfl,(Qa Y.out 7).trans rfl,(Qa Y.out 8).trans rfl,(Qa Y.out 9).trans rfl,(Qa Z.out 0).trans rfl,(Qa Z.out 1).trans rfl,(Qa Z.out 2).trans rfl⟩ (fun hHeld=>?_)
   generalize dv.drew=bg at Y ε Z HB hHeld ⊢
   refine Xw (i:=1) (N:=some 21) (v:=?_) (a':=?_) (bN 6 2) rfl rfl kr (fun _ _ _ h=>h) (Or.inl ⟨by rfl, ?_⟩) ?_ ?_
   rotate_left
   ·intro w'
    go_simp
    with_reducible rfl
   rotate_left
   ·simp only[Act.put,qS,Zb,Zj]
    rfl
   refine Y5 (i:=0) (N:=some 20) (v:=?_) (a':=?_) (bN 6 3) rfl rfl kr (fun _ _ _ h=>h) (Or.inl ⟨by rfl, ?_⟩) hHeld ?_ ?_
   rotate_left
   ·rintro w' ⟨s0,s1,s2,s3,s4,s5,s6,s7,s8,s9,b3,b9,ax⟩
    go_simp
    with_reducible rfl
   rotate_left
   ·simp only[Act.put,qS,Zb,Zj]
    rfl
   refine Y5 (i:=3) (N:=some 23) (v:=?_) (a':=?_) (bN 6 11) rfl rfl kr (fun _ _ _ h=>h) (Or.inl ⟨by rfl, ?_⟩) hHeld ?_ ?_
   rotate_left
   ·rintro w' ⟨s0,s1,s2,s3,s4,s5,s6,s7,s8,s9,b3,b9,ax⟩
    go_simp
    with_reducible rfl
   rotate_left
   ·simp only[Act.put,qS,Zb,Zj]
    rfl
   refine Ze (i:=2) (N:=some 22) (bN 6 15) rfl rfl kr (by decide) (fun K hK=>?_)
   refine Zd Try.func37 kr rfl #[.agg #[.int .i64 J,.int .i64 B,.int .i64 L,.int .i64 O,.int .i64 X,.int .i64 δ,.int .i64 γ,.int .i64 θ,.int .i64 η,.int .i64 ζ],.slice A1 l1.length c1] (by rfl) rfl rfl qM ?_
   with_reducible refine(group_house.calls J B L O X δ γ θ η ζ _ _ l1 a7 ac _ ?side1 ?side2 A8.out).mono ?_
   (case side1=>exact(Kd.Qt de.out HB.out))
   (case side2=>exact dw.out)
   rintro e bd ⟨rfl,hb⟩
   refine⟨_,rfl, ?_⟩
   replace Y:=sBk Y hb
   replace ε :=sBk ε hb
   replace Z:=sBk Z hb
   replace HB:=sHb hb
   (try clear hb)
   (try clear a9)
   (try clear hk)
   (try clear hi)
   refine hK.out _ _ ⟨qc Y,qc Y,qc Y,qc Y,qc Y,qc Y,qc Y,qc Y,qc Y,qc Y,qc Z,qc Z,qc Z⟩ (fun hHeld=>?_)
   clear hK K
   refine qN (some 22) ?_
   refine Ze (i:=4) (N:=some 24) (bN 6 31) rfl rfl kr (by decide) (fun K hK=>?_)
   refine Zd Try.func30 kr rfl #[.agg #[.int .i64 a7,.int .i64 ac],.agg #[.int .i64 a8,.int .i64 aa,.int .i64 ab]] (by rfl) rfl rfl qM ?_
   with_reducible refine(group_hall.calls k a7 ac a8 aa ab true _ A9.out).mono ?_
   rintro e bb ⟨rfl,hb⟩
   refine⟨_,rfl, ?_⟩
   replace Y:=sBk Y hb
   replace ε :=sBk ε hb
   replace Z:=sBk Z hb
   replace HB:=sHb hb
   (try clear hb)
   (try clear a9)
   (try clear hk)
   (try clear hi)
   refine hK.out _ _ ⟨qc Y,qc Y,qc Y,qc Y,qc Y,qc Y,qc Y,qc Y,qc Y,qc Y,qc Z,qc Z,qc Z⟩ (fun hHeld=>?_)
   clear hK K
   refine qN (some 24) ?_
   refine Xw (i:=5) (N:=some 25) (v:=?_) (a':=?_) (bN 6 63) rfl rfl kr (fun _ _ _ h=>h) (Or.inl ⟨by rfl, ?_⟩) ?_ ?_
   rotate_left
   ·intro w'
    go_simp
    with_reducible rfl
   rotate_left
   ·simp only[Act.put,qS,Zb,Zj]
    rfl
   refine Z5 kr ?_
   obtain⟨b5,b6,ca,fr,g0,g1,g5,g6,g7,g8,b7,b8,cf,ga,gi,gj,gl,gm,gn,gp⟩:=Za Y.out
   obtain⟨ec,ed,ee,ef⟩:=qD2 ε.out
   obtain⟨eg,eh,el,ei,ej,em⟩:=qD3 Z.out
   try go_wp2_with (first|((with_reducible refine Ql (f:=38) rfl ?_);refine Q2 (some 31) rfl rfl Try.func38 kr rfl #[.agg #[.int .i64 J,.int .i64 B,.int .i64 L,.int .i64 O,.int .i64 X,.int .i64 δ,.int .i64 γ,.int .i64 θ,.int .i64 η,.int .i64 ζ],.slice A1 l1.length c1,.int .i64 a2,.agg #[.slice a3 τ.length a4,.slice a5 ρ.length a6],.agg #[.int .i64 a8,.int .i64 aa,.int .i64 ab]] rfl qM ?_;(with_reducible refine(group_pick.calls k J B L O X δ γ θ η ζ _ _ l1 a2 _ _ τ _ _ ρ a8 aa ab μ _ ?side1 ?side2 ?side3 ?side4 ?side5 ?side6 ea.out).mono ?_);(case side1=>exact(Kd.Qt de.out HB.out));(case side2=>exact dw.out);(case side3=>exact(Kd.Qt bk.out HB.out));(case side4=>exact cd.out);(case side5=>exact(Kd.Qt bz.out HB.out));(case side6=>exact ce.out);rintro e dm ⟨rfl,hb⟩;refine⟨_,rfl, ?_⟩;replace Y:=sBk Y hb;replace ε :=sBk ε hb;replace Z:=sBk Z hb;replace HB:=sHb hb;(try clear hb);(try clear a9);(try clear hk);(try clear hi)))
   go_ret2
   exact⟨rfl,HB.out⟩
  ·replace c10:=Bool.eq_false_iff.mpr c10
   subst c10
   have H1:(some (0,210))=some (r1,r2):=by rw[if_neg (show ¬ (false=true) by decide)] at H;exact H
   clear H
   have H:=H1
   clear H1
   simp only[Option.some.injEq,Prod.mk.injEq] at H
   obtain⟨rfl,rfl⟩:=H
   go_enter Try.func14,Try.ntmps14
   try go_wp2_with (first|((with_reducible refine Qe (N:=5) rfl ?_);refine qE 5 #[.int .i64 J,.int .i64 B,.int .i64 L,.int .i64 O,.int .i64 X,.int .i64 δ,.int .i64 γ,.int .i64 θ,.int .i64 η,.int .i64 ζ] 25 ?_;intro ι hg e9 hbox hb;have Y:=Aside0.mk hbox;have ae:=sGe hg;have af:=sGe hg;replace HB:=sHb hb;clear hb hbox hg)|((with_reducible refine Qe (N:=8) rfl ?_);refine qE 8 #[.slice a3 τ.length a4,.slice a5 ρ.length a6] 50 ?_;intro ag hg ch hbox hb;have ε :=Aside0.mk hbox;have al:=sGe hg;have ap:=sGe hg;have ν :=sNl Y hg;have ξ :=sNg Y hg;replace Y:=sBk Y hb;replace HB:=sHb hb;clear hb hbox hg)|((with_reducible refine Qe (N:=9) rfl ?_);refine qE 9 #[.int .i64 a8,.int .i64 aa,.int .i64 ab] 36 ?_;intro a0 hg eo hbox hb;have Z:=Aside0.mk hbox;have ar:=sGe hg;have aw:=sGe hg;have σ:=sNl Y hg;have φ :=sNg Y hg;have χ :=sNl ε hg;have ψ :=sNg ε hg;replace Y:=sBk Y hb;replace ε :=sBk ε hb;replace HB:=sHb hb;clear hb hbox hg;have gh:= ν.out;have gq:= ξ.out;have ff:=σ.out;have fg:= φ.out;obtain⟨dc,dd,dy,ay,br,e5,e6,bj,bn,bo,du,dx,dz,ft,fu,fv,fw,d6,dj,eb⟩:=Za Y.out;have kv:= χ.out;have kw:= ψ.out;obtain⟨di,dk,fa,fb⟩:=qD2 ε.out)|((with_reducible refine Ql (f:=17) rfl ?_);refine Q2 (some 16) rfl rfl Try.func17 kr rfl #[.agg #[.int .i64 J,.int .i64 B,.int .i64 L,.int .i64 O,.int .i64 X,.int .i64 δ,.int .i64 γ,.int .i64 θ,.int .i64 η,.int .i64 ζ],.slice A1 l1.length c1,.agg #[.slice a3 τ.length a4,.slice a5 ρ.length a6]] rfl qM ?_;(with_reducible refine(group_Check.calls k J B L O X δ γ θ η ζ _ _ l1 _ _ τ _ _ ρ κ _ ?side1 ?side2 ?side3 ?side4 ?side5 ?side6 A6.out).mono ?_);(case side1=>exact(Kd.Qt de.out HB.out));(case side2=>exact dw.out);(case side3=>exact(Kd.Qt bk.out HB.out));(case side4=>exact cd.out);(case side5=>exact(Kd.Qt bz.out HB.out));(case side6=>exact ce.out);rintro e ev ⟨rfl,hb⟩;refine⟨_,rfl, ?_⟩;replace Y:=sBk Y hb;replace ε :=sBk ε hb;replace Z:=sBk Z hb;replace HB:=sHb hb;(try clear hb);(try clear a9);(try clear hk);(try clear hi)))
   replace Y:=Aside0.mk (Qd Y.out)
   replace ε :=Aside0.mk (Qd ε.out)
   replace Z:=Aside0.mk (Qd Z.out)
   replace HB:=Aside0.mk (Qf HB.out)
   refine Zn (n:=6) (S:=fun w'=>w'.cell? ⟨ι,0,none⟩=some (.int .i64 J)∧w'.cell? ⟨ι,1,none⟩=some (.int .i64 B)∧w'.cell? ⟨ι,2,none⟩=some (.int .i64 L)∧w'.cell? ⟨ι,3,none⟩=some (.int .i64 O)∧w'.cell? ⟨ι,4,none⟩=some (.int .i64 X)∧w'.cell? ⟨ι,5,none⟩=some (.int .i64 δ)∧w'.cell? ⟨ι,6,none⟩=some (.int .i64 γ)∧w'.cell? ⟨ι,7,none⟩=some (.int .i64 θ)∧w'.cell? ⟨ι,8,none⟩=some (.int .i64 η)∧w'.cell? ⟨ι,9,none⟩=some (.int .i64 ζ)∧w'.cell? ⟨a0,0,none⟩=some (.int .i64 a8)∧w'.cell? ⟨a0,1,none⟩=some (.int .i64 aa)∧w'.cell? ⟨a0,2,none⟩=some (.int .i64 ab)) (ds:=[]) #[false,false,false,false,false,false] kr rfl rfl ⟨(Qa Y.out 0).trans rfl,(Qa Y.out 1).trans rfl,(Qa Y.out 2).trans rfl,(Qa Y.out 3).trans rfl,(Qa Y.out 4).trans rfl,(Qa Y.out 5).trans rfl,(Qa Y.out 6).trans rfl,(Qa Y.out 7).trans rfl,(Qa Y.out 8).trans rfl,(Qa Y.out 9).trans rfl,(Qa Z.out 0).trans rfl,(Qa Z.out 1).trans rfl,(Qa Z.out 2).trans rfl⟩ (fun hHeld=>?_)
   generalize ev.drew=eu at Y ε Z HB hHeld ⊢
   refine Xw (i:=1) (N:=some 21) (v:=?_) (a':=?_) (bN 6 2) rfl rfl kr (fun _ _ _ h=>h) (Or.inl ⟨by rfl, ?_⟩) ?_ ?_
   rotate_left
   ·intro w'
    go_simp
    with_reducible rfl
   rotate_left
   ·simp only[Act.put,qS,Zb,Zj]
    rfl
   refine Y5 (i:=0) (N:=some 20) (v:=?_) (a':=?_) (bN 6 3) rfl rfl kr (fun _ _ _ h=>h) (Or.inl ⟨by rfl, ?_⟩) hHeld ?_ ?_
   rotate_left
   ·rintro w' ⟨s0,s1,s2,s3,s4,s5,s6,s7,s8,s9,b3,b9,ax⟩
    go_simp
    with_reducible rfl
   rotate_left
   ·simp only[Act.put,qS,Zb,Zj]
    rfl
   refine Y5 (i:=3) (N:=some 23) (v:=?_) (a':=?_) (bN 6 11) rfl rfl kr (fun _ _ _ h=>h) (Or.inl ⟨by rfl, ?_⟩) hHeld ?_ ?_
   rotate_left
   ·rintro w' ⟨s0,s1,s2,s3,s4,s5,s6,s7,s8,s9,b3,b9,ax⟩
    go_simp
    with_reducible rfl
   rotate_left
   ·simp only[Act.put,qS,Zb,Zj]
    rfl
   refine Ze (i:=2) (N:=some 22) (bN 6 15) rfl rfl kr (by decide) (fun K hK=>?_)
   refine Zd Try.func37 kr rfl #[.agg #[.int .i64 J,.int .i64 B,.int .i64 L,.int .i64 O,.int .i64 X,.int .i64 δ,.int .i64 γ,.int .i64 θ,.int .i64 η,.int .i64 ζ],.slice A1 l1.length c1] (by rfl) rfl rfl qM ?_
   with_reducible refine(group_house.calls J B L O X δ γ θ η ζ _ _ l1 a7 ac _ ?side1 ?side2 A8.out).mono ?_
   (case side1=>exact(Kd.Qt de.out HB.out))
   (case side2=>exact dw.out)
   rintro e kq ⟨rfl,hb⟩
   refine⟨_,rfl, ?_⟩
   replace Y:=sBk Y hb
   replace ε :=sBk ε hb
   replace Z:=sBk Z hb
   replace HB:=sHb hb
   (try clear hb)
   (try clear a9)
   (try clear hk)
   (try clear hi)
   refine hK.out _ _ ⟨qc Y,qc Y,qc Y,qc Y,qc Y,qc Y,qc Y,qc Y,qc Y,qc Y,qc Z,qc Z,qc Z⟩ (fun hHeld=>?_)
   clear hK K
   refine qN (some 22) ?_
   refine Ze (i:=4) (N:=some 24) (bN 6 31) rfl rfl kr (by decide) (fun K hK=>?_)
   refine Zd Try.func30 kr rfl #[.agg #[.int .i64 a7,.int .i64 ac],.agg #[.int .i64 a8,.int .i64 aa,.int .i64 ab]] (by rfl) rfl rfl qM ?_
   with_reducible refine(group_hall.calls k a7 ac a8 aa ab false _ A9.out).mono ?_
   rintro e j8 ⟨rfl,hb⟩
   refine⟨_,rfl, ?_⟩
   replace Y:=sBk Y hb
   replace ε :=sBk ε hb
   replace Z:=sBk Z hb
   replace HB:=sHb hb
   (try clear hb)
   (try clear a9)
   (try clear hk)
   (try clear hi)
   refine hK.out _ _ ⟨qc Y,qc Y,qc Y,qc Y,qc Y,qc Y,qc Y,qc Y,qc Y,qc Y,qc Z,qc Z,qc Z⟩ (fun hHeld=>?_)
   clear hK K
   refine qN (some 24) ?_
   refine Xw (i:=5) (N:=some 25) (v:=?_) (a':=?_) (bN 6 63) rfl rfl kr (fun _ _ _ h=>h) (Or.inl ⟨by rfl, ?_⟩) ?_ ?_
   rotate_left
   ·intro w'
    go_simp
    with_reducible rfl
   rotate_left
   ·simp only[Act.put,qS,Zb,Zj]
    rfl
   refine Z5 kr ?_
   try go_wp2
   go_ret2
   exact⟨rfl,HB.out⟩
 ·rw[if_neg c7] at H
  have c7b0:(κ == 0)=false:=beq_eq_false_iff_ne.mpr c7
  have c7b1:(κ != 0)=true:=bne_iff_ne.mpr c7
  simp only[Option.some.injEq,Prod.mk.injEq] at H
  obtain⟨rfl,rfl⟩:=H
  go_enter Try.func14,Try.ntmps14
  go_wp2_with (first|((with_reducible refine Qe (N:=5) rfl ?_);refine qE 5 #[.int .i64 J,.int .i64 B,.int .i64 L,.int .i64 O,.int .i64 X,.int .i64 δ,.int .i64 γ,.int .i64 θ,.int .i64 η,.int .i64 ζ] 25 ?_;intro ι hg kb hbox hb;have Y:=Aside0.mk hbox;have ae:=sGe hg;have af:=sGe hg;replace HB:=sHb hb;clear hb hbox hg)|((with_reducible refine Qe (N:=8) rfl ?_);refine qE 8 #[.slice a3 τ.length a4,.slice a5 ρ.length a6] 50 ?_;intro ag hg az hbox hb;have ε :=Aside0.mk hbox;have al:=sGe hg;have ap:=sGe hg;have ν :=sNl Y hg;have ξ :=sNg Y hg;replace Y:=sBk Y hb;replace HB:=sHb hb;clear hb hbox hg)|((with_reducible refine Qe (N:=9) rfl ?_);refine qE 9 #[.int .i64 a8,.int .i64 aa,.int .i64 ab] 36 ?_;intro a0 hg jl hbox hb;have Z:=Aside0.mk hbox;have ar:=sGe hg;have aw:=sGe hg;have σ:=sNl Y hg;have φ :=sNg Y hg;have χ :=sNl ε hg;have ψ :=sNg ε hg;replace Y:=sBk Y hb;replace ε :=sBk ε hb;replace HB:=sHb hb;clear hb hbox hg;have fq:= ν.out;have g2:= ξ.out;have ib:=σ.out;have ic:= φ.out;obtain⟨fx,fy,ik,il,im,io,ip,h7,jb,jc,gb,ge,iq,ir,it,iu,iv,jd,je,jf⟩:=Za Y.out;have hh:= χ.out;have hj:= ψ.out;obtain⟨en,et,fp,g3⟩:=qD2 ε.out)|((with_reducible refine Ql (f:=17) rfl ?_);refine Q2 (some 16) rfl rfl Try.func17 kr rfl #[.agg #[.int .i64 J,.int .i64 B,.int .i64 L,.int .i64 O,.int .i64 X,.int .i64 δ,.int .i64 γ,.int .i64 θ,.int .i64 η,.int .i64 ζ],.slice A1 l1.length c1,.agg #[.slice a3 τ.length a4,.slice a5 ρ.length a6]] rfl qM ?_;(with_reducible refine(group_Check.calls k J B L O X δ γ θ η ζ _ _ l1 _ _ τ _ _ ρ κ _ ?side1 ?side2 ?side3 ?side4 ?side5 ?side6 A6.out).mono ?_);(case side1=>exact(Kd.Qt de.out HB.out));(case side2=>exact dw.out);(case side3=>exact(Kd.Qt bk.out HB.out));(case side4=>exact cd.out);(case side5=>exact(Kd.Qt bz.out HB.out));(case side6=>exact ce.out);rintro e gw ⟨rfl,hb⟩;refine⟨_,rfl, ?_⟩;replace Y:=sBk Y hb;replace ε :=sBk ε hb;replace Z:=sBk Z hb;replace HB:=sHb hb;(try clear hb);(try clear a9);(try clear hk);(try clear hi)))
  go_ret2
  exact⟨rfl,HB.out⟩
mutual
def group_Spread.l0:Nat→List (S31)→Int→Int→Int→Int→Int→Int→Int→Int→Int→Int→Int→Int→Int→List (S36)→List (S86)→Option ((List (S36))×(List (S86))×Int)
 |0,_,_,_,_,_,_,_,_,_,_,_,_,_,_,_,_=>none
 |k+1,J,Y,μ,κ,O,X,Z,γ,δ,ε,ζ,η,θ,ι,B,L=>if κ < μ then (if 0 ≤ κ then (if κ < (B.length:Int) then (if ((Qc B κ).f2)≥0 then (if 0≤((Qc B κ).f2) then (if (Go.bits .and .i64 (shr .i64 Y ((Qc B κ).f2)) 1)=1 then (group_Spread.l0 k J Y μ (wrap64 (κ + 1)) O X Z γ δ ε ζ η θ ι (B.set (κ :Int).toNat (⟨(Qc B κ).f0,(Qc B κ).f1,(-1)⟩:S36)) L) else (group_Spread.l0 k J Y μ (wrap64 (κ + 1)) O X Z γ δ ε ζ η θ ι B L)) else (none)) else (group_Spread.l0 k J Y μ (wrap64 (κ + 1)) O X Z γ δ ε ζ η θ ι B L)) else (none)) else (none)) else (group_Spread.l1 k J Y (B.length:Int) 0 O X Z γ δ ε ζ η θ ι B L)
def group_Spread.l1:Nat→List (S31)→Int→Int→Int→Int→Int→Int→Int→Int→Int→Int→Int→Int→Int→List (S36)→List (S86)→Option ((List (S36))×(List (S86))×Int)
 |0,_,_,_,_,_,_,_,_,_,_,_,_,_,_,_,_=>none
 |k+1,J,Y,μ,κ,O,X,Z,γ,δ,ε,ζ,η,θ,ι,B,L=>if κ < μ then (if 0 ≤ κ then (if κ < (B.length:Int) then (if ((Qc B κ).f2)<0 then ((group_pick.f k O X Z γ δ ε ζ η θ ι J Y B L ((Qc B κ).f0) ((Qc B κ).f1) ((Qc B κ).f2)).bind fun cn=>(group_Spread.l1 k J Y μ (wrap64 (κ + 1)) O X Z γ δ ε ζ η θ ι (B.set (κ :Int).toNat (⟨(Qc B κ).f0,(Qc B κ).f1,cn⟩:S36)) L)) else (group_Spread.l1 k J Y μ (wrap64 (κ + 1)) O X Z γ δ ε ζ η θ ι B L)) else (none)) else (none)) else (some (B,L,0))
end
def group_Spread.f (k:Nat) (J:Int) (B:Int) (L:Int) (O:Int) (X:Int) (δ :Int) (γ:Int) (θ :Int) (η :Int) (ζ :Int) (l1:List (S31)) (a2:Int) (τ :List (S36)) (ρ:List (S86)):Option ((List (S36))×(List (S86))×Int):=(group_Check.f k J B L O X δ γ θ η ζ l1 τ ρ).bind fun aj=>(if aj=0 then ((some (([]:List (S36)):List (S36))).bind fun bl=>(if bl.length + τ.length<5864062014805 then ((some (bl ++ τ :List (S36))).bind fun au=>((some (([]:List (S86)):List (S86))).bind fun b3=>(if b3.length+ρ.length<8796093022208 then (group_Spread.l0 k l1 a2 (au.length:Int) 0 J B L O X δ γ θ η ζ au (b3++ρ)) else (none)))) else (none))) else (some (([]:List (S36)),([]:List (S86)),aj)))
theorem group_Spread.Zi:∀ k,(∀ L O X B Y Z y6 y7 y8 y9 γ ε ζ η θ ι,LeO (group_Spread.l0 k L O X B Y Z y6 y7 y8 y9 γ ε ζ η θ ι) (group_Spread.l0 (k+1) L O X B Y Z y6 y7 y8 y9 γ ε ζ η θ ι))∧(∀ L O X B Y Z y6 y7 y8 y9 γ ε ζ η θ ι,LeO (group_Spread.l1 k L O X B Y Z y6 y7 y8 y9 γ ε ζ η θ ι) (group_Spread.l1 (k+1) L O X B Y Z y6 y7 y8 y9 γ ε ζ η θ ι))
 |0=>⟨fun _ _ _ _ _ _ _ _ _ _ _ _ _ _ _ _ r h=>by simp[group_Spread.l0] at h,fun _ _ _ _ _ _ _ _ _ _ _ _ _ _ _ _ r h=>by simp[group_Spread.l1] at h⟩
 |k+1=>by
  obtain⟨J,δ⟩:=group_Spread.Zi k
  refine⟨?_, ?_⟩
  ·intro L O X B Y Z y6 y7 y8 y9 γ ε ζ η θ ι
   unfold group_Spread.l0
   repeat' first
   |(with_reducible exact J _ _ _ _ _ _ _ _ _ _ _ _ _ _ _ _)
   |(with_reducible exact δ _ _ _ _ _ _ _ _ _ _ _ _ _ _ _ _)
   |(with_reducible exact group_Check.mono _ _ _ _ _ _ _ _ _ _ _ _ _ _)
   |(with_reducible exact group_pick.mono _ _ _ _ _ _ _ _ _ _ _ _ _ _ _ _ _ _)
   |(with_reducible exact LeO.refl _)
   |(with_reducible exact LeO.none _)
   |(with_reducible refine LeO.ite ?_ ?_)
   |(with_reducible refine LeO.bind ?_ (fun _=>?_))
   |exact J _ _ _ _ _ _ _ _ _ _ _ _ _ _ _ _
   |exact δ _ _ _ _ _ _ _ _ _ _ _ _ _ _ _ _
   |exact group_Check.mono _ _ _ _ _ _ _ _ _ _ _ _ _ _
   |exact group_pick.mono _ _ _ _ _ _ _ _ _ _ _ _ _ _ _ _ _ _
   |exact LeO.none _
   |refine LeO.ite ?_ ?_
   |refine LeO.bind ?_ (fun _=>?_)
  ·intro L O X B Y Z y6 y7 y8 y9 γ ε ζ η θ ι
   unfold group_Spread.l1
   repeat' first
   |(with_reducible exact J _ _ _ _ _ _ _ _ _ _ _ _ _ _ _ _)
   |(with_reducible exact δ _ _ _ _ _ _ _ _ _ _ _ _ _ _ _ _)
   |(with_reducible exact group_Check.mono _ _ _ _ _ _ _ _ _ _ _ _ _ _)
   |(with_reducible exact group_pick.mono _ _ _ _ _ _ _ _ _ _ _ _ _ _ _ _ _ _)
   |(with_reducible exact LeO.refl _)
   |(with_reducible exact LeO.none _)
   |(with_reducible refine LeO.ite ?_ ?_)
   |(with_reducible refine LeO.bind ?_ (fun _=>?_))
   |exact J _ _ _ _ _ _ _ _ _ _ _ _ _ _ _ _
   |exact δ _ _ _ _ _ _ _ _ _ _ _ _ _ _ _ _
   |exact group_Check.mono _ _ _ _ _ _ _ _ _ _ _ _ _ _
   |exact group_pick.mono _ _ _ _ _ _ _ _ _ _ _ _ _ _ _ _ _ _
   |exact LeO.none _
   |refine LeO.ite ?_ ?_
   |refine LeO.bind ?_ (fun _=>?_)
theorem group_Spread.mono:∀ B O a2 a3 L a5 X a7 a8 a9 Y Z γ ε k,LeO (group_Spread.f k B O a2 a3 L a5 X a7 a8 a9 Y Z γ ε) (group_Spread.f (k+1) B O a2 a3 L a5 X a7 a8 a9 Y Z γ ε):=by
 intro B O a2 a3 L a5 X a7 a8 a9 Y Z γ ε k
 obtain⟨J,δ⟩:=group_Spread.Zi k
 unfold group_Spread.f
 repeat' first
   |(with_reducible exact J _ _ _ _ _ _ _ _ _ _ _ _ _ _ _ _)
   |(with_reducible exact δ _ _ _ _ _ _ _ _ _ _ _ _ _ _ _ _)
   |(with_reducible exact group_Check.mono _ _ _ _ _ _ _ _ _ _ _ _ _ _)
   |(with_reducible exact group_pick.mono _ _ _ _ _ _ _ _ _ _ _ _ _ _ _ _ _ _)
   |(with_reducible exact LeO.refl _)
   |(with_reducible exact LeO.none _)
   |(with_reducible refine LeO.ite ?_ ?_)
   |(with_reducible refine LeO.bind ?_ (fun _=>?_))
   |exact J _ _ _ _ _ _ _ _ _ _ _ _ _ _ _ _
   |exact δ _ _ _ _ _ _ _ _ _ _ _ _ _ _ _ _
   |exact group_Check.mono _ _ _ _ _ _ _ _ _ _ _ _ _ _
   |exact group_pick.mono _ _ _ _ _ _ _ _ _ _ _ _ _ _ _ _ _ _
   |exact LeO.none _
   |refine LeO.ite ?_ ?_
   |refine LeO.bind ?_ (fun _=>?_)
def group_Spread.T4:Bool×List (List Nat×List Nat):=(true,[([],[]),([],[]),([1],[1]),([0,2],[0,2]),([],[]),([],[]),([5],[5]),([4,6,3],[4,6]),([3,7],[3,7]),([],[]),([9,8,7,0,1,2,3,4,5,6,7,8,9],[8,9])])
def group_Spread.B4:List Nat:=[0,0,2,7,0,0,32,127,255,0,1023]
theorem group_Spread.G9:rtab .any (opsOf Try.f21 4)=group_Spread.T4:=by kernel_rfl
theorem group_Spread.Ke:Zs group_Spread.T4.2 group_Spread.B4=true:=by kernel_rfl
def group_Spread.T15:Bool×List (List Nat×List Nat):=(true,[([],[]),([0],[0]),([],[]),([],[]),([],[]),([],[]),([],[]),([],[]),([3,4,5,6,7],[3,4,5,6,7]),([1,2,0,1,2,3,4,5,6,7,8],[1,2]),([9,0,1,2,3,4,5,6,7,8],[9]),([10,8,8,0,1,2,3,4,5,6,7,8],[8,10])])
def group_Spread.B15:List Nat:=[0,1,0,0,0,0,0,0,248,511,1023,2047]
theorem group_Spread.tab15:rtab .any (opsOf Try.f21 15)=group_Spread.T15:=by kernel_rfl
theorem group_Spread.N8:Zs group_Spread.T15.2 group_Spread.B15=true:=by kernel_rfl
set_option maxHeartbeats 8000000 in
set_option maxRecDepth 100000 in
theorem group_Spread.calls (k:Nat) (J:Int) (B:Int) (L:Int) (O:Int) (X:Int) (δ :Int) (γ:Int) (θ :Int) (η :Int) (ζ :Int) (A1:Option Addr) (c1:Nat) (l1:List (S31)) (a2:Int) (a3:Option Addr) (a4:Nat) (τ :List (S36)) (a5:Option Addr) (a6:Nat) (ρ:List (S86)) (r1:List (S36)) (r2:List (S86)) (r3:Int) (w:World) (dt:Kd.C k31 w A1 l1.length l1) (dl:l1.length≤c1) (dn:Kd.C k36 w a3 τ.length τ) (dp: τ.length≤a4) (dq:Kd.C k86 w a5 ρ.length ρ) (dr:ρ.length≤a6) (h:group_Spread.f k J B L O X δ γ θ η ζ l1 a2 τ ρ=some (r1,r2,r3)):
  Calls Try.prog 21 #[.agg #[.int .i64 J,.int .i64 B,.int .i64 L,.int .i64 O,.int .i64 X,.int .i64 δ,.int .i64 γ,.int .i64 θ,.int .i64 η,.int .i64 ζ],.slice A1 l1.length c1,.int .i64 a2,.agg #[.slice a3 τ.length a4,.slice a5 ρ.length a6]] w fun e w'=>∃ ba fj:Value,e = .returned (.tuple #[.agg #[ba,fj],.int .i64 r3])∧Kd.R k36 36 w' w.heap.size (fun _=>True) ba r1∧Kd.R k86 86 w' w.heap.size (fun _=>True) fj r2∧Below w.heap.size w w':=by
 have db:=Try.underlying25
 have fe:=Try.underlying50
 have d9:=Try.underlying36
 have de:=Aside0.mk dt
 have dw:=Aside0.mk dl
 clear dt dl
 have bk:=Aside0.mk dn
 have cd:=Aside0.mk dp
 clear dn dp
 have bz:=Aside0.mk dq
 have ce:=Aside0.mk dr
 clear dq dr
 have HB:=Aside0.mk (Below.refl w.heap.size w)
 have H:((group_Check.f k J B L O X δ γ θ η ζ l1 τ ρ).bind fun aj=>(if aj=0 then ((some (([]:List (S36)):List (S36))).bind fun bl=>(if bl.length + τ.length<5864062014805 then ((some (bl ++ τ :List (S36))).bind fun au=>((some (([]:List (S86)):List (S86))).bind fun b3=>(if b3.length+ρ.length<8796093022208 then (group_Spread.l0 k l1 a2 (au.length:Int) 0 J B L O X δ γ θ η ζ au (b3++ρ)) else (none)))) else (none))) else (some (([]:List (S36)),([]:List (S86)),aj))))=some (r1,r2,r3):=h
 clear h
 replace H:=Option.bind_eq_some_iff.mp H
 obtain⟨aj,bm,H⟩:=H
 replace H:(if aj=0 then ((some (([]:List (S36)):List (S36))).bind fun bl=>(if bl.length + τ.length<5864062014805 then ((some (bl ++ τ :List (S36))).bind fun au=>((some (([]:List (S86)):List (S86))).bind fun b3=>(if b3.length+ρ.length<8796093022208 then (group_Spread.l0 k l1 a2 (au.length:Int) 0 J B L O X δ γ θ η ζ au (b3++ρ)) else (none)))) else (none))) else (some (([]:List (S36)),([]:List (S86)),aj)))=some (r1,r2,r3):=H
 have A5:=Aside0.mk bm
 clear bm
 by_cases c6:aj=0
 ·rw[if_pos c6] at H
  have c6b0:(aj==0)=true:=beq_iff_eq.mpr c6
  have c6b1:(aj != 0)=false:=bne_eq_false_iff_eq.mpr c6
  clear c6
  obtain⟨bl,gh⟩:∃ y_:List (S36),y_=(([]:List (S36))):=⟨_,rfl⟩
  replace H:(if bl.length + τ.length<5864062014805 then ((some (bl ++ τ :List (S36))).bind fun au=>((some (([]:List (S86)):List (S86))).bind fun b3=>(if b3.length+ρ.length<8796093022208 then (group_Spread.l0 k l1 a2 (au.length:Int) 0 J B L O X δ γ θ η ζ au (b3++ρ)) else (none)))) else (none))=some (r1,r2,r3):=by first|(rw[gh];with_reducible exact H)|(have am:=(Option.bind_some _ _).symm.trans H;rw[gh];with_reducible exact am)|(have am:=(Option.bind_some _ _).symm.trans H;with_reducible exact am)|with_reducible exact H|(rw[gh];exact H)|exact H
  have ez:=Aside0.mk gh
  clear gh
  by_cases c7:bl.length + τ.length<5864062014805
  ·rw[if_pos c7] at H
   have jl:=Aside0.mk c7
   clear c7
   obtain⟨au,gi⟩:∃ y_:List (S36),y_=(bl ++ τ):=⟨_,rfl⟩
   replace H:((some (([]:List (S86)):List (S86))).bind fun b3=>(if b3.length+ρ.length<8796093022208 then (group_Spread.l0 k l1 a2 (au.length:Int) 0 J B L O X δ γ θ η ζ au (b3++ρ)) else (none)))=some (r1,r2,r3):=by first|(rw[gi];with_reducible exact H)|(have am:=(Option.bind_some _ _).symm.trans H;rw[gi];with_reducible exact am)|(have am:=(Option.bind_some _ _).symm.trans H;with_reducible exact am)|with_reducible exact H|(rw[gi];exact H)|exact H
   have hl:=Aside0.mk gi
   clear gi
   obtain⟨b3,gj⟩:∃ y_:List (S86),y_=(([]:List (S86))):=⟨_,rfl⟩
   replace H:(if b3.length+ρ.length<8796093022208 then (group_Spread.l0 k l1 a2 (au.length:Int) 0 J B L O X δ γ θ η ζ au (b3++ρ)) else (none))=some (r1,r2,r3):=by first|(rw[gj];with_reducible exact H)|(have am:=(Option.bind_some _ _).symm.trans H;rw[gj];with_reducible exact am)|(have am:=(Option.bind_some _ _).symm.trans H;with_reducible exact am)|with_reducible exact H|(rw[gj];exact H)|exact H
   have da:=Aside0.mk gj
   clear gj
   by_cases c8:b3.length+ρ.length<8796093022208
   ·rw[if_pos c8] at H
    have m2:=Aside0.mk c8
    clear c8
    obtain⟨b4,gl⟩:∃ y_:List (S86),y_=(b3++ρ):=⟨_,rfl⟩
    replace H:(group_Spread.l0 k l1 a2 (au.length:Int) 0 J B L O X δ γ θ η ζ au b4)=some (r1,r2,r3):=by first|(rw[gl];with_reducible exact H)|(have am:=(Option.bind_some _ _).symm.trans H;rw[gl];with_reducible exact am)|(have am:=(Option.bind_some _ _).symm.trans H;with_reducible exact am)|with_reducible exact H|(rw[gl];exact H)|exact H
    have kx:=Aside0.mk gl
    clear gl
    have H':=Aside0.mk H
    clear H
    go_enter Try.func21,Try.ntmps21
    try go_wp2_with (first|((with_reducible refine Qe (N:=4) rfl ?_);refine qE 4 #[.int .i64 J,.int .i64 B,.int .i64 L,.int .i64 O,.int .i64 X,.int .i64 δ,.int .i64 γ,.int .i64 θ,.int .i64 η,.int .i64 ζ] 25 ?_;intro a1 hg w9 hbox hb;have Z:=Aside0.mk hbox;have ki:=sGe hg;have iz:=sGe hg;replace HB:=sHb hb;clear hb hbox hg)|((with_reducible refine Qe (N:=7) rfl ?_);refine qE 7 #[.slice a3 τ.length a4,.slice a5 ρ.length a6] 50 ?_;intro μ hg ig hbox hb;have Y:=Aside0.mk hbox;have nd:=sGe hg;have nh:=sGe hg;have fk:=sNl Z hg;have fl:=sNg Z hg;replace Z:=sBk Z hb;replace HB:=sHb hb;clear hb hbox hg)|((with_reducible refine Qe (N:=8) rfl ?_);refine qE 8 #[.slice none 0 0,.slice none 0 0] 50 ?_;intro ag hg el hbox hb;have ε :=Aside0.mk hbox;have ni:=sGe hg;have nj:=sGe hg;have f8:=sNl Z hg;have fa:=sNg Z hg;have fb:=sNl Y hg;have fc:=sNg Y hg;replace Z:=sBk Z hb;replace Y:=sBk Y hb;replace HB:=sHb hb;clear hb hbox hg;have gb:=fk.out;have ge:=fl.out;have j2:=f8.out;have j3:=fa.out;obtain⟨cg,ch,cx,cy,cz,d0,d1,dc,ff,fg,ci,cj,d2,d3,d4,d5,d6,dd,fh,fi⟩:=Za Z.out;have gf:=fb.out;have gg:=fc.out;obtain⟨dx,dy,dz,e0⟩:=qD2 Y.out)|((with_reducible refine Ql (f:=17) rfl ?_);refine Q2 (some 19) rfl rfl Try.func17 kr rfl #[.agg #[.int .i64 J,.int .i64 B,.int .i64 L,.int .i64 O,.int .i64 X,.int .i64 δ,.int .i64 γ,.int .i64 θ,.int .i64 η,.int .i64 ζ],.slice A1 l1.length c1,.agg #[.slice a3 τ.length a4,.slice a5 ρ.length a6]] rfl qM ?_;(with_reducible refine(group_Check.calls k J B L O X δ γ θ η ζ _ _ l1 _ _ τ _ _ ρ aj _ ?side1 ?side2 ?side3 ?side4 ?side5 ?side6 A5.out).mono ?_);(case side1=>exact(Kd.Qt de.out HB.out));(case side2=>exact dw.out);(case side3=>exact(Kd.Qt bk.out HB.out));(case side4=>exact cd.out);(case side5=>exact(Kd.Qt bz.out HB.out));(case side6=>exact ce.out);rintro e du ⟨rfl,hb⟩;refine⟨_,rfl, ?_⟩;replace Z:=sBk Z hb;replace Y:=sBk Y hb;replace ε :=sBk ε hb;replace HB:=sHb hb;(try clear hb);(try clear a9);(try clear hk);(try clear hi)))
    replace Z:=Aside0.mk (Qd Z.out)
    replace Y:=Aside0.mk (Qd Y.out)
    replace ε :=Aside0.mk (Qd ε.out)
    replace HB:=Aside0.mk (Qf HB.out)
    refine Zn (n:=11) (S:=fun w'=>w'.cell? ⟨μ,0,none⟩=some (.slice a3 τ.length a4)∧w'.cell? ⟨μ,1,none⟩=some (.slice a5 ρ.length a6)) (ds:=[]) #[false,false,false,false,false,false,false,false,false,false,false] kr rfl rfl ⟨(Qa Y.out 0).trans rfl,(Qa Y.out 1).trans rfl⟩ (fun hHeld=>?_);refine Q8 group_Spread.G9 group_Spread.Ke (fun HT_ HW_=>?_)
    generalize du.drew=h7 at Z Y ε HB hHeld ⊢
    refine qP 1 (some 25) (bN 11 2) HT_ ?_
    refine qP 5 (some 29) (bN 11 34) HT_ ?_
    refine qT 2 (some 26) (bN 11 38) HT_ HW_ hHeld ?_
    refine qT 6 (some 30) (bN 11 102) HT_ HW_ hHeld ?_
    refine Ys (σ:=Value×Value×Value×Value×Nat) 1 (bN 11 1023) (fun s_=>[(24,s_.1),(27,s_.2.1),(28,s_.2.2.1),(31,s_.2.2.2.1),(11,.pointer (some ⟨s_.2.2.2.2,0,none⟩)),(32,.agg #[s_.2.1,s_.2.2.2.1])]) (fun s_ w'=>(w'.cell? ⟨μ,0,none⟩=some (.slice a3 τ.length a4)∧w'.cell? ⟨μ,1,none⟩=some (.slice a5 ρ.length a6))∧(Kd.R k36 36 w' w.heap.size (fun _=>True) s_.2.1 au)∧(Kd.R k86 86 w' w.heap.size (fun _=>True) s_.2.2.2.1 b4)∧(w'.heap[a1]?=some (.cells #[.int .i64 J,.int .i64 B,.int .i64 L,.int .i64 O,.int .i64 X,.int .i64 δ,.int .i64 γ,.int .i64 θ,.int .i64 η,.int .i64 ζ] 25 (0,0)))∧(w'.heap[μ]?=some (.cells #[.slice a3 τ.length a4,.slice a5 ρ.length a6] 50 (0,0)))∧(w'.heap[ag]?=some (.cells #[.slice none 0 0,.slice none 0 0] 50 (0,0)))∧(w'.heap[s_.2.2.2.2]?=some (.cells #[.slice none 0 0,.slice none 0 0] 50 (0,0)))∧(w.heap.size≤s_.2.2.2.2)∧(w.heap.size≤s_.2.2.2.2)∧(a1≠s_.2.2.2.2)∧(s_.2.2.2.2≠a1)∧(μ ≠ s_.2.2.2.2)∧(s_.2.2.2.2 ≠ μ)∧(ag≠s_.2.2.2.2)∧(s_.2.2.2.2≠ag)∧(Below w.heap.size w w')) ?_ ?_
    rotate_left
    ·intro g8
     refine Ys (σ:=Value×Value×Value×Value) 2 (bN 11 511) (fun s_=>[(24,s_.1),(27,s_.2.1),(28,s_.2.2.1),(31,s_.2.2.2),(32,.agg #[s_.2.1,s_.2.2.2])]) (fun s_ w'=>(w'.cell? ⟨μ,0,none⟩=some (.slice a3 τ.length a4)∧w'.cell? ⟨μ,1,none⟩=some (.slice a5 ρ.length a6))∧(Kd.R k36 36 w' w.heap.size (fun _=>True) s_.2.1 au)∧(Kd.R k86 86 w' w.heap.size (fun _=>True) s_.2.2.2 b4)∧(w'.heap[a1]?=some (.cells #[.int .i64 J,.int .i64 B,.int .i64 L,.int .i64 O,.int .i64 X,.int .i64 δ,.int .i64 γ,.int .i64 θ,.int .i64 η,.int .i64 ζ] 25 (0,0)))∧(w'.heap[μ]?=some (.cells #[.slice a3 τ.length a4,.slice a5 ρ.length a6] 50 (0,0)))∧(w'.heap[ag]?=some (.cells #[.slice none 0 0,.slice none 0 0] 50 (0,0)))∧(Below w.heap.size w w')) ?_ ?_
     rotate_left
     ·intro jr
      refine Ys (σ:=Value×Value×Value×Nat) 3 (bN 11 639) (fun s_=>[(24,s_.1),(27,s_.2.1),(28,s_.2.2.1),(11,.pointer (some ⟨s_.2.2.2,0,none⟩))]) (fun s_ w'=>(w'.cell? ⟨μ,0,none⟩=some (.slice a3 τ.length a4)∧w'.cell? ⟨μ,1,none⟩=some (.slice a5 ρ.length a6))∧(Kd.R k36 36 w' w.heap.size (fun _=>True) s_.2.1 au)∧(Kd.R k86 86 w' w.heap.size (fun _=>True) s_.2.2.1 b3)∧(w'.heap[a1]?=some (.cells #[.int .i64 J,.int .i64 B,.int .i64 L,.int .i64 O,.int .i64 X,.int .i64 δ,.int .i64 γ,.int .i64 θ,.int .i64 η,.int .i64 ζ] 25 (0,0)))∧(w'.heap[μ]?=some (.cells #[.slice a3 τ.length a4,.slice a5 ρ.length a6] 50 (0,0)))∧(w'.heap[ag]?=some (.cells #[.slice none 0 0,.slice none 0 0] 50 (0,0)))∧(w'.heap[s_.2.2.2]?=some (.cells #[.slice none 0 0,.slice none 0 0] 50 (0,0)))∧(w.heap.size≤s_.2.2.2)∧(w.heap.size≤s_.2.2.2)∧(a1≠s_.2.2.2)∧(s_.2.2.2≠a1)∧(μ ≠ s_.2.2.2)∧(s_.2.2.2 ≠ μ)∧(ag≠s_.2.2.2)∧(s_.2.2.2≠ag)∧(Below w.heap.size w w')) ?_ ?_
      rotate_left
      ·intro fm
       refine Ys (σ:=Value×Value×Value) 4 (bN 11 127) (fun s_=>[(24,s_.1),(27,s_.2.1),(28,s_.2.2)]) (fun s_ w'=>(w'.cell? ⟨μ,0,none⟩=some (.slice a3 τ.length a4)∧w'.cell? ⟨μ,1,none⟩=some (.slice a5 ρ.length a6))∧(Kd.R k36 36 w' w.heap.size (fun _=>True) s_.2.1 au)∧(Kd.R k86 86 w' w.heap.size (fun _=>True) s_.2.2 b3)∧(w'.heap[a1]?=some (.cells #[.int .i64 J,.int .i64 B,.int .i64 L,.int .i64 O,.int .i64 X,.int .i64 δ,.int .i64 γ,.int .i64 θ,.int .i64 η,.int .i64 ζ] 25 (0,0)))∧(w'.heap[μ]?=some (.cells #[.slice a3 τ.length a4,.slice a5 ρ.length a6] 50 (0,0)))∧(w'.heap[ag]?=some (.cells #[.slice none 0 0,.slice none 0 0] 50 (0,0)))∧(Below w.heap.size w w')) ?_ ?_
       rotate_left
       ·intro iv
        refine Ys (σ:=Value×Value×Nat) 4 (bN 11 623) (fun s_=>[(24,s_.1),(27,s_.2.1),(11,.pointer (some ⟨s_.2.2,0,none⟩))]) (fun s_ w'=>(w'.cell? ⟨μ,0,none⟩=some (.slice a3 τ.length a4)∧w'.cell? ⟨μ,1,none⟩=some (.slice a5 ρ.length a6))∧(Kd.R k36 36 w' w.heap.size (fun _=>True) s_.2.1 au)∧(w'.heap[a1]?=some (.cells #[.int .i64 J,.int .i64 B,.int .i64 L,.int .i64 O,.int .i64 X,.int .i64 δ,.int .i64 γ,.int .i64 θ,.int .i64 η,.int .i64 ζ] 25 (0,0)))∧(w'.heap[μ]?=some (.cells #[.slice a3 τ.length a4,.slice a5 ρ.length a6] 50 (0,0)))∧(w'.heap[ag]?=some (.cells #[.slice none 0 0,.slice none 0 0] 50 (0,0)))∧(w'.heap[s_.2.2]?=some (.cells #[.slice none 0 0,.slice none 0 0] 50 (0,0)))∧(w.heap.size≤s_.2.2)∧(w.heap.size≤s_.2.2)∧(a1≠s_.2.2)∧(s_.2.2≠a1)∧(μ ≠ s_.2.2)∧(s_.2.2 ≠ μ)∧(ag≠s_.2.2)∧(s_.2.2≠ag)∧(Below w.heap.size w w')) ?_ ?_
        rotate_left
        ·intro iw
         refine Ys (σ:=Value×Value×Nat) 4 (bN 11 631) (fun s_=>[(24,s_.1),(28,s_.2.1),(11,.pointer (some ⟨s_.2.2,0,none⟩))]) (fun s_ w'=>(w'.cell? ⟨μ,0,none⟩=some (.slice a3 τ.length a4)∧w'.cell? ⟨μ,1,none⟩=some (.slice a5 ρ.length a6))∧(Kd.R k36 36 w' w.heap.size (fun _=>True) s_.1 bl)∧(Kd.R k86 86 w' w.heap.size (fun _=>True) s_.2.1 b3)∧(w'.heap[a1]?=some (.cells #[.int .i64 J,.int .i64 B,.int .i64 L,.int .i64 O,.int .i64 X,.int .i64 δ,.int .i64 γ,.int .i64 θ,.int .i64 η,.int .i64 ζ] 25 (0,0)))∧(w'.heap[μ]?=some (.cells #[.slice a3 τ.length a4,.slice a5 ρ.length a6] 50 (0,0)))∧(w'.heap[ag]?=some (.cells #[.slice none 0 0,.slice none 0 0] 50 (0,0)))∧(w'.heap[s_.2.2]?=some (.cells #[.slice none 0 0,.slice none 0 0] 50 (0,0)))∧(w.heap.size≤s_.2.2)∧(w.heap.size≤s_.2.2)∧(a1≠s_.2.2)∧(s_.2.2≠a1)∧(μ ≠ s_.2.2)∧(s_.2.2 ≠ μ)∧(ag≠s_.2.2)∧(s_.2.2≠ag)∧(Below w.heap.size w w')) ?_ ?_
         rotate_left
         ·intro h0
          refine Ys (σ:=Value×Value) 5 (bN 11 111) (fun s_=>[(24,s_.1),(27,s_.2)]) (fun s_ w'=>(w'.cell? ⟨μ,0,none⟩=some (.slice a3 τ.length a4)∧w'.cell? ⟨μ,1,none⟩=some (.slice a5 ρ.length a6))∧(Kd.R k36 36 w' w.heap.size (fun _=>True) s_.2 au)∧(w'.heap[a1]?=some (.cells #[.int .i64 J,.int .i64 B,.int .i64 L,.int .i64 O,.int .i64 X,.int .i64 δ,.int .i64 γ,.int .i64 θ,.int .i64 η,.int .i64 ζ] 25 (0,0)))∧(w'.heap[μ]?=some (.cells #[.slice a3 τ.length a4,.slice a5 ρ.length a6] 50 (0,0)))∧(w'.heap[ag]?=some (.cells #[.slice none 0 0,.slice none 0 0] 50 (0,0)))∧(Below w.heap.size w w')) ?_ ?_
          rotate_left
          ·intro nk
           refine Ys (σ:=Value×Value) 5 (bN 11 119) (fun s_=>[(24,s_.1),(28,s_.2)]) (fun s_ w'=>(w'.cell? ⟨μ,0,none⟩=some (.slice a3 τ.length a4)∧w'.cell? ⟨μ,1,none⟩=some (.slice a5 ρ.length a6))∧(Kd.R k36 36 w' w.heap.size (fun _=>True) s_.1 bl)∧(Kd.R k86 86 w' w.heap.size (fun _=>True) s_.2 b3)∧(w'.heap[a1]?=some (.cells #[.int .i64 J,.int .i64 B,.int .i64 L,.int .i64 O,.int .i64 X,.int .i64 δ,.int .i64 γ,.int .i64 θ,.int .i64 η,.int .i64 ζ] 25 (0,0)))∧(w'.heap[μ]?=some (.cells #[.slice a3 τ.length a4,.slice a5 ρ.length a6] 50 (0,0)))∧(w'.heap[ag]?=some (.cells #[.slice none 0 0,.slice none 0 0] 50 (0,0)))∧(Below w.heap.size w w')) ?_ ?_
           rotate_left
           ·intro ky
            refine Ys (σ:=Value×Nat) 5 (bN 11 615) (fun s_=>[(24,s_.1),(11,.pointer (some ⟨s_.2,0,none⟩))]) (fun s_ w'=>(w'.cell? ⟨μ,0,none⟩=some (.slice a3 τ.length a4)∧w'.cell? ⟨μ,1,none⟩=some (.slice a5 ρ.length a6))∧(Kd.R k36 36 w' w.heap.size (fun _=>True) s_.1 bl)∧(w'.heap[a1]?=some (.cells #[.int .i64 J,.int .i64 B,.int .i64 L,.int .i64 O,.int .i64 X,.int .i64 δ,.int .i64 γ,.int .i64 θ,.int .i64 η,.int .i64 ζ] 25 (0,0)))∧(w'.heap[μ]?=some (.cells #[.slice a3 τ.length a4,.slice a5 ρ.length a6] 50 (0,0)))∧(w'.heap[ag]?=some (.cells #[.slice none 0 0,.slice none 0 0] 50 (0,0)))∧(w'.heap[s_.2]?=some (.cells #[.slice none 0 0,.slice none 0 0] 50 (0,0)))∧(w.heap.size≤s_.2)∧(w.heap.size≤s_.2)∧(a1≠s_.2)∧(s_.2≠a1)∧(μ ≠ s_.2)∧(s_.2 ≠ μ)∧(ag≠s_.2)∧(s_.2≠ag)∧(Below w.heap.size w w')) ?_ ?_
            rotate_left
            ·intro kz
             refine Ys (σ:=Value×Nat) 5 (bN 11 630) (fun s_=>[(28,s_.1),(11,.pointer (some ⟨s_.2,0,none⟩))]) (fun s_ w'=>(w'.cell? ⟨μ,0,none⟩=some (.slice a3 τ.length a4)∧w'.cell? ⟨μ,1,none⟩=some (.slice a5 ρ.length a6))∧(Kd.R k86 86 w' w.heap.size (fun _=>True) s_.1 b3)∧(w'.heap[a1]?=some (.cells #[.int .i64 J,.int .i64 B,.int .i64 L,.int .i64 O,.int .i64 X,.int .i64 δ,.int .i64 γ,.int .i64 θ,.int .i64 η,.int .i64 ζ] 25 (0,0)))∧(w'.heap[μ]?=some (.cells #[.slice a3 τ.length a4,.slice a5 ρ.length a6] 50 (0,0)))∧(w'.heap[ag]?=some (.cells #[.slice none 0 0,.slice none 0 0] 50 (0,0)))∧(w'.heap[s_.2]?=some (.cells #[.slice none 0 0,.slice none 0 0] 50 (0,0)))∧(w.heap.size≤s_.2)∧(w.heap.size≤s_.2)∧(a1≠s_.2)∧(s_.2≠a1)∧(μ ≠ s_.2)∧(s_.2 ≠ μ)∧(ag≠s_.2)∧(s_.2≠ag)∧(Below w.heap.size w w')) ?_ ?_
             rotate_left
             ·intro l2
              refine Ys (σ:=Value) 6 (bN 11 103) (fun s_=>[(24,s_)]) (fun s_ w'=>(w'.cell? ⟨μ,0,none⟩=some (.slice a3 τ.length a4)∧w'.cell? ⟨μ,1,none⟩=some (.slice a5 ρ.length a6))∧(Kd.R k36 36 w' w.heap.size (fun _=>True) s_ bl)∧(w'.heap[a1]?=some (.cells #[.int .i64 J,.int .i64 B,.int .i64 L,.int .i64 O,.int .i64 X,.int .i64 δ,.int .i64 γ,.int .i64 θ,.int .i64 η,.int .i64 ζ] 25 (0,0)))∧(w'.heap[μ]?=some (.cells #[.slice a3 τ.length a4,.slice a5 ρ.length a6] 50 (0,0)))∧(w'.heap[ag]?=some (.cells #[.slice none 0 0,.slice none 0 0] 50 (0,0)))∧(Below w.heap.size w w')) ?_ ?_
              rotate_left
              ·intro qj
               refine Ys (σ:=Value) 6 (bN 11 118) (fun s_=>[(28,s_)]) (fun s_ w'=>(w'.cell? ⟨μ,0,none⟩=some (.slice a3 τ.length a4)∧w'.cell? ⟨μ,1,none⟩=some (.slice a5 ρ.length a6))∧(Kd.R k86 86 w' w.heap.size (fun _=>True) s_ b3)∧(w'.heap[a1]?=some (.cells #[.int .i64 J,.int .i64 B,.int .i64 L,.int .i64 O,.int .i64 X,.int .i64 δ,.int .i64 γ,.int .i64 θ,.int .i64 η,.int .i64 ζ] 25 (0,0)))∧(w'.heap[μ]?=some (.cells #[.slice a3 τ.length a4,.slice a5 ρ.length a6] 50 (0,0)))∧(w'.heap[ag]?=some (.cells #[.slice none 0 0,.slice none 0 0] 50 (0,0)))∧(Below w.heap.size w w')) ?_ ?_
               rotate_left
               ·intro qk
                refine Ys (σ:=Nat) 6 (bN 11 614) (fun s_=>[(11,.pointer (some ⟨s_,0,none⟩))]) (fun s_ w'=>(w'.cell? ⟨μ,0,none⟩=some (.slice a3 τ.length a4)∧w'.cell? ⟨μ,1,none⟩=some (.slice a5 ρ.length a6))∧(w'.heap[a1]?=some (.cells #[.int .i64 J,.int .i64 B,.int .i64 L,.int .i64 O,.int .i64 X,.int .i64 δ,.int .i64 γ,.int .i64 θ,.int .i64 η,.int .i64 ζ] 25 (0,0)))∧(w'.heap[μ]?=some (.cells #[.slice a3 τ.length a4,.slice a5 ρ.length a6] 50 (0,0)))∧(w'.heap[ag]?=some (.cells #[.slice none 0 0,.slice none 0 0] 50 (0,0)))∧(w'.heap[s_]?=some (.cells #[.slice none 0 0,.slice none 0 0] 50 (0,0)))∧(w.heap.size≤s_)∧(w.heap.size≤s_)∧(a1≠s_)∧(s_≠a1)∧(μ ≠ s_)∧(s_ ≠ μ)∧(ag≠s_)∧(s_≠ag)∧(Below w.heap.size w w')) ?_ ?_
                rotate_left
                ·intro ql
                 refine Lp (i:=0) (j:=4) (k:=9) (Ni:=some 24) (Nj:=some 28) (Nk:=some 11) #[true,true,true,false,false,true,true,false,false,false,false] #[false,true,true,false,true,true,true,false,false,false,false] #[false,true,true,false,false,true,true,false,false,true,false] rfl rfl rfl rfl rfl rfl (V1 HT_.out kr) (by decide) (by decide) (by decide) (fun K hK=>?_) (fun K hK=>?_) (fun K hK=>?_)
                 ·skip
                  refine Kd.Z4 k36 _ 36 ?hg (N:=24) ?hd (xs:=([]:List (S36))) (inner:=[]) (ok:=fun _=>True) (okp:=fun _=>True) ?hr ?hp (fun _ hk=>hk) trivial (Below.refl _ _) (Nat.le_refl _) (by simp) ?_;(case hd=>rfl);(case hg=>rfl);(case hr=>go_simp <;> rfl);(case hp=>exact(Reps.none _ _))
                  intro av az eu hb hg_ hnew_
                  clear hg_ hnew_
                  (first|rw[← ez.out] at eu|(simp only[Int.reduceToNat] at eu;rw[← ez.out] at eu))
                  have al:=Aside0.mk (Kd.Q9 eu (Qr HB.out))
                  replace Z:=sBk Z hb
                  replace Y:=sBk Y hb
                  replace ε :=sBk ε hb
                  replace HB:=sHb hb
                  clear hb eu
                  refine hK.out _ _ ⟨qc Y,qc Y⟩ (fun hHeld=>?_)
                  clear hK K
                  refine qN (some 24) ?_
                  exact Zp (by first|(simp only[Q4,Act.put,qS];done)|(simp only[Q4,Act.put,qS];rfl)) (qj (av) _ ⟨hHeld,al.out,Z.out,Y.out,ε.out,HB.out⟩)
                 ·skip
                  refine Kd.Z4 k86 _ 86 ?hg (N:=28) ?hd (xs:=([]:List (S86))) (inner:=[]) (ok:=fun _=>True) (okp:=fun _=>True) ?hr ?hp (fun _ hk=>hk) trivial (Below.refl _ _) (Nat.le_refl _) (by simp) ?_;(case hd=>rfl);(case hg=>rfl);(case hr=>go_simp <;> rfl);(case hp=>exact(Reps.none _ _))
                  intro ay az eu hb hg_ hnew_
                  clear hg_ hnew_
                  (first|rw[← da.out] at eu|(simp only[Int.reduceToNat] at eu;rw[← da.out] at eu))
                  have ai:=Aside0.mk (Kd.Q9 eu (Qr HB.out))
                  replace Z:=sBk Z hb
                  replace Y:=sBk Y hb
                  replace ε :=sBk ε hb
                  replace HB:=sHb hb
                  clear hb eu
                  refine hK.out _ _ ⟨qc Y,qc Y⟩ (fun hHeld=>?_)
                  clear hK K
                  refine qN (some 28) ?_
                  exact Zp (by first|(simp only[Q4,Act.put,qS];done)|(simp only[Q4,Act.put,qS];rfl)) (qk (ay) _ ⟨hHeld,ai.out,Z.out,Y.out,ε.out,HB.out⟩)
                 ·skip
                  refine Xr ?hg (N:=11) ?hd (cs:=#[.slice none 0 0,.slice none 0 0]) (t:=50) ?hr ?_;(case hd=>rfl);(case hg=>rfl);(case hr=>go_simp <;> rfl)
                  intro χ hg az hbox hb
                  have ν :=Aside0.mk hbox
                  have b0:=sGe hg
                  have b1:=sGe hg
                  have aa:=sNl Z hg
                  have ab:=sNg Z hg
                  have a8:=sNl Y hg
                  have ac:=sNg Y hg
                  have ae:=sNl ε hg
                  have af:=sNg ε hg
                  replace Z:=sBk Z hb
                  replace Y:=sBk Y hb
                  replace ε :=sBk ε hb
                  replace HB:=sHb hb
                  clear hb hbox hg
                  refine hK.out _ _ ⟨qc Y,qc Y⟩ (fun hHeld=>?_)
                  clear hK K
                  refine qN (some 11) ?_
                  exact Zp (by first|(simp only[Q4,Act.put,qS];done)|(simp only[Q4,Act.put,qS];rfl)) (ql (χ) _ ⟨hHeld,Z.out,Y.out,ε.out,ν.out,b0.out,b1.out,aa.out,ab.out,a8.out,ac.out,ae.out,af.out,HB.out⟩)
                ·skip
                 rintro χ dv ⟨hS_,b5,b6,b7,b8,b9,bo,cp,cq,cr,ct,bp,bq,br⟩
                 have ξ :Aside0 (dv.heap[a1]?=some (.cells #[.int .i64 J,.int .i64 B,.int .i64 L,.int .i64 O,.int .i64 X,.int .i64 δ,.int .i64 γ,.int .i64 θ,.int .i64 η,.int .i64 ζ] 25 (0,0))):=⟨b5⟩
                 have φ :Aside0 (dv.heap[μ]?=some (.cells #[.slice a3 τ.length a4,.slice a5 ρ.length a6] 50 (0,0))):=⟨b6⟩
                 have ω :Aside0 (dv.heap[ag]?=some (.cells #[.slice none 0 0,.slice none 0 0] 50 (0,0))):=⟨b7⟩
                 have a7:Aside0 (dv.heap[χ]?=some (.cells #[.slice none 0 0,.slice none 0 0] 50 (0,0))):=⟨b8⟩
                 have ah:Aside0 (w.heap.size ≤ χ):=⟨b9⟩
                 have ar:Aside0 (w.heap.size ≤ χ):=⟨bo⟩
                 have b2:Aside0 (a1 ≠ χ):=⟨cp⟩
                 have bf:Aside0 (χ ≠ a1):=⟨cq⟩
                 have cb:Aside0 (μ ≠ χ):=⟨cr⟩
                 have cu:Aside0 (χ ≠ μ):=⟨ct⟩
                 have bs:Aside0 (ag ≠ χ):=⟨bp⟩
                 have bu:Aside0 (χ ≠ ag):=⟨bq⟩
                 have bv:Aside0 (Below w.heap.size w dv):=⟨br⟩
                 clear Z
                 clear Y
                 clear ε
                 clear HB
                 clear b5 b6 b7 b8 b9 bo cp cq cr ct bp bq br
                 have Z:= ξ
                 have Y:= φ
                 have ε := ω
                 have ν :=a7
                 have b0:=ah
                 have b1:=ar
                 have aa:=b2
                 have ab:=bf
                 have a8:=cb
                 have ac:=cu
                 have ae:=bs
                 have af:=bu
                 have HB:=bv
                 clear ξ φ ω a7 ah ar b2 bf cb cu bs bu bv
                 have hHeld:dv.cell? ⟨μ,0,none⟩=some (.slice a3 τ.length a4)∧dv.cell? ⟨μ,1,none⟩=some (.slice a5 ρ.length a6):=hS_
                 refine Zp (a':=?_) ?_ ?_
                 rotate_left
                 ·simp only[Q4,Act.put,qS]
                  rfl
                 refine Vz (i:=0) (j:=4) (Ni:=some 24) (Nj:=some 28) (bN 11 615) (bN 11 630) rfl rfl rfl rfl (Y7 HT_.out kr) (by decide) (by decide) (fun K hK=>?_) (fun K hK=>?_)
                 ·skip
                  refine Kd.Z4 k36 _ 36 ?hg (N:=24) ?hd (xs:=([]:List (S36))) (inner:=[]) (ok:=fun _=>True) (okp:=fun _=>True) ?hr ?hp (fun _ hk=>hk) trivial (Below.refl _ _) (Nat.le_refl _) (by simp) ?_;(case hd=>rfl);(case hg=>rfl);(case hr=>go_simp <;> rfl);(case hp=>exact(Reps.none _ _))
                  intro av bg ev hb hg_ hnew_
                  clear hg_ hnew_
                  (first|rw[← ez.out] at ev|(simp only[Int.reduceToNat] at ev;rw[← ez.out] at ev))
                  have al:=Aside0.mk (Kd.Q9 ev (Qr HB.out))
                  replace Z:=sBk Z hb
                  replace Y:=sBk Y hb
                  replace ε :=sBk ε hb
                  replace ν :=sBk ν hb
                  replace HB:=sHb hb
                  clear hb ev
                  refine hK.out _ _ ⟨qc Y,qc Y⟩ (fun hHeld=>?_)
                  clear hK K
                  refine qN (some 24) ?_
                  exact Zp (by first|(simp only[Q4,Act.put,qS];done)|(simp only[Q4,Act.put,qS];rfl)) (kz (av,χ) _ ⟨hHeld,al.out,Z.out,Y.out,ε.out,ν.out,b0.out,b1.out,aa.out,ab.out,a8.out,ac.out,ae.out,af.out,HB.out⟩)
                 ·skip
                  refine Kd.Z4 k86 _ 86 ?hg (N:=28) ?hd (xs:=([]:List (S86))) (inner:=[]) (ok:=fun _=>True) (okp:=fun _=>True) ?hr ?hp (fun _ hk=>hk) trivial (Below.refl _ _) (Nat.le_refl _) (by simp) ?_;(case hd=>rfl);(case hg=>rfl);(case hr=>go_simp <;> rfl);(case hp=>exact(Reps.none _ _))
                  intro ay bg ev hb hg_ hnew_
                  clear hg_ hnew_
                  (first|rw[← da.out] at ev|(simp only[Int.reduceToNat] at ev;rw[← da.out] at ev))
                  have ai:=Aside0.mk (Kd.Q9 ev (Qr HB.out))
                  replace Z:=sBk Z hb
                  replace Y:=sBk Y hb
                  replace ε :=sBk ε hb
                  replace ν :=sBk ν hb
                  replace HB:=sHb hb
                  clear hb ev
                  refine hK.out _ _ ⟨qc Y,qc Y⟩ (fun hHeld=>?_)
                  clear hK K
                  refine qN (some 28) ?_
                  exact Zp (by first|(simp only[Q4,Act.put,qS];done)|(simp only[Q4,Act.put,qS];rfl)) (l2 (ay,χ) _ ⟨hHeld,ai.out,Z.out,Y.out,ε.out,ν.out,b0.out,b1.out,aa.out,ab.out,a8.out,ac.out,ae.out,af.out,HB.out⟩)
               ·skip
                rintro ay bg ⟨hS_,b5,b6,b7,b8,b9⟩
                have ξ :Aside0 (Kd.R k86 86 bg w.heap.size (fun _=>True) ay b3):=⟨b5⟩
                have φ :Aside0 (bg.heap[a1]?=some (.cells #[.int .i64 J,.int .i64 B,.int .i64 L,.int .i64 O,.int .i64 X,.int .i64 δ,.int .i64 γ,.int .i64 θ,.int .i64 η,.int .i64 ζ] 25 (0,0))):=⟨b6⟩
                have ω :Aside0 (bg.heap[μ]?=some (.cells #[.slice a3 τ.length a4,.slice a5 ρ.length a6] 50 (0,0))):=⟨b7⟩
                have a7:Aside0 (bg.heap[ag]?=some (.cells #[.slice none 0 0,.slice none 0 0] 50 (0,0))):=⟨b8⟩
                have ah:Aside0 (Below w.heap.size w bg):=⟨b9⟩
                clear Z
                clear Y
                clear ε
                clear HB
                clear b5 b6 b7 b8 b9
                have ai:= ξ
                have Z:= φ
                have Y:= ω
                have ε :=a7
                have HB:=ah
                clear ξ φ ω a7 ah
                have hHeld:bg.cell? ⟨μ,0,none⟩=some (.slice a3 τ.length a4)∧bg.cell? ⟨μ,1,none⟩=some (.slice a5 ρ.length a6):=hS_
                refine Zp (a':=?_) ?_ ?_
                rotate_left
                ·simp only[Q4,Act.put,qS]
                 rfl
                refine Vz (i:=0) (j:=9) (Ni:=some 24) (Nj:=some 11) (bN 11 119) (bN 11 630) rfl rfl rfl rfl (Y7 HT_.out kr) (by decide) (by decide) (fun K hK=>?_) (fun K hK=>?_)
                ·skip
                 refine Kd.Z4 k36 _ 36 ?hg (N:=24) ?hd (xs:=([]:List (S36))) (inner:=[]) (ok:=fun _=>True) (okp:=fun _=>True) ?hr ?hp (fun _ hk=>hk) trivial (Below.refl _ _) (Nat.le_refl _) (by simp) ?_;(case hd=>rfl);(case hg=>rfl);(case hr=>go_simp <;> rfl);(case hp=>exact(Reps.none _ _))
                 intro av bd cv hb hg_ hnew_
                 clear hg_ hnew_
                 (first|rw[← ez.out] at cv|(simp only[Int.reduceToNat] at cv;rw[← ez.out] at cv))
                 have al:=Aside0.mk (Kd.Q9 cv (Qr HB.out))
                 replace ai:=sRb ai hb
                 replace Z:=sBk Z hb
                 replace Y:=sBk Y hb
                 replace ε :=sBk ε hb
                 replace HB:=sHb hb
                 clear hb cv
                 refine hK.out _ _ ⟨qc Y,qc Y⟩ (fun hHeld=>?_)
                 clear hK K
                 refine qN (some 24) ?_
                 exact Zp (by first|(simp only[Q4,Act.put,qS];done)|(simp only[Q4,Act.put,qS];rfl)) (ky (av,ay) _ ⟨hHeld,al.out,ai.out,Z.out,Y.out,ε.out,HB.out⟩)
                ·skip
                 refine Xr ?hg (N:=11) ?hd (cs:=#[.slice none 0 0,.slice none 0 0]) (t:=50) ?hr ?_;(case hd=>rfl);(case hg=>rfl);(case hr=>go_simp <;> rfl)
                 intro χ hg bd hbox hb
                 have ν :=Aside0.mk hbox
                 have b0:=sGe hg
                 have b1:=sGe hg
                 have aa:=sNl Z hg
                 have ab:=sNg Z hg
                 have a8:=sNl Y hg
                 have ac:=sNg Y hg
                 have ae:=sNl ε hg
                 have af:=sNg ε hg
                 replace ai:=sRb ai hb
                 replace Z:=sBk Z hb
                 replace Y:=sBk Y hb
                 replace ε :=sBk ε hb
                 replace HB:=sHb hb
                 clear hb hbox hg
                 refine hK.out _ _ ⟨qc Y,qc Y⟩ (fun hHeld=>?_)
                 clear hK K
                 refine qN (some 11) ?_
                 exact Zp (by first|(simp only[Q4,Act.put,qS];done)|(simp only[Q4,Act.put,qS];rfl)) (l2 (ay,χ) _ ⟨hHeld,ai.out,Z.out,Y.out,ε.out,ν.out,b0.out,b1.out,aa.out,ab.out,a8.out,ac.out,ae.out,af.out,HB.out⟩)
              ·skip
               rintro av bg ⟨hS_,b5,b6,b7,b8,b9⟩
               have ξ :Aside0 (Kd.R k36 36 bg w.heap.size (fun _=>True) av bl):=⟨b5⟩
               have φ :Aside0 (bg.heap[a1]?=some (.cells #[.int .i64 J,.int .i64 B,.int .i64 L,.int .i64 O,.int .i64 X,.int .i64 δ,.int .i64 γ,.int .i64 θ,.int .i64 η,.int .i64 ζ] 25 (0,0))):=⟨b6⟩
               have ω :Aside0 (bg.heap[μ]?=some (.cells #[.slice a3 τ.length a4,.slice a5 ρ.length a6] 50 (0,0))):=⟨b7⟩
               have a7:Aside0 (bg.heap[ag]?=some (.cells #[.slice none 0 0,.slice none 0 0] 50 (0,0))):=⟨b8⟩
               have ah:Aside0 (Below w.heap.size w bg):=⟨b9⟩
               clear Z
               clear Y
               clear ε
               clear HB
               clear b5 b6 b7 b8 b9
               have al:= ξ
               have Z:= φ
               have Y:= ω
               have ε :=a7
               have HB:=ah
               clear ξ φ ω a7 ah
               have hHeld:bg.cell? ⟨μ,0,none⟩=some (.slice a3 τ.length a4)∧bg.cell? ⟨μ,1,none⟩=some (.slice a5 ρ.length a6):=hS_
               refine Zp (a':=?_) ?_ ?_
               rotate_left
               ·simp only[Q4,Act.put,qS]
                rfl
               refine Lp (i:=3) (j:=4) (k:=9) (Ni:=some 27) (Nj:=some 28) (Nk:=some 11) #[true,true,true,true,false,true,true,false,false,false,false] #[true,true,true,false,true,true,true,false,false,false,false] #[true,true,true,false,false,true,true,false,false,true,false] rfl rfl rfl rfl rfl rfl (V1 HT_.out kr) (by decide) (by decide) (by decide) (fun K hK=>?_) (fun K hK=>?_) (fun K hK=>?_)
               ·skip
                refine Kd.Z0 k36 (w0:=w) w.heap.size (by rfl) (.tmp 24) (.tmp 26) 47 36 (.agg #[(.int .i64 0),(.int .i64 0),(.int .i64 0)]) 24 rfl Try.underlying47 Ga rfl (by decide) (by omega) av bl τ _ _ _ (fun _=>True) (fun _=>False) rfl rfl ?aO ?aR (fun _ _ h=>h) (fun _ h=>h.elim) ?aF ?aB ?aS ?aL ?_
                (case aR=>exact(Kd.Qt bk.out HB.out))
                (case aB=>exact HB.out)
                (case aF=>exact(fun _ _=>trivial))
                (case aO=>exact al.out)
                (case aS=>exact(Qr HB.out))
                (case aL=>have:=jl.out;omega)
                intro bw bd ho hb hg hat
                rw[← hl.out] at ho
                have ao:=Aside0.mk ho
                replace Z:=Aside0.mk (Q3 (g:=a1) (o:=.cells #[.int .i64 J,.int .i64 B,.int .i64 L,.int .i64 O,.int .i64 X,.int .i64 δ,.int .i64 γ,.int .i64 θ,.int .i64 η,.int .i64 ζ] 25 (0,0)) Z.out hg (Kd.Xb al.out Z.out (by decide)))
                replace Y:=Aside0.mk (Q3 (g:= μ) (o:=.cells #[.slice a3 τ.length a4,.slice a5 ρ.length a6] 50 (0,0)) Y.out hg (Kd.Xb al.out Y.out (by decide)))
                replace ε :=Aside0.mk (Q3 (g:=ag) (o:=.cells #[.slice none 0 0,.slice none 0 0] 50 (0,0)) ε.out hg (Kd.Xb al.out ε.out (by decide)))
                replace HB:=Aside0.mk hb
                clear al
                clear ho hb hg hat
                refine hK.out _ _ ⟨qc Y,qc Y⟩ (fun hHeld=>?_)
                clear hK K
                refine qN (some 27) ?_
                exact Zp (by first|(simp only[Q4,Act.put,qS];done)|(simp only[Q4,Act.put,qS];rfl)) (nk (av,bw) _ ⟨hHeld,ao.out,Z.out,Y.out,ε.out,HB.out⟩)
               ·skip
                refine Kd.Z4 k86 _ 86 ?hg (N:=28) ?hd (xs:=([]:List (S86))) (inner:=[]) (ok:=fun _=>True) (okp:=fun _=>True) ?hr ?hp (fun _ hk=>hk) trivial (Below.refl _ _) (Nat.le_refl _) (by simp) ?_;(case hd=>rfl);(case hg=>rfl);(case hr=>go_simp <;> rfl);(case hp=>exact(Reps.none _ _))
                intro ay bd cv hb hg_ hnew_
                clear hg_ hnew_
                (first|rw[← da.out] at cv|(simp only[Int.reduceToNat] at cv;rw[← da.out] at cv))
                have ai:=Aside0.mk (Kd.Q9 cv (Qr HB.out))
                replace al:=sRb al hb
                replace Z:=sBk Z hb
                replace Y:=sBk Y hb
                replace ε :=sBk ε hb
                replace HB:=sHb hb
                clear hb cv
                refine hK.out _ _ ⟨qc Y,qc Y⟩ (fun hHeld=>?_)
                clear hK K
                refine qN (some 28) ?_
                exact Zp (by first|(simp only[Q4,Act.put,qS];done)|(simp only[Q4,Act.put,qS];rfl)) (ky (av,ay) _ ⟨hHeld,al.out,ai.out,Z.out,Y.out,ε.out,HB.out⟩)
               ·skip
                refine Xr ?hg (N:=11) ?hd (cs:=#[.slice none 0 0,.slice none 0 0]) (t:=50) ?hr ?_;(case hd=>rfl);(case hg=>rfl);(case hr=>go_simp <;> rfl)
                intro χ hg bd hbox hb
                have ν :=Aside0.mk hbox
                have b0:=sGe hg
                have b1:=sGe hg
                have aa:=sNl Z hg
                have ab:=sNg Z hg
                have a8:=sNl Y hg
                have ac:=sNg Y hg
                have ae:=sNl ε hg
                have af:=sNg ε hg
                replace al:=sRb al hb
                replace Z:=sBk Z hb
                replace Y:=sBk Y hb
                replace ε :=sBk ε hb
                replace HB:=sHb hb
                clear hb hbox hg
                refine hK.out _ _ ⟨qc Y,qc Y⟩ (fun hHeld=>?_)
                clear hK K
                refine qN (some 11) ?_
                exact Zp (by first|(simp only[Q4,Act.put,qS];done)|(simp only[Q4,Act.put,qS];rfl)) (kz (av,χ) _ ⟨hHeld,al.out,Z.out,Y.out,ε.out,ν.out,b0.out,b1.out,aa.out,ab.out,a8.out,ac.out,ae.out,af.out,HB.out⟩)
             ·skip
              rintro⟨ay,χ⟩ bd ⟨hS_,b5,b6,b7,b8,b9,bo,cp,cq,cr,ct,bp,bq,br,ck⟩
              have ξ :Aside0 (Kd.R k86 86 bd w.heap.size (fun _=>True) ay b3):=⟨b5⟩
              have φ :Aside0 (bd.heap[a1]?=some (.cells #[.int .i64 J,.int .i64 B,.int .i64 L,.int .i64 O,.int .i64 X,.int .i64 δ,.int .i64 γ,.int .i64 θ,.int .i64 η,.int .i64 ζ] 25 (0,0))):=⟨b6⟩
              have ω :Aside0 (bd.heap[μ]?=some (.cells #[.slice a3 τ.length a4,.slice a5 ρ.length a6] 50 (0,0))):=⟨b7⟩
              have a7:Aside0 (bd.heap[ag]?=some (.cells #[.slice none 0 0,.slice none 0 0] 50 (0,0))):=⟨b8⟩
              have ah:Aside0 (bd.heap[χ]?=some (.cells #[.slice none 0 0,.slice none 0 0] 50 (0,0))):=⟨b9⟩
              have ar:Aside0 (w.heap.size ≤ χ):=⟨bo⟩
              have b2:Aside0 (w.heap.size ≤ χ):=⟨cp⟩
              have bf:Aside0 (a1 ≠ χ):=⟨cq⟩
              have cb:Aside0 (χ ≠ a1):=⟨cr⟩
              have cu:Aside0 (μ ≠ χ):=⟨ct⟩
              have bs:Aside0 (χ ≠ μ):=⟨bp⟩
              have bu:Aside0 (ag ≠ χ):=⟨bq⟩
              have bv:Aside0 (χ ≠ ag):=⟨br⟩
              have cm:Aside0 (Below w.heap.size w bd):=⟨ck⟩
              clear Z
              clear Y
              clear ε
              clear HB
              clear b5 b6 b7 b8 b9 bo cp cq cr ct bp bq br ck
              have ai:= ξ
              have Z:= φ
              have Y:= ω
              have ε :=a7
              have ν :=ah
              have b0:=ar
              have b1:=b2
              have aa:=bf
              have ab:=cb
              have a8:=cu
              have ac:=bs
              have ae:=bu
              have af:=bv
              have HB:=cm
              clear ξ φ ω a7 ah ar b2 bf cb cu bs bu bv cm
              have hHeld:bd.cell? ⟨μ,0,none⟩=some (.slice a3 τ.length a4)∧bd.cell? ⟨μ,1,none⟩=some (.slice a5 ρ.length a6):=hS_
              refine Zp (a':=?_) ?_ ?_
              rotate_left
              ·simp only[Q4,Act.put,qS]
               rfl
              refine Ze (i:=0) (N:=some 24) (bN 11 631) rfl rfl (Q5 HT_.out kr) (by decide) (fun K hK=>?_)
              refine Kd.Z4 k36 _ 36 ?hg (N:=24) ?hd (xs:=([]:List (S36))) (inner:=[]) (ok:=fun _=>True) (okp:=fun _=>True) ?hr ?hp (fun _ hk=>hk) trivial (Below.refl _ _) (Nat.le_refl _) (by simp) ?_;(case hd=>rfl);(case hg=>rfl);(case hr=>go_simp <;> rfl);(case hp=>exact(Reps.none _ _))
              intro av bb cw hb hg_ hnew_
              clear hg_ hnew_
              (first|rw[← ez.out] at cw|(simp only[Int.reduceToNat] at cw;rw[← ez.out] at cw))
              have al:=Aside0.mk (Kd.Q9 cw (Qr HB.out))
              replace ai:=sRb ai hb
              replace Z:=sBk Z hb
              replace Y:=sBk Y hb
              replace ε :=sBk ε hb
              replace ν :=sBk ν hb
              replace HB:=sHb hb
              clear hb cw
              refine hK.out _ _ ⟨qc Y,qc Y⟩ (fun hHeld=>?_)
              clear hK K
              refine qN (some 24) ?_
              exact Zp (by first|(simp only[Q4,Act.put,qS];done)|(simp only[Q4,Act.put,qS];rfl)) (h0 (av,ay,χ) _ ⟨hHeld,al.out,ai.out,Z.out,Y.out,ε.out,ν.out,b0.out,b1.out,aa.out,ab.out,a8.out,ac.out,ae.out,af.out,HB.out⟩)
            ·skip
             rintro⟨av,χ⟩ bd ⟨hS_,b5,b6,b7,b8,b9,bo,cp,cq,cr,ct,bp,bq,br,ck⟩
             have ξ :Aside0 (Kd.R k36 36 bd w.heap.size (fun _=>True) av bl):=⟨b5⟩
             have φ :Aside0 (bd.heap[a1]?=some (.cells #[.int .i64 J,.int .i64 B,.int .i64 L,.int .i64 O,.int .i64 X,.int .i64 δ,.int .i64 γ,.int .i64 θ,.int .i64 η,.int .i64 ζ] 25 (0,0))):=⟨b6⟩
             have ω :Aside0 (bd.heap[μ]?=some (.cells #[.slice a3 τ.length a4,.slice a5 ρ.length a6] 50 (0,0))):=⟨b7⟩
             have a7:Aside0 (bd.heap[ag]?=some (.cells #[.slice none 0 0,.slice none 0 0] 50 (0,0))):=⟨b8⟩
             have ah:Aside0 (bd.heap[χ]?=some (.cells #[.slice none 0 0,.slice none 0 0] 50 (0,0))):=⟨b9⟩
             have ar:Aside0 (w.heap.size ≤ χ):=⟨bo⟩
             have b2:Aside0 (w.heap.size ≤ χ):=⟨cp⟩
             have bf:Aside0 (a1 ≠ χ):=⟨cq⟩
             have cb:Aside0 (χ ≠ a1):=⟨cr⟩
             have cu:Aside0 (μ ≠ χ):=⟨ct⟩
             have bs:Aside0 (χ ≠ μ):=⟨bp⟩
             have bu:Aside0 (ag ≠ χ):=⟨bq⟩
             have bv:Aside0 (χ ≠ ag):=⟨br⟩
             have cm:Aside0 (Below w.heap.size w bd):=⟨ck⟩
             clear Z
             clear Y
             clear ε
             clear HB
             clear b5 b6 b7 b8 b9 bo cp cq cr ct bp bq br ck
             have al:= ξ
             have Z:= φ
             have Y:= ω
             have ε :=a7
             have ν :=ah
             have b0:=ar
             have b1:=b2
             have aa:=bf
             have ab:=cb
             have a8:=cu
             have ac:=bs
             have ae:=bu
             have af:=bv
             have HB:=cm
             clear ξ φ ω a7 ah ar b2 bf cb cu bs bu bv cm
             have hHeld:bd.cell? ⟨μ,0,none⟩=some (.slice a3 τ.length a4)∧bd.cell? ⟨μ,1,none⟩=some (.slice a5 ρ.length a6):=hS_
             refine Zp (a':=?_) ?_ ?_
             rotate_left
             ·simp only[Q4,Act.put,qS]
              rfl
             refine Vz (i:=3) (j:=4) (Ni:=some 27) (Nj:=some 28) (bN 11 623) (bN 11 631) rfl rfl rfl rfl (Y7 HT_.out kr) (by decide) (by decide) (fun K hK=>?_) (fun K hK=>?_)
             ·skip
              refine Kd.Z0 k36 (w0:=w) w.heap.size (by rfl) (.tmp 24) (.tmp 26) 47 36 (.agg #[(.int .i64 0),(.int .i64 0),(.int .i64 0)]) 24 rfl Try.underlying47 Ga rfl (by decide) (by omega) av bl τ _ _ _ (fun _=>True) (fun _=>False) rfl rfl ?aO ?aR (fun _ _ h=>h) (fun _ h=>h.elim) ?aF ?aB ?aS ?aL ?_
              (case aR=>exact(Kd.Qt bk.out HB.out))
              (case aB=>exact HB.out)
              (case aF=>exact(fun _ _=>trivial))
              (case aO=>exact al.out)
              (case aS=>exact(Qr HB.out))
              (case aL=>have:=jl.out;omega)
              intro bw bb ho hb hg hat
              rw[← hl.out] at ho
              have ao:=Aside0.mk ho
              replace Z:=Aside0.mk (Q3 (g:=a1) (o:=.cells #[.int .i64 J,.int .i64 B,.int .i64 L,.int .i64 O,.int .i64 X,.int .i64 δ,.int .i64 γ,.int .i64 θ,.int .i64 η,.int .i64 ζ] 25 (0,0)) Z.out hg (Kd.Xb al.out Z.out (by decide)))
              replace Y:=Aside0.mk (Q3 (g:= μ) (o:=.cells #[.slice a3 τ.length a4,.slice a5 ρ.length a6] 50 (0,0)) Y.out hg (Kd.Xb al.out Y.out (by decide)))
              replace ε :=Aside0.mk (Q3 (g:=ag) (o:=.cells #[.slice none 0 0,.slice none 0 0] 50 (0,0)) ε.out hg (Kd.Xb al.out ε.out (by decide)))
              replace ν :=Aside0.mk (Q3 (g:= χ) (o:=.cells #[.slice none 0 0,.slice none 0 0] 50 (0,0)) ν.out hg (Kd.Xb al.out ν.out (by decide)))
              replace HB:=Aside0.mk hb
              clear al
              clear ho hb hg hat
              refine hK.out _ _ ⟨qc Y,qc Y⟩ (fun hHeld=>?_)
              clear hK K
              refine qN (some 27) ?_
              exact Zp (by first|(simp only[Q4,Act.put,qS];done)|(simp only[Q4,Act.put,qS];rfl)) (iw (av,bw,χ) _ ⟨hHeld,ao.out,Z.out,Y.out,ε.out,ν.out,b0.out,b1.out,aa.out,ab.out,a8.out,ac.out,ae.out,af.out,HB.out⟩)
             ·skip
              refine Kd.Z4 k86 _ 86 ?hg (N:=28) ?hd (xs:=([]:List (S86))) (inner:=[]) (ok:=fun _=>True) (okp:=fun _=>True) ?hr ?hp (fun _ hk=>hk) trivial (Below.refl _ _) (Nat.le_refl _) (by simp) ?_;(case hd=>rfl);(case hg=>rfl);(case hr=>go_simp <;> rfl);(case hp=>exact(Reps.none _ _))
              intro ay bb cw hb hg_ hnew_
              clear hg_ hnew_
              (first|rw[← da.out] at cw|(simp only[Int.reduceToNat] at cw;rw[← da.out] at cw))
              have ai:=Aside0.mk (Kd.Q9 cw (Qr HB.out))
              replace al:=sRb al hb
              replace Z:=sBk Z hb
              replace Y:=sBk Y hb
              replace ε :=sBk ε hb
              replace ν :=sBk ν hb
              replace HB:=sHb hb
              clear hb cw
              refine hK.out _ _ ⟨qc Y,qc Y⟩ (fun hHeld=>?_)
              clear hK K
              refine qN (some 28) ?_
              exact Zp (by first|(simp only[Q4,Act.put,qS];done)|(simp only[Q4,Act.put,qS];rfl)) (h0 (av,ay,χ) _ ⟨hHeld,al.out,ai.out,Z.out,Y.out,ε.out,ν.out,b0.out,b1.out,aa.out,ab.out,a8.out,ac.out,ae.out,af.out,HB.out⟩)
           ·skip
            rintro⟨av,ay⟩ bb ⟨hS_,b5,b6,b7,b8,b9,bo⟩
            have ξ :Aside0 (Kd.R k36 36 bb w.heap.size (fun _=>True) av bl):=⟨b5⟩
            have φ :Aside0 (Kd.R k86 86 bb w.heap.size (fun _=>True) ay b3):=⟨b6⟩
            have ω :Aside0 (bb.heap[a1]?=some (.cells #[.int .i64 J,.int .i64 B,.int .i64 L,.int .i64 O,.int .i64 X,.int .i64 δ,.int .i64 γ,.int .i64 θ,.int .i64 η,.int .i64 ζ] 25 (0,0))):=⟨b7⟩
            have a7:Aside0 (bb.heap[μ]?=some (.cells #[.slice a3 τ.length a4,.slice a5 ρ.length a6] 50 (0,0))):=⟨b8⟩
            have ah:Aside0 (bb.heap[ag]?=some (.cells #[.slice none 0 0,.slice none 0 0] 50 (0,0))):=⟨b9⟩
            have ar:Aside0 (Below w.heap.size w bb):=⟨bo⟩
            clear Z
            clear Y
            clear ε
            clear HB
            clear b5 b6 b7 b8 b9 bo
            have al:= ξ
            have ai:= φ
            have Z:= ω
            have Y:=a7
            have ε :=ah
            have HB:=ar
            clear ξ φ ω a7 ah ar
            have hHeld:bb.cell? ⟨μ,0,none⟩=some (.slice a3 τ.length a4)∧bb.cell? ⟨μ,1,none⟩=some (.slice a5 ρ.length a6):=hS_
            refine Zp (a':=?_) ?_ ?_
            rotate_left
            ·simp only[Q4,Act.put,qS]
             rfl
            refine Vz (i:=3) (j:=9) (Ni:=some 27) (Nj:=some 11) (bN 11 127) (bN 11 631) rfl rfl rfl rfl (Y7 HT_.out kr) (by decide) (by decide) (fun K hK=>?_) (fun K hK=>?_)
            ·skip
             refine Kd.Z0 k36 (w0:=w) w.heap.size (by rfl) (.tmp 24) (.tmp 26) 47 36 (.agg #[(.int .i64 0),(.int .i64 0),(.int .i64 0)]) 24 rfl Try.underlying47 Ga rfl (by decide) (by omega) av bl τ _ _ _ (fun _=>True) (fun _=>False) rfl rfl ?aO ?aR (fun _ _ h=>h) (fun _ h=>h.elim) ?aF ?aB ?aS ?aL ?_
             (case aR=>exact(Kd.Qt bk.out HB.out))
             (case aB=>exact HB.out)
             (case aF=>exact(fun _ _=>trivial))
             (case aO=>exact al.out)
             (case aS=>exact(Qr HB.out))
             (case aL=>have:=jl.out;omega)
             intro bw ca ho hb hg hat
             rw[← hl.out] at ho
             have ao:=Aside0.mk ho
             replace Z:=Aside0.mk (Q3 (g:=a1) (o:=.cells #[.int .i64 J,.int .i64 B,.int .i64 L,.int .i64 O,.int .i64 X,.int .i64 δ,.int .i64 γ,.int .i64 θ,.int .i64 η,.int .i64 ζ] 25 (0,0)) Z.out hg (Kd.Xb al.out Z.out (by decide)))
             replace Y:=Aside0.mk (Q3 (g:= μ) (o:=.cells #[.slice a3 τ.length a4,.slice a5 ρ.length a6] 50 (0,0)) Y.out hg (Kd.Xb al.out Y.out (by decide)))
             replace ε :=Aside0.mk (Q3 (g:=ag) (o:=.cells #[.slice none 0 0,.slice none 0 0] 50 (0,0)) ε.out hg (Kd.Xb al.out ε.out (by decide)))
             replace ai:=Aside0.mk (Kd.Kg ai.out (Kd.Kf al.out) (by decide) hg)
             replace HB:=Aside0.mk hb
             clear al
             clear ho hb hg hat
             refine hK.out _ _ ⟨qc Y,qc Y⟩ (fun hHeld=>?_)
             clear hK K
             refine qN (some 27) ?_
             exact Zp (by first|(simp only[Q4,Act.put,qS];done)|(simp only[Q4,Act.put,qS];rfl)) (iv (av,bw,ay) _ ⟨hHeld,ao.out,ai.out,Z.out,Y.out,ε.out,HB.out⟩)
            ·skip
             refine Xr ?hg (N:=11) ?hd (cs:=#[.slice none 0 0,.slice none 0 0]) (t:=50) ?hr ?_;(case hd=>rfl);(case hg=>rfl);(case hr=>go_simp <;> rfl)
             intro χ hg ca hbox hb
             have ν :=Aside0.mk hbox
             have b0:=sGe hg
             have b1:=sGe hg
             have aa:=sNl Z hg
             have ab:=sNg Z hg
             have a8:=sNl Y hg
             have ac:=sNg Y hg
             have ae:=sNl ε hg
             have af:=sNg ε hg
             replace al:=sRb al hb
             replace ai:=sRb ai hb
             replace Z:=sBk Z hb
             replace Y:=sBk Y hb
             replace ε :=sBk ε hb
             replace HB:=sHb hb
             clear hb hbox hg
             refine hK.out _ _ ⟨qc Y,qc Y⟩ (fun hHeld=>?_)
             clear hK K
             refine qN (some 11) ?_
             exact Zp (by first|(simp only[Q4,Act.put,qS];done)|(simp only[Q4,Act.put,qS];rfl)) (h0 (av,ay,χ) _ ⟨hHeld,al.out,ai.out,Z.out,Y.out,ε.out,ν.out,b0.out,b1.out,aa.out,ab.out,a8.out,ac.out,ae.out,af.out,HB.out⟩)
          ·skip
           rintro⟨av,bw⟩ bd ⟨hS_,b5,b6,b7,b8,b9⟩
           have ξ :Aside0 (Kd.R k36 36 bd w.heap.size (fun _=>True) bw au):=⟨b5⟩
           have φ :Aside0 (bd.heap[a1]?=some (.cells #[.int .i64 J,.int .i64 B,.int .i64 L,.int .i64 O,.int .i64 X,.int .i64 δ,.int .i64 γ,.int .i64 θ,.int .i64 η,.int .i64 ζ] 25 (0,0))):=⟨b6⟩
           have ω :Aside0 (bd.heap[μ]?=some (.cells #[.slice a3 τ.length a4,.slice a5 ρ.length a6] 50 (0,0))):=⟨b7⟩
           have a7:Aside0 (bd.heap[ag]?=some (.cells #[.slice none 0 0,.slice none 0 0] 50 (0,0))):=⟨b8⟩
           have ah:Aside0 (Below w.heap.size w bd):=⟨b9⟩
           clear Z
           clear Y
           clear ε
           clear HB
           clear b5 b6 b7 b8 b9
           have ao:= ξ
           have Z:= φ
           have Y:= ω
           have ε :=a7
           have HB:=ah
           clear ξ φ ω a7 ah
           have hHeld:bd.cell? ⟨μ,0,none⟩=some (.slice a3 τ.length a4)∧bd.cell? ⟨μ,1,none⟩=some (.slice a5 ρ.length a6):=hS_
           refine Zp (a':=?_) ?_ ?_
           rotate_left
           ·simp only[Q4,Act.put,qS]
            rfl
           refine Vz (i:=4) (j:=9) (Ni:=some 28) (Nj:=some 11) (bN 11 127) (bN 11 623) rfl rfl rfl rfl (Y7 HT_.out kr) (by decide) (by decide) (fun K hK=>?_) (fun K hK=>?_)
           ·skip
            refine Kd.Z4 k86 _ 86 ?hg (N:=28) ?hd (xs:=([]:List (S86))) (inner:=[]) (ok:=fun _=>True) (okp:=fun _=>True) ?hr ?hp (fun _ hk=>hk) trivial (Below.refl _ _) (Nat.le_refl _) (by simp) ?_;(case hd=>rfl);(case hg=>rfl);(case hr=>go_simp <;> rfl);(case hp=>exact(Reps.none _ _))
            intro ay bb cw hb hg_ hnew_
            clear hg_ hnew_
            (first|rw[← da.out] at cw|(simp only[Int.reduceToNat] at cw;rw[← da.out] at cw))
            have ai:=Aside0.mk (Kd.Q9 cw (Qr HB.out))
            replace ao:=sRb ao hb
            replace Z:=sBk Z hb
            replace Y:=sBk Y hb
            replace ε :=sBk ε hb
            replace HB:=sHb hb
            clear hb cw
            refine hK.out _ _ ⟨qc Y,qc Y⟩ (fun hHeld=>?_)
            clear hK K
            refine qN (some 28) ?_
            exact Zp (by first|(simp only[Q4,Act.put,qS];done)|(simp only[Q4,Act.put,qS];rfl)) (iv (av,bw,ay) _ ⟨hHeld,ao.out,ai.out,Z.out,Y.out,ε.out,HB.out⟩)
           ·skip
            refine Xr ?hg (N:=11) ?hd (cs:=#[.slice none 0 0,.slice none 0 0]) (t:=50) ?hr ?_;(case hd=>rfl);(case hg=>rfl);(case hr=>go_simp <;> rfl)
            intro χ hg bb hbox hb
            have ν :=Aside0.mk hbox
            have b0:=sGe hg
            have b1:=sGe hg
            have aa:=sNl Z hg
            have ab:=sNg Z hg
            have a8:=sNl Y hg
            have ac:=sNg Y hg
            have ae:=sNl ε hg
            have af:=sNg ε hg
            replace ao:=sRb ao hb
            replace Z:=sBk Z hb
            replace Y:=sBk Y hb
            replace ε :=sBk ε hb
            replace HB:=sHb hb
            clear hb hbox hg
            refine hK.out _ _ ⟨qc Y,qc Y⟩ (fun hHeld=>?_)
            clear hK K
            refine qN (some 11) ?_
            exact Zp (by first|(simp only[Q4,Act.put,qS];done)|(simp only[Q4,Act.put,qS];rfl)) (iw (av,bw,χ) _ ⟨hHeld,ao.out,Z.out,Y.out,ε.out,ν.out,b0.out,b1.out,aa.out,ab.out,a8.out,ac.out,ae.out,af.out,HB.out⟩)
         ·skip
          rintro⟨av,ay,χ⟩ ca ⟨hS_,b5,b6,b7,b8,b9,bo,cp,cq,cr,ct,bp,bq,br,ck,er⟩
          have ξ :Aside0 (Kd.R k36 36 ca w.heap.size (fun _=>True) av bl):=⟨b5⟩
          have φ :Aside0 (Kd.R k86 86 ca w.heap.size (fun _=>True) ay b3):=⟨b6⟩
          have ω :Aside0 (ca.heap[a1]?=some (.cells #[.int .i64 J,.int .i64 B,.int .i64 L,.int .i64 O,.int .i64 X,.int .i64 δ,.int .i64 γ,.int .i64 θ,.int .i64 η,.int .i64 ζ] 25 (0,0))):=⟨b7⟩
          have a7:Aside0 (ca.heap[μ]?=some (.cells #[.slice a3 τ.length a4,.slice a5 ρ.length a6] 50 (0,0))):=⟨b8⟩
          have ah:Aside0 (ca.heap[ag]?=some (.cells #[.slice none 0 0,.slice none 0 0] 50 (0,0))):=⟨b9⟩
          have ar:Aside0 (ca.heap[χ]?=some (.cells #[.slice none 0 0,.slice none 0 0] 50 (0,0))):=⟨bo⟩
          have b2:Aside0 (w.heap.size ≤ χ):=⟨cp⟩
          have bf:Aside0 (w.heap.size ≤ χ):=⟨cq⟩
          have cb:Aside0 (a1 ≠ χ):=⟨cr⟩
          have cu:Aside0 (χ ≠ a1):=⟨ct⟩
          have bs:Aside0 (μ ≠ χ):=⟨bp⟩
          have bu:Aside0 (χ ≠ μ):=⟨bq⟩
          have bv:Aside0 (ag ≠ χ):=⟨br⟩
          have cm:Aside0 (χ ≠ ag):=⟨ck⟩
          have et:Aside0 (Below w.heap.size w ca):=⟨er⟩
          clear Z
          clear Y
          clear ε
          clear HB
          clear b5 b6 b7 b8 b9 bo cp cq cr ct bp bq br ck er
          have al:= ξ
          have ai:= φ
          have Z:= ω
          have Y:=a7
          have ε :=ah
          have ν :=ar
          have b0:=b2
          have b1:=bf
          have aa:=cb
          have ab:=cu
          have a8:=bs
          have ac:=bu
          have ae:=bv
          have af:=cm
          have HB:=et
          clear ξ φ ω a7 ah ar b2 bf cb cu bs bu bv cm et
          have hHeld:ca.cell? ⟨μ,0,none⟩=some (.slice a3 τ.length a4)∧ca.cell? ⟨μ,1,none⟩=some (.slice a5 ρ.length a6):=hS_
          refine Zp (a':=?_) ?_ ?_
          rotate_left
          ·simp only[Q4,Act.put,qS]
           rfl
          refine Ze (i:=3) (N:=some 27) (bN 11 639) rfl rfl (Q5 HT_.out kr) (by decide) (fun K hK=>?_)
          refine Kd.Z0 k36 (w0:=w) w.heap.size (by rfl) (.tmp 24) (.tmp 26) 47 36 (.agg #[(.int .i64 0),(.int .i64 0),(.int .i64 0)]) 24 rfl Try.underlying47 Ga rfl (by decide) (by omega) av bl τ _ _ _ (fun _=>True) (fun _=>False) rfl rfl ?aO ?aR (fun _ _ h=>h) (fun _ h=>h.elim) ?aF ?aB ?aS ?aL ?_
          (case aR=>exact(Kd.Qt bk.out HB.out))
          (case aB=>exact HB.out)
          (case aF=>exact(fun _ _=>trivial))
          (case aO=>exact al.out)
          (case aS=>exact(Qr HB.out))
          (case aL=>have:=jl.out;omega)
          intro bw em ho hb hg hat
          rw[← hl.out] at ho
          have ao:=Aside0.mk ho
          replace Z:=Aside0.mk (Q3 (g:=a1) (o:=.cells #[.int .i64 J,.int .i64 B,.int .i64 L,.int .i64 O,.int .i64 X,.int .i64 δ,.int .i64 γ,.int .i64 θ,.int .i64 η,.int .i64 ζ] 25 (0,0)) Z.out hg (Kd.Xb al.out Z.out (by decide)))
          replace Y:=Aside0.mk (Q3 (g:= μ) (o:=.cells #[.slice a3 τ.length a4,.slice a5 ρ.length a6] 50 (0,0)) Y.out hg (Kd.Xb al.out Y.out (by decide)))
          replace ε :=Aside0.mk (Q3 (g:=ag) (o:=.cells #[.slice none 0 0,.slice none 0 0] 50 (0,0)) ε.out hg (Kd.Xb al.out ε.out (by decide)))
          replace ai:=Aside0.mk (Kd.Kg ai.out (Kd.Kf al.out) (by decide) hg)
          replace ν :=Aside0.mk (Q3 (g:= χ) (o:=.cells #[.slice none 0 0,.slice none 0 0] 50 (0,0)) ν.out hg (Kd.Xb al.out ν.out (by decide)))
          replace HB:=Aside0.mk hb
          clear al
          clear ho hb hg hat
          refine hK.out _ _ ⟨qc Y,qc Y⟩ (fun hHeld=>?_)
          clear hK K
          refine qN (some 27) ?_
          exact Zp (by first|(simp only[Q4,Act.put,qS];done)|(simp only[Q4,Act.put,qS];rfl)) (fm (av,bw,ay,χ) _ ⟨hHeld,ao.out,ai.out,Z.out,Y.out,ε.out,ν.out,b0.out,b1.out,aa.out,ab.out,a8.out,ac.out,ae.out,af.out,HB.out⟩)
        ·skip
         rintro⟨av,bw,χ⟩ bb ⟨hS_,b5,b6,b7,b8,b9,bo,cp,cq,cr,ct,bp,bq,br,ck⟩
         have ξ :Aside0 (Kd.R k36 36 bb w.heap.size (fun _=>True) bw au):=⟨b5⟩
         have φ :Aside0 (bb.heap[a1]?=some (.cells #[.int .i64 J,.int .i64 B,.int .i64 L,.int .i64 O,.int .i64 X,.int .i64 δ,.int .i64 γ,.int .i64 θ,.int .i64 η,.int .i64 ζ] 25 (0,0))):=⟨b6⟩
         have ω :Aside0 (bb.heap[μ]?=some (.cells #[.slice a3 τ.length a4,.slice a5 ρ.length a6] 50 (0,0))):=⟨b7⟩
         have a7:Aside0 (bb.heap[ag]?=some (.cells #[.slice none 0 0,.slice none 0 0] 50 (0,0))):=⟨b8⟩
         have ah:Aside0 (bb.heap[χ]?=some (.cells #[.slice none 0 0,.slice none 0 0] 50 (0,0))):=⟨b9⟩
         have ar:Aside0 (w.heap.size ≤ χ):=⟨bo⟩
         have b2:Aside0 (w.heap.size ≤ χ):=⟨cp⟩
         have bf:Aside0 (a1 ≠ χ):=⟨cq⟩
         have cb:Aside0 (χ ≠ a1):=⟨cr⟩
         have cu:Aside0 (μ ≠ χ):=⟨ct⟩
         have bs:Aside0 (χ ≠ μ):=⟨bp⟩
         have bu:Aside0 (ag ≠ χ):=⟨bq⟩
         have bv:Aside0 (χ ≠ ag):=⟨br⟩
         have cm:Aside0 (Below w.heap.size w bb):=⟨ck⟩
         clear Z
         clear Y
         clear ε
         clear HB
         clear b5 b6 b7 b8 b9 bo cp cq cr ct bp bq br ck
         have ao:= ξ
         have Z:= φ
         have Y:= ω
         have ε :=a7
         have ν :=ah
         have b0:=ar
         have b1:=b2
         have aa:=bf
         have ab:=cb
         have a8:=cu
         have ac:=bs
         have ae:=bu
         have af:=bv
         have HB:=cm
         clear ξ φ ω a7 ah ar b2 bf cb cu bs bu bv cm
         have hHeld:bb.cell? ⟨μ,0,none⟩=some (.slice a3 τ.length a4)∧bb.cell? ⟨μ,1,none⟩=some (.slice a5 ρ.length a6):=hS_
         refine Zp (a':=?_) ?_ ?_
         rotate_left
         ·simp only[Q4,Act.put,qS]
          rfl
         refine Ze (i:=4) (N:=some 28) (bN 11 639) rfl rfl (Q5 HT_.out kr) (by decide) (fun K hK=>?_)
         refine Kd.Z4 k86 _ 86 ?hg (N:=28) ?hd (xs:=([]:List (S86))) (inner:=[]) (ok:=fun _=>True) (okp:=fun _=>True) ?hr ?hp (fun _ hk=>hk) trivial (Below.refl _ _) (Nat.le_refl _) (by simp) ?_;(case hd=>rfl);(case hg=>rfl);(case hr=>go_simp <;> rfl);(case hp=>exact(Reps.none _ _))
         intro ay ca i4 hb hg_ hnew_
         clear hg_ hnew_
         (first|rw[← da.out] at i4|(simp only[Int.reduceToNat] at i4;rw[← da.out] at i4))
         have ai:=Aside0.mk (Kd.Q9 i4 (Qr HB.out))
         replace ao:=sRb ao hb
         replace Z:=sBk Z hb
         replace Y:=sBk Y hb
         replace ε :=sBk ε hb
         replace ν :=sBk ν hb
         replace HB:=sHb hb
         clear hb i4
         refine hK.out _ _ ⟨qc Y,qc Y⟩ (fun hHeld=>?_)
         clear hK K
         refine qN (some 28) ?_
         exact Zp (by first|(simp only[Q4,Act.put,qS];done)|(simp only[Q4,Act.put,qS];rfl)) (fm (av,bw,ay,χ) _ ⟨hHeld,ao.out,ai.out,Z.out,Y.out,ε.out,ν.out,b0.out,b1.out,aa.out,ab.out,a8.out,ac.out,ae.out,af.out,HB.out⟩)
       ·skip
        rintro⟨av,bw,ay⟩ ca ⟨hS_,b5,b6,b7,b8,b9,bo⟩
        have ξ :Aside0 (Kd.R k36 36 ca w.heap.size (fun _=>True) bw au):=⟨b5⟩
        have φ :Aside0 (Kd.R k86 86 ca w.heap.size (fun _=>True) ay b3):=⟨b6⟩
        have ω :Aside0 (ca.heap[a1]?=some (.cells #[.int .i64 J,.int .i64 B,.int .i64 L,.int .i64 O,.int .i64 X,.int .i64 δ,.int .i64 γ,.int .i64 θ,.int .i64 η,.int .i64 ζ] 25 (0,0))):=⟨b7⟩
        have a7:Aside0 (ca.heap[μ]?=some (.cells #[.slice a3 τ.length a4,.slice a5 ρ.length a6] 50 (0,0))):=⟨b8⟩
        have ah:Aside0 (ca.heap[ag]?=some (.cells #[.slice none 0 0,.slice none 0 0] 50 (0,0))):=⟨b9⟩
        have ar:Aside0 (Below w.heap.size w ca):=⟨bo⟩
        clear Z
        clear Y
        clear ε
        clear HB
        clear b5 b6 b7 b8 b9 bo
        have ao:= ξ
        have ai:= φ
        have Z:= ω
        have Y:=a7
        have ε :=ah
        have HB:=ar
        clear ξ φ ω a7 ah ar
        have hHeld:ca.cell? ⟨μ,0,none⟩=some (.slice a3 τ.length a4)∧ca.cell? ⟨μ,1,none⟩=some (.slice a5 ρ.length a6):=hS_
        refine Zp (a':=?_) ?_ ?_
        rotate_left
        ·simp only[Q4,Act.put,qS]
         rfl
        refine Vz (i:=7) (j:=9) (Ni:=some 31) (Nj:=some 11) (bN 11 255) (bN 11 639) rfl rfl rfl rfl (Y7 HT_.out kr) (by decide) (by decide) (fun K hK=>?_) (fun K hK=>?_)
        ·skip
         refine Kd.Z0 k86 (w0:=w) w.heap.size (by rfl) (.tmp 28) (.tmp 30) 48 86 (.agg #[(.int .i64 0),(.int .i64 0)]) 16 rfl Try.underlying48 K9 rfl (by decide) (by omega) ay b3 ρ _ _ _ (fun _=>True) (fun _=>False) rfl rfl ?aO ?aR (fun _ _ h=>h) (fun _ h=>h.elim) ?aF ?aB ?aS ?aL ?_
         (case aR=>exact(Kd.Qt bz.out HB.out))
         (case aB=>exact HB.out)
         (case aF=>exact(fun _ _=>trivial))
         (case aO=>exact ai.out)
         (case aS=>exact(Qr HB.out))
         (case aL=>have:=m2.out;omega)
         intro i5 em ho hb hg hat
         rw[← kx.out] at ho
         have d7:=Aside0.mk ho
         replace Z:=Aside0.mk (Q3 (g:=a1) (o:=.cells #[.int .i64 J,.int .i64 B,.int .i64 L,.int .i64 O,.int .i64 X,.int .i64 δ,.int .i64 γ,.int .i64 θ,.int .i64 η,.int .i64 ζ] 25 (0,0)) Z.out hg (Kd.Xb ai.out Z.out (by decide)))
         replace Y:=Aside0.mk (Q3 (g:= μ) (o:=.cells #[.slice a3 τ.length a4,.slice a5 ρ.length a6] 50 (0,0)) Y.out hg (Kd.Xb ai.out Y.out (by decide)))
         replace ε :=Aside0.mk (Q3 (g:=ag) (o:=.cells #[.slice none 0 0,.slice none 0 0] 50 (0,0)) ε.out hg (Kd.Xb ai.out ε.out (by decide)))
         replace ao:=Aside0.mk (Kd.Kg ao.out (Kd.Kf ai.out) (by decide) hg)
         replace HB:=Aside0.mk hb
         clear ai
         clear ho hb hg hat
         obtain⟨nx,ny,m3⟩:=Kd.Q7 d7.out
         (first|subst m3|(injection m3 with aw bh ax;have bi:=aw.symm;have bj:=ax.symm;clear aw bh ax;subst bi;subst bj))
         obtain⟨ka,kb,i6⟩:=Kd.Q7 ao.out
         (first|subst i6|(injection i6 with aw bh ax;have bi:=aw.symm;have bj:=ax.symm;clear aw bh ax;subst bi;subst bj))
         refine hK.out _ _ ⟨qc Y,qc Y⟩ (fun hHeld=>?_)
         clear hK K
         refine qN (some 31) ?_
         refine qP 8 (some 32) (bN 11 511) HT_ ?_
         exact Zp (by first|(simp only[Q4,Act.put,qS];done)|(simp only[Q4,Act.put,qS];rfl)) (jr (av,.slice ka au.length kb,ay,.slice nx b4.length ny) _ ⟨hHeld,ao.out,d7.out,Z.out,Y.out,ε.out,HB.out⟩)
        ·skip
         refine Xr ?hg (N:=11) ?hd (cs:=#[.slice none 0 0,.slice none 0 0]) (t:=50) ?hr ?_;(case hd=>rfl);(case hg=>rfl);(case hr=>go_simp <;> rfl)
         intro χ hg em hbox hb
         have ν :=Aside0.mk hbox
         have b0:=sGe hg
         have b1:=sGe hg
         have aa:=sNl Z hg
         have ab:=sNg Z hg
         have a8:=sNl Y hg
         have ac:=sNg Y hg
         have ae:=sNl ε hg
         have af:=sNg ε hg
         replace ao:=sRb ao hb
         replace ai:=sRb ai hb
         replace Z:=sBk Z hb
         replace Y:=sBk Y hb
         replace ε :=sBk ε hb
         replace HB:=sHb hb
         clear hb hbox hg
         refine hK.out _ _ ⟨qc Y,qc Y⟩ (fun hHeld=>?_)
         clear hK K
         refine qN (some 11) ?_
         exact Zp (by first|(simp only[Q4,Act.put,qS];done)|(simp only[Q4,Act.put,qS];rfl)) (fm (av,bw,ay,χ) _ ⟨hHeld,ao.out,ai.out,Z.out,Y.out,ε.out,ν.out,b0.out,b1.out,aa.out,ab.out,a8.out,ac.out,ae.out,af.out,HB.out⟩)
      ·skip
       rintro⟨av,bw,ay,χ⟩ em ⟨hS_,b5,b6,b7,b8,b9,bo,cp,cq,cr,ct,bp,bq,br,ck,er⟩
       have ξ :Aside0 (Kd.R k36 36 em w.heap.size (fun _=>True) bw au):=⟨b5⟩
       have φ :Aside0 (Kd.R k86 86 em w.heap.size (fun _=>True) ay b3):=⟨b6⟩
       have ω :Aside0 (em.heap[a1]?=some (.cells #[.int .i64 J,.int .i64 B,.int .i64 L,.int .i64 O,.int .i64 X,.int .i64 δ,.int .i64 γ,.int .i64 θ,.int .i64 η,.int .i64 ζ] 25 (0,0))):=⟨b7⟩
       have a7:Aside0 (em.heap[μ]?=some (.cells #[.slice a3 τ.length a4,.slice a5 ρ.length a6] 50 (0,0))):=⟨b8⟩
       have ah:Aside0 (em.heap[ag]?=some (.cells #[.slice none 0 0,.slice none 0 0] 50 (0,0))):=⟨b9⟩
       have ar:Aside0 (em.heap[χ]?=some (.cells #[.slice none 0 0,.slice none 0 0] 50 (0,0))):=⟨bo⟩
       have b2:Aside0 (w.heap.size ≤ χ):=⟨cp⟩
       have bf:Aside0 (w.heap.size ≤ χ):=⟨cq⟩
       have cb:Aside0 (a1 ≠ χ):=⟨cr⟩
       have cu:Aside0 (χ ≠ a1):=⟨ct⟩
       have bs:Aside0 (μ ≠ χ):=⟨bp⟩
       have bu:Aside0 (χ ≠ μ):=⟨bq⟩
       have bv:Aside0 (ag ≠ χ):=⟨br⟩
       have cm:Aside0 (χ ≠ ag):=⟨ck⟩
       have et:Aside0 (Below w.heap.size w em):=⟨er⟩
       clear Z
       clear Y
       clear ε
       clear HB
       clear b5 b6 b7 b8 b9 bo cp cq cr ct bp bq br ck er
       have ao:= ξ
       have ai:= φ
       have Z:= ω
       have Y:=a7
       have ε :=ah
       have ν :=ar
       have b0:=b2
       have b1:=bf
       have aa:=cb
       have ab:=cu
       have a8:=bs
       have ac:=bu
       have ae:=bv
       have af:=cm
       have HB:=et
       clear ξ φ ω a7 ah ar b2 bf cb cu bs bu bv cm et
       have hHeld:em.cell? ⟨μ,0,none⟩=some (.slice a3 τ.length a4)∧em.cell? ⟨μ,1,none⟩=some (.slice a5 ρ.length a6):=hS_
       refine Zp (a':=?_) ?_ ?_
       rotate_left
       ·simp only[Q4,Act.put,qS]
        rfl
       refine Ze (i:=7) (N:=some 31) (bN 11 767) rfl rfl (Q5 HT_.out kr) (by decide) (fun K hK=>?_)
       refine Kd.Z0 k86 (w0:=w) w.heap.size (by rfl) (.tmp 28) (.tmp 30) 48 86 (.agg #[(.int .i64 0),(.int .i64 0)]) 16 rfl Try.underlying48 K9 rfl (by decide) (by omega) ay b3 ρ _ _ _ (fun _=>True) (fun _=>False) rfl rfl ?aO ?aR (fun _ _ h=>h) (fun _ h=>h.elim) ?aF ?aB ?aS ?aL ?_
       (case aR=>exact(Kd.Qt bz.out HB.out))
       (case aB=>exact HB.out)
       (case aF=>exact(fun _ _=>trivial))
       (case aO=>exact ai.out)
       (case aS=>exact(Qr HB.out))
       (case aL=>have:=m2.out;omega)
       intro i5 i2 ho hb hg hat
       rw[← kx.out] at ho
       have d7:=Aside0.mk ho
       replace Z:=Aside0.mk (Q3 (g:=a1) (o:=.cells #[.int .i64 J,.int .i64 B,.int .i64 L,.int .i64 O,.int .i64 X,.int .i64 δ,.int .i64 γ,.int .i64 θ,.int .i64 η,.int .i64 ζ] 25 (0,0)) Z.out hg (Kd.Xb ai.out Z.out (by decide)))
       replace Y:=Aside0.mk (Q3 (g:= μ) (o:=.cells #[.slice a3 τ.length a4,.slice a5 ρ.length a6] 50 (0,0)) Y.out hg (Kd.Xb ai.out Y.out (by decide)))
       replace ε :=Aside0.mk (Q3 (g:=ag) (o:=.cells #[.slice none 0 0,.slice none 0 0] 50 (0,0)) ε.out hg (Kd.Xb ai.out ε.out (by decide)))
       replace ao:=Aside0.mk (Kd.Kg ao.out (Kd.Kf ai.out) (by decide) hg)
       replace ν :=Aside0.mk (Q3 (g:= χ) (o:=.cells #[.slice none 0 0,.slice none 0 0] 50 (0,0)) ν.out hg (Kd.Xb ai.out ν.out (by decide)))
       replace HB:=Aside0.mk hb
       clear ai
       clear ho hb hg hat
       obtain⟨ka,kb,i6⟩:=Kd.Q7 d7.out
       (first|subst i6|(injection i6 with aw bh ax;have bi:=aw.symm;have bj:=ax.symm;clear aw bh ax;subst bi;subst bj))
       obtain⟨kc,kd,i7⟩:=Kd.Q7 ao.out
       (first|subst i7|(injection i7 with aw bh ax;have bi:=aw.symm;have bj:=ax.symm;clear aw bh ax;subst bi;subst bj))
       refine hK.out _ _ ⟨qc Y,qc Y⟩ (fun hHeld=>?_)
       clear hK K
       refine qN (some 31) ?_
       refine qP 8 (some 32) (bN 11 1023) HT_ ?_
       exact Zp (by first|(simp only[Q4,Act.put,qS];done)|(simp only[Q4,Act.put,qS];rfl)) (g8 (av,.slice kc au.length kd,ay,.slice ka b4.length kb,χ) _ ⟨hHeld,ao.out,d7.out,Z.out,Y.out,ε.out,ν.out,b0.out,b1.out,aa.out,ab.out,a8.out,ac.out,ae.out,af.out,HB.out⟩)
     ·skip
      rintro⟨av,bw,ay,i5⟩ dm ⟨hS_,b5,b6,b7,b8,b9,bo⟩
      have ξ :Aside0 (Kd.R k36 36 dm w.heap.size (fun _=>True) bw au):=⟨b5⟩
      have φ :Aside0 (Kd.R k86 86 dm w.heap.size (fun _=>True) i5 b4):=⟨b6⟩
      have ω :Aside0 (dm.heap[a1]?=some (.cells #[.int .i64 J,.int .i64 B,.int .i64 L,.int .i64 O,.int .i64 X,.int .i64 δ,.int .i64 γ,.int .i64 θ,.int .i64 η,.int .i64 ζ] 25 (0,0))):=⟨b7⟩
      have a7:Aside0 (dm.heap[μ]?=some (.cells #[.slice a3 τ.length a4,.slice a5 ρ.length a6] 50 (0,0))):=⟨b8⟩
      have ah:Aside0 (dm.heap[ag]?=some (.cells #[.slice none 0 0,.slice none 0 0] 50 (0,0))):=⟨b9⟩
      have ar:Aside0 (Below w.heap.size w dm):=⟨bo⟩
      clear Z
      clear Y
      clear ε
      clear HB
      clear b5 b6 b7 b8 b9 bo
      have ao:= ξ
      have d7:= φ
      have Z:= ω
      have Y:=a7
      have ε :=ah
      have HB:=ar
      clear ξ φ ω a7 ah ar
      have hHeld:dm.cell? ⟨μ,0,none⟩=some (.slice a3 τ.length a4)∧dm.cell? ⟨μ,1,none⟩=some (.slice a5 ρ.length a6):=hS_
      obtain⟨kc,kd,i7⟩:=Kd.Q7 d7.out
      (first|subst i7|(injection i7 with aw bh ax;have bi:=aw.symm;have bj:=ax.symm;clear aw bh ax;subst bi;subst bj))
      obtain⟨be,bc,g9⟩:=Kd.Q7 ao.out
      (first|subst g9|(injection g9 with aw bh ax;have bi:=aw.symm;have bj:=ax.symm;clear aw bh ax;subst bi;subst bj))
      refine Zp (a':=?_) ?_ ?_
      rotate_left
      ·simp only[Q4,Act.put,qS]
       rfl
      refine Ze (i:=9) (N:=some 11) (bN 11 1023) rfl rfl (Q5 HT_.out kr) (by decide) (fun K hK=>?_)
      refine Xr ?hg (N:=11) ?hd (cs:=#[.slice none 0 0,.slice none 0 0]) (t:=50) ?hr ?_;(case hd=>rfl);(case hg=>rfl);(case hr=>go_simp <;> rfl)
      intro χ hg eo hbox hb
      have ν :=Aside0.mk hbox
      have b0:=sGe hg
      have b1:=sGe hg
      have aa:=sNl Z hg
      have ab:=sNg Z hg
      have a8:=sNl Y hg
      have ac:=sNg Y hg
      have ae:=sNl ε hg
      have af:=sNg ε hg
      replace ao:=sRb ao hb
      replace d7:=sRb d7 hb
      replace Z:=sBk Z hb
      replace Y:=sBk Y hb
      replace ε :=sBk ε hb
      replace HB:=sHb hb
      clear hb hbox hg
      refine hK.out _ _ ⟨qc Y,qc Y⟩ (fun hHeld=>?_)
      clear hK K
      refine qN (some 11) ?_
      exact Zp (by first|(simp only[Q4,Act.put,qS];done)|(simp only[Q4,Act.put,qS];rfl)) (g8 (av,.slice be au.length bc,ay,.slice kc b4.length kd,χ) _ ⟨hHeld,ao.out,d7.out,Z.out,Y.out,ε.out,ν.out,b0.out,b1.out,aa.out,ab.out,a8.out,ac.out,ae.out,af.out,HB.out⟩)
    rintro⟨av,bw,ay,i5,χ⟩ e9 ⟨hS_,b5,b6,b7,b8,b9,bo,cp,cq,cr,ct,bp,bq,br,ck,er⟩
    have ξ :Aside0 (Kd.R k36 36 e9 w.heap.size (fun _=>True) bw au):=⟨b5⟩
    have φ :Aside0 (Kd.R k86 86 e9 w.heap.size (fun _=>True) i5 b4):=⟨b6⟩
    have ω :Aside0 (e9.heap[a1]?=some (.cells #[.int .i64 J,.int .i64 B,.int .i64 L,.int .i64 O,.int .i64 X,.int .i64 δ,.int .i64 γ,.int .i64 θ,.int .i64 η,.int .i64 ζ] 25 (0,0))):=⟨b7⟩
    have a7:Aside0 (e9.heap[μ]?=some (.cells #[.slice a3 τ.length a4,.slice a5 ρ.length a6] 50 (0,0))):=⟨b8⟩
    have ah:Aside0 (e9.heap[ag]?=some (.cells #[.slice none 0 0,.slice none 0 0] 50 (0,0))):=⟨b9⟩
    have ar:Aside0 (e9.heap[χ]?=some (.cells #[.slice none 0 0,.slice none 0 0] 50 (0,0))):=⟨bo⟩
    have b2:Aside0 (w.heap.size ≤ χ):=⟨cp⟩
    have bf:Aside0 (w.heap.size ≤ χ):=⟨cq⟩
    have cb:Aside0 (a1 ≠ χ):=⟨cr⟩
    have cu:Aside0 (χ ≠ a1):=⟨ct⟩
    have bs:Aside0 (μ ≠ χ):=⟨bp⟩
    have bu:Aside0 (χ ≠ μ):=⟨bq⟩
    have bv:Aside0 (ag ≠ χ):=⟨br⟩
    have cm:Aside0 (χ ≠ ag):=⟨ck⟩
    have et:Aside0 (Below w.heap.size w e9):=⟨er⟩
    clear Z
    clear Y
    clear ε
    clear HB
    clear b5 b6 b7 b8 b9 bo cp cq cr ct bp bq br ck er
    have ao:= ξ
    have d7:= φ
    have Z:= ω
    have Y:=a7
    have ε :=ah
    have ν :=ar
    have b0:=b2
    have b1:=bf
    have aa:=cb
    have ab:=cu
    have a8:=bs
    have ac:=bu
    have ae:=bv
    have af:=cm
    have HB:=et
    clear ξ φ ω a7 ah ar b2 bf cb cu bs bu bv cm et
    have hHeld:e9.cell? ⟨μ,0,none⟩=some (.slice a3 τ.length a4)∧e9.cell? ⟨μ,1,none⟩=some (.slice a5 ρ.length a6):=hS_
    obtain⟨be,bc,g9⟩:=Kd.Q7 d7.out
    (first|subst g9|(injection g9 with aw bh ax;have bi:=aw.symm;have bj:=ax.symm;clear aw bh ax;subst bi;subst bj))
    obtain⟨ke,kf,m4⟩:=Kd.Q7 ao.out
    (first|subst m4|(injection m4 with aw bh ax;have bi:=aw.symm;have bj:=ax.symm;clear aw bh ax;subst bi;subst bj))
    refine Zp (a':=?_) ?_ ?_
    rotate_left
    ·simp only[Q4,Act.put,qS]
     rfl
    refine Ze (i:=10) (N:=none) (bN 11 2047) rfl rfl (Q5 HT_.out kr) (by decide) (fun K hK=>?_)
    have sx:e9.cell? ⟨χ,0,none⟩=some (.slice none 0 0):=(Qa ν.out 0).trans rfl
    have s4:=Qq ν.out 0
    have pt:=aa.out
    have pu:=a8.out
    have pv:=ae.out
    have pw:=ab.out
    have px:=ac.out
    have py:=af.out
    have sy:e9.cell? ⟨χ,1,none⟩=some (.slice none 0 0):=(Qa ν.out 1).trans rfl
    have s5:=Qq ν.out 1
    have pz:=aa.out
    have q0:=a8.out
    have q1:=ae.out
    have q3:=ab.out
    have q5:=ac.out
    have q6:=af.out
    refine V2 (w1:=?_) (by rfl) rfl ?_ ?_
    rotate_left
    ·go_simp
     rfl
    refine hK.out _ _ ⟨((cell_far (p:=⟨χ,_,none⟩) a8.out _).trans (((cell_far (p:=⟨χ,_,none⟩) a8.out _).trans (hHeld.1)))),((cell_far (p:=⟨χ,_,none⟩) a8.out _).trans (((cell_far (p:=⟨χ,_,none⟩) a8.out _).trans (hHeld.2))))⟩ (fun hHeld=>?_)
    clear hK K
    refine Z5 (Zm HT_.out kr) ?_
    have kj:=ab.out
    have kk:=aa.out
    have kv:=ac.out
    have kw:=a8.out
    have kl:=af.out
    have km:=ae.out
    obtain⟨fy,fz,g0,g1⟩:=qD2 ν.out
    try go_wp2
    go_loopg [36] k (fun kq qm w'=>∃ (a0:Int) (κ :List (S36)) (d8:Value),qm = .int .i64 a0∧Aside0 (group_Spread.l0 kq l1 a2 (au.length:Int) a0 J B L O X δ γ θ η ζ κ b4=some (r1,r2,r3))∧Aside0 (kq≤k)∧Aside0 (Kd.R k36 36 w' w.heap.size (fun _=>True) d8 κ)∧Aside0 (Kd.R k86 86 w' w.heap.size (fun _=>True) (.slice be b4.length bc) b4)∧Aside0 (w'.heap[a1]?=some (.cells #[.int .i64 J,.int .i64 B,.int .i64 L,.int .i64 O,.int .i64 X,.int .i64 δ,.int .i64 γ,.int .i64 θ,.int .i64 η,.int .i64 ζ] 25 (0,0)))∧Aside0 (w'.heap[μ]?=some (.cells #[(.slice a3 τ.length a4),(.slice a5 ρ.length a6)] 50 (0,0)))∧Aside0 (w'.heap[ag]?=some (.cells #[(.slice none 0 0),(.slice none 0 0)] 50 (0,0)))∧Aside0 (w'.heap[χ]?=some (.cells #[d8,(.slice be b4.length bc)] 50 (0,0)))∧Aside0 (Below w.heap.size w w')∧Aside0 (d8=(.slice ke au.length kf)))
    case atStart=>exact⟨(0),(au),(.slice ke au.length kf),qR,H',⟨Nat.le_refl _⟩,⟨by(with_reducible repeat first|apply Kd.Qw|apply Kd.Qv|apply Kd.Q1);exact Kd.Qz (Kd.Qu (Kd.Qu (Kd.Q6 ao.out ν.out (by decide)) (fun _ hk=>hk.2) _) (fun _ hk=>hk.2) _) (fun _ hk=>trivial)⟩,⟨by(with_reducible repeat first|apply Kd.Qw|apply Kd.Qv|apply Kd.Q1);exact Kd.Qz (Kd.Qu (Kd.Qu (Kd.Q6 d7.out ν.out (by decide)) (fun _ hk=>hk.2) _) (fun _ hk=>hk.2) _) (fun _ hk=>trivial)⟩,⟨bka Z⟩,⟨bka Y⟩,⟨bka ε⟩,⟨by(with_reducible repeat first|refine Qj ?_ _|refine Qd ?_|refine Qk ?_ _);refine Qm (cs:=#[.slice ke au.length kf,.slice none 0 0]) ?_ 1 _ rfl;(with_reducible repeat first|refine Qj ?_ _|refine Qd ?_|refine Qk ?_ _);refine Qm (cs:=#[.slice none 0 0,.slice none 0 0]) ?_ 0 _ rfl;(with_reducible repeat first|refine Qj ?_ _|refine Qd ?_|refine Qk ?_ _);exact ν.out⟩,⟨bel⟩,⟨rfl⟩⟩
    case round=>
     clear H'
     try clear p2
     try clear c3
     try clear c7
     try clear c8
     try clear h8
     try clear h9
     try clear en
     try clear fy
     try clear fz
     try clear g0
     try clear g1
     obtain⟨a0,κ,d8,rfl,HA,an,HO_242000,HO_242001,Z,Y,ε,ν,HB,gm⟩:=hrel
     cases gk with
     |zero=>exact absurd HA.out (by simp[group_Spread.l0])
     |succ k1=>
      have H:=HA.out
      clear HA
      simp only[group_Spread.l0] at H
      by_cases df:a0<(au.length:Int)
      ·rw[if_pos df] at H
       have c37b0:decide (a0<(au.length:Int))=true:=decide_eq_true df
       clear df
       by_cases ep:0≤a0
       ·rw[if_pos ep] at H
        have c38b0:decide (0≤a0)=true:=decide_eq_true ep
        clear ep
        by_cases g6:a0<(κ.length:Int)
        ·rw[if_pos g6] at H
         have c39b0:decide (a0<(κ.length:Int))=true:=decide_eq_true g6
         clear g6
         by_cases ea:((Qc κ a0).f2)≥0
         ·rw[if_pos ea] at H
          have c40b0:decide (0≤((Qc κ a0).f2))=true:=decide_eq_true ea
          clear ea
          by_cases i9:0≤((Qc κ a0).f2)
          ·rw[if_pos i9] at H
           have c41b0:=eq_true i9
           have c41b1:decide (0≤((Qc κ a0).f2))=true:=decide_eq_true i9
           clear i9
           obtain⟨fn,hu⟩:∃ j_:Int,(shr .i64 a2 ((Qc κ a0).f2))=j_:=⟨_,rfl⟩
           replace H:(if (Go.bits .and .i64 (fn) 1)=1 then (group_Spread.l0 k1 l1 a2 (au.length:Int) (wrap64 (a0+1)) J B L O X δ γ θ η ζ (κ.set (a0:Int).toNat (⟨(Qc κ a0).f0,(Qc κ a0).f1,(-1)⟩:S36)) b4) else (group_Spread.l0 k1 l1 a2 (au.length:Int) (wrap64 (a0+1)) J B L O X δ γ θ η ζ κ b4))=some (r1,r2,r3):=by first|(rw[hu] at H;exact H)|(simp only[hu] at H ⊢;exact H)
           have qn:(a2 / 2 ^ min ((Qc κ a0).f2).toNat 64)=fn:=hu
           have hji42z:((Qc κ a0).f2)≤64→(a2 / 2 ^ ((Qc κ a0).f2).toNat)=fn:=Gy hu
           by_cases gn:(Go.bits .and .i64 (fn) 1)=1
           ·rw[if_pos gn] at H
            have c43b0:((Go.bits .and .i64 (fn) 1)==1)=true:=beq_iff_eq.mpr gn
            have c43b1:((Go.bits .and .i64 (fn) 1) != 1)=false:=bne_eq_false_iff_eq.mpr gn
            clear gn
            obtain⟨kg,gp⟩:∃ y_:List (S36),y_=(κ.set (a0:Int).toNat (⟨(Qc κ a0).f0,(Qc κ a0).f1,(-1)⟩:S36)):=⟨_,rfl⟩
            replace H:(group_Spread.l0 k1 l1 a2 (au.length:Int) (wrap64 (a0+1)) J B L O X δ γ θ η ζ kg b4)=some (r1,r2,r3):=by first|(rw[gp];with_reducible exact H)|(have am:=(Option.bind_some _ _).symm.trans H;rw[gp];with_reducible exact am)|(have am:=(Option.bind_some _ _).symm.trans H;with_reducible exact am)|with_reducible exact H|(rw[gp];exact H)|exact H
            have nl:=Aside0.mk gp
            clear gp
            have H':=Aside0.mk H
            clear H
            have ha:=ab.out
            have he:=aa.out
            have hh:=ac.out
            have hj:=a8.out
            have j4:=af.out
            have j5:=ae.out
            obtain⟨e3,e4,e5,e6⟩:=qD2 ν.out
            obtain⟨t0,ga,nz⟩:=Kd.Q7 HO_242000.out
            subst nz
            have ej:0≤(a0:Int):=of_decide_eq_true (by assumption)
            have ek:a0<(κ.length:Int):=of_decide_eq_true (by assumption)
            obtain⟨g2,ia,g3,g4,g5⟩:=Xv (Kd.Qy HO_242000.out).2.2 a0 ej ek
            cases ia
            replace ej:=eq_true ej
            replace ek:=eq_true ek
            (try rewrite[← gm.out])
            go_wp2_with (first|((with_reducible refine Qe (N:=13) rfl ?_);refine qE 13 #[.int .i64 0,.int .i64 0,.int .i64 0] 36 ?_;intro cf hg qo hbox hb;have co:=Aside0.mk hbox;have l3:=sGe hg;have l4:=sGe hg;have eb:=sNl Z hg;have ec:=sNg Z hg;have ed:=sNl Y hg;have ee:=sNg Y hg;have ef:=sNl ε hg;have eg:=sNg ε hg;have eh:=sNl ν hg;have ei:=sNg ν hg;replace HO_242000:=Aside0.mk (Kd.Z2 (Kd.Yk (kra HO_242000) cf (Nat.le_of_eq hg.symm)) hb);replace HO_242001:=sRb HO_242001 hb;replace Z:=sBk Z hb;replace Y:=sBk Y hb;replace ε :=sBk ε hb;replace ν :=sBk ν hb;replace HB:=sHb hb;clear hb hbox hg;have j6:=ec.out;have j7:=eb.out;have s6:=ee.out;have s7:=ed.out;have s8:=eg.out;have s9:=ef.out;have sa:=ei.out;have sb:=eh.out;obtain⟨gs,gt,j9,gu,gv,ja⟩:=qD3 co.out)|((with_reducible refine Y0 (t:=36) (p:=13) rfl ?_);refine Yo (t:=36) (p:=13) (v:=?vo_w56) (w1:=(((qo.setCell ⟨cf,0,none⟩ (.int .i64 ((Qc κ a0).f0))).setCell ⟨cf,1,none⟩ (.int .i64 ((Qc κ a0).f1))).setCell ⟨cf,2,none⟩ (.int .i64 ((Qc κ a0).f2)))) ?hg ?ho ?hn ?hr ?_;(case ho=>rfl);(case hg=>rfl);(case hn=>rfl);(case hr=>go_simp <;> rfl);intro dh hw;have ξ :Aside0 (Kd.R k36 36 dh w.heap.size (fun k_=>k_≠cf) (.slice (some g2) κ.length ga) κ):=⟨(by rw[hw];exact(by(with_reducible repeat first|apply Kd.Qw|apply Kd.Qv|apply Kd.Q1);exact Kd.Qz (Kd.Qu (Kd.Qu (Kd.Qu (Kd.Qz HO_242000.out (fun k_ hk=>(⟨hk,hk.2⟩:_∧k_≠cf))) (fun _ hk=>hk.2) (.int .i64 ((Qc κ a0).f0))) (fun _ hk=>hk.2) (.int .i64 ((Qc κ a0).f1))) (fun _ hk=>hk.2) (.int .i64 ((Qc κ a0).f2))) (fun _ hk=>hk.1.2)))⟩;have φ :Aside0 (Kd.R k86 86 dh w.heap.size (fun _=>True) (.slice be b4.length bc) b4):=⟨(by rw[hw];exact(by(with_reducible repeat first|apply Kd.Qw|apply Kd.Qv|apply Kd.Q1);exact Kd.Qz (Kd.Qu (Kd.Qu (Kd.Qu (Kd.Q6 HO_242001.out co.out (by decide)) (fun _ hk=>hk.2) (.int .i64 ((Qc κ a0).f0))) (fun _ hk=>hk.2) (.int .i64 ((Qc κ a0).f1))) (fun _ hk=>hk.2) (.int .i64 ((Qc κ a0).f2))) (fun _ hk=>trivial)))⟩;have ω :Aside0 (dh.heap[a1]?=some (.cells #[.int .i64 J,.int .i64 B,.int .i64 L,.int .i64 O,.int .i64 X,.int .i64 δ,.int .i64 γ,.int .i64 θ,.int .i64 η,.int .i64 ζ] 25 (0,0))):=⟨(by rw[hw];exact(bka Z))⟩;have a7:Aside0 (dh.heap[μ]?=some (.cells #[.slice a3 τ.length a4,.slice a5 ρ.length a6] 50 (0,0))):=⟨(by rw[hw];exact(bka Y))⟩;have ah:Aside0 (dh.heap[ag]?=some (.cells #[.slice none 0 0,.slice none 0 0] 50 (0,0))):=⟨(by rw[hw];exact(bka ε))⟩;have ar:Aside0 (dh.heap[χ]?=some (.cells #[.slice (some g2) κ.length ga,.slice be b4.length bc] 50 (0,0))):=⟨(by rw[hw];exact(bka ν))⟩;have b2:Aside0 (dh.heap[cf]?=some (.cells #[.int .i64 ((Qc κ a0).f0),.int .i64 ((Qc κ a0).f1),.int .i64 ((Qc κ a0).f2)] 36 (0,0))):=⟨(by rw[hw];exact(by(with_reducible repeat first|refine Qj ?_ _|refine Qd ?_|refine Qk ?_ _);refine Qm (cs:=#[.int .i64 ((Qc κ a0).f0),.int .i64 ((Qc κ a0).f1),.int .i64 0]) ?_ 2 _ rfl;(with_reducible repeat first|refine Qj ?_ _|refine Qd ?_|refine Qk ?_ _);refine Qm (cs:=#[.int .i64 ((Qc κ a0).f0),.int .i64 0,.int .i64 0]) ?_ 1 _ rfl;(with_reducible repeat first|refine Qj ?_ _|refine Qd ?_|refine Qk ?_ _);refine Qm (cs:=#[.int .i64 0,.int .i64 0,.int .i64 0]) ?_ 0 _ rfl;(with_reducible repeat first|refine Qj ?_ _|refine Qd ?_|refine Qk ?_ _);exact co.out))⟩;have bf:Aside0 (Below w.heap.size w dh):=⟨(by rw[hw];exact bel)⟩;clear hw;clear HO_242000;clear HO_242001;clear Z;clear Y;clear ε;clear ν;clear co;clear HB;have HO_242000:= ξ;have HO_242001:= φ;have Z:= ω;have Y:=a7;have ε :=ah;have ν :=ar;have co:=b2;have HB:=bf;clear ξ φ ω a7 ah ar b2 bf;obtain⟨jb,jc,jd,je,jf,jg⟩:=qD3 co.out;obtain⟨lf,lg,lh,ll⟩:=qD2 ν.out;have p44:0≤(a0:Int):=of_decide_eq_true (by assumption);have js:(a0:Int)<((κ.length:Int):Int):=of_decide_eq_true (by assumption);obtain⟨e7,t1,m5,m6,o0,t2,m7⟩:=Kd.Vt HO_242000.out (by omega);(first|cases m5|(injection m5 with ea_ en_ ec_;(first|subst ea_|(injection ea_ with ea_;subst ea_));subst ec_;clear en_));have o1:=Aside0.mk m6;have t3:=Aside0.mk m7;clear m6 o0 m7;(first|simp only[add_plain] at g3|skip);(first|simp only[add_plain] at g4|skip);(first|simp only[add_plain] at g5|skip);obtain⟨t4,nm,m8,hx,hy⟩:=Kd.Y4 HO_242000.out z36 (a0:Int) p44 js;obtain rfl:=X4 m8;have m9:dh.cell? ⟨e7,(a0:Int).toNat * 3,none⟩=some (.int .i64 ((Qc κ a0).f0)):=hx 0 _ rfl;have ma:dh.cell? ⟨e7,(a0:Int).toNat * 3+1,none⟩=some (.int .i64 ((Qc κ a0).f1)):=hx 1 _ rfl;have mb:dh.cell? ⟨e7,(a0:Int).toNat * 3+2,none⟩=some (.int .i64 ((Qc κ a0).f2)):=hx 2 _ rfl;have qp:dh.frozen? ⟨e7,(a0:Int).toNat * 3,none⟩=false:=hy 0;have qq:dh.frozen? ⟨e7,(a0:Int).toNat * 3+1,none⟩=false:=hy 1;have qs:dh.frozen? ⟨e7,(a0:Int).toNat * 3+2,none⟩=false:=hy 2;clear nm hx hy m8;replace p44:=eq_true p44;replace js:=eq_true js;have mc:=Aside0.mk (show Kd.R k36 36 dh w.heap.size (fun k_=>k_≠cf) (.slice (some ⟨e7,0,none⟩) κ.length ga) κ from(kra HO_242000));obtain⟨t5,l5,me,jm,l6⟩:=Kd.Y4 mc.out z36 (a0:Int) (of_decide_eq_true (by assumption)) (by have h_:(a0:Int)<((κ.length:Int):Int):=of_decide_eq_true (by assumption);first|exact h_|(have e_:=(Kd.Qy HO_242000.out).1;omega)|simpa using h_);obtain rfl:=X4 me;have kh:=Kd.Wl mc.out (a0:Int) (of_decide_eq_true (by assumption)) (by have h_:(a0:Int)<((κ.length:Int):Int):=of_decide_eq_true (by assumption);first|exact h_|(have e_:=(Kd.Qy HO_242000.out).1;omega)|simpa using h_) (seg:=[.int .i64 (-1)]) (j:=2) l5 jm (show 3≤3 from by decide) (x':=(⟨(Qc κ a0).f0,(Qc κ a0).f1,(-1)⟩:S36)) (J9 _ _ _ (⟨(Qc κ a0).f0,(Qc κ a0).f1,(-1)⟩:S36)) (fun _ hk=>hk);have jt:=jm 2 _ rfl;(try simp only[show(k36).sz=3 from rfl,Nat.mul_one,Nat.add_zero] at jt);have mf:=l6 2;(try simp only[show(k36).sz=3 from rfl,Nat.mul_one,Nat.add_zero] at mf);clear l5 jm l6 me)|((with_reducible refine Y0 (t:=3) (p:=56) rfl ?_);refine Yo (t:=3) (p:=56) (v:=?vo_w60) (w1:=(dh.setCell ⟨e7,(a0:Int).toNat * 3+2,none⟩ (.int .i64 (-1)))) ?hg ?ho ?hn ?hr ?_;(case ho=>rfl);(case hg=>rfl);(case hn=>rfl);(case hr=>go_simp <;> rfl);intro mg hw;have hg:dh.grownBy mg (some e7):=(by rw[hw];exact kh.2);have hp_:Kd.R k36 36 mg w.heap.size (fun k_=>k_≠cf) (.slice (some ⟨e7,0,none⟩) κ.length ga) kg:=(by rw[hw,nl.out];exact kh.1);clear kh;replace HO_242001:=Aside0.mk (Kd.Kg (v:=(.slice (some ⟨e7,0,none⟩) κ.length ga)) (kra HO_242001) (Kd.Kf HO_242000.out) (by decide) hg);replace Z:=Aside0.mk (Q3 (g:=a1) (o:=.cells #[.int .i64 J,.int .i64 B,.int .i64 L,.int .i64 O,.int .i64 X,.int .i64 δ,.int .i64 γ,.int .i64 θ,.int .i64 η,.int .i64 ζ] 25 (0,0)) (bka Z) hg (Kd.Xb HO_242000.out Z.out (by decide)));replace Y:=Aside0.mk (Q3 (g:= μ) (o:=.cells #[.slice a3 τ.length a4,.slice a5 ρ.length a6] 50 (0,0)) (bka Y) hg (Kd.Xb HO_242000.out Y.out (by decide)));replace ε :=Aside0.mk (Q3 (g:=ag) (o:=.cells #[.slice none 0 0,.slice none 0 0] 50 (0,0)) (bka ε) hg (Kd.Xb HO_242000.out ε.out (by decide)));replace ν :=Aside0.mk (Q3 (g:= χ) (o:=.cells #[.slice (some ⟨e7,0,none⟩) κ.length ga,.slice be b4.length bc] 50 (0,0)) (bka ν) hg (Kd.Xb HO_242000.out ν.out (by decide)));replace co:=Aside0.mk (Q3 (g:=cf) (o:=.cells #[.int .i64 ((Qc κ a0).f0),.int .i64 ((Qc κ a0).f1),.int .i64 ((Qc κ a0).f2)] 36 (0,0)) (bka co) hg (Kd.U2 HO_242000.out (fun _ hk=>hk)));replace HO_242000:=Aside0.mk hp_;replace HB:=Aside0.mk ((by rw[hw];exact Qp (HB.out) o1.out:Below w.heap.size w mg));clear hg hw hp_))
            rewrite[gm.out]
            go_roundg k1
            case measure=>have:=an.out;omega
            case rel=>exact⟨(wrap64 (a0+1)),(kg),(.slice (some ⟨e7,0,none⟩) κ.length ga),rfl,H',⟨by have:=an.out;omega⟩,⟨by(with_reducible repeat first|apply Kd.Qw|apply Kd.Qv|apply Kd.Q1);exact Kd.Qz HO_242000.out (fun _ hk=>trivial)⟩,⟨by(with_reducible repeat first|apply Kd.Qw|apply Kd.Qv|apply Kd.Q1);exact HO_242001.out⟩,Z,Y,ε,ν,HB,gm⟩
           ·rw[if_neg gn] at H
            have c43b0:((Go.bits .and .i64 (fn) 1)==1)=false:=beq_eq_false_iff_ne.mpr gn
            have c43b1:((Go.bits .and .i64 (fn) 1) != 1)=true:=bne_iff_ne.mpr gn
            have H':=Aside0.mk H
            clear H
            have jh:=ab.out
            have ji:=aa.out
            have mz:=ac.out
            have n0:=a8.out
            have jj:=af.out
            have jk:=ae.out
            obtain⟨gw,gx,gy,gz⟩:=qD2 ν.out
            obtain⟨t6,o2,o3⟩:=Kd.Q7 HO_242000.out
            subst o3
            have ej:0≤(a0:Int):=of_decide_eq_true (by assumption)
            have ek:a0<(κ.length:Int):=of_decide_eq_true (by assumption)
            obtain⟨g2,ia,g3,g4,g5⟩:=Xv (Kd.Qy HO_242000.out).2.2 a0 ej ek
            cases ia
            replace ej:=eq_true ej
            replace ek:=eq_true ek
            (try rewrite[← gm.out])
            go_wp2_with (first|((with_reducible refine Qe (N:=13) rfl ?_);refine qE 13 #[.int .i64 0,.int .i64 0,.int .i64 0] 36 ?_;intro cf hg qf hbox hb;have co:=Aside0.mk hbox;have l3:=sGe hg;have l4:=sGe hg;have eb:=sNl Z hg;have ec:=sNg Z hg;have ed:=sNl Y hg;have ee:=sNg Y hg;have ef:=sNl ε hg;have eg:=sNg ε hg;have eh:=sNl ν hg;have ei:=sNg ν hg;replace HO_242000:=Aside0.mk (Kd.Z2 (Kd.Yk HO_242000.out cf (Nat.le_of_eq hg.symm)) hb);replace HO_242001:=sRb HO_242001 hb;replace Z:=sBk Z hb;replace Y:=sBk Y hb;replace ε :=sBk ε hb;replace ν :=sBk ν hb;replace HB:=sHb hb;clear hb hbox hg;have n1:=ec.out;have n2:=eb.out;have kn:=ee.out;have ko:=ed.out;have mw:=eg.out;have my:=ef.out;have sc:=ei.out;have sd:=eh.out;obtain⟨ih,ii,ij,ik,il,im⟩:=qD3 co.out))
            rewrite[gm.out]
            go_roundg k1
            case measure=>have:=an.out;omega
            case rel=>exact⟨(wrap64 (a0+1)),(κ),(.slice (some g2) κ.length o2),qR,H',⟨by have:=an.out;omega⟩,⟨by(with_reducible repeat first|apply Kd.Qw|apply Kd.Qv|apply Kd.Q1);exact Kd.Qz (Kd.Qu (Kd.Qu (Kd.Qu (Kd.Qz HO_242000.out (fun k_ hk=>(⟨hk,hk.2⟩:_∧k_≠cf))) (fun _ hk=>hk.2) (.int .i64 ((Qc κ a0).f0))) (fun _ hk=>hk.2) (.int .i64 ((Qc κ a0).f1))) (fun _ hk=>hk.2) (.int .i64 ((Qc κ a0).f2))) (fun _ hk=>trivial)⟩,⟨by(with_reducible repeat first|apply Kd.Qw|apply Kd.Qv|apply Kd.Q1);exact Kd.Qz (Kd.Qu (Kd.Qu (Kd.Qu (Kd.Q6 HO_242001.out co.out (by decide)) (fun _ hk=>hk.2) (.int .i64 ((Qc κ a0).f0))) (fun _ hk=>hk.2) (.int .i64 ((Qc κ a0).f1))) (fun _ hk=>hk.2) (.int .i64 ((Qc κ a0).f2))) (fun _ hk=>trivial)⟩,⟨bka Z⟩,⟨bka Y⟩,⟨bka ε⟩,⟨bka ν⟩,⟨bel⟩,gm⟩
          ·rw[if_neg i9] at H
           exact absurd H (by simp)
         ·rw[if_neg ea] at H
          have c40b0:decide (0≤((Qc κ a0).f2))=false:=decide_eq_false ea
          clear ea
          have H':=Aside0.mk H
          clear H
          have se:=ab.out
          have sf:=aa.out
          have sg:=ac.out
          have sh:=a8.out
          have n3:=af.out
          have na:=ae.out
          obtain⟨lm,ln,lp,lq⟩:=qD2 ν.out
          obtain⟨t7,o4,o5⟩:=Kd.Q7 HO_242000.out
          subst o5
          have ej:0≤(a0:Int):=of_decide_eq_true (by assumption)
          have ek:a0<(κ.length:Int):=of_decide_eq_true (by assumption)
          obtain⟨g2,ia,g3,g4,g5⟩:=Xv (Kd.Qy HO_242000.out).2.2 a0 ej ek
          cases ia
          replace ej:=eq_true ej
          replace ek:=eq_true ek
          (try rewrite[← gm.out])
          go_wp2_with (first|((with_reducible refine Qe (N:=13) rfl ?_);refine qE 13 #[.int .i64 0,.int .i64 0,.int .i64 0] 36 ?_;intro cf hg tq hbox hb;have co:=Aside0.mk hbox;have l3:=sGe hg;have l4:=sGe hg;have eb:=sNl Z hg;have ec:=sNg Z hg;have ed:=sNl Y hg;have ee:=sNg Y hg;have ef:=sNl ε hg;have eg:=sNg ε hg;have eh:=sNl ν hg;have ei:=sNg ν hg;replace HO_242000:=Aside0.mk (Kd.Z2 (Kd.Yk HO_242000.out cf (Nat.le_of_eq hg.symm)) hb);replace HO_242001:=sRb HO_242001 hb;replace Z:=sBk Z hb;replace Y:=sBk Y hb;replace ε :=sBk ε hb;replace ν :=sBk ν hb;replace HB:=sHb hb;clear hb hbox hg;have si:=ec.out;have sj:=eb.out;have kp:=ee.out;have ks:=ed.out;have kt:=eg.out;have ku:=ef.out;have nb:=ei.out;have nc:=eh.out;obtain⟨io,ip,iq,ir,it,iu⟩:=qD3 co.out))
          rewrite[gm.out]
          go_roundg k1
          case measure=>have:=an.out;omega
          case rel=>exact⟨(wrap64 (a0+1)),(κ),(.slice (some g2) κ.length o4),qR,H',⟨by have:=an.out;omega⟩,⟨by(with_reducible repeat first|apply Kd.Qw|apply Kd.Qv|apply Kd.Q1);exact Kd.Qz (Kd.Qu (Kd.Qu (Kd.Qu (Kd.Qz HO_242000.out (fun k_ hk=>(⟨hk,hk.2⟩:_∧k_≠cf))) (fun _ hk=>hk.2) (.int .i64 ((Qc κ a0).f0))) (fun _ hk=>hk.2) (.int .i64 ((Qc κ a0).f1))) (fun _ hk=>hk.2) (.int .i64 ((Qc κ a0).f2))) (fun _ hk=>trivial)⟩,⟨by(with_reducible repeat first|apply Kd.Qw|apply Kd.Qv|apply Kd.Q1);exact Kd.Qz (Kd.Qu (Kd.Qu (Kd.Qu (Kd.Q6 HO_242001.out co.out (by decide)) (fun _ hk=>hk.2) (.int .i64 ((Qc κ a0).f0))) (fun _ hk=>hk.2) (.int .i64 ((Qc κ a0).f1))) (fun _ hk=>hk.2) (.int .i64 ((Qc κ a0).f2))) (fun _ hk=>trivial)⟩,⟨bka Z⟩,⟨bka Y⟩,⟨bka ε⟩,⟨bka ν⟩,⟨bel⟩,gm⟩
        ·rw[if_neg g6] at H
         exact absurd H (by simp)
       ·rw[if_neg ep] at H
        exact absurd H (by simp)
      ·rw[if_neg df] at H
       have c37b0:decide (a0<(au.length:Int))=false:=decide_eq_false df
       clear df
       have H':=Aside0.mk H
       clear H
       have sk:=ab.out
       have sl:=aa.out
       have sn:=ac.out
       have so:=a8.out
       have sp:=af.out
       have sq:=ae.out
       obtain⟨lr,ls,lu,lv⟩:=qD2 ν.out
       obtain⟨mh,mi,o6⟩:=Kd.Q7 HO_242000.out
       subst o6
       go_wp2
       go_loopg [61] k1 (fun kq qt w'=>∃ (ψ :Int) (ι :List (S36)) (d8:Value),qt = .int .i64 ψ ∧ Aside0 (group_Spread.l1 kq l1 a2 (κ.length:Int) ψ J B L O X δ γ θ η ζ ι b4=some (r1,r2,r3))∧Aside0 (kq≤k1)∧Aside0 (Kd.R k36 36 w' w.heap.size (fun _=>True) d8 ι)∧Aside0 (Kd.R k86 86 w' w.heap.size (fun _=>True) (.slice be b4.length bc) b4)∧Aside0 (w'.heap[a1]?=some (.cells #[.int .i64 J,.int .i64 B,.int .i64 L,.int .i64 O,.int .i64 X,.int .i64 δ,.int .i64 γ,.int .i64 θ,.int .i64 η,.int .i64 ζ] 25 (0,0)))∧Aside0 (w'.heap[μ]?=some (.cells #[(.slice a3 τ.length a4),(.slice a5 ρ.length a6)] 50 (0,0)))∧Aside0 (w'.heap[ag]?=some (.cells #[(.slice none 0 0),(.slice none 0 0)] 50 (0,0)))∧Aside0 (w'.heap[χ]?=some (.cells #[d8,(.slice be b4.length bc)] 50 (0,0)))∧Aside0 (Below w.heap.size w w')∧Aside0 (d8=(.slice mh κ.length mi)))
       case atStart=>exact⟨(0),(κ),(.slice mh κ.length mi),rfl,H',⟨Nat.le_refl _⟩,⟨by(with_reducible repeat first|apply Kd.Qw|apply Kd.Qv|apply Kd.Q1);exact HO_242000.out⟩,⟨by(with_reducible repeat first|apply Kd.Qw|apply Kd.Qv|apply Kd.Q1);exact HO_242001.out⟩,Z,Y,ε,ν,HB,⟨rfl⟩⟩
       case round=>
        clear H'
        try clear p2
        try clear q2
        try clear qe
        try clear c3
        try clear c4
        try clear p4
        try clear q4
        try clear tr
        try clear qb
        try clear c5
        try clear qg
        try clear qd
        try clear c6
        try clear p6
        try clear c7
        try clear c8
        try clear ts
        try clear tt
        try clear t8
        try clear h8
        try clear h9
        try clear en
        try clear df
        try clear c37b0
        try clear ep
        try clear c38b0
        try clear g6
        try clear c39b0
        try clear ea
        try clear c40b0
        try clear i9
        try clear c41b0
        try clear c41b1
        try clear gn
        try clear c43b0
        try clear c43b1
        try clear qh
        try clear p44
        try clear js
        try clear t9
        try clear ta
        try clear qi
        try clear nv
        try clear g7
        try clear j8
        try clear h4
        try clear i3
        try clear jp
        try clear jo
        try clear tb
        try clear tc
        try clear h5
        try clear h6
        try clear tu
        try clear p64
        try clear tv
        try clear tw
        try clear tx
        try clear ty
        try clear jq
        try clear tz
        try clear u0
        try clear u1
        try clear u2
        try clear u3
        try clear u4
        try clear u5
        try clear u6
        try clear u7
        try clear fy
        try clear fz
        try clear e3
        try clear e4
        try clear gs
        try clear gt
        try clear j9
        try clear jb
        try clear jc
        try clear jd
        try clear lf
        try clear lg
        try clear gw
        try clear gx
        try clear ih
        try clear ii
        try clear ij
        try clear lm
        try clear ln
        try clear io
        try clear ip
        try clear iq
        try clear lr
        try clear ls
        try clear g0
        try clear g1
        try clear e5
        try clear e6
        try clear gu
        try clear gv
        try clear ja
        try clear je
        try clear jf
        try clear jg
        try clear lh
        try clear ll
        try clear gy
        try clear gz
        try clear ik
        try clear il
        try clear im
        try clear lp
        try clear lq
        try clear ir
        try clear it
        try clear iu
        try clear lu
        try clear lv
        try clear g3
        try clear g4
        try clear g5
        try clear m9
        try clear ma
        try clear mb
        try clear jt
        try clear p2
        try clear ej
        try clear p44
        try clear ek
        try clear js
        obtain⟨ψ,ι,d8,rfl,HA,e8,HO_242000,HO_242001,Z,Y,ε,ν,HB,ib⟩:=hrel
        cases gk with
        |zero=>exact absurd HA.out (by simp[group_Spread.l1])
        |succ k2=>
         have H:=HA.out
         clear HA
         simp only[group_Spread.l1] at H
         by_cases ix: ψ < (κ.length:Int)
         ·rw[if_pos ix] at H
          have c88b0:decide (ψ < (κ.length:Int))=true:=decide_eq_true ix
          clear ix
          by_cases l7:0 ≤ ψ
          ·rw[if_pos l7] at H
           have c89b0:decide (0 ≤ ψ)=true:=decide_eq_true l7
           clear l7
           by_cases l8: ψ < (ι.length:Int)
           ·rw[if_pos l8] at H
            have c90b0:decide (ψ < (ι.length:Int))=true:=decide_eq_true l8
            clear l8
            by_cases iy:((Qc ι ψ).f2)<0
            ·rw[if_pos iy] at H
             have c91b0:decide (((Qc ι ψ).f2)<0)=true:=decide_eq_true iy
             clear iy
             replace H:=Option.bind_eq_some_iff.mp H
             obtain⟨cn,mj,H⟩:=H
             replace H:(group_Spread.l1 k2 l1 a2 (κ.length:Int) (wrap64 (ψ + 1)) J B L O X δ γ θ η ζ (ι.set (ψ :Int).toNat (⟨(Qc ι ψ).f0,(Qc ι ψ).f1,cn⟩:S36)) b4)=some (r1,r2,r3):=H
             have qu:=Aside0.mk mj
             clear mj
             obtain⟨ml,gq⟩:∃ y_:List (S36),y_=(ι.set (ψ :Int).toNat (⟨(Qc ι ψ).f0,(Qc ι ψ).f1,cn⟩:S36)):=⟨_,rfl⟩
             replace H:(group_Spread.l1 k2 l1 a2 (κ.length:Int) (wrap64 (ψ + 1)) J B L O X δ γ θ η ζ ml b4)=some (r1,r2,r3):=by first|(rw[gq];with_reducible exact H)|(have am:=(Option.bind_some _ _).symm.trans H;rw[gq];with_reducible exact am)|(have am:=(Option.bind_some _ _).symm.trans H;with_reducible exact am)|with_reducible exact H|(rw[gq];exact H)|exact H
             have nn:=Aside0.mk gq
             clear gq
             have H':=Aside0.mk H
             clear H
             have nf:=ab.out
             have ng:=aa.out
             have sr:=ac.out
             have ss:=a8.out
             have st:=af.out
             have su:=ae.out
             obtain⟨q7,q8,q9,qa⟩:=qD2 ν.out
             obtain⟨td,ic,o7⟩:=Kd.Q7 HO_242000.out
             subst o7
             have ew:0≤(ψ :Int):=of_decide_eq_true (by assumption)
             have ey: ψ < (ι.length:Int):=of_decide_eq_true (by assumption)
             obtain⟨ak,ie,di,dj,dk⟩:=Xv (Kd.Qy HO_242000.out).2.2 ψ ew ey
             cases ie
             replace ew:=eq_true ew
             replace ey:=eq_true ey
             (try rewrite[← ib.out])
             try go_wp2_with (first|((with_reducible refine Qe (N:=15) rfl ?_);refine qE 15 #[.int .i64 0,.int .i64 0,.int .i64 0] 36 ?_;intro ap hg gr hbox hb;have bn:=Aside0.mk hbox;have no:=sGe hg;have np:=sGe hg;have fo:=sNl Z hg;have fp:=sNg Z hg;have fq:=sNl Y hg;have fr:=sNg Y hg;have ft:=sNl ε hg;have fu:=sNg ε hg;have fv:=sNl ν hg;have fw:=sNg ν hg;replace HO_242000:=Aside0.mk (Kd.Z2 (Kd.Yk HO_242000.out ap (Nat.le_of_eq hg.symm)) hb);replace HO_242001:=sRb HO_242001 hb;replace Z:=sBk Z hb;replace Y:=sBk Y hb;replace ε :=sBk ε hb;replace ν :=sBk ν hb;replace HB:=sHb hb;clear hb hbox hg;have qv:=fp.out;have qw:=fo.out;have qx:=fr.out;have qy:=fq.out;have qz:=fu.out;have r0:=ft.out;have r4:=fw.out;have r5:=fv.out;obtain⟨o8,o9,oa,ob,oc,od⟩:=qD3 bn.out))
             have ξ :Aside0 (Kd.R k36 36 (((gr.setCell ⟨ap,0,none⟩ (.int .i64 ((Qc ι ψ).f0))).setCell ⟨ap,1,none⟩ (.int .i64 ((Qc ι ψ).f1))).setCell ⟨ap,2,none⟩ (.int .i64 ((Qc ι ψ).f2))) w.heap.size (fun k_=>k_≠ap) (.slice (some ak) ι.length ic) ι):=⟨by(with_reducible repeat first|apply Kd.Qw|apply Kd.Qv|apply Kd.Q1);exact Kd.Qz (Kd.Qu (Kd.Qu (Kd.Qu (Kd.Qz HO_242000.out (fun k_ hk=>(⟨hk,hk.2⟩:_∧k_≠ap))) (fun _ hk=>hk.2) (.int .i64 ((Qc ι ψ).f0))) (fun _ hk=>hk.2) (.int .i64 ((Qc ι ψ).f1))) (fun _ hk=>hk.2) (.int .i64 ((Qc ι ψ).f2))) (fun _ hk=>hk.1.2)⟩
             have φ :Aside0 (Kd.R k86 86 (((gr.setCell ⟨ap,0,none⟩ (.int .i64 ((Qc ι ψ).f0))).setCell ⟨ap,1,none⟩ (.int .i64 ((Qc ι ψ).f1))).setCell ⟨ap,2,none⟩ (.int .i64 ((Qc ι ψ).f2))) w.heap.size (fun _=>True) (.slice be b4.length bc) b4):=⟨by(with_reducible repeat first|apply Kd.Qw|apply Kd.Qv|apply Kd.Q1);exact Kd.Qz (Kd.Qu (Kd.Qu (Kd.Qu (Kd.Q6 HO_242001.out bn.out (by decide)) (fun _ hk=>hk.2) (.int .i64 ((Qc ι ψ).f0))) (fun _ hk=>hk.2) (.int .i64 ((Qc ι ψ).f1))) (fun _ hk=>hk.2) (.int .i64 ((Qc ι ψ).f2))) (fun _ hk=>trivial)⟩
             have ω :Aside0 ((((gr.setCell ⟨ap,0,none⟩ (.int .i64 ((Qc ι ψ).f0))).setCell ⟨ap,1,none⟩ (.int .i64 ((Qc ι ψ).f1))).setCell ⟨ap,2,none⟩ (.int .i64 ((Qc ι ψ).f2))).heap[a1]?=some (.cells #[.int .i64 J,.int .i64 B,.int .i64 L,.int .i64 O,.int .i64 X,.int .i64 δ,.int .i64 γ,.int .i64 θ,.int .i64 η,.int .i64 ζ] 25 (0,0))):=⟨bka Z⟩
             have a7:Aside0 ((((gr.setCell ⟨ap,0,none⟩ (.int .i64 ((Qc ι ψ).f0))).setCell ⟨ap,1,none⟩ (.int .i64 ((Qc ι ψ).f1))).setCell ⟨ap,2,none⟩ (.int .i64 ((Qc ι ψ).f2))).heap[μ]?=some (.cells #[.slice a3 τ.length a4,.slice a5 ρ.length a6] 50 (0,0))):=⟨bka Y⟩
             have ah:Aside0 ((((gr.setCell ⟨ap,0,none⟩ (.int .i64 ((Qc ι ψ).f0))).setCell ⟨ap,1,none⟩ (.int .i64 ((Qc ι ψ).f1))).setCell ⟨ap,2,none⟩ (.int .i64 ((Qc ι ψ).f2))).heap[ag]?=some (.cells #[.slice none 0 0,.slice none 0 0] 50 (0,0))):=⟨bka ε⟩
             have ar:Aside0 ((((gr.setCell ⟨ap,0,none⟩ (.int .i64 ((Qc ι ψ).f0))).setCell ⟨ap,1,none⟩ (.int .i64 ((Qc ι ψ).f1))).setCell ⟨ap,2,none⟩ (.int .i64 ((Qc ι ψ).f2))).heap[χ]?=some (.cells #[.slice (some ak) ι.length ic,.slice be b4.length bc] 50 (0,0))):=⟨bka ν⟩
             have b2:Aside0 ((((gr.setCell ⟨ap,0,none⟩ (.int .i64 ((Qc ι ψ).f0))).setCell ⟨ap,1,none⟩ (.int .i64 ((Qc ι ψ).f1))).setCell ⟨ap,2,none⟩ (.int .i64 ((Qc ι ψ).f2))).heap[ap]?=some (.cells #[.int .i64 ((Qc ι ψ).f0),.int .i64 ((Qc ι ψ).f1),.int .i64 ((Qc ι ψ).f2)] 36 (0,0))):=⟨by refine Qm (cs:=#[.int .i64 ((Qc ι ψ).f0),.int .i64 ((Qc ι ψ).f1),.int .i64 0]) ?_ 2 _ rfl;refine Qm (cs:=#[.int .i64 ((Qc ι ψ).f0),.int .i64 0,.int .i64 0]) ?_ 1 _ rfl;refine Qm (cs:=#[.int .i64 0,.int .i64 0,.int .i64 0]) ?_ 0 _ rfl;exact bn.out⟩
             have bf:Aside0 (Below w.heap.size w (((gr.setCell ⟨ap,0,none⟩ (.int .i64 ((Qc ι ψ).f0))).setCell ⟨ap,1,none⟩ (.int .i64 ((Qc ι ψ).f1))).setCell ⟨ap,2,none⟩ (.int .i64 ((Qc ι ψ).f2)))):=⟨bel⟩
             (try clear HO_242000)
             (try clear HO_242001)
             (try clear Z)
             (try clear Y)
             (try clear ε)
             (try clear ν)
             (try clear bn)
             (try clear HB)
             generalize(((gr.setCell ⟨ap,0,none⟩ (.int .i64 ((Qc ι ψ).f0))).setCell ⟨ap,1,none⟩ (.int .i64 ((Qc ι ψ).f1))).setCell ⟨ap,2,none⟩ (.int .i64 ((Qc ι ψ).f2)))=oe at ξ φ ω a7 ah ar b2 bf ⊢
             have HO_242000:= ξ
             have HO_242001:= φ
             have Z:= ω
             have Y:=a7
             have ε :=ah
             have ν :=ar
             have bn:=b2
             have HB:=bf
             clear ξ φ ω a7 ah ar b2 bf
             replace HO_242000:=Aside0.mk (Kd.Q1 HO_242000.out)
             replace HO_242001:=Aside0.mk (Kd.Q1 HO_242001.out)
             replace Z:=Aside0.mk (Qd Z.out)
             replace Y:=Aside0.mk (Qd Y.out)
             replace ε :=Aside0.mk (Qd ε.out)
             replace ν :=Aside0.mk (Qd ν.out)
             replace bn:=Aside0.mk (Qd bn.out)
             replace HB:=Aside0.mk (Qf HB.out)
             refine Zn (n:=12) (S:=fun w'=>w'.cell? ⟨χ,0,none⟩=some (.slice (some ak) ι.length ic)∧w'.cell? ⟨χ,1,none⟩=some (.slice be b4.length bc)∧w'.cell? ⟨a1,0,none⟩=some (.int .i64 J)∧w'.cell? ⟨a1,1,none⟩=some (.int .i64 B)∧w'.cell? ⟨a1,2,none⟩=some (.int .i64 L)∧w'.cell? ⟨a1,3,none⟩=some (.int .i64 O)∧w'.cell? ⟨a1,4,none⟩=some (.int .i64 X)∧w'.cell? ⟨a1,5,none⟩=some (.int .i64 δ)∧w'.cell? ⟨a1,6,none⟩=some (.int .i64 γ)∧w'.cell? ⟨a1,7,none⟩=some (.int .i64 θ)∧w'.cell? ⟨a1,8,none⟩=some (.int .i64 η)∧w'.cell? ⟨a1,9,none⟩=some (.int .i64 ζ)∧w'.cell? ⟨ap,0,none⟩=some (.int .i64 ((Qc ι ψ).f0))∧w'.cell? ⟨ap,1,none⟩=some (.int .i64 ((Qc ι ψ).f1))∧w'.cell? ⟨ap,2,none⟩=some (.int .i64 ((Qc ι ψ).f2))) (ds:=[11]) #[false,false,false,false,false,false,false,false,false,false,false,false] kr rfl rfl ⟨(Qa ν.out 0).trans rfl,(Qa ν.out 1).trans rfl,(Qa Z.out 0).trans rfl,(Qa Z.out 1).trans rfl,(Qa Z.out 2).trans rfl,(Qa Z.out 3).trans rfl,(Qa Z.out 4).trans rfl,(Qa Z.out 5).trans rfl,(Qa Z.out 6).trans rfl,(Qa Z.out 7).trans rfl,(Qa Z.out 8).trans rfl,(Qa Z.out 9).trans rfl,(Qa bn.out 0).trans rfl,(Qa bn.out 1).trans rfl,(Qa bn.out 2).trans rfl⟩ (fun hHeld=>?_);refine Q8 group_Spread.tab15 group_Spread.N8 (fun HT_ HW_=>?_)
             generalize oe.drew=te at HO_242000 HO_242001 Z Y ε ν bn HB hHeld ⊢
             refine qP 0 (some 69) (bN 12 1) HT_ ?_
             refine qP 2 (some 71) (bN 12 5) HT_ ?_
             refine qP 4 (some 73) (bN 12 21) HT_ ?_
             refine qP 5 (some 74) (bN 12 53) HT_ ?_
             refine qT 1 (some 70) (bN 12 55) HT_ HW_ hHeld ?_
             refine qT 3 (some 72) (bN 12 63) HT_ HW_ hHeld ?_
             refine qT 6 (some 75) (bN 12 127) HT_ HW_ hHeld ?_
             refine qT 7 (some 76) (bN 12 255) HT_ HW_ hHeld ?_
             refine Ze (i:=8) (N:=some 77) (bN 12 511) rfl rfl (Q5 HT_.out kr) (by decide) (fun K hK=>?_)
             refine Zd Try.func38 kr rfl #[.agg #[.int .i64 J,.int .i64 B,.int .i64 L,.int .i64 O,.int .i64 X,.int .i64 δ,.int .i64 γ,.int .i64 θ,.int .i64 η,.int .i64 ζ],.slice A1 l1.length c1,.int .i64 a2,.agg #[.slice (some ak) ι.length ic,.slice be b4.length bc],.agg #[.int .i64 ((Qc ι ψ).f0),.int .i64 ((Qc ι ψ).f1),.int .i64 ((Qc ι ψ).f2)]] (by rfl) rfl rfl qM ?_
             with_reducible refine(group_pick.calls k2 J B L O X δ γ θ η ζ _ _ l1 a2 _ _ ι _ _ b4 ((Qc ι ψ).f0) ((Qc ι ψ).f1) ((Qc ι ψ).f2) cn _ ?side1 ?side2 ?side3 ?side4 ?side5 ?side6 qu.out).mono ?_
             (case side1=>exact(Kd.Qt de.out HB.out))
             (case side2=>exact dw.out)
             (case side3=>exact(Kd.Qy HO_242000.out).2.2)
             (case side4=>exact(Kd.Qy HO_242000.out).2.1)
             (case side5=>exact(Kd.Qy HO_242001.out).2.2)
             (case side6=>exact(Kd.Qy HO_242001.out).2.1)
             rintro e tf ⟨rfl,hb⟩
             refine⟨_,rfl, ?_⟩
             replace HO_242000:=sRb HO_242000 hb
             replace HO_242001:=sRb HO_242001 hb
             replace Z:=sBk Z hb
             replace Y:=sBk Y hb
             replace ε :=sBk ε hb
             replace ν :=sBk ν hb
             replace bn:=sBk bn hb
             replace HB:=sHb hb
             (try clear hb)
             (try clear a9)
             (try clear hk)
             (try clear hi)
             have mm:0≤(ψ :Int):=of_decide_eq_true (by assumption)
             have mo:(ψ :Int)<((ι.length:Int):Int):=of_decide_eq_true (by assumption)
             obtain⟨fx,tg,mq,mr,oh,ti,ms⟩:=Kd.Vt HO_242000.out (by omega)
             (first|cases mq|(injection mq with ea_ en_ ec_;(first|subst ea_|(injection ea_ with ea_;subst ea_));subst ec_;clear en_))
             have tj:=Aside0.mk mr
             have oi:=Aside0.mk ms
             clear mr oh ms
             (first|simp only[add_plain] at di|skip)
             (first|simp only[add_plain] at dj|skip)
             (first|simp only[add_plain] at dk|skip)
             obtain⟨tk,nq,mt,i0,i1⟩:=Kd.Y4 HO_242000.out z36 (ψ :Int) mm mo
             obtain rfl:=X4 mt
             have r6:World.cell? _ ⟨fx,(ψ :Int).toNat * 3,none⟩=some (.int .i64 ((Qc ι ψ).f0)):=i0 0 _ rfl
             have r7:World.cell? _ ⟨fx,(ψ :Int).toNat * 3+1,none⟩=some (.int .i64 ((Qc ι ψ).f1)):=i0 1 _ rfl
             have r8:World.cell? _ ⟨fx,(ψ :Int).toNat * 3+2,none⟩=some (.int .i64 ((Qc ι ψ).f2)):=i0 2 _ rfl
             have r9:World.frozen? _ ⟨fx,(ψ :Int).toNat * 3,none⟩=false:=i1 0
             have ra:World.frozen? _ ⟨fx,(ψ :Int).toNat * 3+1,none⟩=false:=i1 1
             have rb:World.frozen? _ ⟨fx,(ψ :Int).toNat * 3+2,none⟩=false:=i1 2
             clear nq i0 i1 mt
             replace mm:=eq_true mm
             replace mo:=eq_true mo
             (try rewrite[← ib.out])
             obtain⟨sv,ju,l9,jv,mu⟩:=Kd.Y4 HO_242000.out z36 (ψ :Int) (of_decide_eq_true (by assumption)) (by have h_:(ψ :Int)<((ι.length:Int):Int):=of_decide_eq_true (by assumption);first|exact h_|(have e_:=(Kd.Qy HO_242000.out).1;omega)|simpa using h_)
             obtain rfl:=X4 l9
             have jn:=(Kd.Wl HO_242000.out (ψ :Int) (of_decide_eq_true (by assumption)) (by have h_:(ψ :Int)<((ι.length:Int):Int):=of_decide_eq_true (by assumption);first|exact h_|(have e_:=(Kd.Qy HO_242000.out).1;omega)|simpa using h_) (seg:=[.int .i64 cn]) (j:=2) ju jv (show 3≤3 from by decide) (x':=(⟨(Qc ι ψ).f0,(Qc ι ψ).f1,cn⟩:S36)) (J9 _ _ _ (⟨(Qc ι ψ).f0,(Qc ι ψ).f1,cn⟩:S36)) (fun _ hk=>hk)).1
             rw[← nn.out] at jn
             have nr:=Aside0.mk jn
             clear ju jv mu l9 jn
             refine hK.out _ _ ⟨qc ν,qc ν,qc Z,qc Z,qc Z,qc Z,qc Z,qc Z,qc Z,qc Z,qc Z,qc Z,qc bn,qc bn,qc bn⟩ (fun hHeld=>?_)
             clear hK K
             refine qN (some 77) ?_
             refine qP 9 (some 78) (bN 12 1023) HT_ ?_
             refine qP 10 (some 79) (bN 12 2047) HT_ ?_
             refine last_ (i:=11) (N:=none) #[true,true,true,true,true,true,true,true,true,true,true,true] rfl rfl (Q5 HT_.out kr) (by decide) (fun K hK=>?_)
             refine V2 (w1:=?_) (by rfl) rfl ?_ ?_
             rotate_left
             ·go_simp
              rfl
             refine hK.out _ _ ?_
             clear hK K
             refine Z5 (Zm HT_.out kr) ?_
             try go_wp2
             rewrite[ib.out]
             go_roundg k2
             case measure=>have:=an.out;have:=e8.out;omega
             case rel=>exact⟨(wrap64 (ψ + 1)),(ml),(.slice (some ⟨fx,0,none⟩) ι.length ic),qR,H',⟨by have:=an.out;have:=e8.out;omega⟩,⟨by(with_reducible repeat first|apply Kd.Qw|apply Kd.Qv|apply Kd.Q1);exact Kd.Qz nr.out (fun _ hk=>trivial)⟩,⟨by(with_reducible repeat first|apply Kd.Qw|apply Kd.Qv|apply Kd.Q1);exact Kd.Qz (Kd.Qu (p:=⟨fx,(ψ :Int).toNat * 3+2,none⟩) (Kd.Q6 HO_242001.out oi.out (by decide)) (fun _ hk=>hk.2) (.int .i64 cn)) (fun _ hk=>trivial)⟩,⟨by(with_reducible repeat first|refine Qj ?_ _|refine Qd ?_|refine Qk ?_ _);refine X1 ?_ (by have h_:=Kd.Xb HO_242000.out Z.out (by decide);intro e_;exact h_ (by rw[e_];rfl)) _;(with_reducible repeat first|refine Qj ?_ _|refine Qd ?_|refine Qk ?_ _);exact Z.out⟩,⟨by(with_reducible repeat first|refine Qj ?_ _|refine Qd ?_|refine Qk ?_ _);refine X1 ?_ (by have h_:=Kd.Xb HO_242000.out Y.out (by decide);intro e_;exact h_ (by rw[e_];rfl)) _;(with_reducible repeat first|refine Qj ?_ _|refine Qd ?_|refine Qk ?_ _);exact Y.out⟩,⟨by(with_reducible repeat first|refine Qj ?_ _|refine Qd ?_|refine Qk ?_ _);refine X1 ?_ (by have h_:=Kd.Xb HO_242000.out ε.out (by decide);intro e_;exact h_ (by rw[e_];rfl)) _;(with_reducible repeat first|refine Qj ?_ _|refine Qd ?_|refine Qk ?_ _);exact ε.out⟩,⟨by(with_reducible repeat first|refine Qj ?_ _|refine Qd ?_|refine Qk ?_ _);refine X1 ?_ (by have h_:=Kd.Xb HO_242000.out ν.out (by decide);intro e_;exact h_ (by rw[e_];rfl)) _;(with_reducible repeat first|refine Qj ?_ _|refine Qd ?_|refine Qk ?_ _);exact ν.out⟩,⟨bel⟩,ib⟩
            ·rw[if_neg iy] at H
             have c91b0:decide (((Qc ι ψ).f2)<0)=false:=decide_eq_false iy
             clear iy
             have H':=Aside0.mk H
             clear H
             have rc:=ab.out
             have re:=aa.out
             have rf:=ac.out
             have rh:=a8.out
             have ri:=af.out
             have rj:=ae.out
             obtain⟨jw,jx,jy,jz⟩:=qD2 ν.out
             obtain⟨sw,ns,nt⟩:=Kd.Q7 HO_242000.out
             subst nt
             have ew:0≤(ψ :Int):=of_decide_eq_true (by assumption)
             have ey: ψ < (ι.length:Int):=of_decide_eq_true (by assumption)
             obtain⟨ak,ie,di,dj,dk⟩:=Xv (Kd.Qy HO_242000.out).2.2 ψ ew ey
             cases ie
             replace ew:=eq_true ew
             replace ey:=eq_true ey
             (try rewrite[← ib.out])
             go_wp2_with (first|((with_reducible refine Qe (N:=15) rfl ?_);refine qE 15 #[.int .i64 0,.int .i64 0,.int .i64 0] 36 ?_;intro ap hg nw hbox hb;have bn:=Aside0.mk hbox;have no:=sGe hg;have np:=sGe hg;have fo:=sNl Z hg;have fp:=sNg Z hg;have fq:=sNl Y hg;have fr:=sNg Y hg;have ft:=sNl ε hg;have fu:=sNg ε hg;have fv:=sNl ν hg;have fw:=sNg ν hg;replace HO_242000:=Aside0.mk (Kd.Z2 (Kd.Yk HO_242000.out ap (Nat.le_of_eq hg.symm)) hb);replace HO_242001:=sRb HO_242001 hb;replace Z:=sBk Z hb;replace Y:=sBk Y hb;replace ε :=sBk ε hb;replace ν :=sBk ν hb;replace HB:=sHb hb;clear hb hbox hg;have rk:=fp.out;have rl:=fo.out;have rm:=fr.out;have rn:=fq.out;have lw:=fu.out;have lx:=ft.out;have ly:=fw.out;have lz:=fv.out;obtain⟨k0,k3,oj,k4,k5,ol⟩:=qD3 bn.out))
             rewrite[ib.out]
             go_roundg k2
             case measure=>have:=an.out;have:=e8.out;omega
             case rel=>exact⟨(wrap64 (ψ + 1)),(ι),(.slice (some ak) ι.length ns),qR,H',⟨by have:=an.out;have:=e8.out;omega⟩,⟨by(with_reducible repeat first|apply Kd.Qw|apply Kd.Qv|apply Kd.Q1);exact Kd.Qz (Kd.Qu (Kd.Qu (Kd.Qu (Kd.Qz HO_242000.out (fun k_ hk=>(⟨hk,hk.2⟩:_∧k_≠ap))) (fun _ hk=>hk.2) (.int .i64 ((Qc ι ψ).f0))) (fun _ hk=>hk.2) (.int .i64 ((Qc ι ψ).f1))) (fun _ hk=>hk.2) (.int .i64 ((Qc ι ψ).f2))) (fun _ hk=>trivial)⟩,⟨by(with_reducible repeat first|apply Kd.Qw|apply Kd.Qv|apply Kd.Q1);exact Kd.Qz (Kd.Qu (Kd.Qu (Kd.Qu (Kd.Q6 HO_242001.out bn.out (by decide)) (fun _ hk=>hk.2) (.int .i64 ((Qc ι ψ).f0))) (fun _ hk=>hk.2) (.int .i64 ((Qc ι ψ).f1))) (fun _ hk=>hk.2) (.int .i64 ((Qc ι ψ).f2))) (fun _ hk=>trivial)⟩,⟨bka Z⟩,⟨bka Y⟩,⟨bka ε⟩,⟨bka ν⟩,⟨bel⟩,ib⟩
           ·rw[if_neg l8] at H
            exact absurd H (by simp)
          ·rw[if_neg l7] at H
           exact absurd H (by simp)
         ·rw[if_neg ix] at H
          have c88b0:decide (ψ < (κ.length:Int))=false:=decide_eq_false ix
          clear ix
          simp only[Option.some.injEq,Prod.mk.injEq] at H
          obtain⟨rfl,rfl,rfl⟩:=H
          have m0:=ab.out
          have m1:=aa.out
          have rp:=ac.out
          have rq:=a8.out
          have rr:=af.out
          have rs:=ae.out
          obtain⟨k6,k7,k8,k9⟩:=qD2 ν.out
          obtain⟨lb,lc,nu⟩:=Kd.Q7 HO_242000.out
          subst nu
          have rt:=fa.out
          have ru:=f8.out
          have rv:=fc.out
          have rx:=fb.out
          obtain⟨om,oo,oq,ot⟩:=qD2 ε.out
          go_wp2
          refine bodyPost_ret (Z3 rfl _ _ ag 50 #[.slice lb ι.length lc,.slice be b4.length bc] (0,0) _ rfl (by refine Qm (cs:=#[.slice lb ι.length lc,.slice none 0 0]) ?_ 1 _ rfl;refine Qm (cs:=#[.slice none 0 0,.slice none 0 0]) ?_ 0 _ rfl;exact ε.out) Try.underlying50 rfl kr) rfl ?_
          exact⟨_,_,by first|rfl|(simp[Qh,Qg] <;> rfl)|(simp[*,Qh,Qg] <;> rfl),by(with_reducible repeat first|apply Kd.Qw|apply Kd.Qv|apply Kd.Q1);exact Kd.Qz (Kd.Qu (Kd.Qu (Kd.Q6 HO_242000.out ε.out (by decide)) (fun _ hk=>hk.2) _) (fun _ hk=>hk.2) _) (fun _ hk=>trivial),by(with_reducible repeat first|apply Kd.Qw|apply Kd.Qv|apply Kd.Q1);exact Kd.Qz (Kd.Qu (Kd.Qu (Kd.Q6 HO_242001.out ε.out (by decide)) (fun _ hk=>hk.2) _) (fun _ hk=>hk.2) _) (fun _ hk=>trivial),bel⟩
   ·rw[if_neg c8] at H
    exact absurd H (by simp)
  ·rw[if_neg c7] at H
   exact absurd H (by simp)
 ·rw[if_neg c6] at H
  have c6b0:(aj==0)=false:=beq_eq_false_iff_ne.mpr c6
  have c6b1:(aj != 0)=true:=bne_iff_ne.mpr c6
  simp only[Option.some.injEq,Prod.mk.injEq] at H
  obtain⟨rfl,rfl,rfl⟩:=H
  go_enter Try.func21,Try.ntmps21
  go_wp2_with (first|((with_reducible refine Qe (N:=4) rfl ?_);refine qE 4 #[.int .i64 J,.int .i64 B,.int .i64 L,.int .i64 O,.int .i64 X,.int .i64 δ,.int .i64 γ,.int .i64 θ,.int .i64 η,.int .i64 ζ] 25 ?_;intro a1 hg tl hbox hb;have Z:=Aside0.mk hbox;have ki:=sGe hg;have iz:=sGe hg;replace HB:=sHb hb;clear hb hbox hg)|((with_reducible refine Qe (N:=7) rfl ?_);refine qE 7 #[.slice a3 τ.length a4,.slice a5 ρ.length a6] 50 ?_;intro μ hg tm hbox hb;have Y:=Aside0.mk hbox;have nd:=sGe hg;have nh:=sGe hg;have fk:=sNl Z hg;have fl:=sNg Z hg;replace Z:=sBk Z hb;replace HB:=sHb hb;clear hb hbox hg)|((with_reducible refine Qe (N:=8) rfl ?_);refine qE 8 #[.slice none 0 0,.slice none 0 0] 50 ?_;intro ag hg tn hbox hb;have ε :=Aside0.mk hbox;have ni:=sGe hg;have nj:=sGe hg;have f8:=sNl Z hg;have fa:=sNg Z hg;have fb:=sNl Y hg;have fc:=sNg Y hg;replace Z:=sBk Z hb;replace Y:=sBk Y hb;replace HB:=sHb hb;clear hb hbox hg;have ry:=fk.out;have rz:=fl.out;have s0:=f8.out;have s1:=fa.out;obtain⟨ou,ov,ow,ox,oy,oz,p0,p1,p5,p7,p8,p9,pa,pb,pc,pd,pe,pf,pg,pi⟩:=Za Z.out;have s2:=fb.out;have s3:=fc.out;obtain⟨pj,pk,pm,pn⟩:=qD2 Y.out)|((with_reducible refine Ql (f:=17) rfl ?_);refine Q2 (some 19) rfl rfl Try.func17 kr rfl #[.agg #[.int .i64 J,.int .i64 B,.int .i64 L,.int .i64 O,.int .i64 X,.int .i64 δ,.int .i64 γ,.int .i64 θ,.int .i64 η,.int .i64 ζ],.slice A1 l1.length c1,.agg #[.slice a3 τ.length a4,.slice a5 ρ.length a6]] rfl qM ?_;(with_reducible refine(group_Check.calls k J B L O X δ γ θ η ζ _ _ l1 _ _ τ _ _ ρ aj _ ?side1 ?side2 ?side3 ?side4 ?side5 ?side6 A5.out).mono ?_);(case side1=>exact(Kd.Qt de.out HB.out));(case side2=>exact dw.out);(case side3=>exact(Kd.Qt bk.out HB.out));(case side4=>exact cd.out);(case side5=>exact(Kd.Qt bz.out HB.out));(case side6=>exact ce.out);rintro e tp ⟨rfl,hb⟩;refine⟨_,rfl, ?_⟩;replace Z:=sBk Z hb;replace Y:=sBk Y hb;replace ε :=sBk ε hb;replace HB:=sHb hb;(try clear hb);(try clear a9);(try clear hk);(try clear hi);obtain⟨po,pp,pq,pr⟩:=qD2 ε.out))
  refine bodyPost_ret (Z3 rfl _ _ ag 50 #[.slice none 0 0,.slice none 0 0] (0,0) _ rfl (by refine Qm (cs:=#[.slice none 0 0,.slice none 0 0]) ?_ 1 _ rfl;refine Qm (cs:=#[.slice none 0 0,.slice none 0 0]) ?_ 0 _ rfl;exact ε.out) Try.underlying50 rfl kr) rfl ?_
  exact⟨_,_,by first|rfl|(simp[Qh,Qg] <;> rfl)|(simp[*,Qh,Qg] <;> rfl),by first|exact Kd.Xs _ _ _ _ _|exact Kd.Ym _ _ _ _ _|exact Kd.Yi _ _ _ _ _|exact Kd.Yl _ _ _ _ _|exact Kd.Yj _ _ _ _ _,by first|exact Kd.Xs _ _ _ _ _|exact Kd.Ym _ _ _ _ _|exact Kd.Yi _ _ _ _ _|exact Kd.Yl _ _ _ _ _|exact Kd.Yj _ _ _ _ _,bel⟩
end Go.Proofs.Ytmfffemidlhcpaa.C
