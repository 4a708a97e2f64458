/- Texts of this claim, one behind the other: what the law's functions come to, walked (printed by a program, with the words that the print uses), and what that is, in plain Lean. No conditions of their own. -/
import Derived.Test.YtmfffemidlhcpaaQGroupCosts2
namespace Go.Proofs.Ytmfffemidlhcpaa.C
open Go.RowKit Go.Proofs.YtmfffemidlhcpaaW.PrintWords Go.Proofs.YtmfffemidlhcpaaW.PrintLast Go.Proofs.YtmfffemidlhcpaaW.PrintMore
attribute [local go_sem] Zz Zx Z9 Z8 Zq Zp Zy Zw
set_option linter.unusedVariables false
set_option linter.unusedSimpArgs false
mutual
def group_way.j0:Nat→Int→Int→Int→Int→Int→Int→Int→Int→Int→Int→Int→Bool→Bool→Int→Int→Int→Option (Int)
 |0,_,_,_,_,_,_,_,_,_,_,_,_,_,_,_,_=>none
 |k+1,Y,O,X,Z,γ,δ,ε,ζ,η,θ,B,ι,κ,J,L,μ =>if B=0 then (group_way.j1 k Y O X true Z γ δ ε ζ η θ B ι κ J L μ) else (if B=L then (group_way.j1 k Y O X (decide ((wrap64 ((wrap64 (J-Y)) * B))≥0)) Z γ δ ε ζ η θ B ι κ J L μ) else (group_way.j1 k Y O X false Z γ δ ε ζ η θ B ι κ J L μ))
def group_way.j1:Nat→Int→Int→Int→Bool→Int→Int→Int→Int→Int→Int→Int→Int→Bool→Bool→Int→Int→Int→Option (Int)
 |0,_,_,_,_,_,_,_,_,_,_,_,_,_,_,_,_,_=>none
 |k+1,Y,O,X,ν,Z,γ,δ,ε,ζ,η,θ,B,ι,κ,J,L,μ =>if ν = true then ((group_dist.f Y J).bind fun aw=>(some aw)) else (if B=L then ((group_dist.f Y O).bind fun ak=>((group_dist.f O X).bind fun ah=>((group_dist.f X J).bind fun χ =>(some (wrap64 ((wrap64 (ak+ah)) + χ)))))) else ((group_dist.f Y O).bind fun ap=>((group_dist.f O J).bind fun ao=>(some (wrap64 (ap+ao))))))
end
def group_way.f (k:Nat) (B:Int) (O:Int) (X:Int) (δ :Int) (κ :Int) (ι :Int) (μ :Int) (ν :Int) (ξ :Int) (ψ :Bool) (ω :Bool) (Z:Int) (γ:Int) (ζ :Int):Option (Int):=if ξ > 0 then (group_way.j0 k (wrap64 (O+X)) (wrap64 (B-1)) 0 O X δ κ ι μ ν ξ ψ ω Z γ ζ) else (group_way.j0 k (wrap64 (O+X)) 0 (wrap64 (B-1)) O X δ κ ι μ ν ξ ψ ω Z γ ζ)
theorem group_way.Zn:∀ k,(∀ L X Y B O Z y6 y7 y8 y9 γ ε ζ η θ ι,LeO (group_way.j0 k L X Y B O Z y6 y7 y8 y9 γ ε ζ η θ ι) (group_way.j0 (k+1) L X Y B O Z y6 y7 y8 y9 γ ε ζ η θ ι))∧(∀ L X Y B O Z y6 y7 y8 y9 γ ε ζ η θ ι κ,LeO (group_way.j1 k L X Y B O Z y6 y7 y8 y9 γ ε ζ η θ ι κ) (group_way.j1 (k+1) L X Y B O Z y6 y7 y8 y9 γ ε ζ η θ ι κ))
 |0=>⟨fun _ _ _ _ _ _ _ _ _ _ _ _ _ _ _ _ r h=>by simp[group_way.j0] at h,fun _ _ _ _ _ _ _ _ _ _ _ _ _ _ _ _ _ r h=>by simp[group_way.j1] at h⟩
 |k+1=>by
  obtain⟨J,δ⟩:=group_way.Zn k
  refine⟨?_, ?_⟩
  ·intro L X Y B O Z y6 y7 y8 y9 γ ε ζ η θ ι
   unfold group_way.j0
   repeat' first
   |(with_reducible exact J _ _ _ _ _ _ _ _ _ _ _ _ _ _ _ _)
   |(with_reducible exact δ _ _ _ _ _ _ _ _ _ _ _ _ _ _ _ _ _)
   |(with_reducible exact LeO.refl _)
   |(with_reducible exact LeO.none _)
   |(with_reducible refine LeO.ite ?_ ?_)
   |(with_reducible refine LeO.bind ?_ (fun _=>?_))
   |exact J _ _ _ _ _ _ _ _ _ _ _ _ _ _ _ _
   |exact δ _ _ _ _ _ _ _ _ _ _ _ _ _ _ _ _ _
   |exact LeO.none _
   |refine LeO.ite ?_ ?_
   |refine LeO.bind ?_ (fun _=>?_)
  ·intro L X Y B O Z y6 y7 y8 y9 γ ε ζ η θ ι κ
   unfold group_way.j1
   repeat' first
   |(with_reducible exact J _ _ _ _ _ _ _ _ _ _ _ _ _ _ _ _)
   |(with_reducible exact δ _ _ _ _ _ _ _ _ _ _ _ _ _ _ _ _ _)
   |(with_reducible exact LeO.refl _)
   |(with_reducible exact LeO.none _)
   |(with_reducible refine LeO.ite ?_ ?_)
   |(with_reducible refine LeO.bind ?_ (fun _=>?_))
   |exact J _ _ _ _ _ _ _ _ _ _ _ _ _ _ _ _
   |exact δ _ _ _ _ _ _ _ _ _ _ _ _ _ _ _ _ _
   |exact LeO.none _
   |refine LeO.ite ?_ ?_
   |refine LeO.bind ?_ (fun _=>?_)
theorem group_way.mono:∀ B O a2 a3 L a5 X a7 a8 a9 Y Z γ ε k,LeO (group_way.f k B O a2 a3 L a5 X a7 a8 a9 Y Z γ ε) (group_way.f (k+1) B O a2 a3 L a5 X a7 a8 a9 Y Z γ ε):=by
 intro B O a2 a3 L a5 X a7 a8 a9 Y Z γ ε k
 obtain⟨J,δ⟩:=group_way.Zn k
 unfold group_way.f
 repeat' first
   |(with_reducible exact J _ _ _ _ _ _ _ _ _ _ _ _ _ _ _ _)
   |(with_reducible exact δ _ _ _ _ _ _ _ _ _ _ _ _ _ _ _ _ _)
   |(with_reducible exact LeO.refl _)
   |(with_reducible exact LeO.none _)
   |(with_reducible refine LeO.ite ?_ ?_)
   |(with_reducible refine LeO.bind ?_ (fun _=>?_))
   |exact J _ _ _ _ _ _ _ _ _ _ _ _ _ _ _ _
   |exact δ _ _ _ _ _ _ _ _ _ _ _ _ _ _ _ _ _
   |exact LeO.none _
   |refine LeO.ite ?_ ?_
   |refine LeO.bind ?_ (fun _=>?_)
def group_way.T7:Bool×List (List Nat×List Nat):=(true,[([],[]),([],[]),([0,1],[0,1]),([],[]),([],[]),([4],[4]),([3,5,2],[3,5]),([2,6],[2,6]),([7,6,0,1,2,3,4,5,6,7],[7])])
def group_way.B7:List Nat:=[0,0,3,0,0,16,63,127,255]
theorem group_way.tab7:rtab .any (opsOf Try.f52 7)=group_way.T7:=by kernel_rfl
theorem group_way.bits7:Zr group_way.T7.2 group_way.B7=true:=by kernel_rfl
def group_way.T8:Bool×List (List Nat×List Nat):=(true,[([],[]),([],[]),([0,1],[0,1]),([],[]),([],[]),([3,4,2],[3,4]),([2,5],[2,5]),([],[]),([],[]),([8],[8]),([7,9,5],[7,9]),([6,10],[6,10]),([11,10,0,1,2,3,4,5,6,7,8,9,10,11],[11])])
def group_way.B8:List Nat:=[0,0,3,0,0,31,63,0,0,256,959,2047,4095]
theorem group_way.Nc:rtab .any (opsOf Try.f52 8)=group_way.T8:=by kernel_rfl
theorem group_way.Wu:Zr group_way.T8.2 group_way.B8=true:=by kernel_rfl
set_option maxHeartbeats 8000000 in
set_option maxRecDepth 100000 in
theorem group_way.calls (k:Nat) (B:Int) (O:Int) (X:Int) (δ :Int) (κ :Int) (ι :Int) (μ :Int) (ν :Int) (ξ :Int) (ψ :Bool) (ω :Bool) (Z:Int) (γ:Int) (ζ :Int) (r:Int) (w:World) (h:group_way.f k B O X δ κ ι μ ν ξ ψ ω Z γ ζ = some r):
  Calls Try.prog 52 #[.int .i64 B,.agg #[.int .i64 O,.int .i64 X,.int .i64 δ,.int .i64 κ,.int .i64 ι,.int .i64 μ,.int .i64 ν,.int .i64 ξ,.bool ψ,.bool ω],.agg #[.int .i64 Z,.int .i64 γ,.int .i64 ζ]] w fun e w'=>e = .returned (.int .i64 r)∧Below w.heap.size w w':=by
 have i4:=Try.underlying31
 have dh:=Try.underlying36
 have HB:=Aside0.mk (Below.refl w.heap.size w)
 have H:(if ξ > 0 then (group_way.j0 k (wrap64 (O+X)) (wrap64 (B-1)) 0 O X δ κ ι μ ν ξ ψ ω Z γ ζ) else (group_way.j0 k (wrap64 (O+X)) 0 (wrap64 (B-1)) O X δ κ ι μ ν ξ ψ ω Z γ ζ))=some r:=h
 clear h
 have ct:=Aside0.mk H
 clear H
 go_enter Try.func52,Try.ntmps52
 go_upto_if 21 with(first|((with_reducible refine Qe (N:=4) rfl ?_);refine qE 4 #[.int .i64 O,.int .i64 X,.int .i64 δ,.int .i64 κ,.int .i64 ι,.int .i64 μ,.int .i64 ν,.int .i64 ξ,.bool ψ,.bool ω] 31 ?_;intro bd hg w5 hbox hb;have L:=Aside0.mk hbox;have bl:=sGe hg;have bm:=sGe hg;replace HB:=sHb hb;clear hb hbox hg)|((with_reducible refine Qe (N:=5) rfl ?_);refine qE 5 #[.int .i64 Z,.int .i64 γ,.int .i64 ζ] 36 ?_;intro ρ hg w6 hbox hb;have J:=Aside0.mk hbox;have bq:=sGe hg;have cx:=sGe hg;have ε :=sNl L hg;have η :=sNg L hg;replace L:=sBk L hb;replace HB:=sHb hb;clear hb hbox hg;have ez:= ε.out;have fr:= η.out;obtain⟨br,bv,cp,aa,d5,d6,d7,d9,da,db,cu,cv,cw,dc,dj,dk,dl,du,dw,dx⟩:=Q5 L.out))
 (try simp only[Act.put,qS])
 go_cut [8,9] (fun v8 v9 wc=>∃ (kq:Nat) (Y:Int) (θ :Int),v8 = .int .i64 Y∧v9 = .int .i64 θ ∧ Aside0 (group_way.j0 kq (wrap64 (O+X)) Y θ O X δ κ ι μ ν ξ ψ ω Z γ ζ = some r)∧Aside0 (kq≤k)∧Aside0 (wc.heap[bd]?=some (.cells #[.int .i64 O,.int .i64 X,.int .i64 δ,.int .i64 κ,.int .i64 ι,.int .i64 μ,.int .i64 ν,.int .i64 ξ,.bool ψ,.bool ω] 31 (0,0)))∧Aside0 (wc.heap[ρ]?=some (.cells #[.int .i64 Z,.int .i64 γ,.int .i64 ζ] 36 (0,0)))∧Aside0 (Below w.heap.size w wc))
 case first=>
  have H:=ct.out
  clear ct
  by_cases c9: ξ > 0
  ·rw[if_pos c9] at H
   have c9b0:decide (0 < ξ)=true:=decide_eq_true c9
   clear c9
   (first|rw[c9b0]|(simp only[Za,Zb];rw[c9b0])|skip)
   have H':=Aside0.mk H
   clear H
   go_wp2
   go_meet
   case rel=>exact⟨_,(wrap64 (B-1)),(0),rfl,rfl,H',⟨by first|omega|exact Nat.le_refl _⟩,L,J,HB⟩
  ·rw[if_neg c9] at H
   have c9b0:decide (0 < ξ)=false:=decide_eq_false c9
   clear c9
   (first|rw[c9b0]|(simp only[Za,Zb];rw[c9b0])|skip)
   have H':=Aside0.mk H
   clear H
   go_wp2
   go_meet
   case rel=>exact⟨_,(0),(wrap64 (B-1)),rfl,rfl,H',⟨by first|omega|exact Nat.le_refl _⟩,L,J,HB⟩
 case rest=>
  clear ct
  try clear p2
  try clear c5
  try clear p6
  try clear c7
  try clear c9
  try clear c9b0
  try clear br
  try clear bv
  try clear cp
  try clear aa
  try clear d5
  try clear d6
  try clear d7
  try clear d9
  try clear da
  try clear db
  try clear cu
  try clear cv
  try clear cw
  try clear dc
  try clear dj
  try clear dk
  try clear dl
  try clear du
  try clear dw
  try clear dx
  obtain⟨kq,Y,θ,rfl,rfl,HA,dv,L,J,HB⟩:=hcut
  cases kq with
  |zero=>exact absurd HA.out (by simp[group_way.j0])
  |succ a5=>
   have H:=HA.out
   clear HA
   simp only[group_way.j0] at H
   have b3:=Aside0.mk H
   clear H
   go_upto_region 4 with(fail)
   go_cut [24] (fun be wc=>∃ (kq:Nat) (ax:Bool),be = .bool ax∧Aside0 (group_way.j1 kq (wrap64 (O+X)) Y θ ax O X δ κ ι μ ν ξ ψ ω Z γ ζ = some r)∧Aside0 (kq≤a5)∧Aside0 (wc.heap[bd]?=some (.cells #[.int .i64 O,.int .i64 X,.int .i64 δ,.int .i64 κ,.int .i64 ι,.int .i64 μ,.int .i64 ν,.int .i64 ξ,.bool ψ,.bool ω] 31 (0,0)))∧Aside0 (wc.heap[ρ]?=some (.cells #[.int .i64 Z,.int .i64 γ,.int .i64 ζ] 36 (0,0)))∧Aside0 (Below w.heap.size w wc))
   case first=>
    have H:=b3.out
    clear b3
    by_cases al: ξ = 0
    ·rw[if_pos al] at H
     have c11b0:(ξ == 0)=true:=beq_iff_eq.mpr al
     have c11b1:(ξ != 0)=false:=bne_eq_false_iff_eq.mpr al
     clear al
     (first|rw[c11b0]|(simp only[Za,Zb];rw[c11b0])|skip)
     have H':=Aside0.mk H
     clear H
     have fe:= ε.out
     have ff:= η.out
     obtain⟨ai,a6,a2,τ,φ,a9,az,dd,df,dz,aj,ab,a3,b1,b2,b4,b8,de,e0,ei⟩:=Q5 L.out
     go_wp2
     go_meet
     case rel=>exact⟨_,(true),rfl,H',⟨by have:=dv.out;omega⟩,L,J,HB⟩
    ·rw[if_neg al] at H
     have c11b0:(ξ == 0)=false:=beq_eq_false_iff_ne.mpr al
     have c11b1:(ξ != 0)=true:=bne_iff_ne.mpr al
     (first|rw[c11b0]|(simp only[Za,Zb];rw[c11b0])|skip)
     by_cases ag: ξ = γ
     ·rw[if_pos ag] at H
      have c14b0:(ξ == γ)=true:=beq_iff_eq.mpr ag
      have c14b1:(ξ != γ)=false:=bne_eq_false_iff_eq.mpr ag
      clear ag
      have H':=Aside0.mk H
      clear H
      have fm:= ε.out
      have fn:= η.out
      obtain⟨bw,bz,cq,bn,e7,e8,e9,fu,g6,g7,ca,cb,cr,ev,ew,fg,fh,fv,g8,ga⟩:=Q5 L.out
      obtain⟨af,cd,bs,ce,cf,bu⟩:=qD3 J.out
      go_wp2
      go_meet
      case rel=>exact⟨_,(decide ((wrap64 ((wrap64 (Z - (wrap64 (O+X)))) * ξ))≥0)),rfl,H',⟨by have:=dv.out;omega⟩,L,J,HB⟩
     ·rw[if_neg ag] at H
      have c14b0:(ξ == γ)=false:=beq_eq_false_iff_ne.mpr ag
      have c14b1:(ξ != γ)=true:=bne_iff_ne.mpr ag
      have H':=Aside0.mk H
      clear H
      have fz:= ε.out
      have gq:= η.out
      obtain⟨am,an,b5,cg,ch,ci,cj,dm,dn,dp,ay,b0,b7,ck,cm,cn,co,dq,dr,dt⟩:=Q5 L.out
      obtain⟨a7,ar,a1,au,av,a8⟩:=qD3 J.out
      go_wp2
      go_meet
      case rel=>exact⟨_,(false),rfl,H',⟨by have:=dv.out;omega⟩,L,J,HB⟩
   case rest=>
    clear b3
    try clear c1
    try clear p2
    try clear c5
    try clear p6
    try clear c7
    try clear c9
    try clear c9b0
    try clear al
    try clear c11b0
    try clear c11b1
    try clear ae
    try clear ag
    try clear c14b0
    try clear c14b1
    try clear ac
    try clear bc
    try clear ai
    try clear a6
    try clear a2
    try clear τ
    try clear φ
    try clear a9
    try clear az
    try clear dd
    try clear df
    try clear dz
    try clear bw
    try clear bz
    try clear cq
    try clear bn
    try clear e7
    try clear e8
    try clear e9
    try clear fu
    try clear g6
    try clear g7
    try clear af
    try clear cd
    try clear bs
    try clear am
    try clear an
    try clear b5
    try clear cg
    try clear ch
    try clear ci
    try clear cj
    try clear dm
    try clear dn
    try clear dp
    try clear a7
    try clear ar
    try clear a1
    try clear br
    try clear bv
    try clear cp
    try clear aa
    try clear d5
    try clear d6
    try clear d7
    try clear d9
    try clear da
    try clear db
    try clear aj
    try clear ab
    try clear a3
    try clear b1
    try clear b2
    try clear b4
    try clear b8
    try clear de
    try clear e0
    try clear ei
    try clear ca
    try clear cb
    try clear cr
    try clear ev
    try clear ew
    try clear fg
    try clear fh
    try clear fv
    try clear g8
    try clear ga
    try clear ce
    try clear cf
    try clear bu
    try clear ay
    try clear b0
    try clear b7
    try clear ck
    try clear cm
    try clear cn
    try clear co
    try clear dq
    try clear dr
    try clear dt
    try clear au
    try clear av
    try clear a8
    try clear cu
    try clear cv
    try clear cw
    try clear dc
    try clear dj
    try clear dk
    try clear dl
    try clear du
    try clear dw
    try clear dx
    try clear p2
    try clear p6
    obtain⟨kq,ax,rfl,HA,d0,L,J,HB⟩:=hcut
    cases kq with
    |zero=>exact absurd HA.out (by simp[group_way.j1])
    |succ d1=>
     have H:=HA.out
     clear HA
     simp only[group_way.j1] at H
     by_cases σ:ax=true
     ·subst σ
      have H1:((group_dist.f (wrap64 (O+X)) Z).bind fun aw=>(some aw))=some r:=by rw[if_pos rfl] at H;exact H
      clear H
      have H:=H1
      clear H1
      replace H:=Option.bind_eq_some_iff.mp H
      obtain⟨aw,dy,H⟩:=H
      replace H:(some aw)=some r:=H
      have nd:=Aside0.mk dy
      clear dy
      obtain rfl:=Option.some.inj H
      have di:= η.out
      have e5:= ε.out
      obtain⟨b9,ba,bo,bb,bf,d8⟩:=qD3 J.out
      go_wp2_with (first|((with_reducible refine Qd (f:=76) rfl ?_);refine Qn (some 48) rfl rfl Try.func76 kr rfl #[.int .i64 (wrap64 (O+X)),.int .i64 Z] rfl qM ?_;(with_reducible refine(group_dist.calls (wrap64 (O+X)) Z aw _ nd.out).mono ?_);rintro e fq ⟨rfl,hb⟩;refine⟨_,rfl, ?_⟩;replace L:=sBk L hb;replace J:=sBk J hb;replace HB:=sHb hb;(try clear hb);(try clear a4);(try clear hk);(try clear hi)))
      go_ret
      exact⟨rfl,HB.out⟩
     ·replace σ:=Bool.eq_false_iff.mpr σ
      subst σ
      have H1:(if ξ = γ then ((group_dist.f (wrap64 (O+X)) Y).bind fun ak=>((group_dist.f Y θ).bind fun ah=>((group_dist.f θ Z).bind fun χ =>(some (wrap64 ((wrap64 (ak+ah)) + χ)))))) else ((group_dist.f (wrap64 (O+X)) Y).bind fun ap=>((group_dist.f Y Z).bind fun ao=>(some (wrap64 (ap+ao))))))=some r:=by rw[if_neg (show ¬ (false=true) by decide)] at H;exact H
      clear H
      have H:=H1
      clear H1
      by_cases bp: ξ = γ
      ·rw[if_pos bp] at H
       have c26b0:(ξ == γ)=true:=beq_iff_eq.mpr bp
       have c26b1:(ξ != γ)=false:=bne_eq_false_iff_eq.mpr bp
       clear bp
       replace H:=Option.bind_eq_some_iff.mp H
       obtain⟨ak,e6,H⟩:=H
       replace H:((group_dist.f Y θ).bind fun ah=>((group_dist.f θ Z).bind fun χ =>(some (wrap64 ((wrap64 (ak+ah)) + χ)))))=some r:=H
       have gb:=Aside0.mk e6
       clear e6
       replace H:=Option.bind_eq_some_iff.mp H
       obtain⟨ah,eh,H⟩:=H
       replace H:((group_dist.f θ Z).bind fun χ =>(some (wrap64 ((wrap64 (ak+ah)) + χ))))=some r:=H
       have i5:=Aside0.mk eh
       clear eh
       replace H:=Option.bind_eq_some_iff.mp H
       obtain⟨χ,b6,H⟩:=H
       replace H:(some (wrap64 ((wrap64 (ak+ah)) + χ)))=some r:=H
       have bg:=Aside0.mk b6
       clear b6
       obtain rfl:=Option.some.inj H
       have cy:= ε.out
       have cz:= η.out
       obtain⟨ea,eb,ec,gf,gg,gh,kf,f8,g0,g1,ed,ee,ef,gi,gj,gk,kg,g2,g3,g4⟩:=Q5 L.out
       obtain⟨io,ip,iq,ir,it,iu⟩:=qD3 J.out
       try go_wp2
       replace L:=Aside0.mk (Qf L.out)
       replace J:=Aside0.mk (Qf J.out)
       replace HB:=Aside0.mk (Qi HB.out)
       refine Zl (n:=13) (S:=fun w'=>w'.cell? ⟨ρ,0,none⟩=some (.int .i64 Z)∧w'.cell? ⟨ρ,1,none⟩=some (.int .i64 γ)∧w'.cell? ⟨ρ,2,none⟩=some (.int .i64 ζ)) (ds:=[]) #[false,false,false,false,false,false,false,false,false,false,false,false,false] kr rfl rfl ⟨(Qa J.out 0).trans rfl,(Qa J.out 1).trans rfl,(Qa J.out 2).trans rfl⟩ (fun hHeld=>?_);refine Q8 group_way.Nc group_way.Wu (fun HT_ HW_=>?_)
       generalize wc.drew=ja at L J HB hHeld ⊢
       refine qP 0 (some 63) (bN 13 1) HT_ ?_
       refine qP 1 (some 64) (bN 13 3) HT_ ?_
       refine qP 3 (some 66) (bN 13 11) HT_ ?_
       refine qP 4 (some 67) (bN 13 27) HT_ ?_
       refine qP 7 (some 70) (bN 13 155) HT_ ?_
       refine qP 8 (some 71) (bN 13 411) HT_ ?_
       refine qT 9 (some 72) (bN 13 923) HT_ HW_ hHeld ?_
       refine Zg (i:=2) (N:=some 65) (bN 13 927) rfl rfl (Q4 HT_.out kr) (by decide) (fun K hK=>?_)
       refine Zf Try.func76 kr rfl #[.int .i64 (wrap64 (O+X)),.int .i64 Y] (by rfl) rfl rfl qM ?_
       with_reducible refine(group_dist.calls (wrap64 (O+X)) Y ak _ gb.out).mono ?_
       rintro e h7 ⟨rfl,hb⟩
       refine⟨_,rfl, ?_⟩
       replace L:=sBk L hb
       replace J:=sBk J hb
       replace HB:=sHb hb
       (try clear hb)
       (try clear a4)
       (try clear hk)
       (try clear hi)
       refine hK.out _ _ ⟨qc J,qc J,qc J⟩ (fun hHeld=>?_)
       clear hK K
       refine qN (some 65) ?_
       refine Zg (i:=5) (N:=some 68) (bN 13 959) rfl rfl (Q4 HT_.out kr) (by decide) (fun K hK=>?_)
       refine Zf Try.func76 kr rfl #[.int .i64 Y,.int .i64 θ] (by rfl) rfl rfl qM ?_
       with_reducible refine(group_dist.calls Y θ ah _ i5.out).mono ?_
       rintro e ka ⟨rfl,hb⟩
       refine⟨_,rfl, ?_⟩
       replace L:=sBk L hb
       replace J:=sBk J hb
       replace HB:=sHb hb
       (try clear hb)
       (try clear a4)
       (try clear hk)
       (try clear hi)
       refine hK.out _ _ ⟨qc J,qc J,qc J⟩ (fun hHeld=>?_)
       clear hK K
       refine qN (some 68) ?_
       refine qP 6 (some 69) (bN 13 1023) HT_ ?_
       refine Zg (i:=10) (N:=some 73) (bN 13 2047) rfl rfl (Q4 HT_.out kr) (by decide) (fun K hK=>?_)
       refine Zf Try.func76 kr rfl #[.int .i64 θ,.int .i64 Z] (by rfl) rfl rfl qM ?_
       with_reducible refine(group_dist.calls θ Z χ _ bg.out).mono ?_
       rintro e n3 ⟨rfl,hb⟩
       refine⟨_,rfl, ?_⟩
       replace L:=sBk L hb
       replace J:=sBk J hb
       replace HB:=sHb hb
       (try clear hb)
       (try clear a4)
       (try clear hk)
       (try clear hi)
       refine hK.out _ _ ⟨qc J,qc J,qc J⟩ (fun hHeld=>?_)
       clear hK K
       refine qN (some 73) ?_
       refine qP 11 (some 74) (bN 13 4095) HT_ ?_
       refine qP 12 (some 6) (bN 13 8191) HT_ ?_
       refine Z2 (Zh HT_.out kr) ?_
       try go_wp2
       go_ret
       exact⟨rfl,HB.out⟩
      ·rw[if_neg bp] at H
       have c26b0:(ξ == γ)=false:=beq_eq_false_iff_ne.mpr bp
       have c26b1:(ξ != γ)=true:=bne_iff_ne.mpr bp
       replace H:=Option.bind_eq_some_iff.mp H
       obtain⟨ap,fb,H⟩:=H
       replace H:((group_dist.f Y Z).bind fun ao=>(some (wrap64 (ap+ao))))=some r:=H
       have jl:=Aside0.mk fb
       clear fb
       replace H:=Option.bind_eq_some_iff.mp H
       obtain⟨ao,bh,H⟩:=H
       replace H:(some (wrap64 (ap+ao)))=some r:=H
       have bi:=Aside0.mk bh
       clear bh
       obtain rfl:=Option.some.inj H
       have bj:= ε.out
       have bk:= η.out
       obtain⟨fa,fc,ft,gl,gm,gn,gp,gr,gs,gt,fw,fx,fy,gu,gv,gw,gx,gy,h4,h5⟩:=Q5 L.out
       obtain⟨fi,fj,im,fk,fl,iv⟩:=qD3 J.out
       try go_wp2
       replace L:=Aside0.mk (Qf L.out)
       replace J:=Aside0.mk (Qf J.out)
       replace HB:=Aside0.mk (Qi HB.out)
       refine Zl (n:=9) (S:=fun w'=>w'.cell? ⟨ρ,0,none⟩=some (.int .i64 Z)∧w'.cell? ⟨ρ,1,none⟩=some (.int .i64 γ)∧w'.cell? ⟨ρ,2,none⟩=some (.int .i64 ζ)) (ds:=[]) #[false,false,false,false,false,false,false,false,false] kr rfl rfl ⟨(Qa J.out 0).trans rfl,(Qa J.out 1).trans rfl,(Qa J.out 2).trans rfl⟩ (fun hHeld=>?_);refine Q8 group_way.tab7 group_way.bits7 (fun HT_ HW_=>?_)
       generalize wc.drew=jd at L J HB hHeld ⊢
       refine qP 0 (some 55) (bN 9 1) HT_ ?_
       refine qP 1 (some 56) (bN 9 3) HT_ ?_
       refine qP 3 (some 58) (bN 9 11) HT_ ?_
       refine qP 4 (some 59) (bN 9 27) HT_ ?_
       refine qT 5 (some 60) (bN 9 59) HT_ HW_ hHeld ?_
       refine Zg (i:=2) (N:=some 57) (bN 9 63) rfl rfl (Q4 HT_.out kr) (by decide) (fun K hK=>?_)
       refine Zf Try.func76 kr rfl #[.int .i64 (wrap64 (O+X)),.int .i64 Y] (by rfl) rfl rfl qM ?_
       with_reducible refine(group_dist.calls (wrap64 (O+X)) Y ap _ jl.out).mono ?_
       rintro e l3 ⟨rfl,hb⟩
       refine⟨_,rfl, ?_⟩
       replace L:=sBk L hb
       replace J:=sBk J hb
       replace HB:=sHb hb
       (try clear hb)
       (try clear a4)
       (try clear hk)
       (try clear hi)
       refine hK.out _ _ ⟨qc J,qc J,qc J⟩ (fun hHeld=>?_)
       clear hK K
       refine qN (some 57) ?_
       refine Zg (i:=6) (N:=some 61) (bN 9 127) rfl rfl (Q4 HT_.out kr) (by decide) (fun K hK=>?_)
       refine Zf Try.func76 kr rfl #[.int .i64 Y,.int .i64 Z] (by rfl) rfl rfl qM ?_
       with_reducible refine(group_dist.calls Y Z ao _ bi.out).mono ?_
       rintro e ho ⟨rfl,hb⟩
       refine⟨_,rfl, ?_⟩
       replace L:=sBk L hb
       replace J:=sBk J hb
       replace HB:=sHb hb
       (try clear hb)
       (try clear a4)
       (try clear hk)
       (try clear hi)
       refine hK.out _ _ ⟨qc J,qc J,qc J⟩ (fun hHeld=>?_)
       clear hK K
       refine qN (some 61) ?_
       refine qP 7 (some 62) (bN 9 255) HT_ ?_
       refine qP 8 (some 6) (bN 9 511) HT_ ?_
       refine Z2 (Zh HT_.out kr) ?_
       try go_wp2
       go_ret
       exact⟨rfl,HB.out⟩
def newelref21_far.f (B:Int) (O:Int):Option (Int):=if B<O then (some (wrap64 (O-B))) else (some (wrap64 (B-O)))
set_option maxHeartbeats 8000000 in
set_option maxRecDepth 100000 in
theorem newelref21_far.calls (B:Int) (O:Int) (r:Int) (w:World) (h:newelref21_far.f B O=some r):
  Calls Try.prog 57 #[.int .i64 B,.int .i64 O] w fun e w'=>e = .returned (.int .i64 r)∧Drawn0 w w':=by
 have H:(if B<O then (some (wrap64 (O-B))) else (some (wrap64 (B-O))))=some r:=h
 clear h
 by_cases c3:B<O
 ·rw[if_pos c3] at H
  have c3b0:decide (B<O)=true:=decide_eq_true c3
  clear c3
  obtain rfl:=Option.some.inj H
  go_enter Try.func57,Try.ntmps57
  go_wp2
  go_ret
  exact⟨qR,by repeat(first|exact Drawn0.refl _|apply Drawn0.step)⟩
 ·rw[if_neg c3] at H
  have c3b0:decide (B<O)=false:=decide_eq_false c3
  clear c3
  obtain rfl:=Option.some.inj H
  go_enter Try.func57,Try.ntmps57
  go_wp2
  go_ret
  exact⟨qR,by repeat(first|exact Drawn0.refl _|apply Drawn0.step)⟩
mutual
def newelref21_Way.j0:Nat→Int→Int→Int→Int→Int→Int→Int→Int→Int→Int→Bool→Bool→Int→Int→Int→Option (Int)
 |0,_,_,_,_,_,_,_,_,_,_,_,_,_,_,_=>none
 |k+1,B,Y,δ,ε,ζ,η,θ,ι,κ,Z,μ,ν,J,γ,ξ =>if Z=0 then ((newelref21_far.f Y J).bind fun ab=>(some ab)) else (if Z=1 then (newelref21_Way.j1 k Y (wrap64 (B-1)) 0 (decide (J<Y)) δ ε ζ η θ ι κ Z μ ν J γ ξ) else (newelref21_Way.j1 k Y 0 (wrap64 (B-1)) (decide (J>Y)) δ ε ζ η θ ι κ Z μ ν J γ ξ))
def newelref21_Way.j1:Nat→Int→Int→Int→Bool→Int→Int→Int→Int→Int→Int→Int→Int→Bool→Bool→Int→Int→Int→Option (Int)
 |0,_,_,_,_,_,_,_,_,_,_,_,_,_,_,_,_,_=>none
 |k+1,Y,O,X,L,δ,ε,ζ,η,θ,ι,κ,Z,μ,ν,J,γ,ξ =>if Z=γ then (if L=true then ((newelref21_far.f Y O).bind fun a2=>((newelref21_far.f O X).bind fun φ =>((newelref21_far.f X J).bind fun τ =>(some (wrap64 ((wrap64 (a2 + φ)) + τ)))))) else ((newelref21_far.f Y J).bind fun a3=>(some a3))) else ((newelref21_far.f Y O).bind fun a6=>((newelref21_far.f O J).bind fun a4=>(some (wrap64 (a6+a4)))))
end
def newelref21_Way.f (k:Nat) (B:Int) (O:Int) (X:Int) (δ :Int) (κ :Int) (ι :Int) (μ :Int) (ν :Int) (ξ :Int) (ψ :Bool) (ω :Bool) (Z:Int) (γ:Int) (ζ :Int):Option (Int):=if δ = 1 then (newelref21_Way.j0 k B (wrap64 (O+X)) O X δ κ ι μ ν ξ ψ ω Z γ ζ) else (newelref21_Way.j0 k B O O X δ κ ι μ ν ξ ψ ω Z γ ζ)
set_option maxHeartbeats 8000000 in
set_option maxRecDepth 100000 in
theorem newelref21_Way.calls (k:Nat) (B:Int) (O:Int) (X:Int) (δ :Int) (κ :Int) (ι :Int) (μ :Int) (ν :Int) (ξ :Int) (ψ :Bool) (ω :Bool) (Z:Int) (γ:Int) (ζ :Int) (r:Int) (w:World) (h:newelref21_Way.f k B O X δ κ ι μ ν ξ ψ ω Z γ ζ = some r):
  Calls Try.prog 35 #[.int .i64 B,.agg #[.int .i64 O,.int .i64 X,.int .i64 δ,.int .i64 κ,.int .i64 ι,.int .i64 μ,.int .i64 ν,.int .i64 ξ,.bool ψ,.bool ω],.agg #[.int .i64 Z,.int .i64 γ,.int .i64 ζ]] w fun e w'=>e = .returned (.int .i64 r)∧Below w.heap.size w w':=by
 have i4:=Try.underlying31
 have dh:=Try.underlying36
 have HB:=Aside0.mk (Below.refl w.heap.size w)
 have H:(if δ = 1 then (newelref21_Way.j0 k B (wrap64 (O+X)) O X δ κ ι μ ν ξ ψ ω Z γ ζ) else (newelref21_Way.j0 k B O O X δ κ ι μ ν ξ ψ ω Z γ ζ))=some r:=h
 clear h
 have ct:=Aside0.mk H
 clear H
 go_enter Try.func35,Try.ntmps35
 go_upto_if 17 with(first|((with_reducible refine Qe (N:=4) rfl ?_);refine qE 4 #[.int .i64 O,.int .i64 X,.int .i64 δ,.int .i64 κ,.int .i64 ι,.int .i64 μ,.int .i64 ν,.int .i64 ξ,.bool ψ,.bool ω] 31 ?_;intro af hg w5 hbox hb;have J:=Aside0.mk hbox;have e7:=sGe hg;have e8:=sGe hg;replace HB:=sHb hb;clear hb hbox hg)|((with_reducible refine Qe (N:=5) rfl ?_);refine qE 5 #[.int .i64 Z,.int .i64 γ,.int .i64 ζ] 36 ?_;intro ai hg w6 hbox hb;have θ :=Aside0.mk hbox;have e9:=sGe hg;have ev:=sGe hg;have L:=sNl J hg;have Y:=sNg J hg;replace J:=sBk J hb;replace HB:=sHb hb;clear hb hbox hg;have ez:=L.out;have fr:=Y.out;obtain⟨br,bv,cp,aa,d5,d6,d7,d9,da,db,cu,cv,cw,dc,dj,dk,dl,du,dw,dx⟩:=Q5 J.out))
 repeat(go_quiet (first|((with_reducible refine Qe (N:=4) rfl ?_);refine qE 4 #[.int .i64 O,.int .i64 X,.int .i64 δ,.int .i64 κ,.int .i64 ι,.int .i64 μ,.int .i64 ν,.int .i64 ξ,.bool ψ,.bool ω] 31 ?_;intro af hg w5 hbox hb;have J:=Aside0.mk hbox;have e7:=sGe hg;have e8:=sGe hg;replace HB:=sHb hb;clear hb hbox hg)|((with_reducible refine Qe (N:=5) rfl ?_);refine qE 5 #[.int .i64 Z,.int .i64 γ,.int .i64 ζ] 36 ?_;intro ai hg w6 hbox hb;have θ :=Aside0.mk hbox;have e9:=sGe hg;have ev:=sGe hg;have L:=sNl J hg;have Y:=sNg J hg;replace J:=sBk J hb;replace HB:=sHb hb;clear hb hbox hg;have ez:=L.out;have fr:=Y.out;obtain⟨br,bv,cp,aa,d5,d6,d7,d9,da,db,cu,cv,cw,dc,dj,dk,dl,du,dw,dx⟩:=Q5 J.out));go_upto_if 17 with(first|((with_reducible refine Qe (N:=4) rfl ?_);refine qE 4 #[.int .i64 O,.int .i64 X,.int .i64 δ,.int .i64 κ,.int .i64 ι,.int .i64 μ,.int .i64 ν,.int .i64 ξ,.bool ψ,.bool ω] 31 ?_;intro af hg w5 hbox hb;have J:=Aside0.mk hbox;have e7:=sGe hg;have e8:=sGe hg;replace HB:=sHb hb;clear hb hbox hg)|((with_reducible refine Qe (N:=5) rfl ?_);refine qE 5 #[.int .i64 Z,.int .i64 γ,.int .i64 ζ] 36 ?_;intro ai hg w6 hbox hb;have θ :=Aside0.mk hbox;have e9:=sGe hg;have ev:=sGe hg;have L:=sNl J hg;have Y:=sNg J hg;replace J:=sBk J hb;replace HB:=sHb hb;clear hb hbox hg;have ez:=L.out;have fr:=Y.out;obtain⟨br,bv,cp,aa,d5,d6,d7,d9,da,db,cu,cv,cw,dc,dj,dk,dl,du,dw,dx⟩:=Q5 J.out)))
 (try simp only[Act.put,qS])
 go_cut [7] (fun v7 wc=>∃ (kq:Nat) (η :Int),v7 = .int .i64 η ∧ Aside0 (newelref21_Way.j0 kq B η O X δ κ ι μ ν ξ ψ ω Z γ ζ = some r)∧Aside0 (kq≤k)∧Aside0 (wc.heap[af]?=some (.cells #[.int .i64 O,.int .i64 X,.int .i64 δ,.int .i64 κ,.int .i64 ι,.int .i64 μ,.int .i64 ν,.int .i64 ξ,.bool ψ,.bool ω] 31 (0,0)))∧Aside0 (wc.heap[ai]?=some (.cells #[.int .i64 Z,.int .i64 γ,.int .i64 ζ] 36 (0,0)))∧Aside0 (Below w.heap.size w wc))
 case first=>
  have H:=ct.out
  clear ct
  by_cases c9: δ = 1
  ·rw[if_pos c9] at H
   have c9b0:(δ == 1)=true:=beq_iff_eq.mpr c9
   have c9b1:(δ != 1)=false:=bne_eq_false_iff_eq.mpr c9
   clear c9
   (first|rw[c9b0]|(simp only[Za,Zb];rw[c9b0])|skip)
   have H':=Aside0.mk H
   clear H
   have h4:=L.out
   have h5:=Y.out
   obtain⟨ah,ak,aw,b6,bd,be,χ,b9,bb,bf,ao,ap,ax,bk,bl,bm,al,ba,d8,dy⟩:=Q5 J.out
   go_wp2
   repeat(go_quiet (fail);try go_wp2)
   go_meet
   case rel=>exact⟨_,(wrap64 (O+X)),rfl,H',⟨by first|omega|exact Nat.le_refl _⟩,J,θ,HB⟩
  ·rw[if_neg c9] at H
   have c9b0:(δ == 1)=false:=beq_eq_false_iff_ne.mpr c9
   have c9b1:(δ != 1)=true:=bne_iff_ne.mpr c9
   (first|rw[c9b0]|(simp only[Za,Zb];rw[c9b0])|skip)
   have H':=Aside0.mk H
   clear H
   go_wp2
   repeat(go_quiet (fail);try go_wp2)
   go_meet
   case rel=>exact⟨_,(O),rfl,H',⟨by first|omega|exact Nat.le_refl _⟩,J,θ,HB⟩
 case rest=>
  clear ct
  try clear c1
  try clear p2
  try clear c3
  try clear p6
  try clear c7
  try clear c9
  try clear c9b0
  try clear c9b1
  try clear c10
  try clear ah
  try clear ak
  try clear aw
  try clear b6
  try clear bd
  try clear be
  try clear χ
  try clear b9
  try clear bb
  try clear bf
  try clear br
  try clear bv
  try clear cp
  try clear aa
  try clear d5
  try clear d6
  try clear d7
  try clear d9
  try clear da
  try clear db
  try clear ao
  try clear ap
  try clear ax
  try clear bk
  try clear bl
  try clear bm
  try clear al
  try clear ba
  try clear d8
  try clear dy
  try clear cu
  try clear cv
  try clear cw
  try clear dc
  try clear dj
  try clear dk
  try clear dl
  try clear du
  try clear dw
  try clear dx
  obtain⟨kq,η,rfl,HA,dv,J,θ,HB⟩:=hcut
  cases kq with
  |zero=>exact absurd HA.out (by simp[newelref21_Way.j0])
  |succ a5=>
   have H:=HA.out
   clear HA
   simp only[newelref21_Way.j0] at H
   by_cases ae: ξ = 0
   ·rw[if_pos ae] at H
    have c12b0:(ξ == 0)=true:=beq_iff_eq.mpr ae
    have c12b1:(ξ != 0)=false:=bne_eq_false_iff_eq.mpr ae
    clear ae
    replace H:=Option.bind_eq_some_iff.mp H
    obtain⟨ab,ew,H⟩:=H
    replace H:(some ab)=some r:=H
    have fe:=Aside0.mk ew
    clear ew
    obtain rfl:=Option.some.inj H
    have h7:=L.out
    have h8:=Y.out
    obtain⟨b1,b2,cd,bg,bh,bi,ac,bs,bu,eg,b3,b4,ce,bj,bq,d0,ei,ey,f7,f8⟩:=Q5 J.out
    obtain⟨bw,bz,cq,ca,cb,cr⟩:=qD3 θ.out
    go_wp2_with (first|(go_at_call 57;(with_reducible refine(newelref21_far.calls η Z ab _ fe.out).mono ?_);rintro e w' ⟨rfl,⟨nd,rfl⟩⟩;(try first|exact⟨rfl,_,World.drewN_drewN _ _ _⟩|exact⟨rfl,_,Eq.trans (World.drewN_drewN _ _ _) (congrArg (World.drewN _) (Nat.add_assoc _ _ _))⟩)))
    repeat(go_quiet (first|(go_at_call 57;(with_reducible refine(newelref21_far.calls η Z ab _ fe.out).mono ?_);rintro e w' ⟨rfl,⟨nd,rfl⟩⟩;(try first|exact⟨rfl,_,World.drewN_drewN _ _ _⟩|exact⟨rfl,_,Eq.trans (World.drewN_drewN _ _ _) (congrArg (World.drewN _) (Nat.add_assoc _ _ _))⟩)));try go_wp2_with (first|(go_at_call 57;(with_reducible refine(newelref21_far.calls η Z ab _ fe.out).mono ?_);rintro e w' ⟨rfl,⟨nd,rfl⟩⟩;(try first|exact⟨rfl,_,World.drewN_drewN _ _ _⟩|exact⟨rfl,_,Eq.trans (World.drewN_drewN _ _ _) (congrArg (World.drewN _) (Nat.add_assoc _ _ _))⟩))))
    go_ret
    exact⟨by first|rfl|(simp[Qh,Qg] <;> rfl)|(simp[*,Qh,Qg] <;> rfl),bel⟩
   ·rw[if_neg ae] at H
    have c12b0:(ξ == 0)=false:=beq_eq_false_iff_ne.mpr ae
    have c12b1:(ξ != 0)=true:=bne_iff_ne.mpr ae
    have aj:=Aside0.mk H
    clear H
    have fz:=L.out
    have gq:=Y.out
    obtain⟨am,an,b5,cg,ch,ci,cj,dm,dn,dp,ay,b0,b7,ck,cm,cn,co,dq,dr,dt⟩:=Q5 J.out
    obtain⟨a7,ar,a1,au,av,a8⟩:=qD3 θ.out
    go_upto_if 38 with(fail)
    repeat(go_quiet (fail);go_upto_if 38 with(fail))
    go_cut [8,9,10] (fun v8 v9 b8 wc=>∃ (kq:Nat) (ε :Int) (ρ:Int) (a9:Bool),v8 = .int .i64 ε ∧ v9 = .int .i64 ρ∧b8 = .bool a9∧Aside0 (newelref21_Way.j1 kq η ε ρ a9 O X δ κ ι μ ν ξ ψ ω Z γ ζ = some r)∧Aside0 (kq≤a5)∧Aside0 (wc.heap[af]?=some (.cells #[.int .i64 O,.int .i64 X,.int .i64 δ,.int .i64 κ,.int .i64 ι,.int .i64 μ,.int .i64 ν,.int .i64 ξ,.bool ψ,.bool ω] 31 (0,0)))∧Aside0 (wc.heap[ai]?=some (.cells #[.int .i64 Z,.int .i64 γ,.int .i64 ζ] 36 (0,0)))∧Aside0 (Below w.heap.size w wc))
    case first=>
     have H:=aj.out
     clear aj
     by_cases σ: ξ = 1
     ·rw[if_pos σ] at H
      have c21b0:(ξ == 1)=true:=beq_iff_eq.mpr σ
      have c21b1:(ξ != 1)=false:=bne_eq_false_iff_eq.mpr σ
      clear σ
      (first|rw[c21b0]|(simp only[Za,Zb];rw[c21b0])|skip)
      have H':=Aside0.mk H
      clear H
      have g9:=Y.out
      have gt:=L.out
      obtain⟨cy,cz,di,e3,e4,e5⟩:=qD3 θ.out
      go_wp2
      repeat(go_quiet (fail);try go_wp2)
      go_meet
      case rel=>exact⟨_,(wrap64 (B-1)),(0),(decide (Z < η)),rfl,rfl,rfl,H',⟨by have:=dv.out;omega⟩,J,θ,HB⟩
     ·rw[if_neg σ] at H
      have c21b0:(ξ == 1)=false:=beq_eq_false_iff_ne.mpr σ
      have c21b1:(ξ != 1)=true:=bne_iff_ne.mpr σ
      (first|rw[c21b0]|(simp only[Za,Zb];rw[c21b0])|skip)
      have H':=Aside0.mk H
      clear H
      go_wp2
      repeat(go_quiet (fail);try go_wp2)
      go_meet
      case rel=>exact⟨_,(0),(wrap64 (B-1)),(decide (Z > η)),rfl,rfl,rfl,H',⟨by have:=dv.out;omega⟩,J,θ,HB⟩
    case rest=>
     clear aj
     try clear c1
     try clear c2
     try clear p2
     try clear c3
     try clear p6
     try clear c7
     try clear c9
     try clear c9b0
     try clear c9b1
     try clear c10
     try clear ae
     try clear c12b0
     try clear c12b1
     try clear ag
     try clear bc
     try clear σ
     try clear c21b0
     try clear c21b1
     try clear cx
     try clear ah
     try clear ak
     try clear aw
     try clear b6
     try clear bd
     try clear be
     try clear χ
     try clear b9
     try clear bb
     try clear bf
     try clear b1
     try clear b2
     try clear cd
     try clear bg
     try clear bh
     try clear bi
     try clear ac
     try clear bs
     try clear bu
     try clear eg
     try clear bw
     try clear bz
     try clear cq
     try clear am
     try clear an
     try clear b5
     try clear cg
     try clear ch
     try clear ci
     try clear cj
     try clear dm
     try clear dn
     try clear dp
     try clear a7
     try clear ar
     try clear a1
     try clear cy
     try clear cz
     try clear di
     try clear br
     try clear bv
     try clear cp
     try clear aa
     try clear d5
     try clear d6
     try clear d7
     try clear d9
     try clear da
     try clear db
     try clear ao
     try clear ap
     try clear ax
     try clear bk
     try clear bl
     try clear bm
     try clear al
     try clear ba
     try clear d8
     try clear dy
     try clear b3
     try clear b4
     try clear ce
     try clear bj
     try clear bq
     try clear d0
     try clear ei
     try clear ey
     try clear f7
     try clear f8
     try clear ca
     try clear cb
     try clear cr
     try clear ay
     try clear b0
     try clear b7
     try clear ck
     try clear cm
     try clear cn
     try clear co
     try clear dq
     try clear dr
     try clear dt
     try clear au
     try clear av
     try clear a8
     try clear e3
     try clear e4
     try clear e5
     try clear cu
     try clear cv
     try clear cw
     try clear dc
     try clear dj
     try clear dk
     try clear dl
     try clear du
     try clear dw
     try clear dx
     try clear p2
     try clear p6
     obtain⟨kq,ε,ρ,a9,rfl,rfl,rfl,HA,fh,J,θ,HB⟩:=hcut
     cases kq with
     |zero=>exact absurd HA.out (by simp[newelref21_Way.j1])
     |succ fi=>
      have H:=HA.out
      clear HA
      simp only[newelref21_Way.j1] at H
      by_cases bo: ξ = γ
      ·rw[if_pos bo] at H
       have c24b0:(ξ == γ)=true:=beq_iff_eq.mpr bo
       have c24b1:(ξ != γ)=false:=bne_eq_false_iff_eq.mpr bo
       clear bo
       by_cases bn:a9=true
       ·subst bn
        have H1:((newelref21_far.f η ε).bind fun a2=>((newelref21_far.f ε ρ).bind fun φ =>((newelref21_far.f ρ Z).bind fun τ =>(some (wrap64 ((wrap64 (a2 + φ)) + τ))))))=some r:=by rw[if_pos rfl] at H;exact H
        clear H
        have H:=H1
        clear H1
        replace H:=Option.bind_eq_some_iff.mp H
        obtain⟨a2,h6,H⟩:=H
        replace H:((newelref21_far.f ε ρ).bind fun φ =>((newelref21_far.f ρ Z).bind fun τ =>(some (wrap64 ((wrap64 (a2 + φ)) + τ)))))=some r:=H
        have jr:=Aside0.mk h6
        clear h6
        replace H:=Option.bind_eq_some_iff.mp H
        obtain⟨φ,e6,H⟩:=H
        replace H:((newelref21_far.f ρ Z).bind fun τ =>(some (wrap64 ((wrap64 (a2 + φ)) + τ))))=some r:=H
        have gb:=Aside0.mk e6
        clear e6
        replace H:=Option.bind_eq_some_iff.mp H
        obtain⟨τ,eh,H⟩:=H
        replace H:(some (wrap64 ((wrap64 (a2 + φ)) + τ)))=some r:=H
        have i5:=Aside0.mk eh
        clear eh
        obtain rfl:=Option.some.inj H
        have jt:=L.out
        have ju:=Y.out
        obtain⟨cf,dd,dz,ej,ek,el,em,g0,g1,g2,de,df,e0,en,eo,ep,er,g3,g4,g5⟩:=Q5 J.out
        obtain⟨ea,eb,ec,ed,ee,ef⟩:=qD3 θ.out
        go_wp2_with (first|(go_at_call 57;(with_reducible refine(newelref21_far.calls η ε a2 _ jr.out).mono ?_);rintro e w' ⟨rfl,⟨nd,rfl⟩⟩;(try first|exact⟨rfl,_,World.drewN_drewN _ _ _⟩|exact⟨rfl,_,Eq.trans (World.drewN_drewN _ _ _) (congrArg (World.drewN _) (Nat.add_assoc _ _ _))⟩))|(go_at_call 57;(with_reducible refine(newelref21_far.calls ε ρ φ _ gb.out).mono ?_);rintro e w' ⟨rfl,⟨nd,rfl⟩⟩;(try first|exact⟨rfl,_,World.drewN_drewN _ _ _⟩|exact⟨rfl,_,Eq.trans (World.drewN_drewN _ _ _) (congrArg (World.drewN _) (Nat.add_assoc _ _ _))⟩))|(go_at_call 57;(with_reducible refine(newelref21_far.calls ρ Z τ _ i5.out).mono ?_);rintro e w' ⟨rfl,⟨nd,rfl⟩⟩;(try first|exact⟨rfl,_,World.drewN_drewN _ _ _⟩|exact⟨rfl,_,Eq.trans (World.drewN_drewN _ _ _) (congrArg (World.drewN _) (Nat.add_assoc _ _ _))⟩)))
        repeat(go_quiet (first|(go_at_call 57;(with_reducible refine(newelref21_far.calls η ε a2 _ jr.out).mono ?_);rintro e w' ⟨rfl,⟨nd,rfl⟩⟩;(try first|exact⟨rfl,_,World.drewN_drewN _ _ _⟩|exact⟨rfl,_,Eq.trans (World.drewN_drewN _ _ _) (congrArg (World.drewN _) (Nat.add_assoc _ _ _))⟩))|(go_at_call 57;(with_reducible refine(newelref21_far.calls ε ρ φ _ gb.out).mono ?_);rintro e w' ⟨rfl,⟨nd,rfl⟩⟩;(try first|exact⟨rfl,_,World.drewN_drewN _ _ _⟩|exact⟨rfl,_,Eq.trans (World.drewN_drewN _ _ _) (congrArg (World.drewN _) (Nat.add_assoc _ _ _))⟩))|(go_at_call 57;(with_reducible refine(newelref21_far.calls ρ Z τ _ i5.out).mono ?_);rintro e w' ⟨rfl,⟨nd,rfl⟩⟩;(try first|exact⟨rfl,_,World.drewN_drewN _ _ _⟩|exact⟨rfl,_,Eq.trans (World.drewN_drewN _ _ _) (congrArg (World.drewN _) (Nat.add_assoc _ _ _))⟩)));try go_wp2_with (first|(go_at_call 57;(with_reducible refine(newelref21_far.calls η ε a2 _ jr.out).mono ?_);rintro e w' ⟨rfl,⟨nd,rfl⟩⟩;(try first|exact⟨rfl,_,World.drewN_drewN _ _ _⟩|exact⟨rfl,_,Eq.trans (World.drewN_drewN _ _ _) (congrArg (World.drewN _) (Nat.add_assoc _ _ _))⟩))|(go_at_call 57;(with_reducible refine(newelref21_far.calls ε ρ φ _ gb.out).mono ?_);rintro e w' ⟨rfl,⟨nd,rfl⟩⟩;(try first|exact⟨rfl,_,World.drewN_drewN _ _ _⟩|exact⟨rfl,_,Eq.trans (World.drewN_drewN _ _ _) (congrArg (World.drewN _) (Nat.add_assoc _ _ _))⟩))|(go_at_call 57;(with_reducible refine(newelref21_far.calls ρ Z τ _ i5.out).mono ?_);rintro e w' ⟨rfl,⟨nd,rfl⟩⟩;(try first|exact⟨rfl,_,World.drewN_drewN _ _ _⟩|exact⟨rfl,_,Eq.trans (World.drewN_drewN _ _ _) (congrArg (World.drewN _) (Nat.add_assoc _ _ _))⟩))))
        go_ret
        exact⟨by first|rfl|(simp[Qh,Qg] <;> rfl)|(simp[*,Qh,Qg] <;> rfl),bel⟩
       ·replace bn:=Bool.eq_false_iff.mpr bn
        subst bn
        have H1:((newelref21_far.f η Z).bind fun a3=>(some a3))=some r:=by rw[if_neg (show ¬ (false=true) by decide)] at H;exact H
        clear H
        have H:=H1
        clear H1
        replace H:=Option.bind_eq_some_iff.mp H
        obtain⟨a3,ff,H⟩:=H
        replace H:(some a3)=some r:=H
        have fg:=Aside0.mk ff
        clear ff
        obtain rfl:=Option.some.inj H
        have ij:=L.out
        have ik:=Y.out
        obtain⟨et,fm,fn,ha,he,hh,hj,iv,iw,ix,eu,fo,fp,hl,ho,hu,hx,iy,iz,j3⟩:=Q5 J.out
        obtain⟨d1,d2,i6,d3,d4,i7⟩:=qD3 θ.out
        go_wp2_with (first|(go_at_call 57;(with_reducible refine(newelref21_far.calls η Z a3 _ fg.out).mono ?_);rintro e w' ⟨rfl,⟨nd,rfl⟩⟩;(try first|exact⟨rfl,_,World.drewN_drewN _ _ _⟩|exact⟨rfl,_,Eq.trans (World.drewN_drewN _ _ _) (congrArg (World.drewN _) (Nat.add_assoc _ _ _))⟩)))
        repeat(go_quiet (first|(go_at_call 57;(with_reducible refine(newelref21_far.calls η Z a3 _ fg.out).mono ?_);rintro e w' ⟨rfl,⟨nd,rfl⟩⟩;(try first|exact⟨rfl,_,World.drewN_drewN _ _ _⟩|exact⟨rfl,_,Eq.trans (World.drewN_drewN _ _ _) (congrArg (World.drewN _) (Nat.add_assoc _ _ _))⟩)));try go_wp2_with (first|(go_at_call 57;(with_reducible refine(newelref21_far.calls η Z a3 _ fg.out).mono ?_);rintro e w' ⟨rfl,⟨nd,rfl⟩⟩;(try first|exact⟨rfl,_,World.drewN_drewN _ _ _⟩|exact⟨rfl,_,Eq.trans (World.drewN_drewN _ _ _) (congrArg (World.drewN _) (Nat.add_assoc _ _ _))⟩))))
        go_ret
        exact⟨by first|rfl|(simp[Qh,Qg] <;> rfl)|(simp[*,Qh,Qg] <;> rfl),bel⟩
      ·rw[if_neg bo] at H
       have c24b0:(ξ == γ)=false:=beq_eq_false_iff_ne.mpr bo
       have c24b1:(ξ != γ)=true:=bne_iff_ne.mpr bo
       replace H:=Option.bind_eq_some_iff.mp H
       obtain⟨a6,bp,H⟩:=H
       replace H:((newelref21_far.f ε Z).bind fun a4=>(some (wrap64 (a6+a4))))=some r:=H
       have az:=Aside0.mk bp
       clear bp
       replace H:=Option.bind_eq_some_iff.mp H
       obtain⟨a4,fb,H⟩:=H
       replace H:(some (wrap64 (a6+a4)))=some r:=H
       have jl:=Aside0.mk fb
       clear fb
       obtain rfl:=Option.some.inj H
       have ja:=L.out
       have k3:=Y.out
       obtain⟨gz,h0,h9,jv,jw,jx,jy,jz,k0,k4,io,ip,iq,k5,k6,k7,k8,kk,km,kn⟩:=Q5 J.out
       obtain⟨fa,fc,ft,fw,fx,fy⟩:=qD3 θ.out
       go_wp2_with (first|(go_at_call 57;(with_reducible refine(newelref21_far.calls η ε a6 _ az.out).mono ?_);rintro e w' ⟨rfl,⟨nd,rfl⟩⟩;(try first|exact⟨rfl,_,World.drewN_drewN _ _ _⟩|exact⟨rfl,_,Eq.trans (World.drewN_drewN _ _ _) (congrArg (World.drewN _) (Nat.add_assoc _ _ _))⟩))|(go_at_call 57;(with_reducible refine(newelref21_far.calls ε Z a4 _ jl.out).mono ?_);rintro e w' ⟨rfl,⟨nd,rfl⟩⟩;(try first|exact⟨rfl,_,World.drewN_drewN _ _ _⟩|exact⟨rfl,_,Eq.trans (World.drewN_drewN _ _ _) (congrArg (World.drewN _) (Nat.add_assoc _ _ _))⟩)))
       repeat(go_quiet (first|(go_at_call 57;(with_reducible refine(newelref21_far.calls η ε a6 _ az.out).mono ?_);rintro e w' ⟨rfl,⟨nd,rfl⟩⟩;(try first|exact⟨rfl,_,World.drewN_drewN _ _ _⟩|exact⟨rfl,_,Eq.trans (World.drewN_drewN _ _ _) (congrArg (World.drewN _) (Nat.add_assoc _ _ _))⟩))|(go_at_call 57;(with_reducible refine(newelref21_far.calls ε Z a4 _ jl.out).mono ?_);rintro e w' ⟨rfl,⟨nd,rfl⟩⟩;(try first|exact⟨rfl,_,World.drewN_drewN _ _ _⟩|exact⟨rfl,_,Eq.trans (World.drewN_drewN _ _ _) (congrArg (World.drewN _) (Nat.add_assoc _ _ _))⟩)));try go_wp2_with (first|(go_at_call 57;(with_reducible refine(newelref21_far.calls η ε a6 _ az.out).mono ?_);rintro e w' ⟨rfl,⟨nd,rfl⟩⟩;(try first|exact⟨rfl,_,World.drewN_drewN _ _ _⟩|exact⟨rfl,_,Eq.trans (World.drewN_drewN _ _ _) (congrArg (World.drewN _) (Nat.add_assoc _ _ _))⟩))|(go_at_call 57;(with_reducible refine(newelref21_far.calls ε Z a4 _ jl.out).mono ?_);rintro e w' ⟨rfl,⟨nd,rfl⟩⟩;(try first|exact⟨rfl,_,World.drewN_drewN _ _ _⟩|exact⟨rfl,_,Eq.trans (World.drewN_drewN _ _ _) (congrArg (World.drewN _) (Nat.add_assoc _ _ _))⟩))))
       go_ret
       exact⟨by first|rfl|(simp[Qh,Qg] <;> rfl)|(simp[*,Qh,Qg] <;> rfl),bel⟩
def newelref21_Cost.f (k:Nat) (B:Int) (J:Int) (L:Int) (Y:Int) (Z:Int) (ε :Int) (γ:Int) (θ :Int) (ζ :Int) (η :Int) (O:Int) (X:Int) (δ :Int) (κ :Int) (ι :Int) (μ :Int) (ν :Int) (ξ :Int) (ψ :Bool) (ω :Bool) (σ:List Int) (τ :List Int) (φ :List Int) (a2:Int) (a5:Int) (a6:Int):Option (Int):=(newelref18_Rest.f k B J L Y Z ε γ θ ζ η O X δ κ ι μ ν).bind fun ae=>((newelref21_Way.f k B O X δ κ ι μ ν ξ ψ ω a2 a5 a6).bind fun a8=>(some (wrap64 ((wrap64 (ae+(wrap64 (J * a8))))+(wrap64 ((wrap64 ((wrap64 ((σ.length:Int)+(τ.length:Int)))+(φ.length:Int))) * (wrap64 ((wrap64 ((wrap64 (L+Y)) + ζ))+γ))))))))
def newelref21_Cost.T2:Bool×List (List Nat×List Nat):=(true,[([],[]),([],[]),([1],[1]),([0,2],[0,2]),([],[]),([4],[4]),([5],[5]),([],[]),([7],[7]),([],[]),([],[]),([8,9,10,3],[8,9,10]),([6,11],[6,11]),([3,12],[3,12]),([],[]),([],[]),([15],[15]),([16],[16]),([],[]),([18],[18]),([19],[19]),([17,20],[17,20]),([],[]),([22],[22]),([21,23],[21,23]),([],[]),([25],[25]),([26],[26]),([24,27],[24,27]),([14,28],[14,28]),([13,29],[13,29]),([30,11,0,1,2,3,4,5,6,7,8,9,10,11,12,13,14,15,16,17,18,19,20,21,22,23,24,25,26,27,28,29,30],[30])])
def newelref21_Cost.B2:List Nat:=[0,0,2,7,0,16,48,0,128,0,0,1935,4095,8191,0,0,32768,98304,0,262144,786432,2064384,0,4194304,16744448,0,33554432,100663296,268402688,536854528,1073741823,2147483647]
theorem newelref21_Cost.Es:rtab .any (opsOf Try.f12 2)=newelref21_Cost.T2:=by kernel_rfl
theorem newelref21_Cost.Mx:Zr newelref21_Cost.T2.2 newelref21_Cost.B2=true:=by kernel_rfl
set_option maxHeartbeats 8000000 in
set_option maxRecDepth 100000 in
theorem newelref21_Cost.calls (k:Nat) (B:Int) (J:Int) (L:Int) (Y:Int) (Z:Int) (ε :Int) (γ:Int) (θ :Int) (ζ :Int) (η :Int) (O:Int) (X:Int) (δ :Int) (κ :Int) (ι :Int) (μ :Int) (ν :Int) (ξ :Int) (ψ :Bool) (ω :Bool) (a9:Option Addr) (aa:Nat) (σ:List Int) (ab:Option Addr) (ac:Nat) (τ :List Int) (ai:Option Addr) (aj:Nat) (φ :List Int) (a2:Int) (a5:Int) (a6:Int) (r:Int) (w:World) (cb:Kd.C (Kd.int .i64) w a9 σ.length σ) (cp:σ.length≤aa) (cq:Kd.C (Kd.int .i64) w ab τ.length τ) (cr: τ.length≤ac) (e3:Kd.C (Kd.int .i64) w ai φ.length φ) (e4: φ.length≤aj) (h:newelref21_Cost.f k B J L Y Z ε γ θ ζ η O X δ κ ι μ ν ξ ψ ω σ τ φ a2 a5 a6=some r):
  Calls Try.prog 12 #[.agg #[.int .i64 B,.int .i64 J,.int .i64 L,.int .i64 Y,.int .i64 Z,.int .i64 ε,.int .i64 γ,.int .i64 θ,.int .i64 ζ,.int .i64 η],.agg #[.int .i64 O,.int .i64 X,.int .i64 δ,.int .i64 κ,.int .i64 ι,.int .i64 μ,.int .i64 ν,.int .i64 ξ,.bool ψ,.bool ω],.agg #[.slice a9 σ.length aa,.slice ab τ.length ac,.slice ai φ.length aj],.agg #[.int .i64 a2,.int .i64 a5,.int .i64 a6]] w fun e w'=>e = .returned (.int .i64 r)∧Below w.heap.size w w':=by
 have cx:=Try.underlying25
 have i4:=Try.underlying31
 have f7:=Try.underlying34
 have dh:=Try.underlying36
 have iw:=Try.underlying29
 have b8:=Aside0.mk cb
 have bn:=Aside0.mk cp
 clear cb cp
 have bw:=Aside0.mk cq
 have bz:=Aside0.mk cr
 clear cq cr
 have cy:=Aside0.mk e3
 have cz:=Aside0.mk e4
 clear e3 e4
 have HB:=Aside0.mk (Below.refl w.heap.size w)
 have H:((newelref18_Rest.f k B J L Y Z ε γ θ ζ η O X δ κ ι μ ν).bind fun ae=>((newelref21_Way.f k B O X δ κ ι μ ν ξ ψ ω a2 a5 a6).bind fun a8=>(some (wrap64 ((wrap64 (ae+(wrap64 (J * a8))))+(wrap64 ((wrap64 ((wrap64 ((σ.length:Int)+(τ.length:Int)))+(φ.length:Int))) * (wrap64 ((wrap64 ((wrap64 (L+Y)) + ζ))+γ)))))))))=some r:=h
 clear h
 replace H:=Option.bind_eq_some_iff.mp H
 obtain⟨ae,b3,H⟩:=H
 replace H:((newelref21_Way.f k B O X δ κ ι μ ν ξ ψ ω a2 a5 a6).bind fun a8=>(some (wrap64 ((wrap64 (ae+(wrap64 (J * a8))))+(wrap64 ((wrap64 ((wrap64 ((σ.length:Int)+(τ.length:Int)))+(φ.length:Int))) * (wrap64 ((wrap64 ((wrap64 (L+Y)) + ζ))+γ))))))))=some r:=H
 have A5:=Aside0.mk b3
 clear b3
 replace H:=Option.bind_eq_some_iff.mp H
 obtain⟨a8,az,H⟩:=H
 replace H:(some (wrap64 ((wrap64 (ae+(wrap64 (J * a8))))+(wrap64 ((wrap64 ((wrap64 ((σ.length:Int)+(τ.length:Int)))+(φ.length:Int))) * (wrap64 ((wrap64 ((wrap64 (L+Y)) + ζ))+γ)))))))=some r:=H
 have A6:=Aside0.mk az
 clear az
 obtain rfl:=Option.some.inj H
 go_enter Try.func12,Try.ntmps12
 try go_wp2_with (first|((with_reducible refine Qe (N:=4) rfl ?_);refine qE 4 #[.int .i64 B,.int .i64 J,.int .i64 L,.int .i64 Y,.int .i64 Z,.int .i64 ε,.int .i64 γ,.int .i64 θ,.int .i64 ζ,.int .i64 η] 25 ?_;intro a3 hg w7 hbox hb;have ρ:=Aside0.mk hbox;have ax:=sGe hg;have ay:=sGe hg;replace HB:=sHb hb;clear hb hbox hg)|((with_reducible refine Qe (N:=5) rfl ?_);refine qE 5 #[.int .i64 O,.int .i64 X,.int .i64 δ,.int .i64 κ,.int .i64 ι,.int .i64 μ,.int .i64 ν,.int .i64 ξ,.bool ψ,.bool ω] 31 ?_;intro a7 hg w8 hbox hb;have χ :=Aside0.mk hbox;have b0:=sGe hg;have b1:=sGe hg;have ao:=sNl ρ hg;have ap:=sNg ρ hg;replace ρ:=sBk ρ hb;replace HB:=sHb hb;clear hb hbox hg)|((with_reducible refine Qe (N:=6) rfl ?_);refine qE 6 #[.slice a9 σ.length aa,.slice ab τ.length ac,.slice ai φ.length aj] 34 ?_;intro b2 hg w9 hbox hb;have a1:=Aside0.mk hbox;have b4:=sGe hg;have b5:=sGe hg;have ag:=sNl ρ hg;have ah:=sNg ρ hg;have ak:=sNl χ hg;have al:=sNg χ hg;replace ρ:=sBk ρ hb;replace χ :=sBk χ hb;replace HB:=sHb hb;clear hb hbox hg)|((with_reducible refine Qe (N:=7) rfl ?_);refine qE 7 #[.int .i64 a2,.int .i64 a5,.int .i64 a6] 36 ?_;intro af hg fg hbox hb;have a0:=Aside0.mk hbox;have b6:=sGe hg;have b7:=sGe hg;have ar:=sNl ρ hg;have au:=sNg ρ hg;have av:=sNl χ hg;have aw:=sNg χ hg;have am:=sNl a1 hg;have an:=sNg a1 hg;replace ρ:=sBk ρ hb;replace χ :=sBk χ hb;replace a1:=sBk a1 hb;replace HB:=sHb hb;clear hb hbox hg;have ga:=ah.out;have gb:=ag.out;have fe:=al.out;have ff:=ak.out;have ip:=am.out;have iq:=an.out;obtain⟨bg,bh,bp,bi,bj,bq⟩:=qD3 a1.out))
 replace ρ:=Aside0.mk (Qf ρ.out)
 replace χ :=Aside0.mk (Qf χ.out)
 replace a1:=Aside0.mk (Qf a1.out)
 replace a0:=Aside0.mk (Qf a0.out)
 replace HB:=Aside0.mk (Qi HB.out)
 refine Zl (n:=32) (S:=fun w'=>w'.cell? ⟨a3,0,none⟩=some (.int .i64 B)∧w'.cell? ⟨a3,1,none⟩=some (.int .i64 J)∧w'.cell? ⟨a3,2,none⟩=some (.int .i64 L)∧w'.cell? ⟨a3,3,none⟩=some (.int .i64 Y)∧w'.cell? ⟨a3,4,none⟩=some (.int .i64 Z)∧w'.cell? ⟨a3,5,none⟩=some (.int .i64 ε)∧w'.cell? ⟨a3,6,none⟩=some (.int .i64 γ)∧w'.cell? ⟨a3,7,none⟩=some (.int .i64 θ)∧w'.cell? ⟨a3,8,none⟩=some (.int .i64 ζ)∧w'.cell? ⟨a3,9,none⟩=some (.int .i64 η)∧w'.cell? ⟨a7,0,none⟩=some (.int .i64 O)∧w'.cell? ⟨a7,1,none⟩=some (.int .i64 X)∧w'.cell? ⟨a7,2,none⟩=some (.int .i64 δ)∧w'.cell? ⟨a7,3,none⟩=some (.int .i64 κ)∧w'.cell? ⟨a7,4,none⟩=some (.int .i64 ι)∧w'.cell? ⟨a7,5,none⟩=some (.int .i64 μ)∧w'.cell? ⟨a7,6,none⟩=some (.int .i64 ν)∧w'.cell? ⟨a7,7,none⟩=some (.int .i64 ξ)∧w'.cell? ⟨a7,8,none⟩=some (.bool ψ)∧w'.cell? ⟨a7,9,none⟩=some (.bool ω)∧w'.cell? ⟨af,0,none⟩=some (.int .i64 a2)∧w'.cell? ⟨af,1,none⟩=some (.int .i64 a5)∧w'.cell? ⟨af,2,none⟩=some (.int .i64 a6)) (ds:=[]) #[false,false,false,false,false,false,false,false,false,false,false,false,false,false,false,false,false,false,false,false,false,false,false,false,false,false,false,false,false,false,false,false] kr rfl rfl ⟨(Qa ρ.out 0).trans rfl,(Qa ρ.out 1).trans rfl,(Qa ρ.out 2).trans rfl,(Qa ρ.out 3).trans rfl,(Qa ρ.out 4).trans rfl,(Qa ρ.out 5).trans rfl,(Qa ρ.out 6).trans rfl,(Qa ρ.out 7).trans rfl,(Qa ρ.out 8).trans rfl,(Qa ρ.out 9).trans rfl,(Qa χ.out 0).trans rfl,(Qa χ.out 1).trans rfl,(Qa χ.out 2).trans rfl,(Qa χ.out 3).trans rfl,(Qa χ.out 4).trans rfl,(Qa χ.out 5).trans rfl,(Qa χ.out 6).trans rfl,(Qa χ.out 7).trans rfl,(Qa χ.out 8).trans rfl,(Qa χ.out 9).trans rfl,(Qa a0.out 0).trans rfl,(Qa a0.out 1).trans rfl,(Qa a0.out 2).trans rfl⟩ (fun hHeld=>?_);refine Q8 newelref21_Cost.Es newelref21_Cost.Mx (fun HT_ HW_=>?_)
 generalize fg.drew=g9 at ρ χ a1 a0 HB hHeld ⊢
 refine qP 1 (some 22) (bN 32 2) HT_ ?_
 refine qP 4 (some 25) (bN 32 18) HT_ ?_
 refine qP 5 (some 26) (bN 32 50) HT_ ?_
 refine qP 7 (some 28) (bN 32 178) HT_ ?_
 refine qP 14 (some 35) (bN 32 16562) HT_ ?_
 refine qP 15 (some 36) (bN 32 49330) HT_ ?_
 refine qP 16 (some 37) (bN 32 114866) HT_ ?_
 refine qP 18 (some 39) (bN 32 377010) HT_ ?_
 refine qP 19 (some 40) (bN 32 901298) HT_ ?_
 refine qP 22 (some 43) (bN 32 5095602) HT_ ?_
 refine qP 25 (some 46) (bN 32 38650034) HT_ ?_
 refine qP 26 (some 47) (bN 32 105758898) HT_ ?_
 refine qT 0 (some 21) (bN 32 105758899) HT_ HW_ hHeld ?_
 refine qT 2 (some 23) (bN 32 105758903) HT_ HW_ hHeld ?_
 refine qT 6 (some 27) (bN 32 105758967) HT_ HW_ hHeld ?_
 refine qT 8 (some 29) (bN 32 105759223) HT_ HW_ hHeld ?_
 refine qT 9 (some 30) (bN 32 105759735) HT_ HW_ hHeld ?_
 refine qT 10 (some 31) (bN 32 105760759) HT_ HW_ hHeld ?_
 refine qT 17 (some 38) (bN 32 105891831) HT_ HW_ hHeld ?_
 refine qT 20 (some 41) (bN 32 106940407) HT_ HW_ hHeld ?_
 refine qP 21 (some 42) (bN 32 109037559) HT_ ?_
 refine qT 23 (some 44) (bN 32 117426167) HT_ HW_ hHeld ?_
 refine qP 24 (some 45) (bN 32 134203383) HT_ ?_
 refine qT 27 (some 48) (bN 32 268421111) HT_ HW_ hHeld ?_
 refine qP 28 (some 49) (bN 32 536856567) HT_ ?_
 refine qP 29 (some 50) (bN 32 1073727479) HT_ ?_
 refine Zg (i:=3) (N:=some 24) (bN 32 1073727487) rfl rfl (Q4 HT_.out kr) (by decide) (fun K hK=>?_)
 refine Zf Try.func34 kr rfl #[.agg #[.int .i64 B,.int .i64 J,.int .i64 L,.int .i64 Y,.int .i64 Z,.int .i64 ε,.int .i64 γ,.int .i64 θ,.int .i64 ζ,.int .i64 η],.agg #[.int .i64 O,.int .i64 X,.int .i64 δ,.int .i64 κ,.int .i64 ι,.int .i64 μ,.int .i64 ν]] (by rfl) rfl rfl qM ?_
 with_reducible refine(newelref18_Rest.calls k B J L Y Z ε γ θ ζ η O X δ κ ι μ ν ae _ A5.out).mono ?_
 rintro e dj ⟨rfl,hb⟩
 refine⟨_,rfl, ?_⟩
 replace ρ:=sBk ρ hb
 replace χ :=sBk χ hb
 replace a1:=sBk a1 hb
 replace a0:=sBk a0 hb
 replace HB:=sHb hb
 (try clear hb)
 (try clear a4)
 (try clear hk)
 (try clear hi)
 refine hK.out _ _ ⟨qc ρ,qc ρ,qc ρ,qc ρ,qc ρ,qc ρ,qc ρ,qc ρ,qc ρ,qc ρ,qc χ,qc χ,qc χ,qc χ,qc χ,qc χ,qc χ,qc χ,qc χ,qc χ,qc a0,qc a0,qc a0⟩ (fun hHeld=>?_)
 clear hK K
 refine qN (some 24) ?_
 refine Zg (i:=11) (N:=some 32) (bN 32 1073729535) rfl rfl (Q4 HT_.out kr) (by decide) (fun K hK=>?_)
 refine Zf Try.func35 kr rfl #[.int .i64 B,.agg #[.int .i64 O,.int .i64 X,.int .i64 δ,.int .i64 κ,.int .i64 ι,.int .i64 μ,.int .i64 ν,.int .i64 ξ,.bool ψ,.bool ω],.agg #[.int .i64 a2,.int .i64 a5,.int .i64 a6]] (by rfl) rfl rfl qM ?_
 with_reducible refine(newelref21_Way.calls k B O X δ κ ι μ ν ξ ψ ω a2 a5 a6 a8 _ A6.out).mono ?_
 rintro e e6 ⟨rfl,hb⟩
 refine⟨_,rfl, ?_⟩
 replace ρ:=sBk ρ hb
 replace χ :=sBk χ hb
 replace a1:=sBk a1 hb
 replace a0:=sBk a0 hb
 replace HB:=sHb hb
 (try clear hb)
 (try clear a4)
 (try clear hk)
 (try clear hi)
 refine hK.out _ _ ⟨qc ρ,qc ρ,qc ρ,qc ρ,qc ρ,qc ρ,qc ρ,qc ρ,qc ρ,qc ρ,qc χ,qc χ,qc χ,qc χ,qc χ,qc χ,qc χ,qc χ,qc χ,qc χ,qc a0,qc a0,qc a0⟩ (fun hHeld=>?_)
 clear hK K
 refine qN (some 32) ?_
 refine qP 12 (some 33) (bN 32 1073733631) HT_ ?_
 refine qP 13 (some 34) (bN 32 1073741823) HT_ ?_
 refine qP 30 (some 51) (bN 32 2147483647) HT_ ?_
 refine qP 31 (some 8) (bN 32 4294967295) HT_ ?_
 refine Z2 (Zh HT_.out kr) ?_
 try go_wp2
 go_ret
 exact⟨rfl,HB.out⟩
def collect_rising.l0:Nat→List Int→Int→List Int→Int→Int→Option (Bool)
 |0,_,_,_,_,_=>none
 |k+1,B,J,Y,O,X=>if X<O then (if 0≤X then (if X<(Y.length:Int) then (if (rd Y X)<0 then (some false) else (if (rd Y X)≥J then (some false) else (if X>0 then (if 0≤(wrap64 (X-1)) then (if (wrap64 (X-1))<(B.length:Int) then (if (rd B (wrap64 (X-1)))≥(rd Y X) then (some false) else (collect_rising.l0 k B J Y O (wrap64 (X+1)))) else (none)) else (none)) else (collect_rising.l0 k B J Y O (wrap64 (X+1)))))) else (none)) else (none)) else (some true)
def collect_rising.f (k:Nat) (l0:List Int) (O:Int):Option (Bool):=collect_rising.l0 k l0 O l0 (l0.length:Int) 0
theorem collect_rising.Zn:∀ k,(∀ L X Y B O,LeO (collect_rising.l0 k L X Y B O) (collect_rising.l0 (k+1) L X Y B O))
 |0=>fun _ _ _ _ _ r h=>by simp[collect_rising.l0] at h
 |k+1=>by
  have J:=collect_rising.Zn k
  ·intro L X Y B O
   unfold collect_rising.l0
   repeat' first
   |(with_reducible exact J _ _ _ _ _)
   |(with_reducible exact LeO.refl _)
   |(with_reducible exact LeO.none _)
   |(with_reducible refine LeO.ite ?_ ?_)
   |(with_reducible refine LeO.bind ?_ (fun _=>?_))
   |exact J _ _ _ _ _
   |exact LeO.none _
   |refine LeO.ite ?_ ?_
   |refine LeO.bind ?_ (fun _=>?_)
theorem collect_rising.mono:∀ B O k,LeO (collect_rising.f k B O) (collect_rising.f (k+1) B O):=by
 intro B O k
 have J:=collect_rising.Zn k
 unfold collect_rising.f
 repeat' first
   |(with_reducible exact J _ _ _ _ _)
   |(with_reducible exact LeO.refl _)
   |(with_reducible exact LeO.none _)
   |(with_reducible refine LeO.ite ?_ ?_)
   |(with_reducible refine LeO.bind ?_ (fun _=>?_))
   |exact J _ _ _ _ _
   |exact LeO.none _
   |refine LeO.ite ?_ ?_
   |refine LeO.bind ?_ (fun _=>?_)
set_option maxHeartbeats 8000000 in
set_option maxRecDepth 100000 in
theorem collect_rising.calls (k:Nat) (Z:Option Addr) (c0:Nat) (l0:List Int) (O:Int) (r:Bool) (w:World) (ξ :Kd.C (Kd.int .i64) w Z l0.length l0) (γ:l0.length≤c0) (h:collect_rising.f k l0 O=some r):
  Calls Try.prog 50 #[.slice Z l0.length c0,.int .i64 O] w fun e w'=>e = .returned (.bool r)∧Drawn0 w w':=by
 have ι :=Aside0.mk ξ
 have ah:=Aside0.mk γ
 clear ξ γ
 have H:(collect_rising.l0 k l0 O l0 (l0.length:Int) 0)=some r:=h
 clear h
 have H':=Aside0.mk H
 clear H
 go_enter Try.func50,Try.ntmps50
 go_wp2
 go_loopg [9] k (fun kq v9 w'=>∃ (B:Int),v9 = .int .i64 B∧Aside0 (collect_rising.l0 kq l0 O l0 (l0.length:Int) B=some r)∧Aside0 (kq≤k)∧Drawn0 w w')
 case atStart=>exact⟨(0),rfl,H',⟨Nat.le_refl _⟩,by repeat(first|exact Drawn0.refl _|apply Drawn0.step)⟩
 case round=>
  clear H'
  try clear p2
  obtain⟨B,rfl,HA,an,⟨m1,rfl⟩⟩:=hrel
  cases gk with
  |zero=>exact absurd HA.out (by simp[collect_rising.l0])
  |succ k1=>
   have H:=HA.out
   clear HA
   simp only[collect_rising.l0] at H
   by_cases c3:B<(l0.length:Int)
   ·rw[if_pos c3] at H
    have c3b0:decide (B<(l0.length:Int))=true:=decide_eq_true c3
    clear c3
    by_cases c4:0≤B
    ·rw[if_pos c4] at H
     have c4b0:decide (0≤B)=true:=decide_eq_true c4
     clear c4
     by_cases c5:B<(l0.length:Int)
     ·rw[if_pos c5] at H
      have c5b0:decide (B<(l0.length:Int))=true:=decide_eq_true c5
      clear c5
      by_cases c6:(rd l0 B)<0
      ·rw[if_pos c6] at H
       have c6b0:decide ((rd l0 B)<0)=true:=decide_eq_true c6
       clear c6
       obtain rfl:=Option.some.inj H
       have J:0≤(B:Int):=of_decide_eq_true (by assumption)
       have L:B<(l0.length:Int):=of_decide_eq_true (by assumption)
       obtain⟨δ,Y,ε⟩:=Kd.Xo ι.out B J L
       cases Y
       replace J:=eq_true J
       replace L:=eq_true L
       go_wp2
       go_ret
       exact⟨qR,by repeat(first|exact Drawn0.refl _|apply Drawn0.step)⟩
      ·rw[if_neg c6] at H
       have c6b0:decide ((rd l0 B)<0)=false:=decide_eq_false c6
       clear c6
       by_cases c7:(rd l0 B)≥O
       ·rw[if_pos c7] at H
        have c7b0:decide (O≤(rd l0 B))=true:=decide_eq_true c7
        clear c7
        obtain rfl:=Option.some.inj H
        have J:0≤(B:Int):=of_decide_eq_true (by assumption)
        have L:B<(l0.length:Int):=of_decide_eq_true (by assumption)
        obtain⟨δ,Y,ε⟩:=Kd.Xo ι.out B J L
        cases Y
        replace J:=eq_true J
        replace L:=eq_true L
        go_wp2
        go_ret
        exact⟨qR,by repeat(first|exact Drawn0.refl _|apply Drawn0.step)⟩
       ·rw[if_neg c7] at H
        have c7b0:decide (O≤(rd l0 B))=false:=decide_eq_false c7
        clear c7
        by_cases c8:B>0
        ·rw[if_pos c8] at H
         have c8b0:decide (0<B)=true:=decide_eq_true c8
         clear c8
         obtain⟨X,θ⟩:∃ j_:Int,(wrap64 (B-1))=j_:=⟨_,rfl⟩
         replace H:(if 0≤(X) then (if (X)<(l0.length:Int) then (if (rd l0 (X))≥(rd l0 B) then (some false) else (collect_rising.l0 k1 l0 O l0 (l0.length:Int) (wrap64 (B+1)))) else (none)) else (none))=some r:=by first|(rw[θ] at H;exact H)|(simp only[θ] at H ⊢;exact H)
         have hji9w:(IntKind.i64.wrap (B-1))=X:=(Za _).trans θ
         by_cases c10:0≤(X)
         ·rw[if_pos c10] at H
          have c10b0:decide (0≤(X))=true:=decide_eq_true c10
          clear c10
          by_cases al:(X)<(l0.length:Int)
          ·rw[if_pos al] at H
           have c11b0:decide ((X)<(l0.length:Int))=true:=decide_eq_true al
           clear al
           by_cases ae:(rd l0 (X))≥(rd l0 B)
           ·rw[if_pos ae] at H
            have c12b0:decide ((rd l0 B)≤(rd l0 (X)))=true:=decide_eq_true ae
            clear ae
            obtain rfl:=Option.some.inj H
            have J:0≤(B:Int):=of_decide_eq_true (by assumption)
            have L:B<(l0.length:Int):=of_decide_eq_true (by assumption)
            obtain⟨δ,Y,ε⟩:=Kd.Xo ι.out B J L
            cases Y
            replace J:=eq_true J
            replace L:=eq_true L
            have ζ :0≤((X):Int):=of_decide_eq_true (by assumption)
            have η :(X)<(l0.length:Int):=of_decide_eq_true (by assumption)
            obtain⟨κ,μ,ν⟩:=Kd.Xo ι.out (X) ζ η
            obtain rfl: δ = κ :=(by injection μ)
            replace ζ :=eq_true ζ
            replace η :=eq_true η
            go_wp2
            go_ret
            exact⟨by first|rfl|(simp;done)|(simp only[← θ] <;> (first|rfl|simp))|(simp[*];done),by repeat(first|exact Drawn0.refl _|apply Drawn0.step)⟩
           ·rw[if_neg ae] at H
            have c12b0:decide ((rd l0 B)≤(rd l0 (X)))=false:=decide_eq_false ae
            clear ae
            have H':=Aside0.mk H
            clear H
            have J:0≤(B:Int):=of_decide_eq_true (by assumption)
            have L:B<(l0.length:Int):=of_decide_eq_true (by assumption)
            obtain⟨δ,Y,ε⟩:=Kd.Xo ι.out B J L
            cases Y
            replace J:=eq_true J
            replace L:=eq_true L
            have ζ :0≤((X):Int):=of_decide_eq_true (by assumption)
            have η :(X)<(l0.length:Int):=of_decide_eq_true (by assumption)
            obtain⟨κ,μ,ν⟩:=Kd.Xo ι.out (X) ζ η
            obtain rfl: δ = κ :=(by injection μ)
            replace ζ :=eq_true ζ
            replace η :=eq_true η
            go_wp2
            go_roundg k1
            case measure=>have:=an.out;omega
            case rel=>exact⟨(wrap64 (B+1)),rfl,H',⟨by have:=an.out;omega⟩,by repeat(first|exact Drawn0.refl _|apply Drawn0.step)⟩
          ·rw[if_neg al] at H
           exact absurd H (by simp)
         ·rw[if_neg c10] at H
          exact absurd H (by simp)
        ·rw[if_neg c8] at H
         have c8b0:decide (0<B)=false:=decide_eq_false c8
         clear c8
         have H':=Aside0.mk H
         clear H
         have J:0≤(B:Int):=of_decide_eq_true (by assumption)
         have L:B<(l0.length:Int):=of_decide_eq_true (by assumption)
         obtain⟨δ,Y,ε⟩:=Kd.Xo ι.out B J L
         cases Y
         replace J:=eq_true J
         replace L:=eq_true L
         go_wp2
         go_roundg k1
         case measure=>have:=an.out;omega
         case rel=>exact⟨(wrap64 (B+1)),rfl,H',⟨by have:=an.out;omega⟩,by repeat(first|exact Drawn0.refl _|apply Drawn0.step)⟩
     ·rw[if_neg c5] at H
      exact absurd H (by simp)
    ·rw[if_neg c4] at H
     exact absurd H (by simp)
   ·rw[if_neg c3] at H
    have c3b0:decide (B<(l0.length:Int))=false:=decide_eq_false c3
    clear c3
    obtain rfl:=Option.some.inj H
    go_wp2
    go_ret
    exact⟨qR,by repeat(first|exact Drawn0.refl _|apply Drawn0.step)⟩
mutual
def collect_Check.j0:Nat→Bool→Int→Int→Int→Bool→Bool→List Int→List Int→List Int→Option (Int)
 |0,_,_,_,_,_,_,_,_,_=>none
 |k+1,δ,B,X,Y,Z,γ,J,L,O=>if δ = true then (some 200) else ((some (([J,L,O]:List (List Int)):List (List Int))).bind fun ε =>(collect_Check.l0 k ε (ε.length:Int) 0 B X Y Z γ J L O))
def collect_Check.l0:Nat→List (List Int)→Int→Int→Int→Int→Int→Bool→Bool→List Int→List Int→List Int→Option (Int)
 |0,_,_,_,_,_,_,_,_,_,_,_=>none
 |k+1,ε,ζ,δ,B,X,Y,Z,γ,J,L,O=>if δ < ζ then (if 0 ≤ δ then (if δ < (ε.length:Int) then ((collect_rising.f k (Yv ε δ) B).bind fun dq=>(if dq=true then (collect_Check.l0 k ε ζ (wrap64 (δ + 1)) B X Y Z γ J L O) else (some 200))) else (none)) else (none)) else (some 0)
end
def collect_Check.f (k:Nat) (B:Int) (J:Int) (L:Int) (Y:Bool) (Z:Bool) (O:List Int) (X:List Int) (γ:List Int):Option (Int):=if B<2 then (collect_Check.j0 k true B J L Y Z O X γ) else (if B>64 then (collect_Check.j0 k true B J L Y Z O X γ) else (if J<0 then (collect_Check.j0 k true B J L Y Z O X γ) else (if J≥B then (collect_Check.j0 k true B J L Y Z O X γ) else (if L<(-1) then (collect_Check.j0 k true B J L Y Z O X γ) else (collect_Check.j0 k (decide (L>1)) B J L Y Z O X γ)))))
theorem collect_Check.Zn:∀ k,(∀ L X Y B O Z y6 y7 y8,LeO (collect_Check.j0 k L X Y B O Z y6 y7 y8) (collect_Check.j0 (k+1) L X Y B O Z y6 y7 y8))∧(∀ L X Y B O Z y6 y7 y8 y9 γ,LeO (collect_Check.l0 k L X Y B O Z y6 y7 y8 y9 γ) (collect_Check.l0 (k+1) L X Y B O Z y6 y7 y8 y9 γ))
 |0=>⟨fun _ _ _ _ _ _ _ _ _ r h=>by simp[collect_Check.j0] at h,fun _ _ _ _ _ _ _ _ _ _ _ r h=>by simp[collect_Check.l0] at h⟩
 |k+1=>by
  obtain⟨J,δ⟩:=collect_Check.Zn k
  refine⟨?_, ?_⟩
  ·intro L X Y B O Z y6 y7 y8
   unfold collect_Check.j0
   repeat' first
   |(with_reducible exact J _ _ _ _ _ _ _ _ _)
   |(with_reducible exact δ _ _ _ _ _ _ _ _ _ _ _)
   |(with_reducible exact collect_rising.mono _ _ _)
   |(with_reducible exact LeO.refl _)
   |(with_reducible exact LeO.none _)
   |(with_reducible refine LeO.ite ?_ ?_)
   |(with_reducible refine LeO.bind ?_ (fun _=>?_))
   |exact J _ _ _ _ _ _ _ _ _
   |exact δ _ _ _ _ _ _ _ _ _ _ _
   |exact collect_rising.mono _ _ _
   |exact LeO.none _
   |refine LeO.ite ?_ ?_
   |refine LeO.bind ?_ (fun _=>?_)
  ·intro L X Y B O Z y6 y7 y8 y9 γ
   unfold collect_Check.l0
   repeat' first
   |(with_reducible exact J _ _ _ _ _ _ _ _ _)
   |(with_reducible exact δ _ _ _ _ _ _ _ _ _ _ _)
   |(with_reducible exact collect_rising.mono _ _ _)
   |(with_reducible exact LeO.refl _)
   |(with_reducible exact LeO.none _)
   |(with_reducible refine LeO.ite ?_ ?_)
   |(with_reducible refine LeO.bind ?_ (fun _=>?_))
   |exact J _ _ _ _ _ _ _ _ _
   |exact δ _ _ _ _ _ _ _ _ _ _ _
   |exact collect_rising.mono _ _ _
   |exact LeO.none _
   |refine LeO.ite ?_ ?_
   |refine LeO.bind ?_ (fun _=>?_)
theorem collect_Check.mono:∀ B O a2 a3 L a5 X a7 k,LeO (collect_Check.f k B O a2 a3 L a5 X a7) (collect_Check.f (k+1) B O a2 a3 L a5 X a7):=by
 intro B O a2 a3 L a5 X a7 k
 obtain⟨J,δ⟩:=collect_Check.Zn k
 unfold collect_Check.f
 repeat' first
   |(with_reducible exact J _ _ _ _ _ _ _ _ _)
   |(with_reducible exact δ _ _ _ _ _ _ _ _ _ _ _)
   |(with_reducible exact collect_rising.mono _ _ _)
   |(with_reducible exact LeO.refl _)
   |(with_reducible exact LeO.none _)
   |(with_reducible refine LeO.ite ?_ ?_)
   |(with_reducible refine LeO.bind ?_ (fun _=>?_))
   |exact J _ _ _ _ _ _ _ _ _
   |exact δ _ _ _ _ _ _ _ _ _ _ _
   |exact collect_rising.mono _ _ _
   |exact LeO.none _
   |refine LeO.ite ?_ ?_
   |refine LeO.bind ?_ (fun _=>?_)
set_option maxHeartbeats 8000000 in
set_option maxRecDepth 100000 in
theorem collect_Check.calls (k:Nat) (B:Int) (J:Int) (L:Int) (Y:Bool) (Z:Bool) (θ :Nat→Prop) (ρ:Option Addr) (a1:Nat) (O:List Int) (ι :Nat→Prop) (a4:Option Addr) (a5:Nat) (X:List Int) (κ :Nat→Prop) (a7:Option Addr) (a8:Nat) (γ:List Int) (r:Int) (w:World) (f8:Kd.V (Kd.int .i64) 3 w w.heap.size (fun k_=> θ k_) (.slice ρ O.length a1) O) (fa:Kd.V (Kd.int .i64) 3 w w.heap.size (fun k_=> ι k_) (.slice a4 X.length a5) X) (fb:Kd.V (Kd.int .i64) 3 w w.heap.size (fun k_=> κ k_) (.slice a7 γ.length a8) γ) (h:collect_Check.f k B J L Y Z O X γ=some r):
  Calls Try.prog 29 #[.agg #[.int .i64 B,.int .i64 J,.int .i64 L,.bool Y,.bool Z,.slice ρ O.length a1,.slice a4 X.length a5,.slice a7 γ.length a8]] w fun e w'=>e = .returned (.int .i64 r)∧Below w.heap.size w w':=by
 have ga:=Try.underlying76
 have aa:=Aside0.mk (show Kd.V (Kd.int .i64) 3 w w.heap.size (fun k_=>((θ k_ ∨ ι k_ ∨ κ k_)∨w.heap.size≤k_)) (.slice ρ O.length a1) O from Kd.Yh f8 (fun k_ hk=>.inl (.inl hk)))
 have af:=Aside0.mk (show Kd.V (Kd.int .i64) 3 w w.heap.size (fun k_=>((θ k_ ∨ ι k_ ∨ κ k_)∨w.heap.size≤k_)) (.slice a4 X.length a5) X from Kd.Yh fa (fun k_ hk=>.inl (.inr (.inl hk))))
 have ag:=Aside0.mk (show Kd.V (Kd.int .i64) 3 w w.heap.size (fun k_=>((θ k_ ∨ ι k_ ∨ κ k_)∨w.heap.size≤k_)) (.slice a7 γ.length a8) γ from Kd.Yh fb (fun k_ hk=>.inl (.inr (.inr hk))))
 have HB:=Aside0.mk (Below.refl w.heap.size w)
 have H:(if B<2 then (collect_Check.j0 k true B J L Y Z O X γ) else (if B>64 then (collect_Check.j0 k true B J L Y Z O X γ) else (if J<0 then (collect_Check.j0 k true B J L Y Z O X γ) else (if J≥B then (collect_Check.j0 k true B J L Y Z O X γ) else (if L<(-1) then (collect_Check.j0 k true B J L Y Z O X γ) else (collect_Check.j0 k (decide (L>1)) B J L Y Z O X γ))))))=some r:=h
 clear h
 have dp:=Aside0.mk H
 clear H
 go_enter Try.func29,Try.ntmps29
 go_upto_region 1 with(first|((with_reducible refine Qe (N:=1) rfl ?_);refine qE 1 #[.int .i64 B,.int .i64 J,.int .i64 L,.bool Y,.bool Z,.slice ρ O.length a1,.slice a4 X.length a5,.slice a7 γ.length a8] 76 ?_;intro ζ hg w3 hbox hb;have η :=Aside0.mk hbox;have fl:=sGe hg;have fm:=sGe hg;replace aa:=Aside0.mk (Kd.Vw (Kd.Gu aa.out ζ (Nat.le_of_eq hg.symm)) hb);replace af:=Aside0.mk (Kd.Vw (Kd.Gu af.out ζ (Nat.le_of_eq hg.symm)) hb);replace ag:=Aside0.mk (Kd.Vw (Kd.Gu ag.out ζ (Nat.le_of_eq hg.symm)) hb);replace HB:=sHb hb;clear hb hbox hg))
 (try simp only[Act.put,qS])
 go_cut [34] (fun fj wc=>∃ (kq:Nat) (cd:Bool),fj = .bool cd∧Aside0 (collect_Check.j0 kq cd B J L Y Z O X γ=some r)∧Aside0 (kq≤k)∧Aside0 (Kd.V (Kd.int .i64) 3 wc w.heap.size (fun k_=>((θ k_ ∨ ι k_ ∨ κ k_)∨w.heap.size≤k_)∧k_ ≠ ζ) (.slice ρ O.length a1) O)∧Aside0 (Kd.V (Kd.int .i64) 3 wc w.heap.size (fun k_=>((θ k_ ∨ ι k_ ∨ κ k_)∨w.heap.size≤k_)∧k_ ≠ ζ) (.slice a4 X.length a5) X)∧Aside0 (Kd.V (Kd.int .i64) 3 wc w.heap.size (fun k_=>((θ k_ ∨ ι k_ ∨ κ k_)∨w.heap.size≤k_)∧k_ ≠ ζ) (.slice a7 γ.length a8) γ)∧Aside0 (wc.heap[ζ]?=some (.cells #[.int .i64 B,.int .i64 J,.int .i64 L,.bool Y,.bool Z,(.slice ρ O.length a1),(.slice a4 X.length a5),(.slice a7 γ.length a8)] 76 (0,0)))∧Aside0 (Below w.heap.size w wc))
 case first=>
  have H:=dp.out
  clear dp
  by_cases c4:B<2
  ·rw[if_pos c4] at H
   have c4b0:decide (B<2)=true:=decide_eq_true c4
   clear c4
   (first|rw[c4b0]|(simp only[Za,Zb];rw[c4b0])|skip)
   have H':=Aside0.mk H
   clear H
   obtain⟨b5,b7,cf,e0,e3,e4,e5,ea,ch,cj,ck,eb,ec,ei,ek,el⟩:=qD8 η.out
   go_wp2
   go_meet
   case rel=>exact⟨_,(true),rfl,H',⟨by first|omega|exact Nat.le_refl _⟩,⟨by(with_reducible repeat first|apply Kd.Zu|apply Kd.Zt|apply Kd.Xa);exact aa.out⟩,⟨by(with_reducible repeat first|apply Kd.Zu|apply Kd.Zt|apply Kd.Xa);exact af.out⟩,⟨by(with_reducible repeat first|apply Kd.Zu|apply Kd.Zt|apply Kd.Xa);exact ag.out⟩,η,HB⟩
  ·rw[if_neg c4] at H
   have c4b0:decide (B<2)=false:=decide_eq_false c4
   clear c4
   (first|rw[c4b0]|(simp only[Za,Zb];rw[c4b0])|skip)
   by_cases c6:B>64
   ·rw[if_pos c6] at H
    have c6b0:decide (64<B)=true:=decide_eq_true c6
    clear c6
    have H':=Aside0.mk H
    clear H
    obtain⟨ψ,ω,bf,ce,cm,cn,co,em,a0,bb,cg,cy,cz,d8,df,eo⟩:=qD8 η.out
    go_wp2
    go_meet
    case rel=>exact⟨_,(true),rfl,H',⟨by first|omega|exact Nat.le_refl _⟩,⟨by(with_reducible repeat first|apply Kd.Zu|apply Kd.Zt|apply Kd.Xa);exact aa.out⟩,⟨by(with_reducible repeat first|apply Kd.Zu|apply Kd.Zt|apply Kd.Xa);exact af.out⟩,⟨by(with_reducible repeat first|apply Kd.Zu|apply Kd.Zt|apply Kd.Xa);exact ag.out⟩,η,HB⟩
   ·rw[if_neg c6] at H
    have c6b0:decide (64<B)=false:=decide_eq_false c6
    clear c6
    by_cases c8:J<0
    ·rw[if_pos c8] at H
     have c8b0:decide (J<0)=true:=decide_eq_true c8
     clear c8
     have H':=Aside0.mk H
     clear H
     obtain⟨br,cp,cv,dj,dk,dl,du,dv,ct,cu,cw,dw,dz,eh,ej,en⟩:=qD8 η.out
     go_wp2
     go_meet
     case rel=>exact⟨_,(true),rfl,H',⟨by first|omega|exact Nat.le_refl _⟩,⟨by(with_reducible repeat first|apply Kd.Zu|apply Kd.Zt|apply Kd.Xa);exact aa.out⟩,⟨by(with_reducible repeat first|apply Kd.Zu|apply Kd.Zt|apply Kd.Xa);exact af.out⟩,⟨by(with_reducible repeat first|apply Kd.Zu|apply Kd.Zt|apply Kd.Xa);exact ag.out⟩,η,HB⟩
    ·rw[if_neg c8] at H
     have c8b0:decide (J<0)=false:=decide_eq_false c8
     clear c8
     by_cases c10:J≥B
     ·rw[if_pos c10] at H
      have c10b0:decide (B≤J)=true:=decide_eq_true c10
      clear c10
      have H':=Aside0.mk H
      clear H
      obtain⟨ah,ak,aw,b6,bd,be,χ,b9,ao,ap,ax,bk,bl,bm,al,ba⟩:=qD8 η.out
      go_wp2
      go_meet
      case rel=>exact⟨_,(true),rfl,H',⟨by first|omega|exact Nat.le_refl _⟩,⟨by(with_reducible repeat first|apply Kd.Zu|apply Kd.Zt|apply Kd.Xa);exact aa.out⟩,⟨by(with_reducible repeat first|apply Kd.Zu|apply Kd.Zt|apply Kd.Xa);exact af.out⟩,⟨by(with_reducible repeat first|apply Kd.Zu|apply Kd.Zt|apply Kd.Xa);exact ag.out⟩,η,HB⟩
     ·rw[if_neg c10] at H
      have c10b0:decide (B≤J)=false:=decide_eq_false c10
      clear c10
      by_cases ae:L<(-1)
      ·rw[if_pos ae] at H
       have c12b0:decide (L<(-1))=true:=decide_eq_true ae
       clear ae
       have H':=Aside0.mk H
       clear H
       obtain⟨ai,a6,a2,τ,φ,a9,az,dd,aj,ab,a3,b1,b2,b4,b8,de⟩:=qD8 η.out
       go_wp2
       go_meet
       case rel=>exact⟨_,(true),rfl,H',⟨by first|omega|exact Nat.le_refl _⟩,⟨by(with_reducible repeat first|apply Kd.Zu|apply Kd.Zt|apply Kd.Xa);exact aa.out⟩,⟨by(with_reducible repeat first|apply Kd.Zu|apply Kd.Zt|apply Kd.Xa);exact af.out⟩,⟨by(with_reducible repeat first|apply Kd.Zu|apply Kd.Zt|apply Kd.Xa);exact ag.out⟩,η,HB⟩
      ·rw[if_neg ae] at H
       have c12b0:decide (L<(-1))=false:=decide_eq_false ae
       clear ae
       have H':=Aside0.mk H
       clear H
       obtain⟨bg,bh,bp,d0,d1,d2,d3,eg,bi,bj,bq,d4,d5,d6,d7,ft⟩:=qD8 η.out
       go_wp2
       go_meet
       case rel=>exact⟨_,(decide (L>1)),rfl,H',⟨by first|omega|exact Nat.le_refl _⟩,⟨by(with_reducible repeat first|apply Kd.Zu|apply Kd.Zt|apply Kd.Xa);exact aa.out⟩,⟨by(with_reducible repeat first|apply Kd.Zu|apply Kd.Zt|apply Kd.Xa);exact af.out⟩,⟨by(with_reducible repeat first|apply Kd.Zu|apply Kd.Zt|apply Kd.Xa);exact ag.out⟩,η,HB⟩
 case rest=>
  clear dp
  try clear c1
  try clear c2
  try clear p2
  try clear c4
  try clear c4b0
  try clear c6
  try clear c6b0
  try clear c8
  try clear c8b0
  try clear c10
  try clear c10b0
  try clear ae
  try clear c12b0
  try clear ah
  try clear ak
  try clear aw
  try clear b6
  try clear bd
  try clear be
  try clear χ
  try clear b9
  try clear ai
  try clear a6
  try clear a2
  try clear τ
  try clear φ
  try clear a9
  try clear az
  try clear dd
  try clear bg
  try clear bh
  try clear bp
  try clear d0
  try clear d1
  try clear d2
  try clear d3
  try clear eg
  try clear b5
  try clear b7
  try clear cf
  try clear e0
  try clear e3
  try clear e4
  try clear e5
  try clear ea
  try clear ψ
  try clear ω
  try clear bf
  try clear ce
  try clear cm
  try clear cn
  try clear co
  try clear em
  try clear br
  try clear cp
  try clear cv
  try clear dj
  try clear dk
  try clear dl
  try clear du
  try clear dv
  try clear ao
  try clear ap
  try clear ax
  try clear bk
  try clear bl
  try clear bm
  try clear al
  try clear ba
  try clear aj
  try clear ab
  try clear a3
  try clear b1
  try clear b2
  try clear b4
  try clear b8
  try clear de
  try clear bi
  try clear bj
  try clear bq
  try clear d4
  try clear d5
  try clear d6
  try clear d7
  try clear ft
  try clear ch
  try clear cj
  try clear ck
  try clear eb
  try clear ec
  try clear ei
  try clear ek
  try clear el
  try clear a0
  try clear bb
  try clear cg
  try clear cy
  try clear cz
  try clear d8
  try clear df
  try clear eo
  try clear ct
  try clear cu
  try clear cw
  try clear dw
  try clear dz
  try clear eh
  try clear ej
  try clear en
  obtain⟨kq,cd,rfl,HA,ff,HO_169005,HO_169006,HO_169007,η,HB⟩:=hcut
  cases kq with
  |zero=>exact absurd HA.out (by simp[collect_Check.j0])
  |succ er=>
   have H:=HA.out
   clear HA
   simp only[collect_Check.j0] at H
   by_cases ac:cd=true
   ·subst ac
    have H1:(some 200)=some r:=by rw[if_pos rfl] at H;exact H
    clear H
    have H:=H1
    clear H1
    obtain rfl:=Option.some.inj H
    go_wp2
    go_ret
    exact⟨rfl,HB.out⟩
   ·replace ac:=Bool.eq_false_iff.mpr ac
    subst ac
    have H1:((some (([O,X,γ]:List (List Int)):List (List Int))).bind fun ε =>(collect_Check.l0 er ε (ε.length:Int) 0 B J L Y Z O X γ))=some r:=by rw[if_neg (show ¬ (false=true) by decide)] at H;exact H
    clear H
    have H:=H1
    clear H1
    obtain⟨ε,b3⟩:∃ y_:List (List Int),y_=(([O,X,γ]:List (List Int))):=⟨_,rfl⟩
    replace H:(collect_Check.l0 er ε (ε.length:Int) 0 B J L Y Z O X γ)=some r:=by first|(rw[b3];with_reducible exact H)|(have am:=(Option.bind_some _ _).symm.trans H;rw[b3];with_reducible exact am)|(have am:=(Option.bind_some _ _).symm.trans H;with_reducible exact am)|with_reducible exact H|(rw[b3];exact H)|exact H
    have et:=Aside0.mk b3
    clear b3
    have H':=Aside0.mk H
    clear H
    obtain⟨bw,bz,cq,bn,e7,e8,e9,fu,ca,cb,cr,ev,ew,fg,fh,fv⟩:=qD8 η.out
    go_wp2_with (first|((with_reducible refine Qe (N:=44) rfl ?_);refine Kd.N_lit (Kd.slice 3 (Kd.int .i64)) _ 32 ?hg (N':=44) ?hd (xs:=([O,X,γ]:List (List Int))) (inner:=[.slice ρ O.length a1,.slice a4 X.length a5,.slice a7 γ.length a8]) (ok:=(fun k_=>((θ k_ ∨ ι k_ ∨ κ k_)∨w.heap.size≤k_)∧k_ ≠ ζ)) (okp:=(fun k_=>((θ k_ ∨ ι k_ ∨ κ k_)∨w.heap.size≤k_)∧k_ ≠ ζ)) ?hr ?hp (fun _ hk=>hk) ((show ∀ k_,wc.heap.size≤k_→(fun k_=>((θ k_ ∨ ι k_ ∨ κ k_)∨w.heap.size≤k_)∧k_ ≠ ζ) k_ from fun k_ hk=>⟨(.inr (Nat.le_trans (Qu HB.out) hk)),Kd.Ez (g:= ζ) (o:=.cells #[.int .i64 B,.int .i64 J,.int .i64 L,.bool Y,.bool Z,.slice ρ O.length a1,.slice a4 X.length a5,.slice a7 γ.length a8] 76 (0,0)) η.out k_ hk⟩) _ (Nat.le_refl _)) (Below.refl _ _) (Nat.le_refl _) (by simp) ?_;(case hd=>rfl);(case hg=>rfl);(case hr=>go_simp <;> rfl);(case hp=>exact(Reps.one (show Kd.FK (Kd.slice 3 (Kd.int .i64)) _ _ O [.slice ρ O.length a1] from(Kd.Jn (Kd.Gr (Kd.Yh (ok':=(fun k_=>((θ k_ ∨ ι k_ ∨ κ k_)∨w.heap.size≤k_)∧k_ ≠ ζ)) (HO_169005.out) (fun k_ hk=>⟨hk.1,hk.2⟩))).2.1 (Kd.V_F (Kd.Yh (ok':=(fun k_=>((θ k_ ∨ ι k_ ∨ κ k_)∨w.heap.size≤k_)∧k_ ≠ ζ)) (HO_169005.out) (fun k_ hk=>⟨hk.1,hk.2⟩))))) (Reps.one (show Kd.FK (Kd.slice 3 (Kd.int .i64)) _ _ X [.slice a4 X.length a5] from(Kd.Jn (Kd.Gr (Kd.Yh (ok':=(fun k_=>((θ k_ ∨ ι k_ ∨ κ k_)∨w.heap.size≤k_)∧k_ ≠ ζ)) (HO_169006.out) (fun k_ hk=>⟨hk.1,hk.2⟩))).2.1 (Kd.V_F (Kd.Yh (ok':=(fun k_=>((θ k_ ∨ ι k_ ∨ κ k_)∨w.heap.size≤k_)∧k_ ≠ ζ)) (HO_169006.out) (fun k_ hk=>⟨hk.1,hk.2⟩))))) (Reps.one (show Kd.FK (Kd.slice 3 (Kd.int .i64)) _ _ γ [.slice a7 γ.length a8] from(Kd.Jn (Kd.Gr (Kd.Yh (ok':=(fun k_=>((θ k_ ∨ ι k_ ∨ κ k_)∨w.heap.size≤k_)∧k_ ≠ ζ)) (HO_169007.out) (fun k_ hk=>⟨hk.1,hk.2⟩))).2.1 (Kd.V_F (Kd.Yh (ok':=(fun k_=>((θ k_ ∨ ι k_ ∨ κ k_)∨w.heap.size≤k_)∧k_ ≠ ζ)) (HO_169007.out) (fun k_ hk=>⟨hk.1,hk.2⟩))))) (Reps.none _ _)))));intro fn e6 ay hb hg_ hnew_;clear hg_ hnew_;(first|rw[← et.out] at ay|(simp only[Int.reduceToNat] at ay;rw[← et.out] at ay));have eu:=Aside0.mk (Kd.Ee ay (Qu HB.out));replace HO_169005:=Aside0.mk (Kd.Gv HO_169005.out (Kd.Wh ay) hb);replace HO_169006:=Aside0.mk (Kd.Gv HO_169006.out (Kd.Wh ay) hb);replace HO_169007:=Aside0.mk (Kd.Gv HO_169007.out (Kd.Wh ay) hb);replace η :=sBk η hb;replace HB:=sHb hb;clear hb ay;obtain⟨dr,dt,fi⟩:=Kd.Wx eu.out;subst fi))
    go_loopg [46] er (fun kq fk w'=>∃ (δ :Int),fk = .int .i64 δ ∧ Aside0 (collect_Check.l0 kq ε (ε.length:Int) δ B J L Y Z O X γ=some r)∧Aside0 (kq≤er)∧Aside0 (Kd.N (Kd.slice 3 (Kd.int .i64)) 32 w' w.heap.size (fun k_=>((θ k_ ∨ ι k_ ∨ κ k_)∨w.heap.size≤k_)∧k_ ≠ ζ) (.slice dr ε.length dt) ε)∧Aside0 (Kd.V (Kd.int .i64) 3 w' w.heap.size (fun k_=>((θ k_ ∨ ι k_ ∨ κ k_)∨w.heap.size≤k_)∧some k_≠((.slice dr ε.length dt):Value).ownBlock∧k_ ≠ ζ) (.slice ρ O.length a1) O)∧Aside0 (Kd.V (Kd.int .i64) 3 w' w.heap.size (fun k_=>((θ k_ ∨ ι k_ ∨ κ k_)∨w.heap.size≤k_)∧some k_≠((.slice dr ε.length dt):Value).ownBlock∧k_ ≠ ζ) (.slice a4 X.length a5) X)∧Aside0 (Kd.V (Kd.int .i64) 3 w' w.heap.size (fun k_=>((θ k_ ∨ ι k_ ∨ κ k_)∨w.heap.size≤k_)∧some k_≠((.slice dr ε.length dt):Value).ownBlock∧k_ ≠ ζ) (.slice a7 γ.length a8) γ)∧Aside0 (w'.heap[ζ]?=some (.cells #[.int .i64 B,.int .i64 J,.int .i64 L,.bool Y,.bool Z,(.slice ρ O.length a1),(.slice a4 X.length a5),(.slice a7 γ.length a8)] 76 (0,0)))∧Aside0 (Below w.heap.size w w'))
    case atStart=>exact⟨(0),rfl,H',⟨Nat.le_refl _⟩,⟨by(with_reducible repeat(first|apply Kd.Wz|apply Kd.Wy|apply Kd.M4));exact eu.out⟩,⟨by(with_reducible repeat first|apply Kd.Zu|apply Kd.Zt|apply Kd.Xa);exact Kd.Yh HO_169005.out (fun _ hk=>⟨hk.1.1,⟨hk.2,hk.1.2⟩⟩)⟩,⟨by(with_reducible repeat first|apply Kd.Zu|apply Kd.Zt|apply Kd.Xa);exact Kd.Yh HO_169006.out (fun _ hk=>⟨hk.1.1,⟨hk.2,hk.1.2⟩⟩)⟩,⟨by(with_reducible repeat first|apply Kd.Zu|apply Kd.Zt|apply Kd.Xa);exact Kd.Yh HO_169007.out (fun _ hk=>⟨hk.1.1,⟨hk.2,hk.1.2⟩⟩)⟩,η,HB⟩
    case round=>
     clear H'
     try clear c1
     try clear c2
     try clear p2
     try clear c4
     try clear c4b0
     try clear c6
     try clear c6b0
     try clear c8
     try clear c8b0
     try clear c10
     try clear c10b0
     try clear ae
     try clear c12b0
     try clear ac
     try clear ah
     try clear ak
     try clear aw
     try clear b6
     try clear bd
     try clear be
     try clear χ
     try clear b9
     try clear ai
     try clear a6
     try clear a2
     try clear τ
     try clear φ
     try clear a9
     try clear az
     try clear dd
     try clear bg
     try clear bh
     try clear bp
     try clear d0
     try clear d1
     try clear d2
     try clear d3
     try clear eg
     try clear bw
     try clear bz
     try clear cq
     try clear bn
     try clear e7
     try clear e8
     try clear e9
     try clear fu
     try clear b5
     try clear b7
     try clear cf
     try clear e0
     try clear e3
     try clear e4
     try clear e5
     try clear ea
     try clear ψ
     try clear ω
     try clear bf
     try clear ce
     try clear cm
     try clear cn
     try clear co
     try clear em
     try clear br
     try clear cp
     try clear cv
     try clear dj
     try clear dk
     try clear dl
     try clear du
     try clear dv
     try clear ao
     try clear ap
     try clear ax
     try clear bk
     try clear bl
     try clear bm
     try clear al
     try clear ba
     try clear aj
     try clear ab
     try clear a3
     try clear b1
     try clear b2
     try clear b4
     try clear b8
     try clear de
     try clear bi
     try clear bj
     try clear bq
     try clear d4
     try clear d5
     try clear d6
     try clear d7
     try clear ft
     try clear ca
     try clear cb
     try clear cr
     try clear ev
     try clear ew
     try clear fg
     try clear fh
     try clear fv
     try clear ch
     try clear cj
     try clear ck
     try clear eb
     try clear ec
     try clear ei
     try clear ek
     try clear el
     try clear a0
     try clear bb
     try clear cg
     try clear cy
     try clear cz
     try clear d8
     try clear df
     try clear eo
     try clear ct
     try clear cu
     try clear cw
     try clear dw
     try clear dz
     try clear eh
     try clear ej
     try clear en
     try clear p2
     obtain⟨δ,rfl,HA,ed,HO_44,HO_169005,HO_169006,HO_169007,η,HB⟩:=hrel
     cases gk with
     |zero=>exact absurd HA.out (by simp[collect_Check.l0])
     |succ k2=>
      have H:=HA.out
      clear HA
      simp only[collect_Check.l0] at H
      by_cases bc: δ < (ε.length:Int)
      ·rw[if_pos bc] at H
       have c20b0:decide (δ < (ε.length:Int))=true:=decide_eq_true bc
       clear bc
       by_cases σ:0 ≤ δ
       ·rw[if_pos σ] at H
        have c21b0:decide (0 ≤ δ)=true:=decide_eq_true σ
        clear σ
        by_cases cx: δ < (ε.length:Int)
        ·rw[if_pos cx] at H
         have c22b0:decide (δ < (ε.length:Int))=true:=decide_eq_true cx
         clear cx
         replace H:=Option.bind_eq_some_iff.mp H
         obtain⟨dq,jm,H⟩:=H
         replace H:(if dq=true then (collect_Check.l0 k2 ε (ε.length:Int) (wrap64 (δ + 1)) B J L Y Z O X γ) else (some 200))=some r:=H
         have na:=Aside0.mk jm
         clear jm
         by_cases bo:dq=true
         ·subst bo
          have H1:(collect_Check.l0 k2 ε (ε.length:Int) (wrap64 (δ + 1)) B J L Y Z O X γ)=some r:=by rw[if_pos rfl] at H;exact H
          clear H
          have H:=H1
          clear H1
          have H':=Aside0.mk H
          clear H
          have au:0≤(δ :Int):=of_decide_eq_true (by assumption)
          have av: δ < (ε.length:Int):=of_decide_eq_true (by assumption)
          obtain⟨fc,dh,di,ep,bs,an,ar⟩:=En (Kd.Jm HO_44.out).2.2 δ au av
          cases ep
          obtain⟨fe,dm,dn,b0⟩:=Kd.Eo HO_44.out [] δ au (by first|exact av|exact of_decide_eq_true (by assumption)|(have e_:=(Kd.Jm HO_44.out).1;omega))
          obtain⟨ey,ez,rfl,ν,ξ⟩:=Kd.Jx dn
          have μ :=b0 0 _ rfl
          rw[Nat.add_zero,show((Kd.slice 3 (Kd.int .i64))).sz=1 from rfl,Nat.mul_one] at μ
          replace μ :=Option.some.inj (μ.symm.trans bs)
          injection μ with hva_ hvn_ hvc_
          rw[hva_] at ξ
          rw[hvc_] at ν
          have f7:=Aside0.mk (show Kd.V (Kd.int .i64) 3 _ w.heap.size _ _ (Yv ε δ) from Kd.Gs ν ξ)
          clear hva_ hvn_ hvc_ ξ ν
          clear b0 dm
          have bu:=Aside0.mk ar
          have bv:=Aside0.mk an
          clear ar an
          replace au:=eq_true au
          replace av:=eq_true av
          obtain⟨fq,fw,fz,fr,ie,ig,ih,ci,fx,fy,gq,ii,ij,ik,il,h0⟩:=qD8 η.out
          go_wp2_with (first|((with_reducible refine Qd (f:=50) rfl ?_);refine Qn (some 53) rfl rfl Try.func50 kr rfl #[.slice dh (Yv ε δ).length di,.int .i64 B] rfl qM ?_;(with_reducible refine(collect_rising.calls k2 _ _ (Yv ε δ) B true _ ?side1 ?side2 na.out).mono ?_);(case side1=>exact bu.out);(case side2=>exact bv.out);rintro e w' ⟨rfl,⟨nd,rfl⟩⟩;refine⟨_,rfl, ?_⟩))
          go_roundg k2
          case measure=>have:=ff.out;have:=ed.out;omega
          case rel=>exact⟨(wrap64 (δ + 1)),qR,H',⟨by have:=ff.out;have:=ed.out;omega⟩,⟨by(with_reducible repeat(first|apply Kd.Wz|apply Kd.Wy|apply Kd.M4));exact HO_44.out⟩,⟨by(with_reducible repeat first|apply Kd.Zu|apply Kd.Zt|apply Kd.Xa);exact HO_169005.out⟩,⟨by(with_reducible repeat first|apply Kd.Zu|apply Kd.Zt|apply Kd.Xa);exact HO_169006.out⟩,⟨by(with_reducible repeat first|apply Kd.Zu|apply Kd.Zt|apply Kd.Xa);exact HO_169007.out⟩,⟨bka η⟩,⟨bel⟩⟩
         ·replace bo:=Bool.eq_false_iff.mpr bo
          subst bo
          have H1:(some 200)=some r:=by rw[if_neg (show ¬ (false=true) by decide)] at H;exact H
          clear H
          have H:=H1
          clear H1
          obtain rfl:=Option.some.inj H
          have au:0≤(δ :Int):=of_decide_eq_true (by assumption)
          have av: δ < (ε.length:Int):=of_decide_eq_true (by assumption)
          obtain⟨fc,dh,di,ep,bs,an,ar⟩:=En (Kd.Jm HO_44.out).2.2 δ au av
          cases ep
          obtain⟨fe,dm,dn,b0⟩:=Kd.Eo HO_44.out [] δ au (by first|exact av|exact of_decide_eq_true (by assumption)|(have e_:=(Kd.Jm HO_44.out).1;omega))
          obtain⟨ey,ez,rfl,ν,ξ⟩:=Kd.Jx dn
          have μ :=b0 0 _ rfl
          rw[Nat.add_zero,show((Kd.slice 3 (Kd.int .i64))).sz=1 from rfl,Nat.mul_one] at μ
          replace μ :=Option.some.inj (μ.symm.trans bs)
          injection μ with hva_ hvn_ hvc_
          rw[hva_] at ξ
          rw[hvc_] at ν
          have f7:=Aside0.mk (show Kd.V (Kd.int .i64) 3 _ w.heap.size _ _ (Yv ε δ) from Kd.Gs ν ξ)
          clear hva_ hvn_ hvc_ ξ ν
          clear b0 dm
          have bu:=Aside0.mk ar
          have bv:=Aside0.mk an
          clear ar an
          replace au:=eq_true au
          replace av:=eq_true av
          obtain⟨d9,da,dx,ee,ef,gf,gg,j4,db,dc,dy,gh,gi,gj,ic,j5⟩:=qD8 η.out
          go_wp2_with (first|((with_reducible refine Qd (f:=50) rfl ?_);refine Qn (some 53) rfl rfl Try.func50 kr rfl #[.slice dh (Yv ε δ).length di,.int .i64 B] rfl qM ?_;(with_reducible refine(collect_rising.calls k2 _ _ (Yv ε δ) B false _ ?side1 ?side2 na.out).mono ?_);(case side1=>exact bu.out);(case side2=>exact bv.out);rintro e w' ⟨rfl,⟨nd,rfl⟩⟩;refine⟨_,rfl, ?_⟩))
          go_ret
          exact⟨by first|rfl|(simp[Qh,Qg] <;> rfl)|(simp[*,Qh,Qg] <;> rfl),bel⟩
        ·rw[if_neg cx] at H
         exact absurd H (by simp)
       ·rw[if_neg σ] at H
        exact absurd H (by simp)
      ·rw[if_neg bc] at H
       have c20b0:decide (δ < (ε.length:Int))=false:=decide_eq_false bc
       clear bc
       obtain rfl:=Option.some.inj H
       go_wp2
       go_ret
       exact⟨rfl,HB.out⟩
mutual
def newelref20_rises.l0:Nat→List Int→Int→Int→Option (Bool)
 |0,_,_,_=>none
 |k+1,B,J,L=>if L<(B.length:Int) then (if 0≤L then (if (rd B L)<0 then (newelref20_rises.j1 k B J L true) else (newelref20_rises.j1 k B J L (decide ((rd B L)≥J)))) else (none)) else (some true)
def newelref20_rises.j1:Nat→List Int→Int→Int→Bool→Option (Bool)
 |0,_,_,_,_=>none
 |k+1,B,J,L,ν =>if ν = true then (some false) else (if L>0 then (if 0≤L then (if L<(B.length:Int) then (if 0≤(wrap64 (L-1)) then (if (wrap64 (L-1))<(B.length:Int) then (if (rd B L)≤(rd B (wrap64 (L-1))) then (some false) else (newelref20_rises.l0 k B J (wrap64 (L+1)))) else (none)) else (none)) else (none)) else (none)) else (newelref20_rises.l0 k B J (wrap64 (L+1))))
end
def newelref20_rises.f (k:Nat) (l0:List Int) (O:Int):Option (Bool):=newelref20_rises.l0 k l0 O 0
set_option maxHeartbeats 8000000 in
set_option maxRecDepth 100000 in
theorem newelref20_rises.calls (k:Nat) (Z:Option Addr) (c0:Nat) (l0:List Int) (O:Int) (r:Bool) (w:World) (ξ :Kd.C (Kd.int .i64) w Z l0.length l0) (γ:l0.length≤c0) (h:newelref20_rises.f k l0 O=some r):
  Calls Try.prog 55 #[.slice Z l0.length c0,.int .i64 O] w fun e w'=>e = .returned (.bool r)∧Drawn0 w w':=by
 have ι :=Aside0.mk ξ
 have ah:=Aside0.mk γ
 clear ξ γ
 have H:(newelref20_rises.l0 k l0 O 0)=some r:=h
 clear h
 have H':=Aside0.mk H
 clear H
 go_enter Try.func55,Try.ntmps55
 go_wp2
 repeat(go_quiet (fail);try go_wp2)
 go_loopg [5] k (fun kq v5 w'=>∃ (B:Int),v5 = .int .i64 B∧Aside0 (newelref20_rises.l0 kq l0 O B=some r)∧Aside0 (kq≤k)∧Drawn0 w w')
 case atStart=>exact⟨(0),rfl,H',⟨Nat.le_refl _⟩,by repeat(first|exact Drawn0.refl _|apply Drawn0.step)⟩
 case round=>
  clear H'
  try clear p2
  obtain⟨B,rfl,HA,an,⟨m1,rfl⟩⟩:=hrel
  cases gk with
  |zero=>exact absurd HA.out (by simp[newelref20_rises.l0])
  |succ k1=>
   have H:=HA.out
   clear HA
   simp only[newelref20_rises.l0] at H
   by_cases c3:B<(l0.length:Int)
   ·rw[if_pos c3] at H
    have c3b0:decide (B<(l0.length:Int))=true:=decide_eq_true c3
    clear c3
    have ct:=Aside0.mk H
    clear H
    go_upto_region 4 with(fail)
    repeat(go_quiet (fail);go_upto_region 4 with(fail))
    go_cut [24] (fun be wc=>∃ (kq:Nat) (η :Bool),be = .bool η ∧ Aside0 (newelref20_rises.j1 kq l0 O B η = some r)∧Aside0 (kq≤k1)∧Drawn0 w wc)
    case first=>
     have H:=ct.out
     clear ct
     by_cases c5:0≤B
     ·rw[if_pos c5] at H
      have c5b0:decide (0≤B)=true:=decide_eq_true c5
      clear c5
      (first|rw[c5b0]|(simp only[Za,Zb];rw[c5b0])|skip)
      by_cases c6:(rd l0 B)<0
      ·rw[if_pos c6] at H
       have c6b0:decide ((rd l0 B)<0)=true:=decide_eq_true c6
       clear c6
       have H':=Aside0.mk H
       clear H
       have L:0≤(B:Int):=of_decide_eq_true (by assumption)
       have X:B<(l0.length:Int):=of_decide_eq_true (by assumption)
       obtain⟨ψ,τ,κ⟩:=Kd.Xo ι.out B L X
       cases τ
       replace L:=eq_true L
       replace X:=eq_true X
       go_wp2
       repeat(go_quiet (fail);try go_wp2)
       go_meet
       case rel=>exact⟨_,(true),rfl,H',⟨by have:=an.out;omega⟩,by repeat(first|exact Drawn0.refl _|apply Drawn0.step)⟩
      ·rw[if_neg c6] at H
       have c6b0:decide ((rd l0 B)<0)=false:=decide_eq_false c6
       clear c6
       have H':=Aside0.mk H
       clear H
       have L:0≤(B:Int):=of_decide_eq_true (by assumption)
       have X:B<(l0.length:Int):=of_decide_eq_true (by assumption)
       obtain⟨ψ,τ,κ⟩:=Kd.Xo ι.out B L X
       cases τ
       replace L:=eq_true L
       replace X:=eq_true X
       have μ :0≤(B:Int):=of_decide_eq_true (by assumption)
       have ν :B<(l0.length:Int):=of_decide_eq_true (by assumption)
       obtain⟨a4,a6,ω⟩:=Kd.Xo ι.out B μ ν
       obtain rfl: ψ = a4:=(by injection a6)
       replace μ :=eq_true μ
       replace ν :=eq_true ν
       go_wp2
       repeat(go_quiet (fail);try go_wp2)
       go_meet
       case rel=>exact⟨_,(decide ((rd l0 B)≥O)),rfl,H',⟨by have:=an.out;omega⟩,by repeat(first|exact Drawn0.refl _|apply Drawn0.step)⟩
     ·rw[if_neg c5] at H
      exact absurd H (by simp)
    case rest=>
     clear ct
     try clear p2
     try clear q2
     try clear o4
     try clear c3
     try clear c3b0
     try clear c5
     try clear c5b0
     try clear c6
     try clear c6b0
     try clear κ
     try clear ω
     try clear p2
     try clear L
     try clear μ
     try clear X
     try clear ν
     obtain⟨kq,η,rfl,HA,dv,⟨a7,rfl⟩⟩:=hcut
     cases kq with
     |zero=>exact absurd HA.out (by simp[newelref20_rises.j1])
     |succ a5=>
      have H:=HA.out
      clear HA
      simp only[newelref20_rises.j1] at H
      by_cases c7: η = true
      ·subst c7
       have H1:(some false)=some r:=by rw[if_pos rfl] at H;exact H
       clear H
       have H:=H1
       clear H1
       obtain rfl:=Option.some.inj H
       go_wp2
       repeat(go_quiet (fail);try go_wp2)
       go_ret
       exact⟨qR,by repeat(first|exact Drawn0.refl _|apply Drawn0.step)⟩
      ·replace c7:=Bool.eq_false_iff.mpr c7
       subst c7
       have H1:(if B>0 then (if 0≤B then (if B<(l0.length:Int) then (if 0≤(wrap64 (B-1)) then (if (wrap64 (B-1))<(l0.length:Int) then (if (rd l0 B)≤(rd l0 (wrap64 (B-1))) then (some false) else (newelref20_rises.l0 a5 l0 O (wrap64 (B+1)))) else (none)) else (none)) else (none)) else (none)) else (newelref20_rises.l0 a5 l0 O (wrap64 (B+1))))=some r:=by rw[if_neg (show ¬ (false=true) by decide)] at H;exact H
       clear H
       have H:=H1
       clear H1
       by_cases c8:B>0
       ·rw[if_pos c8] at H
        have c8b0:decide (0<B)=true:=decide_eq_true c8
        clear c8
        by_cases c9:0≤B
        ·rw[if_pos c9] at H
         have c9b0:decide (0≤B)=true:=decide_eq_true c9
         clear c9
         by_cases c10:B<(l0.length:Int)
         ·rw[if_pos c10] at H
          have c10b0:decide (B<(l0.length:Int))=true:=decide_eq_true c10
          clear c10
          obtain⟨J,θ⟩:∃ j_:Int,(wrap64 (B-1))=j_:=⟨_,rfl⟩
          replace H:(if 0≤(J) then (if (J)<(l0.length:Int) then (if (rd l0 B)≤(rd l0 (J)) then (some false) else (newelref20_rises.l0 a5 l0 O (wrap64 (B+1)))) else (none)) else (none))=some r:=by first|(rw[θ] at H;exact H)|(simp only[θ] at H ⊢;exact H)
          have hji11w:(IntKind.i64.wrap (B-1))=J:=(Za _).trans θ
          by_cases ae:0≤(J)
          ·rw[if_pos ae] at H
           have c12b0:decide (0≤(J))=true:=decide_eq_true ae
           clear ae
           by_cases a2:(J)<(l0.length:Int)
           ·rw[if_pos a2] at H
            have c13b0:decide ((J)<(l0.length:Int))=true:=decide_eq_true a2
            clear a2
            by_cases ag:(rd l0 B)≤(rd l0 (J))
            ·rw[if_pos ag] at H
             have c14b0:decide ((rd l0 B)≤(rd l0 (J)))=true:=decide_eq_true ag
             clear ag
             obtain rfl:=Option.some.inj H
             have Y:0≤(B:Int):=of_decide_eq_true (by assumption)
             have δ :B<(l0.length:Int):=of_decide_eq_true (by assumption)
             obtain⟨ρ,φ,a0⟩:=Kd.Xo ι.out B Y δ
             cases φ
             replace Y:=eq_true Y
             replace δ :=eq_true δ
             have ε :0≤((J):Int):=of_decide_eq_true (by assumption)
             have ζ :(J)<(l0.length:Int):=of_decide_eq_true (by assumption)
             obtain⟨σ,χ,a3⟩:=Kd.Xo ι.out (J) ε ζ
             obtain rfl:ρ=σ:=(by injection χ)
             replace ε :=eq_true ε
             replace ζ :=eq_true ζ
             go_wp2
             repeat(go_quiet (fail);try go_wp2)
             go_ret
             exact⟨by first|rfl|(simp;done)|(simp only[← θ] <;> (first|rfl|simp))|(simp[*];done),by repeat(first|exact Drawn0.refl _|apply Drawn0.step)⟩
            ·rw[if_neg ag] at H
             have c14b0:decide ((rd l0 B)≤(rd l0 (J)))=false:=decide_eq_false ag
             clear ag
             have H':=Aside0.mk H
             clear H
             have Y:0≤(B:Int):=of_decide_eq_true (by assumption)
             have δ :B<(l0.length:Int):=of_decide_eq_true (by assumption)
             obtain⟨ρ,φ,a0⟩:=Kd.Xo ι.out B Y δ
             cases φ
             replace Y:=eq_true Y
             replace δ :=eq_true δ
             have ε :0≤((J):Int):=of_decide_eq_true (by assumption)
             have ζ :(J)<(l0.length:Int):=of_decide_eq_true (by assumption)
             obtain⟨σ,χ,a3⟩:=Kd.Xo ι.out (J) ε ζ
             obtain rfl:ρ=σ:=(by injection χ)
             replace ε :=eq_true ε
             replace ζ :=eq_true ζ
             go_wp2
             repeat(go_quiet (fail);try go_wp2)
             go_roundg a5
             case measure=>have:=an.out;have:=dv.out;omega
             case rel=>exact⟨(wrap64 (B+1)),rfl,H',⟨by have:=an.out;have:=dv.out;omega⟩,by repeat(first|exact Drawn0.refl _|apply Drawn0.step)⟩
           ·rw[if_neg a2] at H
            exact absurd H (by simp)
          ·rw[if_neg ae] at H
           exact absurd H (by simp)
         ·rw[if_neg c10] at H
          exact absurd H (by simp)
        ·rw[if_neg c9] at H
         exact absurd H (by simp)
       ·rw[if_neg c8] at H
        have c8b0:decide (0<B)=false:=decide_eq_false c8
        clear c8
        have H':=Aside0.mk H
        clear H
        go_wp2
        repeat(go_quiet (fail);try go_wp2)
        go_roundg a5
        case measure=>have:=an.out;have:=dv.out;omega
        case rel=>exact⟨(wrap64 (B+1)),rfl,H',⟨by have:=an.out;have:=dv.out;omega⟩,by repeat(first|exact Drawn0.refl _|apply Drawn0.step)⟩
   ·rw[if_neg c3] at H
    have c3b0:decide (B<(l0.length:Int))=false:=decide_eq_false c3
    clear c3
    obtain rfl:=Option.some.inj H
    go_wp2
    repeat(go_quiet (fail);try go_wp2)
    go_ret
    exact⟨qR,by repeat(first|exact Drawn0.refl _|apply Drawn0.step)⟩
def newelref20_View.f (k:Nat) (B:Int) (L:List Int) (O:List Int) (J:List Int):Option (Bool):=(newelref20_rises.f k L B).bind fun Z=>((newelref20_rises.f k O B).bind fun Y=>((newelref20_rises.f k J B).bind fun X=>(if Z=true then (if Y=true then (some X) else (some false)) else (some false))))
set_option maxHeartbeats 8000000 in
set_option maxRecDepth 100000 in
theorem newelref20_View.calls (k:Nat) (B:Int) (θ :Option Addr) (δ :Nat) (L:List Int) (ι :Option Addr) (η :Nat) (O:List Int) (γ:Option Addr) (ε :Nat) (J:List Int) (r:Bool) (w:World) (ac:Kd.C (Kd.int .i64) w θ L.length L) (ar:L.length ≤ δ) (au:Kd.C (Kd.int .i64) w ι O.length O) (av:O.length ≤ η) (ν :Kd.C (Kd.int .i64) w γ J.length J) (ξ :J.length ≤ ε) (h:newelref20_View.f k B L O J=some r):
  Calls Try.prog 33 #[.int .i64 B,.agg #[.slice θ L.length δ,.slice ι O.length η,.slice γ J.length ε]] w fun e w'=>e = .returned (.bool r)∧Below w.heap.size w w':=by
 have f7:=Try.underlying34
 have τ :=Aside0.mk ac
 have a1:=Aside0.mk ar
 clear ac ar
 have φ :=Aside0.mk au
 have a7:=Aside0.mk av
 clear au av
 have κ :=Aside0.mk ν
 have μ :=Aside0.mk ξ
 clear ν ξ
 have HB:=Aside0.mk (Below.refl w.heap.size w)
 have H:((newelref20_rises.f k L B).bind fun Z=>((newelref20_rises.f k O B).bind fun Y=>((newelref20_rises.f k J B).bind fun X=>(if Z=true then (if Y=true then (some X) else (some false)) else (some false)))))=some r:=h
 clear h
 replace H:=Option.bind_eq_some_iff.mp H
 obtain⟨Z,aa,H⟩:=H
 replace H:((newelref20_rises.f k O B).bind fun Y=>((newelref20_rises.f k J B).bind fun X=>(if Z=true then (if Y=true then (some X) else (some false)) else (some false))))=some r:=H
 have A3:=Aside0.mk aa
 clear aa
 replace H:=Option.bind_eq_some_iff.mp H
 obtain⟨Y,cg,H⟩:=H
 replace H:((newelref20_rises.f k J B).bind fun X=>(if Z=true then (if Y=true then (some X) else (some false)) else (some false)))=some r:=H
 have A4:=Aside0.mk cg
 clear cg
 replace H:=Option.bind_eq_some_iff.mp H
 obtain⟨X,b3,H⟩:=H
 replace H:(if Z=true then (if Y=true then (some X) else (some false)) else (some false))=some r:=H
 have A5:=Aside0.mk b3
 clear b3
 by_cases c6:Z=true
 ·subst c6
  have H1:(if Y=true then (some X) else (some false))=some r:=by rw[if_pos rfl] at H;exact H
  clear H
  have H:=H1
  clear H1
  by_cases c7:Y=true
  ·subst c7
   have H1:(some X)=some r:=by rw[if_pos rfl] at H;exact H
   clear H
   have H:=H1
   clear H1
   obtain rfl:=Option.some.inj H
   go_enter Try.func33,Try.ntmps33
   go_wp2_with (first|((with_reducible refine Qe (N:=3) rfl ?_);refine qE 3 #[.slice θ L.length δ,.slice ι O.length η,.slice γ J.length ε] 34 ?_;intro ρ hg w8 hbox hb;have ζ :=Aside0.mk hbox;have σ:=sGe hg;have χ :=sGe hg;replace HB:=sHb hb;clear hb hbox hg;obtain⟨br,cp,cv,ct,cu,cw⟩:=qD3 ζ.out)|((with_reducible refine Qd (f:=55) rfl ?_);refine Qn (some 11) rfl rfl Try.func55 kr rfl #[.slice θ L.length δ,.int .i64 B] rfl qM ?_;(with_reducible refine(newelref20_rises.calls k _ _ L B true _ ?side1 ?side2 A3.out).mono ?_);(case side1=>repeat(first|exact(Kd.Qp τ.out HB.out)|(with_reducible refine Kd.Xm ?_ _)|(with_reducible refine Kd.Xl ?_ _)|(with_reducible refine Kd.Xz ?_)));(case side2=>exact a1.out);rintro e w' ⟨rfl,⟨nd,rfl⟩⟩;refine⟨_,rfl, ?_⟩)|((with_reducible refine Qd (f:=55) rfl ?_);refine Qn (some 15) rfl rfl Try.func55 kr rfl #[.slice ι O.length η,.int .i64 B] rfl qM ?_;(with_reducible refine(newelref20_rises.calls k _ _ O B true _ ?side1 ?side2 A4.out).mono ?_);(case side1=>repeat(first|exact(Kd.Qp φ.out bel)|(with_reducible refine Kd.Xm ?_ _)|(with_reducible refine Kd.Xl ?_ _)|(with_reducible refine Kd.Xz ?_)));(case side2=>exact a7.out);rintro e w' ⟨rfl,⟨nd,rfl⟩⟩;refine⟨_,rfl, ?_⟩)|((with_reducible refine Qd (f:=55) rfl ?_);refine Qn (some 19) rfl rfl Try.func55 kr rfl #[.slice γ J.length ε,.int .i64 B] rfl qM ?_;(with_reducible refine(newelref20_rises.calls k _ _ J B X _ ?side1 ?side2 A5.out).mono ?_);(case side1=>repeat(first|exact(Kd.Qp κ.out bel)|(with_reducible refine Kd.Xm ?_ _)|(with_reducible refine Kd.Xl ?_ _)|(with_reducible refine Kd.Xz ?_)));(case side2=>exact μ.out);rintro e w' ⟨rfl,⟨nd,rfl⟩⟩;refine⟨_,rfl, ?_⟩))
   go_ret
   exact⟨by first|rfl|(simp[Qh,Qg] <;> rfl)|(simp[*,Qh,Qg] <;> rfl),bel⟩
  ·replace c7:=Bool.eq_false_iff.mpr c7
   subst c7
   have H1:(some false)=some r:=by rw[if_neg (show ¬ (false=true) by decide)] at H;exact H
   clear H
   have H:=H1
   clear H1
   obtain rfl:=Option.some.inj H
   go_enter Try.func33,Try.ntmps33
   go_wp2_with (first|((with_reducible refine Qe (N:=3) rfl ?_);refine qE 3 #[.slice θ L.length δ,.slice ι O.length η,.slice γ J.length ε] 34 ?_;intro ρ hg fg hbox hb;have ζ :=Aside0.mk hbox;have σ:=sGe hg;have χ :=sGe hg;replace HB:=sHb hb;clear hb hbox hg;obtain⟨ah,ak,aw,ao,ap,ax⟩:=qD3 ζ.out)|((with_reducible refine Qd (f:=55) rfl ?_);refine Qn (some 11) rfl rfl Try.func55 kr rfl #[.slice θ L.length δ,.int .i64 B] rfl qM ?_;(with_reducible refine(newelref20_rises.calls k _ _ L B true _ ?side1 ?side2 A3.out).mono ?_);(case side1=>repeat(first|exact(Kd.Qp τ.out HB.out)|(with_reducible refine Kd.Xm ?_ _)|(with_reducible refine Kd.Xl ?_ _)|(with_reducible refine Kd.Xz ?_)));(case side2=>exact a1.out);rintro e w' ⟨rfl,⟨nd,rfl⟩⟩;refine⟨_,rfl, ?_⟩)|((with_reducible refine Qd (f:=55) rfl ?_);refine Qn (some 15) rfl rfl Try.func55 kr rfl #[.slice ι O.length η,.int .i64 B] rfl qM ?_;(with_reducible refine(newelref20_rises.calls k _ _ O B false _ ?side1 ?side2 A4.out).mono ?_);(case side1=>repeat(first|exact(Kd.Qp φ.out bel)|(with_reducible refine Kd.Xm ?_ _)|(with_reducible refine Kd.Xl ?_ _)|(with_reducible refine Kd.Xz ?_)));(case side2=>exact a7.out);rintro e w' ⟨rfl,⟨nd,rfl⟩⟩;refine⟨_,rfl, ?_⟩)|((with_reducible refine Qd (f:=55) rfl ?_);refine Qn (some 19) rfl rfl Try.func55 kr rfl #[.slice γ J.length ε,.int .i64 B] rfl qM ?_;(with_reducible refine(newelref20_rises.calls k _ _ J B X _ ?side1 ?side2 A5.out).mono ?_);(case side1=>repeat(first|exact(Kd.Qp κ.out bel)|(with_reducible refine Kd.Xm ?_ _)|(with_reducible refine Kd.Xl ?_ _)|(with_reducible refine Kd.Xz ?_)));(case side2=>exact μ.out);rintro e w' ⟨rfl,⟨nd,rfl⟩⟩;refine⟨_,rfl, ?_⟩))
   go_ret
   exact⟨by first|rfl|(simp[Qh,Qg] <;> rfl)|(simp[*,Qh,Qg] <;> rfl),bel⟩
 ·replace c6:=Bool.eq_false_iff.mpr c6
  subst c6
  have H1:(some false)=some r:=by rw[if_neg (show ¬ (false=true) by decide)] at H;exact H
  clear H
  have H:=H1
  clear H1
  obtain rfl:=Option.some.inj H
  go_enter Try.func33,Try.ntmps33
  go_wp2_with (first|((with_reducible refine Qe (N:=3) rfl ?_);refine qE 3 #[.slice θ L.length δ,.slice ι O.length η,.slice γ J.length ε] 34 ?_;intro ρ hg er hbox hb;have ζ :=Aside0.mk hbox;have σ:=sGe hg;have χ :=sGe hg;replace HB:=sHb hb;clear hb hbox hg;obtain⟨ai,a6,a2,aj,ab,a3⟩:=qD3 ζ.out)|((with_reducible refine Qd (f:=55) rfl ?_);refine Qn (some 11) rfl rfl Try.func55 kr rfl #[.slice θ L.length δ,.int .i64 B] rfl qM ?_;(with_reducible refine(newelref20_rises.calls k _ _ L B false _ ?side1 ?side2 A3.out).mono ?_);(case side1=>repeat(first|exact(Kd.Qp τ.out HB.out)|(with_reducible refine Kd.Xm ?_ _)|(with_reducible refine Kd.Xl ?_ _)|(with_reducible refine Kd.Xz ?_)));(case side2=>exact a1.out);rintro e w' ⟨rfl,⟨nd,rfl⟩⟩;refine⟨_,rfl, ?_⟩)|((with_reducible refine Qd (f:=55) rfl ?_);refine Qn (some 15) rfl rfl Try.func55 kr rfl #[.slice ι O.length η,.int .i64 B] rfl qM ?_;(with_reducible refine(newelref20_rises.calls k _ _ O B Y _ ?side1 ?side2 A4.out).mono ?_);(case side1=>repeat(first|exact(Kd.Qp φ.out bel)|(with_reducible refine Kd.Xm ?_ _)|(with_reducible refine Kd.Xl ?_ _)|(with_reducible refine Kd.Xz ?_)));(case side2=>exact a7.out);rintro e w' ⟨rfl,⟨nd,rfl⟩⟩;refine⟨_,rfl, ?_⟩)|((with_reducible refine Qd (f:=55) rfl ?_);refine Qn (some 19) rfl rfl Try.func55 kr rfl #[.slice γ J.length ε,.int .i64 B] rfl qM ?_;(with_reducible refine(newelref20_rises.calls k _ _ J B X _ ?side1 ?side2 A5.out).mono ?_);(case side1=>repeat(first|exact(Kd.Qp κ.out bel)|(with_reducible refine Kd.Xm ?_ _)|(with_reducible refine Kd.Xl ?_ _)|(with_reducible refine Kd.Xz ?_)));(case side2=>exact μ.out);rintro e w' ⟨rfl,⟨nd,rfl⟩⟩;refine⟨_,rfl, ?_⟩))
  go_ret
  exact⟨by first|rfl|(simp[Qh,Qg] <;> rfl)|(simp[*,Qh,Qg] <;> rfl),bel⟩
end Go.Proofs.Ytmfffemidlhcpaa.C
namespace Go.Proofs.Ytmfffemidlhcpaa.ColPure
open Go.RowKit Go.Proofs.YtmfffemidlhcpaaW.PrintWords Go.Proofs.YtmfffemidlhcpaaW.PrintLast Go.Proofs.YtmfffemidlhcpaaW.PrintMore Go.Proofs.Ytmfffemidlhcpaa.C
set_option linter.unusedVariables false
theorem Wm (l:List Int) (i:Nat) (h:i<l.length):rd l (i:Int)=l[i]:=by
  simp[rd,h]
theorem up1 {i:Nat} (h:i≤1000000):wrap64 ((i:Int)+1)=((i+1:Nat):Int):=by unfold wrap64;omega
theorem w64 {n:Int} (h: -1000000≤n) (L:n≤1000000):wrap64 n=n:=by unfold wrap64;omega
theorem Kh (l:List Int) (i:Nat) (h:i<l.length):l.drop i=l[i] :: l.drop (i+1):=List.drop_eq_getElem_cons h
def X2 (fl:Int):Int→List Int→Bool
  |_,[]=>true
  |p,x :: xs=>decide (p<x∧x<fl)&&X2 fl x xs
def X3 (l:List Int) (i:Nat):Int:=if i=0 then -1 else rd l ((i-1:Nat):Int)
theorem Jq (l:List Int) (i:Nat) (h:i<l.length):X3 l (i+1)=l[i]:=by
  unfold X3
  rw[if_neg (by omega),Nat.add_sub_cancel,Wm l i h]
theorem Ub (l:List Int) (fl:Int) (hm:l.length≤1000) (j:Nat):∀ (f i:Nat),i+j=l.length→j<f → -1≤X3 l i→collect_rising.l0 f l fl l (l.length:Int) (i:Int)=some (X2 fl (X3 l i) (l.drop i)):=by
  induction j with
  |zero=>
    intro f i hi hf hp
    obtain⟨f,rfl⟩:∃ m,f=m+1:=⟨f-1,by omega⟩
    rw[collect_rising.l0,if_neg (by omega),List.drop_of_length_le (by omega)]
    rfl
  |succ j ih=>
    intro f i hi hf hp
    obtain⟨f,rfl⟩:∃ m,f=m+1:=⟨f-1,by omega⟩
    have ha:i<l.length:=by omega
    have go:0≤l[i]→collect_rising.l0 f l fl l (l.length:Int) (wrap64 ((i:Int)+1))=some (X2 fl l[i] (l.drop (i+1))):=by
      intro X
      rw[up1 (by omega),ih f (i+1) (by omega) (by omega) (by rw[Jq l i ha];omega),Jq l i ha]
    rw[collect_rising.l0,if_pos (by omega),if_pos (by omega),if_pos (by omega),Wm l i ha,Kh l i ha,X2]
    by_cases c1:l[i]<0
    · rw[if_pos c1,decide_eq_false (by omega),Bool.false_and]
    rw[if_neg c1]
    by_cases c2:l[i]≥fl
    · rw[if_pos c2,decide_eq_false (by omega),Bool.false_and]
    rw[if_neg c2]
    by_cases c3:i=0
    · have hv:X3 l i = -1:=by unfold X3;rw[if_pos c3]
      rw[if_neg (by omega),go (by omega),hv,decide_eq_true (by omega),Bool.true_and]
    · have ew:wrap64 ((i:Int)-1)=((i-1:Nat):Int):=by rw[w64 (by omega) (by omega)];omega
      have hv:X3 l i=rd l ((i-1:Nat):Int):=by unfold X3;rw[if_neg c3]
      rw[if_pos (by omega),ew,if_pos (by omega),if_pos (by omega),← hv]
      by_cases c4:X3 l i≥l[i]
      · rw[if_pos c4,decide_eq_false (by omega),Bool.false_and]
      · rw[if_neg c4,go (by omega),decide_eq_true (by omega),Bool.true_and]
theorem Km (l:List Int) (fl:Int) (hm:l.length≤1000) (f:Nat) (hf:l.length<f):collect_rising.f f l fl=some (X2 fl (-1) l):=by
  have:=Ub l fl hm l.length f 0 (by omega) hf (by unfold X3;rw[if_pos rfl];exact Int.le_refl _)
  rw[List.drop_zero] at this
  exact this
structure Few (I U D:List Int):Prop where
  i:I.length≤600
  u:U.length≤600
  d:D.length≤600
variable {I U D : List Int}
def G2 (fl f d:Int) (I U D:List Int):Bool:=X2 fl (-1) I&&X2 fl (-1) U&&X2 fl (-1) D&&decide (2≤fl∧fl≤64∧0≤f∧f<fl ∧ -1≤d∧d≤1)
theorem Wb (h:Few I U D) (fl f d:Int) (su sd:Bool) (k:Nat) (hk:1500≤k):collect_Check.j0 k false fl f d su sd I U D=some (if X2 fl (-1) I&&X2 fl (-1) U&&X2 fl (-1) D then 0 else 200):=by
  have:=h.i;have:=h.u;have:=h.d
  obtain⟨k,rfl⟩:∃ m,k=m+5:=⟨k-5,by omega⟩
  rw[collect_Check.j0,if_neg (by decide),Option.bind_some]
  have e1:wrap64 (0+1)=1:=w64 (by omega) (by omega)
  have e2:wrap64 (1+1)=2:=w64 (by omega) (by omega)
  have Z:wrap64 (2+1)=3:=w64 (by omega) (by omega)
  have el:(([I,U,D]:List (List Int)).length:Int)=3:=rfl
  have r0:Yv [I,U,D] 0=I:=rfl
  have r1:Yv [I,U,D] 1=U:=rfl
  have r2:Yv [I,U,D] 2=D:=rfl
  rw[el]
  rw[collect_Check.l0,if_pos (by decide),if_pos (by decide),el,if_pos (by decide),r0,Km I fl (by omega) _ (by omega),Option.bind_some]
  cases X2 fl (-1) I
  · rfl
  rw[if_pos rfl,e1,collect_Check.l0,if_pos (by decide),if_pos (by decide),el,if_pos (by decide),r1,Km U fl (by omega) _ (by omega),Option.bind_some]
  cases X2 fl (-1) U
  · rfl
  rw[if_pos rfl,e2,collect_Check.l0,if_pos (by decide),if_pos (by decide),el,if_pos (by decide),r2,Km D fl (by omega) _ (by omega),Option.bind_some]
  cases X2 fl (-1) D
  · rfl
  rw[if_pos rfl,Z,collect_Check.l0,if_neg (by decide)]
  rfl
theorem Lv (fl f d:Int) (su sd:Bool) (k:Nat) (hk:1500≤k):collect_Check.j0 k true fl f d su sd I U D=some 200:=by
  obtain⟨k,rfl⟩:∃ m,k=m+1:=⟨k-1,by omega⟩
  rw[collect_Check.j0,if_pos rfl]
theorem Ym (h:Few I U D) (fl f d:Int) (su sd:Bool) (k:Nat) (hk:1500≤k):collect_Check.f k fl f d su sd I U D=some (if G2 fl f d I U D then 0 else 200):=by
  unfold collect_Check.f
  have bad:=Lv (I:=I) (U:=U) (D:=D) fl f d su sd k hk
  by_cases c1:fl<2
  · rw[if_pos c1,bad]
    unfold G2
    rw[decide_eq_false (by omega),Bool.and_false]
    rfl
  rw[if_neg c1]
  by_cases c2:fl>64
  · rw[if_pos c2,bad]
    unfold G2
    rw[decide_eq_false (by omega),Bool.and_false]
    rfl
  rw[if_neg c2]
  by_cases c3:f<0
  · rw[if_pos c3,bad]
    unfold G2
    rw[decide_eq_false (by omega),Bool.and_false]
    rfl
  rw[if_neg c3]
  by_cases c4:f≥fl
  · rw[if_pos c4,bad]
    unfold G2
    rw[decide_eq_false (by omega),Bool.and_false]
    rfl
  rw[if_neg c4]
  by_cases c5:d < -1
  · rw[if_pos c5,bad]
    unfold G2
    rw[decide_eq_false (by omega),Bool.and_false]
    rfl
  rw[if_neg c5]
  by_cases c6:d>1
  · rw[decide_eq_true c6,bad]
    unfold G2
    rw[decide_eq_false (by omega),Bool.and_false]
    rfl
  · rw[decide_eq_false c6,Wb h fl f d su sd k hk]
    unfold G2
    rw[decide_eq_true (by omega),Bool.and_true]
theorem U2 (l:List Int) (fl:Int) (hm:l.length≤1000) (j:Nat):∀ (f i:Nat),i+j=l.length→2 * j+1<f → -1≤X3 l i→newelref20_rises.l0 f l fl (i:Int)=some (X2 fl (X3 l i) (l.drop i)):=by
  induction j with
  |zero=>
    intro f i hi hf hp
    obtain⟨f,rfl⟩:∃ m,f=m+1:=⟨f-1,by omega⟩
    rw[newelref20_rises.l0,if_neg (by omega),List.drop_of_length_le (by omega)]
    rfl
  |succ j ih=>
    intro f i hi hf hp
    obtain⟨f,rfl⟩:∃ m,f=m+2:=⟨f-2,by omega⟩
    have ha:i<l.length:=by omega
    have go:0≤l[i]→newelref20_rises.l0 f l fl (wrap64 ((i:Int)+1))=some (X2 fl l[i] (l.drop (i+1))):=by
      intro X
      rw[up1 (by omega),ih f (i+1) (by omega) (by omega) (by rw[Jq l i ha];omega),Jq l i ha]
    have bad:newelref20_rises.j1 (f+1) l fl (i:Int) true=some false:=by
      rw[newelref20_rises.j1,if_pos rfl]
    have good:0≤l[i]→l[i]<fl→newelref20_rises.j1 (f+1) l fl (i:Int) false=some (X2 fl (X3 l i) (l.drop i)):=by
      intro X h1
      rw[newelref20_rises.j1,if_neg (by decide),Kh l i ha,X2]
      by_cases c3:i=0
      · have hv:X3 l i = -1:=by unfold X3;rw[if_pos c3]
        rw[if_neg (by omega),go (by omega),hv,decide_eq_true (by omega),Bool.true_and]
      · have ew:wrap64 ((i:Int)-1)=((i-1:Nat):Int):=by rw[w64 (by omega) (by omega)];omega
        have hv:X3 l i=rd l ((i-1:Nat):Int):=by unfold X3;rw[if_neg c3]
        rw[if_pos (by omega),if_pos (by omega),if_pos (by omega),ew,if_pos (by omega),if_pos (by omega),← hv,Wm l i ha]
        by_cases c4:l[i]≤X3 l i
        · rw[if_pos c4,decide_eq_false (by omega),Bool.false_and]
        · rw[if_neg c4,go (by omega),decide_eq_true (by omega),Bool.true_and]
    rw[newelref20_rises.l0,if_pos (by omega),if_pos (by omega),Wm l i ha]
    by_cases c1:l[i]<0
    · rw[if_pos c1,bad,Kh l i ha,X2,decide_eq_false (by omega),Bool.false_and]
    rw[if_neg c1]
    by_cases c2:l[i]≥fl
    · rw[decide_eq_true c2,bad,Kh l i ha,X2,decide_eq_false (by omega),Bool.false_and]
    · rw[decide_eq_false c2,good (by omega) (by omega)]
theorem Ga (l:List Int) (fl:Int) (hm:l.length≤1000) (f:Nat) (hf:2 * l.length+1<f):newelref20_rises.f f l fl=some (X2 fl (-1) l):=by
  have:=U2 l fl hm l.length f 0 (by omega) hf (by unfold X3;rw[if_pos rfl];exact Int.le_refl _)
  rw[List.drop_zero] at this
  exact this
theorem Na (h:Few I U D) (fl:Int) (k:Nat) (hk:1500≤k):newelref20_View.f k fl I U D=some (X2 fl (-1) I&&(X2 fl (-1) U&&X2 fl (-1) D)):=by
  have:=h.i;have:=h.u;have:=h.d
  unfold newelref20_View.f
  rw[Ga I fl (by omega) k (by omega),Ga U fl (by omega) k (by omega),Ga D fl (by omega) k (by omega)]
  simp only[Option.bind_some]
  cases X2 fl (-1) I <;> cases X2 fl (-1) U <;> simp
end Go.Proofs.Ytmfffemidlhcpaa.ColPure
namespace Go.Proofs.Ytmfffemidlhcpaa.K
open Go.RowKit Go.Proofs.YtmfffemidlhcpaaW.PrintWords Go.Proofs.YtmfffemidlhcpaaW.PrintLast Go.Proofs.YtmfffemidlhcpaaW.PrintMore
attribute [local go_sem] Zz Zx Z9 Z8 Zq Zp Zy Zw
set_option linter.unusedVariables false
set_option linter.unusedSimpArgs false
def Ms:Option Int→Value
 |none=>.nilIface
 |some c=>.iface 0 (.int .i64 c)
theorem Qh:Ms none = .nilIface:=rfl
theorem Qg (c:Int):Ms (some c) = .iface 0 (.int .i64 c):=rfl
theorem Wq:(Try.prog.info? 3).map (fun i=>(i.zero,i.size,i.bytes))=some (some (.int .i64 0),1,8):=by kernel_rfl
structure S36 where
 f0:Int
 f1:Int
 f2:Int
def z36:S36:=⟨(0:Int),(0:Int),(0:Int)⟩
def k36:Kd S36:=Kd.iso (Kd.pair (Kd.int .i64) (Kd.pair (Kd.int .i64) (Kd.int .i64))) (fun x:S36=>(x.f0,x.f1,x.f2))
theorem Kf {w:World} {x:S36} {cs:List Value} (h:k36.K w x cs):cs = [.int .i64 x.f0,.int .i64 x.f1,.int .i64 x.f2]:=by
 obtain⟨_,_,rfl,rfl,⟨_,_,rfl,rfl,rfl⟩⟩:=h
 exact rfl
theorem Yb {w:World} {base:Nat} {ok:Nat→Prop} {x:S36} {cs:List Value} (h:k36.M w base ok x cs):cs = [.int .i64 x.f0,.int .i64 x.f1,.int .i64 x.f2]:=by
 obtain⟨_,_,rfl,rfl,⟨_,_,rfl,rfl,rfl⟩⟩:=h
 exact rfl
theorem Kg (w:World) (base:Nat) (ok:Nat→Prop) (x:S36):k36.M w base ok x [.int .i64 x.f0,.int .i64 x.f1,.int .i64 x.f2]:=⟨[.int .i64 x.f0],[.int .i64 x.f1,.int .i64 x.f2],rfl,rfl,⟨[.int .i64 x.f1],[.int .i64 x.f2],rfl,rfl,rfl⟩⟩
def Qc (xs:List S36) (i:Int):S36:=xs.getD i.toNat z36
theorem Xy {w:World} {A:Option Addr} {n:Nat} {xs:List S36} (h:Kd.C k36 w A n xs) (i:Int) (X:0≤i) (h1:i<n):∃ ad,A=some ad∧w.cell? (ad.add (i.toNat * 3))=some (.int .i64 (Qc xs i).f0)∧w.cell? ⟨(ad.add (i.toNat * 3)).block,(ad.add (i.toNat * 3)).off+1,none⟩=some (.int .i64 (Qc xs i).f1)∧w.cell? ⟨(ad.add (i.toNat * 3)).block,(ad.add (i.toNat * 3)).off+2,none⟩=some (.int .i64 (Qc xs i).f2):=by
 obtain⟨ad,c,e,_,hK,γ⟩:=Kd.Vd h z36 i X h1
 have hc:∀ j u,c[j]?=some u→w.cell? (ad.add (i.toNat * 3+j))=some u:=γ
 obtain rfl:=Kf hK
 exact⟨ad,e,hc 0 _ rfl,by rw[← Z0 _ _ 1 (by omega)];exact hc 1 _ rfl,by rw[← Z0 _ _ 2 (by omega)];exact hc 2 _ rfl⟩
structure S86 where
 f0:Int
 f1:Int
def z86:S86:=⟨(0:Int),(0:Int)⟩
def k86:Kd S86:=Kd.iso (Kd.pair (Kd.int .i64) (Kd.int .i64)) (fun x:S86=>(x.f0,x.f1))
theorem Ke {w:World} {x:S86} {cs:List Value} (h:k86.K w x cs):cs = [.int .i64 x.f0,.int .i64 x.f1]:=by
 obtain⟨_,_,rfl,rfl,rfl⟩:=h
 exact rfl
theorem Js {w:World} {base:Nat} {ok:Nat→Prop} {x:S86} {cs:List Value} (h:k86.M w base ok x cs):cs = [.int .i64 x.f0,.int .i64 x.f1]:=by
 obtain⟨_,_,rfl,rfl,rfl⟩:=h
 exact rfl
theorem Mj (w:World) (x:S86):k86.K w x [.int .i64 x.f0,.int .i64 x.f1]:=⟨[.int .i64 x.f0],[.int .i64 x.f1],rfl,rfl,rfl⟩
theorem Vn (w:World) (base:Nat) (ok:Nat→Prop) (x:S86):k86.M w base ok x [.int .i64 x.f0,.int .i64 x.f1]:=⟨[.int .i64 x.f0],[.int .i64 x.f1],rfl,rfl,rfl⟩
def Qo (xs:List S86) (i:Int):S86:=xs.getD i.toNat z86
theorem Y9 {w:World} {A:Option Addr} {n:Nat} {xs:List S86} (h:Kd.C k86 w A n xs) (i:Int) (X:0≤i) (h1:i<n):∃ ad,A=some ad∧w.cell? (ad.add (i.toNat * 2))=some (.int .i64 (Qo xs i).f0)∧w.cell? ⟨(ad.add (i.toNat * 2)).block,(ad.add (i.toNat * 2)).off+1,none⟩=some (.int .i64 (Qo xs i).f1):=by
 obtain⟨ad,c,e,_,hK,γ⟩:=Kd.Vd h z86 i X h1
 have hc:∀ j u,c[j]?=some u→w.cell? (ad.add (i.toNat * 2+j))=some u:=γ
 obtain rfl:=Ke hK
 exact⟨ad,e,hc 0 _ rfl,by rw[← Z0 _ _ 1 (by omega)];exact hc 1 _ rfl⟩
def cmp_Or_int.l0:Nat→Int→List Int→Int→Int→Option (Int)
 |0,_,_,_,_=>none
 |k+1,B,Z,Y,O=>if O<Y then (if 0≤O then (if O<(Z.length:Int) then (if (rd Z O)=B then (cmp_Or_int.l0 k B Z Y (wrap64 (O+1))) else (some (rd Z O))) else (none)) else (none)) else (some B)
def cmp_Or_int.f (k:Nat) (l0:List Int):Option (Int):=cmp_Or_int.l0 k 0 l0 (l0.length:Int) 0
set_option maxHeartbeats 8000000 in
set_option maxRecDepth 100000 in
theorem cmp_Or_int.calls (k:Nat) (Z:Option Addr) (c0:Nat) (l0:List Int) (r:Int) (w:World) (ξ :Kd.C (Kd.int .i64) w Z l0.length l0) (γ:l0.length≤c0) (h:cmp_Or_int.f k l0=some r):
  Calls Try.prog 80 #[.slice Z l0.length c0] w fun e w'=>e = .returned (.int .i64 r)∧Drawn0 w w':=by
 have ι :=Aside0.mk ξ
 have ah:=Aside0.mk γ
 clear ξ γ
 have H:(cmp_Or_int.l0 k 0 l0 (l0.length:Int) 0)=some r:=h
 clear h
 have H':=Aside0.mk H
 clear H
 go_enter Try.func80,Try.ntmps80
 go_wp2
 go_loopg [8] k (fun kq v8 w'=>∃ (B:Int),v8 = .int .i64 B∧Aside0 (cmp_Or_int.l0 kq 0 l0 (l0.length:Int) B=some r)∧Aside0 (kq≤k)∧Drawn0 w w')
 case atStart=>exact⟨(0),qR,H',⟨Nat.le_refl _⟩,by repeat(first|exact Drawn0.refl _|apply Drawn0.step)⟩
 case round=>
  clear H'
  obtain⟨B,rfl,HA,an,⟨m1,rfl⟩⟩:=hrel
  cases gk with
  |zero=>exact absurd HA.out (by simp[cmp_Or_int.l0])
  |succ k1=>
   have H:=HA.out
   clear HA
   simp only[cmp_Or_int.l0] at H
   by_cases c2:B<(l0.length:Int)
   ·rw[if_pos c2] at H
    have c2b0:decide (B<(l0.length:Int))=true:=decide_eq_true c2
    clear c2
    by_cases c3:0≤B
    ·rw[if_pos c3] at H
     have c3b0:decide (0≤B)=true:=decide_eq_true c3
     clear c3
     by_cases c4:B<(l0.length:Int)
     ·rw[if_pos c4] at H
      have c4b0:decide (B<(l0.length:Int))=true:=decide_eq_true c4
      clear c4
      by_cases c5:(rd l0 B)=0
      ·rw[if_pos c5] at H
       have c5b0:((rd l0 B)==0)=true:=beq_iff_eq.mpr c5
       have c5b1:((rd l0 B) != 0)=false:=bne_eq_false_iff_eq.mpr c5
       clear c5
       have H':=Aside0.mk H
       clear H
       have J:0≤(B:Int):=of_decide_eq_true (by first|(with_reducible assumption)|assumption)
       have L:B<(l0.length:Int):=of_decide_eq_true (by first|(with_reducible assumption)|assumption)
       obtain⟨Y,O,X⟩:=Kd.Xo ι.out B J L
       cases O
       replace J:=eq_true J
       replace L:=eq_true L
       go_wp2
       go_roundg k1
       case measure=>have:=an.out;omega
       case rel=>exact⟨(wrap64 (B+1)),qR,H',⟨by have:=an.out;omega⟩,by repeat(first|exact Drawn0.refl _|apply Drawn0.step)⟩
      ·rw[if_neg c5] at H
       have c5b0:((rd l0 B)==0)=false:=beq_eq_false_iff_ne.mpr c5
       have c5b1:((rd l0 B) != 0)=true:=bne_iff_ne.mpr c5
       obtain rfl:=Option.some.inj H
       have J:0≤(B:Int):=of_decide_eq_true (by first|(with_reducible assumption)|assumption)
       have L:B<(l0.length:Int):=of_decide_eq_true (by first|(with_reducible assumption)|assumption)
       obtain⟨Y,O,X⟩:=Kd.Xo ι.out B J L
       cases O
       replace J:=eq_true J
       replace L:=eq_true L
       go_wp2
       go_ret
       exact⟨qR,by repeat(first|exact Drawn0.refl _|apply Drawn0.step)⟩
     ·rw[if_neg c4] at H
      exact absurd H (by simp)
    ·rw[if_neg c3] at H
     exact absurd H (by simp)
   ·rw[if_neg c2] at H
    have c2b0:decide (B<(l0.length:Int))=false:=decide_eq_false c2
    clear c2
    obtain rfl:=Option.some.inj H
    go_wp2
    go_ret
    exact⟨qR,by repeat(first|exact Drawn0.refl _|apply Drawn0.step)⟩
def cmp_isNaN_int.f (B:Int):Option (Bool):=some (B != B)
set_option maxHeartbeats 8000000 in
set_option maxRecDepth 100000 in
theorem cmp_isNaN_int.calls (B:Int) (r:Bool) (w:World) (h:cmp_isNaN_int.f B=some r):
  Calls Try.prog 94 #[.int .i64 B] w fun e w'=>e = .returned (.bool r)∧Drawn0 w w':=by
 have H:(some (B != B))=some r:=h
 clear h
 obtain rfl:=Option.some.inj H
 go_enter Try.func94,Try.ntmps94
 go_wp2
 go_ret
 exact⟨qR,by repeat(first|exact Drawn0.refl _|apply Drawn0.step)⟩
def cmp_Compare_int.f (B:Int) (O:Int):Option (Int):=(cmp_isNaN_int.f B).bind fun J=>((cmp_isNaN_int.f O).bind fun γ=>(if J=true then (if γ=true then (some 0) else (some (-1))) else (if γ=true then (some 1) else (if B<O then (some (-1)) else (if B>O then (some 1) else (some 0))))))
set_option maxHeartbeats 8000000 in
set_option maxRecDepth 100000 in
theorem cmp_Compare_int.calls (B:Int) (O:Int) (r:Int) (w:World) (h:cmp_Compare_int.f B O=some r):
  Calls Try.prog 81 #[.int .i64 B,.int .i64 O] w fun e w'=>e = .returned (.int .i64 r)∧Drawn0 w w':=by
 have H:((cmp_isNaN_int.f B).bind fun J=>((cmp_isNaN_int.f O).bind fun γ=>(if J=true then (if γ=true then (some 0) else (some (-1))) else (if γ=true then (some 1) else (if B<O then (some (-1)) else (if B>O then (some 1) else (some 0)))))))=some r:=h
 clear h
 replace H:=Option.bind_eq_some_iff.mp H
 obtain⟨J,aa,H⟩:=H
 replace H:((cmp_isNaN_int.f O).bind fun γ=>(if J=true then (if γ=true then (some 0) else (some (-1))) else (if γ=true then (some 1) else (if B<O then (some (-1)) else (if B>O then (some 1) else (some 0))))))=some r:=H
 have A3:=Aside0.mk aa
 clear aa
 replace H:=Option.bind_eq_some_iff.mp H
 obtain⟨γ,cg,H⟩:=H
 replace H:(if J=true then (if γ=true then (some 0) else (some (-1))) else (if γ=true then (some 1) else (if B<O then (some (-1)) else (if B>O then (some 1) else (some 0)))))=some r:=H
 have A4:=Aside0.mk cg
 clear cg
 by_cases c5:J=true
 ·subst c5
  have H1:(if γ=true then (some 0) else (some (-1)))=some r:=by rw[if_pos rfl] at H;exact H
  clear H
  have H:=H1
  clear H1
  by_cases c6:γ=true
  ·subst c6
   have H1:(some 0)=some r:=by rw[if_pos rfl] at H;exact H
   clear H
   have H:=H1
   clear H1
   obtain rfl:=Option.some.inj H
   go_enter Try.func81,Try.ntmps81
   go_wp2_with (first|((with_reducible refine Qd (f:=94) rfl ?_);refine Qn (some 8) rfl rfl Try.func94 kr rfl #[.int .i64 B] rfl (by(try simp only[List.map_toArray,List.map_cons,List.map_nil]);first|done|rfl|(simp only[List.length_drop,List.length_take];rfl)) ?_;(with_reducible refine(cmp_isNaN_int.calls B true _ A3.out).mono ?_);rintro e w' ⟨rfl,⟨nd,rfl⟩⟩;refine⟨_,rfl, ?_⟩)|((with_reducible refine Qd (f:=94) rfl ?_);refine Qn (some 10) rfl rfl Try.func94 kr rfl #[.int .i64 O] rfl (by(try simp only[List.map_toArray,List.map_cons,List.map_nil]);first|done|rfl|(simp only[List.length_drop,List.length_take];rfl)) ?_;(with_reducible refine(cmp_isNaN_int.calls O true _ A4.out).mono ?_);rintro e w' ⟨rfl,⟨nd,rfl⟩⟩;refine⟨_,rfl, ?_⟩))
   go_ret
   exact⟨qR,by repeat(first|exact Drawn0.refl _|apply Drawn0.step)⟩
  ·replace c6:=Bool.eq_false_iff.mpr c6
   subst c6
   have H1:(some (-1))=some r:=by rw[if_neg (show ¬ (false=true) by decide)] at H;exact H
   clear H
   have H:=H1
   clear H1
   obtain rfl:=Option.some.inj H
   go_enter Try.func81,Try.ntmps81
   go_wp2_with (first|((with_reducible refine Qd (f:=94) rfl ?_);refine Qn (some 8) rfl rfl Try.func94 kr rfl #[.int .i64 B] rfl (by(try simp only[List.map_toArray,List.map_cons,List.map_nil]);first|done|rfl|(simp only[List.length_drop,List.length_take];rfl)) ?_;(with_reducible refine(cmp_isNaN_int.calls B true _ A3.out).mono ?_);rintro e w' ⟨rfl,⟨nd,rfl⟩⟩;refine⟨_,rfl, ?_⟩)|((with_reducible refine Qd (f:=94) rfl ?_);refine Qn (some 10) rfl rfl Try.func94 kr rfl #[.int .i64 O] rfl (by(try simp only[List.map_toArray,List.map_cons,List.map_nil]);first|done|rfl|(simp only[List.length_drop,List.length_take];rfl)) ?_;(with_reducible refine(cmp_isNaN_int.calls O false _ A4.out).mono ?_);rintro e w' ⟨rfl,⟨nd,rfl⟩⟩;refine⟨_,rfl, ?_⟩))
   go_ret
   exact⟨qR,by repeat(first|exact Drawn0.refl _|apply Drawn0.step)⟩
 ·replace c5:=Bool.eq_false_iff.mpr c5
  subst c5
  have H1:(if γ=true then (some 1) else (if B<O then (some (-1)) else (if B>O then (some 1) else (some 0))))=some r:=by rw[if_neg (show ¬ (false=true) by decide)] at H;exact H
  clear H
  have H:=H1
  clear H1
  by_cases c7:γ=true
  ·subst c7
   have H1:(some 1)=some r:=by rw[if_pos rfl] at H;exact H
   clear H
   have H:=H1
   clear H1
   obtain rfl:=Option.some.inj H
   go_enter Try.func81,Try.ntmps81
   go_wp2_with (first|((with_reducible refine Qd (f:=94) rfl ?_);refine Qn (some 8) rfl rfl Try.func94 kr rfl #[.int .i64 B] rfl (by(try simp only[List.map_toArray,List.map_cons,List.map_nil]);first|done|rfl|(simp only[List.length_drop,List.length_take];rfl)) ?_;(with_reducible refine(cmp_isNaN_int.calls B false _ A3.out).mono ?_);rintro e w' ⟨rfl,⟨nd,rfl⟩⟩;refine⟨_,rfl, ?_⟩)|((with_reducible refine Qd (f:=94) rfl ?_);refine Qn (some 10) rfl rfl Try.func94 kr rfl #[.int .i64 O] rfl (by(try simp only[List.map_toArray,List.map_cons,List.map_nil]);first|done|rfl|(simp only[List.length_drop,List.length_take];rfl)) ?_;(with_reducible refine(cmp_isNaN_int.calls O true _ A4.out).mono ?_);rintro e w' ⟨rfl,⟨nd,rfl⟩⟩;refine⟨_,rfl, ?_⟩))
   go_ret
   exact⟨qR,by repeat(first|exact Drawn0.refl _|apply Drawn0.step)⟩
  ·replace c7:=Bool.eq_false_iff.mpr c7
   subst c7
   have H1:(if B<O then (some (-1)) else (if B>O then (some 1) else (some 0)))=some r:=by rw[if_neg (show ¬ (false=true) by decide)] at H;exact H
   clear H
   have H:=H1
   clear H1
   by_cases c8:B<O
   ·rw[if_pos c8] at H
    have c8b0:decide (B<O)=true:=decide_eq_true c8
    clear c8
    obtain rfl:=Option.some.inj H
    go_enter Try.func81,Try.ntmps81
    go_wp2_with (first|((with_reducible refine Qd (f:=94) rfl ?_);refine Qn (some 8) rfl rfl Try.func94 kr rfl #[.int .i64 B] rfl (by(try simp only[List.map_toArray,List.map_cons,List.map_nil]);first|done|rfl|(simp only[List.length_drop,List.length_take];rfl)) ?_;(with_reducible refine(cmp_isNaN_int.calls B false _ A3.out).mono ?_);rintro e w' ⟨rfl,⟨nd,rfl⟩⟩;refine⟨_,rfl, ?_⟩)|((with_reducible refine Qd (f:=94) rfl ?_);refine Qn (some 10) rfl rfl Try.func94 kr rfl #[.int .i64 O] rfl (by(try simp only[List.map_toArray,List.map_cons,List.map_nil]);first|done|rfl|(simp only[List.length_drop,List.length_take];rfl)) ?_;(with_reducible refine(cmp_isNaN_int.calls O false _ A4.out).mono ?_);rintro e w' ⟨rfl,⟨nd,rfl⟩⟩;refine⟨_,rfl, ?_⟩))
    go_ret
    exact⟨qR,by repeat(first|exact Drawn0.refl _|apply Drawn0.step)⟩
   ·rw[if_neg c8] at H
    have c8b0:decide (B<O)=false:=decide_eq_false c8
    clear c8
    by_cases c9:B>O
    ·rw[if_pos c9] at H
     have c9b0:decide (O<B)=true:=decide_eq_true c9
     clear c9
     obtain rfl:=Option.some.inj H
     go_enter Try.func81,Try.ntmps81
     go_wp2_with (first|((with_reducible refine Qd (f:=94) rfl ?_);refine Qn (some 8) rfl rfl Try.func94 kr rfl #[.int .i64 B] rfl (by(try simp only[List.map_toArray,List.map_cons,List.map_nil]);first|done|rfl|(simp only[List.length_drop,List.length_take];rfl)) ?_;(with_reducible refine(cmp_isNaN_int.calls B false _ A3.out).mono ?_);rintro e w' ⟨rfl,⟨nd,rfl⟩⟩;refine⟨_,rfl, ?_⟩)|((with_reducible refine Qd (f:=94) rfl ?_);refine Qn (some 10) rfl rfl Try.func94 kr rfl #[.int .i64 O] rfl (by(try simp only[List.map_toArray,List.map_cons,List.map_nil]);first|done|rfl|(simp only[List.length_drop,List.length_take];rfl)) ?_;(with_reducible refine(cmp_isNaN_int.calls O false _ A4.out).mono ?_);rintro e w' ⟨rfl,⟨nd,rfl⟩⟩;refine⟨_,rfl, ?_⟩))
     go_ret
     exact⟨qR,by repeat(first|exact Drawn0.refl _|apply Drawn0.step)⟩
    ·rw[if_neg c9] at H
     have c9b0:decide (O<B)=false:=decide_eq_false c9
     clear c9
     obtain rfl:=Option.some.inj H
     go_enter Try.func81,Try.ntmps81
     go_wp2_with (first|((with_reducible refine Qd (f:=94) rfl ?_);refine Qn (some 8) rfl rfl Try.func94 kr rfl #[.int .i64 B] rfl (by(try simp only[List.map_toArray,List.map_cons,List.map_nil]);first|done|rfl|(simp only[List.length_drop,List.length_take];rfl)) ?_;(with_reducible refine(cmp_isNaN_int.calls B false _ A3.out).mono ?_);rintro e w' ⟨rfl,⟨nd,rfl⟩⟩;refine⟨_,rfl, ?_⟩)|((with_reducible refine Qd (f:=94) rfl ?_);refine Qn (some 10) rfl rfl Try.func94 kr rfl #[.int .i64 O] rfl (by(try simp only[List.map_toArray,List.map_cons,List.map_nil]);first|done|rfl|(simp only[List.length_drop,List.length_take];rfl)) ?_;(with_reducible refine(cmp_isNaN_int.calls O false _ A4.out).mono ?_);rintro e w' ⟨rfl,⟨nd,rfl⟩⟩;refine⟨_,rfl, ?_⟩))
     go_ret
     exact⟨qR,by repeat(first|exact Drawn0.refl _|apply Drawn0.step)⟩
def call_halls_1.f (k:Nat) (B:Int) (J:Int) (L:Int) (O:Int) (X:Int) (δ :Int):Option (Int):=(cmp_Compare_int.f B O).bind fun ζ =>((cmp_Compare_int.f J X).bind fun κ =>((cmp_Or_int.f k (([ζ,κ]:List Int))).bind fun Y=>(some Y)))
def call_halls_1.T1:Bool×List (List Nat×List Nat):=(true,[([],[]),([0],[0]),([],[]),([2],[2]),([1,3],[1,3]),([],[]),([5],[5]),([],[]),([7],[7]),([6,8,4],[6,8]),([4,9],[4,9]),([10,9],[10]),([11,11,0,1,2,3,4,5,6,7,8,9,10,11],[11])])
def call_halls_1.B1:List Nat:=[0,1,0,4,15,0,32,0,128,511,1023,2047,4095]
theorem call_halls_1.Kv:rtab .any (opsOf Try.f79 1)=call_halls_1.T1:=by kernel_rfl
theorem call_halls_1.Jc:Zr call_halls_1.T1.2 call_halls_1.B1=true:=by kernel_rfl
set_option maxHeartbeats 8000000 in
set_option maxRecDepth 100000 in
theorem call_halls_1.calls (k:Nat) (B:Int) (J:Int) (L:Int) (O:Int) (X:Int) (δ :Int) (r:Int) (w:World) (h:call_halls_1.f k B J L O X δ = some r):
  Calls Try.prog 79 #[.agg #[.int .i64 B,.int .i64 J,.int .i64 L],.agg #[.int .i64 O,.int .i64 X,.int .i64 δ]] w fun e w'=>e = .returned (.int .i64 r)∧Below w.heap.size w w':=by
 have dh:=Try.underlying36
 have HB:=Aside0.mk (Below.refl w.heap.size w)
 have H:((cmp_Compare_int.f B O).bind fun ζ =>((cmp_Compare_int.f J X).bind fun κ =>((cmp_Or_int.f k (([ζ,κ]:List Int))).bind fun Y=>(some Y))))=some r:=h
 clear h
 replace H:=Option.bind_eq_some_iff.mp H
 obtain⟨ζ,aa,H⟩:=H
 replace H:((cmp_Compare_int.f J X).bind fun κ =>((cmp_Or_int.f k (([ζ,κ]:List Int))).bind fun Y=>(some Y)))=some r:=H
 have A3:=Aside0.mk aa
 clear aa
 replace H:=Option.bind_eq_some_iff.mp H
 obtain⟨κ,cg,H⟩:=H
 replace H:((cmp_Or_int.f k (([ζ,κ]:List Int))).bind fun Y=>(some Y))=some r:=H
 have A4:=Aside0.mk cg
 clear cg
 obtain⟨a0,θ⟩:∃ y_:List Int,y_=(([ζ,κ]:List Int)):=⟨_,rfl⟩
 replace H:((cmp_Or_int.f k a0).bind fun Y=>(some Y))=some r:=by first|(rw[θ];with_reducible exact H)|(have am:=(Option.bind_some _ _).symm.trans H;rw[θ];with_reducible exact am)|(have am:=(Option.bind_some _ _).symm.trans H;with_reducible exact am)|with_reducible exact H|(rw[θ];exact H)|exact H
 have ag:=Aside0.mk θ
 clear θ
 replace H:=Option.bind_eq_some_iff.mp H
 obtain⟨Y,b3,H⟩:=H
 replace H:(some Y)=some r:=H
 have A5:=Aside0.mk b3
 clear b3
 obtain rfl:=Option.some.inj H
 go_enter Try.func79,Try.ntmps79
 try go_wp2_with (first|((with_reducible refine Qe (N:=2) rfl ?_);refine Zj ?hg (N:=2) ?hd (cs:=#[.int .i64 B,.int .i64 J,.int .i64 L]) (t:=36) ?hr ?_;(case hd=>rfl);(case hg=>rfl);(case hr=>first|(go_simp;done)|(go_simp;rfl));intro ν hg w6 hbox hb;have ρ:=Aside0.mk (Qy (by repeat(first|(with_reducible first|exact HB.out|apply Qq|apply Qj|apply Qi)|exact HB.out)) hb);have χ :=Aside0.mk (hbox);have a3:=Aside0.mk ((by rw[hg];exact(Qu (by repeat(first|(with_reducible first|exact HB.out|apply Qq|apply Qj|apply Qi)|exact HB.out))):w.heap.size ≤ ν));have a8:=Aside0.mk ((by rw[hg];exact(Qu (by repeat(first|(with_reducible first|exact HB.out|apply Qq|apply Qj|apply Qi)|exact HB.out))):w.heap.size ≤ ν));clear HB;have HB:=ρ;have γ:= χ;have bb:=a3;have al:=a8;clear ρ χ a3 a8;clear hb hbox hg)|((with_reducible refine Qe (N:=3) rfl ?_);refine Zj ?hg (N:=3) ?hd (cs:=#[.int .i64 O,.int .i64 X,.int .i64 δ]) (t:=36) ?hr ?_;(case hd=>rfl);(case hg=>rfl);(case hr=>first|(go_simp;done)|(go_simp;rfl));intro μ hg w7 hbox hb;have ρ:=Aside0.mk (Qt (g:= ν) (o:=.cells #[.int .i64 B,.int .i64 J,.int .i64 L] 36 (0,0)) (by(with_reducible repeat first|refine Qk ?_ _|refine Qf ?_|refine Ql ?_ _);exact γ.out) hb);have χ :=Aside0.mk (Qy (by repeat(first|(with_reducible first|exact HB.out|apply Qq|apply Qj|apply Qi|refine Qs ?_ al.out)|exact HB.out)) hb);have a3:=Aside0.mk (hbox);have a8:=Aside0.mk ((by rw[hg];exact(Qu (by repeat(first|(with_reducible first|exact HB.out|apply Qq|apply Qj|apply Qi|refine Qs ?_ al.out)|exact HB.out))):w.heap.size ≤ μ));have ah:=Aside0.mk ((by rw[hg];exact(Qu (by repeat(first|(with_reducible first|exact HB.out|apply Qq|apply Qj|apply Qi|refine Qs ?_ al.out)|exact HB.out))):w.heap.size ≤ μ));have ar:=Aside0.mk ((by rw[hg];exact Nat.ne_of_lt (Xg (g:= ν) (o:=.cells #[.int .i64 B,.int .i64 J,.int .i64 L] 36 (0,0)) (by(with_reducible repeat first|refine Qk ?_ _|refine Qf ?_|refine Ql ?_ _);exact γ.out)): ν ≠ μ));have b2:=Aside0.mk ((by rw[hg];exact Nat.ne_of_gt (Xg (g:= ν) (o:=.cells #[.int .i64 B,.int .i64 J,.int .i64 L] 36 (0,0)) (by(with_reducible repeat first|refine Qk ?_ _|refine Qf ?_|refine Ql ?_ _);exact γ.out)): μ ≠ ν));clear γ;clear HB;have γ:=ρ;have HB:= χ;have ε :=a3;have bc:=a8;have b6:=ah;have σ:=ar;have a6:=b2;clear ρ χ a3 a8 ah ar b2;clear hb hbox hg))
 have ρ:=Aside0.mk (Qf γ.out)
 have χ :=Aside0.mk (Qf ε.out)
 have a3:=Aside0.mk (Qi HB.out)
 clear γ
 clear ε
 clear HB
 have γ:=ρ
 have ε := χ
 have HB:=a3
 clear ρ χ a3
 refine Zl (n:=13) (S:=fun w'=>w'.cell? ⟨ν,0,none⟩=some (.int .i64 B)∧w'.cell? ⟨ν,1,none⟩=some (.int .i64 J)∧w'.cell? ⟨ν,2,none⟩=some (.int .i64 L)∧w'.cell? ⟨μ,0,none⟩=some (.int .i64 O)∧w'.cell? ⟨μ,1,none⟩=some (.int .i64 X)∧w'.cell? ⟨μ,2,none⟩=some (.int .i64 δ)) (ds:=[]) #[false,false,false,false,false,false,false,false,false,false,false,false,false] kr rfl rfl ⟨(Qa γ.out 0).trans rfl,(Qa γ.out 1).trans rfl,(Qa γ.out 2).trans rfl,(Qa ε.out 0).trans rfl,(Qa ε.out 1).trans rfl,(Qa ε.out 2).trans rfl⟩ (fun hHeld=>?_);refine Q8 call_halls_1.Kv call_halls_1.Jc (fun HT_ HW_=>?_)
 generalize w7.drew=w8 at γ ε HB hHeld ⊢
 refine qP 0 (some 5) (qB 13 1) HT_ ?_
 refine qP 2 (some 7) (qB 13 5) HT_ ?_
 refine qP 5 (some 10) (qB 13 37) HT_ ?_
 refine qP 7 (some 12) (qB 13 165) HT_ ?_
 refine qT 1 (some 6) (qB 13 167) HT_ HW_ hHeld ?_
 refine qT 3 (some 8) (qB 13 175) HT_ HW_ hHeld ?_
 refine qT 6 (some 11) (qB 13 239) HT_ HW_ hHeld ?_
 refine qT 8 (some 13) (qB 13 495) HT_ HW_ hHeld ?_
 refine Zg (i:=4) (N:=some 9) #[true,true,true,true,true,true,true,true,true,false,false,false,false] rfl rfl (Q4 HT_.out kr) (by decide) (fun K hK=>?_)
 refine Zf Try.func81 kr rfl #[.int .i64 B,.int .i64 O] (by rfl) rfl rfl (by(try simp only[List.map_toArray,List.map_cons,List.map_nil]);first|done|rfl|(simp only[List.length_drop,List.length_take];rfl)) ?_
 with_reducible refine(cmp_Compare_int.calls B O ζ _ A3.out).mono ?_
 rintro e w' ⟨rfl,⟨nd,rfl⟩⟩
 refine⟨_,rfl, ?_⟩
 refine hK.out _ _ ⟨qc γ,qc γ,qc γ,qc ε,qc ε,qc ε⟩ (fun hHeld=>?_)
 clear hK K
 refine qN (some 9) ?_
 refine Zg (i:=9) (N:=some 14) #[true,true,true,true,true,true,true,true,true,true,false,false,false] rfl rfl (Q4 HT_.out kr) (by decide) (fun K hK=>?_)
 refine Zf Try.func81 kr rfl #[.int .i64 J,.int .i64 X] (by rfl) rfl rfl (by(try simp only[List.map_toArray,List.map_cons,List.map_nil]);first|done|rfl|(simp only[List.length_drop,List.length_take];rfl)) ?_
 with_reducible refine(cmp_Compare_int.calls J X κ _ A4.out).mono ?_
 rintro e w' ⟨rfl,⟨nd,rfl⟩⟩
 refine⟨_,rfl, ?_⟩
 refine hK.out _ _ ⟨qc γ,qc γ,qc γ,qc ε,qc ε,qc ε⟩ (fun hHeld=>?_)
 clear hK K
 refine qN (some 14) ?_
 refine Zg (i:=10) (N:=some 15) #[true,true,true,true,true,true,true,true,true,true,true,false,false] rfl rfl (Q4 HT_.out kr) (by decide) (fun K hK=>?_)
 refine Kd.Z6 (Kd.int .i64) _ 3 ?hg (N:=15) ?hd (xs:=([ζ,κ]:List Int)) (inner:=[.int .i64 ζ,.int .i64 κ]) (ok:=fun _=>True) (okp:=fun _=>True) ?hr ?hp (fun _ hk=>hk) trivial (Below.refl _ _) (Nat.le_refl _) (by simp) ?_;(case hd=>rfl);(case hg=>rfl);(case hr=>first|(go_simp;done)|(go_simp;rfl));(case hp=>exact(Reps.one (show Kd.M (Kd.int .i64) _ _ _ ζ [.int .i64 ζ] from rfl) (Reps.one (show Kd.M (Kd.int .i64) _ _ _ κ [.int .i64 κ] from rfl) (Reps.none _ _))))
 intro ι w9 η hb hg_ hnew_
 clear hg_ hnew_
 (first|rw[← ag.out] at η |(simp only[Int.reduceToNat] at η;rw[← ag.out] at η))
 have ρ:=Aside0.mk (Kd.Zc η (Qu (by repeat(first|(with_reducible first|exact HB.out|apply Qq|apply Qj|apply Qi|refine Qs ?_ al.out|refine Qs ?_ b6.out)|exact HB.out))))
 have χ :=Aside0.mk (Qt (g:= ν) (o:=.cells #[.int .i64 B,.int .i64 J,.int .i64 L] 36 (0,0)) (by(with_reducible repeat first|refine Qk ?_ _|refine Qf ?_|refine Ql ?_ _);exact γ.out) hb)
 have a3:=Aside0.mk (Qt (g:= μ) (o:=.cells #[.int .i64 O,.int .i64 X,.int .i64 δ] 36 (0,0)) (by(with_reducible repeat first|refine Qk ?_ _|refine Qf ?_|refine Ql ?_ _);exact ε.out) hb)
 have a8:=Aside0.mk (Qy (by repeat(first|(with_reducible first|exact HB.out|apply Qq|apply Qj|apply Qi|refine Qs ?_ al.out|refine Qs ?_ b6.out)|exact HB.out)) hb)
 clear γ
 clear ε
 clear HB
 have Z:=ρ
 have γ:= χ
 have ε :=a3
 have HB:=a8
 clear ρ χ a3 a8
 clear hb η
 obtain⟨τ,φ,ξ⟩:=Kd.Q9 Z.out
 (first|subst ξ |(injection ξ with aw bm ax;have bn:=aw.symm;have bo:=ax.symm;clear aw bm ax;subst bn;subst bo))
 refine hK.out _ _ ⟨qc γ,qc γ,qc γ,qc ε,qc ε,qc ε⟩ (fun hHeld=>?_)
 clear hK K
 refine qN (some 15) ?_
 refine Zg (i:=11) (N:=some 16) #[true,true,true,true,true,true,true,true,true,true,true,true,false] rfl rfl (Q4 HT_.out kr) (by decide) (fun K hK=>?_)
 refine Zf Try.func80 kr rfl #[.slice τ a0.length φ] (by rfl) rfl rfl (by(try simp only[List.map_toArray,List.map_cons,List.map_nil]);first|done|rfl|(simp only[List.length_drop,List.length_take];rfl)) ?_
 with_reducible refine(cmp_Or_int.calls k _ _ a0 Y _ ?side1 ?side2 A5.out).mono ?_
 (case side1=>repeat(first|exact(Kd.Qz Z.out).2.2|(with_reducible refine Kd.Xm ?_ _)|(with_reducible refine Kd.Xl ?_ _)|(with_reducible refine Kd.Xz ?_)))
 (case side2=>exact(Kd.Qz Z.out).2.1)
 rintro e w' ⟨rfl,⟨nd,rfl⟩⟩
 refine⟨_,rfl, ?_⟩
 refine hK.out _ _ ⟨qc γ,qc γ,qc γ,qc ε,qc ε,qc ε⟩ (fun hHeld=>?_)
 clear hK K
 refine qN (some 16) ?_
 refine qP 12 (some 4) (qB 13 8191) HT_ ?_
 refine Z2 (Zh HT_.out kr) ?_
 try go_wp2
 go_ret
 exact⟨by first|rfl|(simp[Qh,Qg] <;> rfl)|(simp[*,Qh,Qg] <;> rfl),by repeat(first|(with_reducible first|exact HB.out|apply Qq|apply Qj|apply Qi|refine Qs ?_ al.out|refine Qs ?_ b6.out)|exact HB.out)⟩
def call_ins_1.f (k:Nat) (B:Int) (J:Int) (O:Int) (X:Int):Option (Int):=(cmp_Compare_int.f B O).bind fun ζ =>((cmp_Compare_int.f J X).bind fun γ=>((cmp_Or_int.f k (([ζ,γ]:List Int))).bind fun ε =>(some ε)))
def call_ins_1.T1:Bool×List (List Nat×List Nat):=(true,[([],[]),([0],[0]),([],[]),([2],[2]),([1,3],[1,3]),([],[]),([5],[5]),([],[]),([7],[7]),([6,8,4],[6,8]),([4,9],[4,9]),([10,9],[10]),([11,11,0,1,2,3,4,5,6,7,8,9,10,11],[11])])
def call_ins_1.B1:List Nat:=[0,1,0,4,15,0,32,0,128,511,1023,2047,4095]
theorem call_ins_1.Kv:rtab .any (opsOf Try.f83 1)=call_ins_1.T1:=by kernel_rfl
theorem call_ins_1.Jc:Zr call_ins_1.T1.2 call_ins_1.B1=true:=by kernel_rfl
set_option maxHeartbeats 8000000 in
set_option maxRecDepth 100000 in
theorem call_ins_1.calls (k:Nat) (B:Int) (J:Int) (O:Int) (X:Int) (r:Int) (w:World) (h:call_ins_1.f k B J O X=some r):
  Calls Try.prog 83 #[.agg #[.int .i64 B,.int .i64 J],.agg #[.int .i64 O,.int .i64 X]] w fun e w'=>e = .returned (.int .i64 r)∧Below w.heap.size w w':=by
 have dp:=Try.underlying86
 have HB:=Aside0.mk (Below.refl w.heap.size w)
 have H:((cmp_Compare_int.f B O).bind fun ζ =>((cmp_Compare_int.f J X).bind fun γ=>((cmp_Or_int.f k (([ζ,γ]:List Int))).bind fun ε =>(some ε))))=some r:=h
 clear h
 replace H:=Option.bind_eq_some_iff.mp H
 obtain⟨ζ,aa,H⟩:=H
 replace H:((cmp_Compare_int.f J X).bind fun γ=>((cmp_Or_int.f k (([ζ,γ]:List Int))).bind fun ε =>(some ε)))=some r:=H
 have A3:=Aside0.mk aa
 clear aa
 replace H:=Option.bind_eq_some_iff.mp H
 obtain⟨γ,cg,H⟩:=H
 replace H:((cmp_Or_int.f k (([ζ,γ]:List Int))).bind fun ε =>(some ε))=some r:=H
 have A4:=Aside0.mk cg
 clear cg
 obtain⟨δ,ι⟩:∃ y_:List Int,y_=(([ζ,γ]:List Int)):=⟨_,rfl⟩
 replace H:((cmp_Or_int.f k δ).bind fun ε =>(some ε))=some r:=by first|(rw[ι];with_reducible exact H)|(have am:=(Option.bind_some _ _).symm.trans H;rw[ι];with_reducible exact am)|(have am:=(Option.bind_some _ _).symm.trans H;with_reducible exact am)|with_reducible exact H|(rw[ι];exact H)|exact H
 have ν :=Aside0.mk ι
 clear ι
 replace H:=Option.bind_eq_some_iff.mp H
 obtain⟨ε,b3,H⟩:=H
 replace H:(some ε)=some r:=H
 have A5:=Aside0.mk b3
 clear b3
 obtain rfl:=Option.some.inj H
 go_enter Try.func83,Try.ntmps83
 try go_wp2_with (first|((with_reducible refine Qe (N:=2) rfl ?_);refine Zj ?hg (N:=2) ?hd (cs:=#[.int .i64 B,.int .i64 J]) (t:=86) ?hr ?_;(case hd=>rfl);(case hg=>rfl);(case hr=>first|(go_simp;done)|(go_simp;rfl));intro Z hg w6 hbox hb;have ρ:=Aside0.mk (Qy (by repeat(first|(with_reducible first|exact HB.out|apply Qq|apply Qj|apply Qi)|exact HB.out)) hb);have χ :=Aside0.mk (hbox);have a3:=Aside0.mk ((by rw[hg];exact(Qu (by repeat(first|(with_reducible first|exact HB.out|apply Qq|apply Qj|apply Qi)|exact HB.out))):w.heap.size≤Z));have a8:=Aside0.mk ((by rw[hg];exact(Qu (by repeat(first|(with_reducible first|exact HB.out|apply Qq|apply Qj|apply Qi)|exact HB.out))):w.heap.size≤Z));clear HB;have HB:=ρ;have Y:= χ;have au:=a3;have σ:=a8;clear ρ χ a3 a8;clear hb hbox hg)|((with_reducible refine Qe (N:=3) rfl ?_);refine Zj ?hg (N:=3) ?hd (cs:=#[.int .i64 O,.int .i64 X]) (t:=86) ?hr ?_;(case hd=>rfl);(case hg=>rfl);(case hr=>first|(go_simp;done)|(go_simp;rfl));intro θ hg w7 hbox hb;have ρ:=Aside0.mk (Qt (g:=Z) (o:=.cells #[.int .i64 B,.int .i64 J] 86 (0,0)) (by(with_reducible repeat first|refine Qk ?_ _|refine Qf ?_|refine Ql ?_ _);exact Y.out) hb);have χ :=Aside0.mk (Qy (by repeat(first|(with_reducible first|exact HB.out|apply Qq|apply Qj|apply Qi|refine Qs ?_ σ.out)|exact HB.out)) hb);have a3:=Aside0.mk (hbox);have a8:=Aside0.mk ((by rw[hg];exact(Qu (by repeat(first|(with_reducible first|exact HB.out|apply Qq|apply Qj|apply Qi|refine Qs ?_ σ.out)|exact HB.out))):w.heap.size ≤ θ));have ah:=Aside0.mk ((by rw[hg];exact(Qu (by repeat(first|(with_reducible first|exact HB.out|apply Qq|apply Qj|apply Qi|refine Qs ?_ σ.out)|exact HB.out))):w.heap.size ≤ θ));have ar:=Aside0.mk ((by rw[hg];exact Nat.ne_of_lt (Xg (g:=Z) (o:=.cells #[.int .i64 B,.int .i64 J] 86 (0,0)) (by(with_reducible repeat first|refine Qk ?_ _|refine Qf ?_|refine Ql ?_ _);exact Y.out)):Z ≠ θ));have b2:=Aside0.mk ((by rw[hg];exact Nat.ne_of_gt (Xg (g:=Z) (o:=.cells #[.int .i64 B,.int .i64 J] 86 (0,0)) (by(with_reducible repeat first|refine Qk ?_ _|refine Qf ?_|refine Ql ?_ _);exact Y.out)): θ ≠ Z));clear Y;clear HB;have Y:=ρ;have HB:= χ;have L:=a3;have a0:=a8;have κ :=ah;have ψ :=ar;have ω :=b2;clear ρ χ a3 a8 ah ar b2;clear hb hbox hg))
 have ρ:=Aside0.mk (Qf Y.out)
 have χ :=Aside0.mk (Qf L.out)
 have a3:=Aside0.mk (Qi HB.out)
 clear Y
 clear L
 clear HB
 have Y:=ρ
 have L:= χ
 have HB:=a3
 clear ρ χ a3
 refine Zl (n:=13) (S:=fun w'=>w'.cell? ⟨Z,0,none⟩=some (.int .i64 B)∧w'.cell? ⟨Z,1,none⟩=some (.int .i64 J)∧w'.cell? ⟨θ,0,none⟩=some (.int .i64 O)∧w'.cell? ⟨θ,1,none⟩=some (.int .i64 X)) (ds:=[]) #[false,false,false,false,false,false,false,false,false,false,false,false,false] kr rfl rfl ⟨(Qa Y.out 0).trans rfl,(Qa Y.out 1).trans rfl,(Qa L.out 0).trans rfl,(Qa L.out 1).trans rfl⟩ (fun hHeld=>?_);refine Q8 call_ins_1.Kv call_ins_1.Jc (fun HT_ HW_=>?_)
 generalize w7.drew=w8 at Y L HB hHeld ⊢
 refine qP 0 (some 5) (qB 13 1) HT_ ?_
 refine qP 2 (some 7) (qB 13 5) HT_ ?_
 refine qP 5 (some 10) (qB 13 37) HT_ ?_
 refine qP 7 (some 12) (qB 13 165) HT_ ?_
 refine qT 1 (some 6) (qB 13 167) HT_ HW_ hHeld ?_
 refine qT 3 (some 8) (qB 13 175) HT_ HW_ hHeld ?_
 refine qT 6 (some 11) (qB 13 239) HT_ HW_ hHeld ?_
 refine qT 8 (some 13) (qB 13 495) HT_ HW_ hHeld ?_
 refine Zg (i:=4) (N:=some 9) #[true,true,true,true,true,true,true,true,true,false,false,false,false] rfl rfl (Q4 HT_.out kr) (by decide) (fun K hK=>?_)
 refine Zf Try.func81 kr rfl #[.int .i64 B,.int .i64 O] (by rfl) rfl rfl (by(try simp only[List.map_toArray,List.map_cons,List.map_nil]);first|done|rfl|(simp only[List.length_drop,List.length_take];rfl)) ?_
 with_reducible refine(cmp_Compare_int.calls B O ζ _ A3.out).mono ?_
 rintro e w' ⟨rfl,⟨nd,rfl⟩⟩
 refine⟨_,rfl, ?_⟩
 refine hK.out _ _ ⟨qc Y,qc Y,qc L,qc L⟩ (fun hHeld=>?_)
 clear hK K
 refine qN (some 9) ?_
 refine Zg (i:=9) (N:=some 14) #[true,true,true,true,true,true,true,true,true,true,false,false,false] rfl rfl (Q4 HT_.out kr) (by decide) (fun K hK=>?_)
 refine Zf Try.func81 kr rfl #[.int .i64 J,.int .i64 X] (by rfl) rfl rfl (by(try simp only[List.map_toArray,List.map_cons,List.map_nil]);first|done|rfl|(simp only[List.length_drop,List.length_take];rfl)) ?_
 with_reducible refine(cmp_Compare_int.calls J X γ _ A4.out).mono ?_
 rintro e w' ⟨rfl,⟨nd,rfl⟩⟩
 refine⟨_,rfl, ?_⟩
 refine hK.out _ _ ⟨qc Y,qc Y,qc L,qc L⟩ (fun hHeld=>?_)
 clear hK K
 refine qN (some 14) ?_
 refine Zg (i:=10) (N:=some 15) #[true,true,true,true,true,true,true,true,true,true,true,false,false] rfl rfl (Q4 HT_.out kr) (by decide) (fun K hK=>?_)
 refine Kd.Z6 (Kd.int .i64) _ 3 ?hg (N:=15) ?hd (xs:=([ζ,γ]:List Int)) (inner:=[.int .i64 ζ,.int .i64 γ]) (ok:=fun _=>True) (okp:=fun _=>True) ?hr ?hp (fun _ hk=>hk) trivial (Below.refl _ _) (Nat.le_refl _) (by simp) ?_;(case hd=>rfl);(case hg=>rfl);(case hr=>first|(go_simp;done)|(go_simp;rfl));(case hp=>exact(Reps.one (show Kd.M (Kd.int .i64) _ _ _ ζ [.int .i64 ζ] from rfl) (Reps.one (show Kd.M (Kd.int .i64) _ _ _ γ [.int .i64 γ] from rfl) (Reps.none _ _))))
 intro av w9 η hb hg_ hnew_
 clear hg_ hnew_
 (first|rw[← ν.out] at η |(simp only[Int.reduceToNat] at η;rw[← ν.out] at η))
 have ρ:=Aside0.mk (Kd.Zc η (Qu (by repeat(first|(with_reducible first|exact HB.out|apply Qq|apply Qj|apply Qi|refine Qs ?_ σ.out|refine Qs ?_ κ.out)|exact HB.out))))
 have χ :=Aside0.mk (Qt (g:=Z) (o:=.cells #[.int .i64 B,.int .i64 J] 86 (0,0)) (by(with_reducible repeat first|refine Qk ?_ _|refine Qf ?_|refine Ql ?_ _);exact Y.out) hb)
 have a3:=Aside0.mk (Qt (g:= θ) (o:=.cells #[.int .i64 O,.int .i64 X] 86 (0,0)) (by(with_reducible repeat first|refine Qk ?_ _|refine Qf ?_|refine Ql ?_ _);exact L.out) hb)
 have a8:=Aside0.mk (Qy (by repeat(first|(with_reducible first|exact HB.out|apply Qq|apply Qj|apply Qi|refine Qs ?_ σ.out|refine Qs ?_ κ.out)|exact HB.out)) hb)
 clear Y
 clear L
 clear HB
 have μ :=ρ
 have Y:= χ
 have L:=a3
 have HB:=a8
 clear ρ χ a3 a8
 clear hb η
 obtain⟨τ,φ,ξ⟩:=Kd.Q9 μ.out
 (first|subst ξ |(injection ξ with aw bm ax;have bn:=aw.symm;have bo:=ax.symm;clear aw bm ax;subst bn;subst bo))
 refine hK.out _ _ ⟨qc Y,qc Y,qc L,qc L⟩ (fun hHeld=>?_)
 clear hK K
 refine qN (some 15) ?_
 refine Zg (i:=11) (N:=some 16) #[true,true,true,true,true,true,true,true,true,true,true,true,false] rfl rfl (Q4 HT_.out kr) (by decide) (fun K hK=>?_)
 refine Zf Try.func80 kr rfl #[.slice τ δ.length φ] (by rfl) rfl rfl (by(try simp only[List.map_toArray,List.map_cons,List.map_nil]);first|done|rfl|(simp only[List.length_drop,List.length_take];rfl)) ?_
 with_reducible refine(cmp_Or_int.calls k _ _ δ ε _ ?side1 ?side2 A5.out).mono ?_
 (case side1=>repeat(first|exact(Kd.Qz μ.out).2.2|(with_reducible refine Kd.Xm ?_ _)|(with_reducible refine Kd.Xl ?_ _)|(with_reducible refine Kd.Xz ?_)))
 (case side2=>exact(Kd.Qz μ.out).2.1)
 rintro e w' ⟨rfl,⟨nd,rfl⟩⟩
 refine⟨_,rfl, ?_⟩
 refine hK.out _ _ ⟨qc Y,qc Y,qc L,qc L⟩ (fun hHeld=>?_)
 clear hK K
 refine qN (some 16) ?_
 refine qP 12 (some 4) (qB 13 8191) HT_ ?_
 refine Z2 (Zh HT_.out kr) ?_
 try go_wp2
 go_ret
 exact⟨by first|rfl|(simp[Qh,Qg] <;> rfl)|(simp[*,Qh,Qg] <;> rfl),by repeat(first|(with_reducible first|exact HB.out|apply Qq|apply Qj|apply Qi|refine Qs ?_ σ.out|refine Qs ?_ κ.out)|exact HB.out)⟩
end Go.Proofs.Ytmfffemidlhcpaa.K
namespace Go.Proofs.Ytmfffemidlhcpaa.C
open Go.RowKit Go.Proofs.YtmfffemidlhcpaaW.PrintWords Go.Proofs.YtmfffemidlhcpaaW.PrintLast Go.Proofs.YtmfffemidlhcpaaW.PrintMore
attribute [local go_sem] Zz Zx Z9 Z8 Zq Zp Zy Zw
set_option linter.unusedVariables false
set_option linter.unusedSimpArgs false
def call_within.f (B:Int) (O:Int) (a2:Int):Option (Bool):=if O≤B then (some (decide (B≤a2))) else (some false)
set_option maxHeartbeats 8000000 in
set_option maxRecDepth 100000 in
theorem call_within.calls (B:Int) (O:Int) (a2:Int) (r:Bool) (w:World) (h:call_within.f B O a2=some r):
  Calls Try.prog 44 #[.int .i64 B,.int .i64 O,.int .i64 a2] w fun e w'=>e = .returned (.bool r)∧Drawn0 w w':=by
 have H:(if O≤B then (some (decide (B≤a2))) else (some false))=some r:=h
 clear h
 by_cases c4:O≤B
 ·rw[if_pos c4] at H
  have c4b0:decide (O≤B)=true:=decide_eq_true c4
  clear c4
  obtain rfl:=Option.some.inj H
  go_enter Try.func44,Try.ntmps44
  go_wp2
  go_ret
  exact⟨qR,by repeat(first|exact Drawn0.refl _|apply Drawn0.step)⟩
 ·rw[if_neg c4] at H
  have c4b0:decide (O≤B)=false:=decide_eq_false c4
  clear c4
  obtain rfl:=Option.some.inj H
  go_enter Try.func44,Try.ntmps44
  go_wp2
  go_ret
  exact⟨qR,by repeat(first|exact Drawn0.refl _|apply Drawn0.step)⟩
end Go.Proofs.Ytmfffemidlhcpaa.C
namespace Go.Proofs.Ytmfffemidlhcpaa.C
open Go.RowKit Go.Proofs.YtmfffemidlhcpaaW.PrintWords Go.Proofs.YtmfffemidlhcpaaW.PrintLast Go.Proofs.YtmfffemidlhcpaaW.PrintMore
set_option linter.unusedVariables false
set_option linter.unusedSimpArgs false
section
variable {P : Program} {ops : Array Oper} {Q : Exit → Act → World → Prop}
theorem X5 {oi:Oper} {N:Option Tmp} {a:Act} {w:World} {K:Act→World→Prop} {f:FuncId} {fn:Func} {x:Operand} {xs:Array Operand} {ts:Array TypeId} (hf:P.funcs[f]?=some fn) (hname:(fn.name == "runtime.NumGoroutine")=false) (hb:fn.body.isSome=true) (first cap args all:Array Value) (hall:first ++ args++cap=all)
    (hw:Region.wanted oi (yielded ops a.tmps)=true) (hN:oi.dst=N) (hop:oi.op = .call {callee:=.value x,args:=xs,argTypes:=ts}) (hx:a.eval x = .func (.func f) first cap) (hargs:xs.map a.eval=args)
    (h:Calls P f all w fun e w'=>∃ v,e = .returned v∧K (a.put N v) w'):if Region.wanted oi (yielded ops a.tmps)=true then Oper.wp P oi a w K Q else K (a.put N undef) w:=by
  refine Em f all hw hN ?_ h
  have he:=Vp hf hname hb all w
  unfold execOp
  simp[hop,hx,resolve,Deferred.ofValue,invoke,hargs,hall,he]
end
def tok (a b:Int):Int:=a * 18446744073709551616+(b+9223372036854775808)
def Yf (t:Int):Int:=t / 18446744073709551616
def Ye (t:Int):Int:=t % 18446744073709551616-9223372036854775808
theorem J7 (a b:Int) (h: -9223372036854775808≤b∧b≤9223372036854775807):Yf (tok a b)=a:=by unfold Yf tok;omega
theorem J6 (a b:Int) (h: -9223372036854775808≤b∧b≤9223372036854775807):Ye (tok a b)=b:=by unfold Ye tok;omega
theorem Z3 {w W:World} {g:Nat} {t:TypeId} {cs:Array Value} (h:w.heap[g]?=some (.cells cs t (0,0))) (hb:Below w.heap.size w W):W.heap[g]?=some (.cells cs t (0,0)):=Qt h hb
def Vt (a b:Int):Int:=if a<b then -1 else if a>b then 1 else 0
def Ya (B O X b1:Int):Int:=if Vt B X≠0 then Vt B X else Vt O b1
theorem cmp_eq (a b:Int):K.cmp_Compare_int.f a b=some (Vt a b):=by
  unfold K.cmp_Compare_int.f K.cmp_isNaN_int.f Vt
  simp only[Option.bind_some,bne_self_eq_false]
  rw[if_neg (by decide),if_neg (by decide)]
  split
  · rfl
  · split <;> rfl
theorem Ek (a b:Int):K.cmp_Or_int.f 5 [a,b]=some (if a≠0 then a else b):=by
  have w1:wrap64 (0+1)=1:=by unfold wrap64;omega
  have w2:wrap64 (1+1)=2:=by unfold wrap64;omega
  have r0:rd [a,b] 0=a:=rfl
  have r1:rd [a,b] 1=b:=rfl
  have l2:(([a,b]:List Int).length:Int)=2:=rfl
  unfold K.cmp_Or_int.f
  rw[l2,K.cmp_Or_int.l0,if_pos (by decide),if_pos (by decide),l2,if_pos (by decide),r0,w1]
  by_cases h:a=0
  · rw[if_pos h,if_neg (fun g=>g h),K.cmp_Or_int.l0,if_pos (by decide),if_pos (by decide),l2,if_pos (by decide),r1,w2]
    by_cases L:b=0
    · rw[if_pos L,K.cmp_Or_int.l0,if_neg (by decide),L]
    · rw[if_neg L]
  · rw[if_neg h,if_pos h]
def call_halls_1.f (B J L O X δ :Int):Option Int:=some (Ya B J O X)
def call_ins_1.f (B J O X:Int):Option Int:=some (Ya B J O X)
theorem call_halls_1.calls (B J L O X δ r:Int) (w:World) (h:call_halls_1.f B J L O X δ = some r):
    Calls Try.prog 79 #[.agg #[.int .i64 B,.int .i64 J,.int .i64 L],.agg #[.int .i64 O,.int .i64 X,.int .i64 δ]] w fun e w'=>e = .returned (.int .i64 r)∧Below w.heap.size w w':=by
  refine K.call_halls_1.calls 5 B J L O X δ r w ?_
  unfold K.call_halls_1.f
  rw[cmp_eq,cmp_eq]
  simp only[Option.bind_some]
  rw[Ek]
  exact h
theorem call_ins_1.calls (B J O X r:Int) (w:World) (h:call_ins_1.f B J O X=some r):
    Calls Try.prog 83 #[.agg #[.int .i64 B,.int .i64 J],.agg #[.int .i64 O,.int .i64 X]] w fun e w'=>e = .returned (.int .i64 r)∧Below w.heap.size w w':=by
  refine K.call_ins_1.calls 5 B J O X r w ?_
  unfold K.call_ins_1.f
  rw[cmp_eq,cmp_eq]
  simp only[Option.bind_some]
  rw[Ek]
  exact h
def Xe (F C:Int) (B J O:Int):Bool:=decide ((J=1∨J = -1)∧(0≤B∧B≤wrap64 (F-1))∧(0≤wrap64 (B+J)∧wrap64 (B+J)≤wrap64 (F-1))∧(-1≤O∧O≤wrap64 (C-1)))
def J0 (F C:Int) (B J:Int):Bool:=decide ((0≤B∧B≤wrap64 (C-1))∧(0≤J∧J≤wrap64 (F-1)))
theorem Yz (a b c:Int) (r:Bool) (h:decide (b≤a∧a≤c)=r):call_within.f a b c=some r:=by
  unfold call_within.f
  subst h
  by_cases h1:b≤a
  · rw[if_pos h1];simp[h1]
  · rw[if_neg h1];simp[h1]
theorem Mr (F C B J O:Int):Xe F C B J O=((J==1||J == -1)&&(decide (0≤B∧B≤wrap64 (F-1))&&(decide (0≤wrap64 (B+J)∧wrap64 (B+J)≤wrap64 (F-1))&&decide (-1≤O∧O≤wrap64 (C-1))))):=by
  unfold Xe
  rw[Bool.eq_iff_iff]
  simp[and_assoc]
theorem N2 (F C B J:Int):J0 F C B J=(decide (0≤B∧B≤wrap64 (C-1))&&decide (0≤J∧J≤wrap64 (F-1))):=by
  unfold J0
  rw[Bool.eq_iff_iff]
  simp[and_assoc]
def call_hall_1.f (B J L O:Int):Option Bool:=some (Xe (Yf O) (Ye O) B J L)
def call_inside_1.f (B J O:Int):Option Bool:=some (J0 (Yf O) (Ye O) B J)
set_option maxRecDepth 100000 in
set_option maxHeartbeats 4000000 in
theorem Gi (F C B J O:Int) (r:Bool) (w:World) (h:Xe F C B J O=r) (g:Nat) (hg:w.heap[g]?=some (.cells #[.int .i64 F,.int .i64 C] 59 (0,0))):
    Calls Try.prog 82 #[.agg #[.int .i64 B,.int .i64 J,.int .i64 O],.pointer (some ⟨g,0,none⟩)] w fun e w'=>e = .returned (.bool r)∧Below w.heap.size w w':=by
  rw[Mr] at h
  have HG:=Aside0.mk hg
  have HB:=Aside0.mk (Below.refl w.heap.size w)
  clear hg
  have X:∃ b,decide (0≤B∧B≤wrap64 (F-1))=b:=⟨_,rfl⟩
  have L:∃ b,decide (0≤wrap64 (B+J)∧wrap64 (B+J)≤wrap64 (F-1))=b:=⟨_,rfl⟩
  have Y:∃ b,decide (-1≤O∧O≤wrap64 (C-1))=b:=⟨_,rfl⟩
  have Z:∃ b,(J==1)=b:=⟨_,rfl⟩
  have η :∃ b,(J == -1)=b:=⟨_,rfl⟩
  obtain⟨b1,X⟩:=X
  obtain⟨b2,L⟩:=L
  obtain⟨b3,Y⟩:=Y
  obtain⟨d1,Z⟩:=Z
  obtain⟨d2,η⟩:= η
  rw[X,L,Y,Z,η] at h
  have D1:=Aside0.mk X
  have D2:=Aside0.mk L
  have D3:=Aside0.mk Y
  clear X L Y
  cases d1 <;> cases d2 <;> cases b1 <;> cases b2 <;> cases b3 <;> simp only[Bool.or_false,Bool.false_or,Bool.or_true,Bool.true_or,Bool.and_false,Bool.false_and,Bool.and_true,Bool.true_and] at h <;> subst h <;>
  · go_enter Try.func82,Try.ntmps82
    go_wp2_with (first|((with_reducible refine Qe (N:=2) rfl ?_);refine Zj ?hg (N:=2) ?hd (cs:=#[.int .i64 B,.int .i64 J,.int .i64 O]) (t:=36) ?hr ?_;(case hd=>rfl);(case hg=>rfl);(case hr=>first|(go_simp;done)|(go_simp;rfl));intro gb hgb w1 hbox hb;have ρ:=Aside0.mk (Qy HB.out hb);clear HB;have HB:=ρ;clear ρ;have hk:=Z3 HG.out HB.out;have γ:w1.cell? ⟨g,0,none⟩=some (.int .i64 F):=(Qa hk 0).trans rfl;have δ :w1.cell? ⟨g,1,none⟩=some (.int .i64 C):=(Qa hk 1).trans rfl;have ε :w1.cell? ⟨gb,0,none⟩=some (.int .i64 B):=(Qa hbox 0).trans rfl;have ζ :w1.cell? ⟨gb,1,none⟩=some (.int .i64 J):=(Qa hbox 1).trans rfl;have θ :w1.cell? ⟨gb,2,none⟩=some (.int .i64 O):=(Qa hbox 2).trans rfl;clear hk hbox hb hgb)|(go_at_call 44;((with_reducible refine(call_within.calls B 0 (wrap64 (F-1)) _ _ (Yz _ _ _ _ D1.out)).mono ?_);rintro e w' ⟨rfl,⟨nd,rfl⟩⟩))|(go_at_call 44;((with_reducible refine(call_within.calls (wrap64 (B+J)) 0 (wrap64 (F-1)) _ _ (Yz _ _ _ _ D2.out)).mono ?_);rintro e w' ⟨rfl,⟨nd,rfl⟩⟩))|(go_at_call 44;((with_reducible refine(call_within.calls O (-1) (wrap64 (C-1)) _ _ (Yz _ _ _ _ D3.out)).mono ?_);rintro e w' ⟨rfl,⟨nd,rfl⟩⟩)))
    go_ret
    exact⟨rfl,by repeat(first|exact HB.out|apply Qj)⟩
set_option maxRecDepth 100000 in
set_option maxHeartbeats 4000000 in
theorem Vo (F C B J:Int) (r:Bool) (w:World) (h:J0 F C B J=r) (g:Nat) (hg:w.heap[g]?=some (.cells #[.int .i64 F,.int .i64 C] 59 (0,0))):
    Calls Try.prog 84 #[.agg #[.int .i64 B,.int .i64 J],.pointer (some ⟨g,0,none⟩)] w fun e w'=>e = .returned (.bool r)∧Below w.heap.size w w':=by
  rw[N2] at h
  have HG:=Aside0.mk hg
  have HB:=Aside0.mk (Below.refl w.heap.size w)
  clear hg
  have X:∃ b,decide (0≤B∧B≤wrap64 (C-1))=b:=⟨_,rfl⟩
  have L:∃ b,decide (0≤J∧J≤wrap64 (F-1))=b:=⟨_,rfl⟩
  obtain⟨b1,X⟩:=X
  obtain⟨b2,L⟩:=L
  rw[X,L] at h
  have D1:=Aside0.mk X
  have D2:=Aside0.mk L
  clear X L
  cases b1 <;> cases b2 <;> simp only[Bool.and_false,Bool.false_and,Bool.and_true,Bool.true_and] at h <;> subst h <;>
  · go_enter Try.func84,Try.ntmps84
    go_wp2_with (first|((with_reducible refine Qe (N:=2) rfl ?_);refine Zj ?hg (N:=2) ?hd (cs:=#[.int .i64 B,.int .i64 J]) (t:=86) ?hr ?_;(case hd=>rfl);(case hg=>rfl);(case hr=>first|(go_simp;done)|(go_simp;rfl));intro gb hgb w1 hbox hb;have ρ:=Aside0.mk (Qy HB.out hb);clear HB;have HB:=ρ;clear ρ;have hk:=Z3 HG.out HB.out;have γ:w1.cell? ⟨g,0,none⟩=some (.int .i64 F):=(Qa hk 0).trans rfl;have δ :w1.cell? ⟨g,1,none⟩=some (.int .i64 C):=(Qa hk 1).trans rfl;have ε :w1.cell? ⟨gb,0,none⟩=some (.int .i64 B):=(Qa hbox 0).trans rfl;have ζ :w1.cell? ⟨gb,1,none⟩=some (.int .i64 J):=(Qa hbox 1).trans rfl;clear hk;clear hbox hb hgb)|(go_at_call 44;((with_reducible refine(call_within.calls B 0 (wrap64 (C-1)) _ _ (Yz _ _ _ _ D1.out)).mono ?_);rintro e w' ⟨rfl,⟨nd,rfl⟩⟩))|(go_at_call 44;((with_reducible refine(call_within.calls J 0 (wrap64 (F-1)) _ _ (Yz _ _ _ _ D2.out)).mono ?_);rintro e w' ⟨rfl,⟨nd,rfl⟩⟩)))
    go_ret
    exact⟨rfl,by repeat(first|exact HB.out|apply Qj)⟩
theorem call_hall_1.calls (B J L O:Int) (r:Bool) (w:World) (h:call_hall_1.f B J L O=some r) (g:Nat) (hg:w.heap[g]?=some (.cells #[.int .i64 (Yf O),.int .i64 (Ye O)] 59 (0,0))):
    Calls Try.prog 82 #[.agg #[.int .i64 B,.int .i64 J,.int .i64 L],.pointer (some ⟨g,0,none⟩)] w fun e w'=>e = .returned (.bool r)∧Below w.heap.size w w':=
  Gi _ _ _ _ _ _ _ (Option.some.inj h) g hg
theorem call_inside_1.calls (B J O:Int) (r:Bool) (w:World) (h:call_inside_1.f B J O=some r) (g:Nat) (hg:w.heap[g]?=some (.cells #[.int .i64 (Yf O),.int .i64 (Ye O)] 59 (0,0))):
    Calls Try.prog 84 #[.agg #[.int .i64 B,.int .i64 J],.pointer (some ⟨g,0,none⟩)] w fun e w'=>e = .returned (.bool r)∧Below w.heap.size w w':=
  Vo _ _ _ _ _ _ (Option.some.inj h) g hg
def api_Inside_without_1.f (B J O:Int):Option Bool:=some (Ya (Yf O) (Ye O) B J==0)
set_option maxRecDepth 100000 in
set_option maxHeartbeats 4000000 in
theorem Jt (B J L X:Int) (r:Bool) (w:World) (h:(Ya B J L X==0)=r) (A:Option Addr) (n c:Nat) (gr gx:Nat) (hr:w.heap[gr]?=some (.cells #[.slice A n c,.func (.func 83) #[] #[]] 116 (0,0))) (hx:w.heap[gx]?=some (.cells #[.int .i64 B,.int .i64 J] 86 (0,0))):
    Calls Try.prog 92 #[.agg #[.int .i64 L,.int .i64 X],.pointer (some ⟨gr,0,none⟩),.pointer (some ⟨gx,0,none⟩)] w fun e w'=>e = .returned (.bool r)∧Below w.heap.size w w':=by
  have HR:=Aside0.mk hr
  have HX:=Aside0.mk hx
  have HB:=Aside0.mk (Below.refl w.heap.size w)
  clear hr hx
  have hd:∃ z,Ya B J L X=z:=⟨_,rfl⟩
  obtain⟨z,hd⟩:=hd
  rw[hd] at h
  have D1:=Aside0.mk (show call_ins_1.f B J L X=some z from congrArg some hd)
  clear hd
  cases r <;>
  · go_enter Try.func92,Try.ntmps92
    go_wp2_with (first|((with_reducible refine Qe (N:=3) rfl ?_);refine Zj ?hg (N:=3) ?hd (cs:=#[.int .i64 L,.int .i64 X]) (t:=86) ?hr ?_;(case hd=>rfl);(case hg=>rfl);(case hr=>first|(go_simp;done)|(go_simp;rfl));intro gb hgb w1 hbox hb;have ρ:=Aside0.mk (Qy HB.out hb);clear HB;have HB:=ρ;clear ρ;have hk:=Z3 HR.out HB.out;have hq:=Z3 HX.out HB.out;have γ:w1.cell? ⟨gr,0,none⟩=some (.slice A n c):=(Qa hk 0).trans rfl;have δ :w1.cell? ⟨gr,1,none⟩=some (.func (.func 83) #[] #[]):=(Qa hk 1).trans rfl;have O:w1.cell? ⟨gx,0,none⟩=some (.int .i64 B):=(Qa hq 0).trans rfl;have Y:w1.cell? ⟨gx,1,none⟩=some (.int .i64 J):=(Qa hq 1).trans rfl;have ε :w1.cell? ⟨gb,0,none⟩=some (.int .i64 L):=(Qa hbox 0).trans rfl;have ζ :w1.cell? ⟨gb,1,none⟩=some (.int .i64 X):=(Qa hbox 1).trans rfl;clear hk hq;clear hbox hb hgb)|(go_at_call 83;((with_reducible refine(call_ins_1.calls B J L X z _ D1.out).mono ?_);rintro e w2 ⟨rfl,hb⟩;have ρ:=Aside0.mk (Qy HB.out hb);clear HB;have HB:=ρ;clear ρ;clear hb)))
    go_ret
    exact⟨rfl,HB.out⟩
theorem api_Inside_without_1.calls (B J O:Int) (r:Bool) (w:World) (h:api_Inside_without_1.f B J O=some r) (A:Option Addr) (n c:Nat) (gr gx:Nat) (z:Int) (hr:w.heap[gr]?=some (.cells #[.slice A n c,.func (.func 83) #[] #[]] 116 (0,0))) (hx:w.heap[gx]?=some (.cells #[.int .i64 (Yf O),.int .i64 (Ye O)] 86 (0,0))):
    Calls Try.prog 92 #[.agg #[.int .i64 B,.int .i64 J],.pointer (some ⟨gr,0,none⟩),.pointer (some ⟨gx,0,none⟩)] w fun e w'=>e = .returned (.bool r)∧Below w.heap.size w w':=
  Jt (Yf O) (Ye O) B J r w (Option.some.inj h) A n c gr gx hr hx
end Go.Proofs.Ytmfffemidlhcpaa.C
namespace Go.Proofs.Ytmfffemidlhcpaa.C
open Go.RowKit Go.Proofs.YtmfffemidlhcpaaW.PrintWords Go.Proofs.YtmfffemidlhcpaaW.PrintLast Go.Proofs.YtmfffemidlhcpaaW.PrintMore
attribute [local go_sem] Zz Zx Z9 Z8 Zq Zp Zy Zw
set_option linter.unusedVariables false
set_option linter.unusedSimpArgs false
def api_Inside_100.l0:Nat→List (S86)→Int→Int→Int→Option (Int)
 |0,_,_,_,_=>none
 |k+1,B,J,Y,O=>if O<Y then (if 0≤O then (if O<(B.length:Int) then ((api_Inside_without_1.f ((Qo B O).f0) ((Qo B O).f1) J).bind fun δ =>(if δ = true then (some O) else (api_Inside_100.l0 k B J Y (wrap64 (O+1))))) else (none)) else (none)) else (some (-1))
def api_Inside_100.f (k:Nat) (l0:List (S86)) (O:Int):Option (Int):=api_Inside_100.l0 k l0 O (l0.length:Int) 0
set_option maxHeartbeats 8000000 in
set_option maxRecDepth 100000 in
theorem api_Inside_100.calls (k:Nat) (Z:Option Addr) (c0:Nat) (l0:List (S86)) (O:Int) (r:Int) (w:World) (ξ :Kd.C k86 w Z l0.length l0) (γ:l0.length≤c0) (h:api_Inside_100.f k l0 O=some r) (Ar_:Option Addr) (nr_ cr_ gr_ gx_:Nat) (zx_:Int) (hgr_:w.heap[gr_]?=some (.cells #[.slice Ar_ nr_ cr_,.func (.func 83) #[] #[]] 116 (0,0))) (hgx_:w.heap[gx_]?=some (.cells #[.int .i64 (Yf O),.int .i64 (Ye O)] 86 (0,0))):
  Calls Try.prog 100 #[.slice Z l0.length c0,.func (.func 92) #[] #[.pointer (some ⟨gr_,0,none⟩),.pointer (some ⟨gx_,0,none⟩)]] w fun e w'=>e = .returned (.int .i64 r)∧Below w.heap.size w w':=by
 have HCR:=Aside0.mk hgr_
 have HCX:=Aside0.mk hgx_
 clear hgr_ hgx_
 have dp:=Try.underlying86
 have ι :=Aside0.mk ξ
 have ah:=Aside0.mk γ
 clear ξ γ
 have HB:=Aside0.mk (Below.refl w.heap.size w)
 have H:(api_Inside_100.l0 k l0 O (l0.length:Int) 0)=some r:=h
 clear h
 have H':=Aside0.mk H
 clear H
 go_enter Try.func100,Try.ntmps100
 go_wp2
 go_loopg [8] k (fun kq v8 w'=>∃ (B:Int),v8 = .int .i64 B∧Aside0 (api_Inside_100.l0 kq l0 O (l0.length:Int) B=some r)∧Aside0 (kq≤k)∧Aside0 (Below w.heap.size w w'))
 case atStart=>exact⟨(0),rfl,H',⟨Nat.le_refl _⟩,HB⟩
 case round=>
  clear H'
  try clear c1
  try clear p2
  obtain⟨B,rfl,HA,an,HB⟩:=hrel
  cases gk with
  |zero=>exact absurd HA.out (by simp[api_Inside_100.l0])
  |succ k1=>
   have H:=HA.out
   clear HA
   simp only[api_Inside_100.l0] at H
   by_cases c3:B<(l0.length:Int)
   ·rw[if_pos c3] at H
    have c3b0:decide (B<(l0.length:Int))=true:=decide_eq_true c3
    clear c3
    by_cases c4:0≤B
    ·rw[if_pos c4] at H
     have c4b0:decide (0≤B)=true:=decide_eq_true c4
     clear c4
     by_cases c5:B<(l0.length:Int)
     ·rw[if_pos c5] at H
      have c5b0:decide (B<(l0.length:Int))=true:=decide_eq_true c5
      clear c5
      replace H:=Option.bind_eq_some_iff.mp H
      obtain⟨δ,az,H⟩:=H
      replace H:(if δ = true then (some B) else (api_Inside_100.l0 k1 l0 O (l0.length:Int) (wrap64 (B+1))))=some r:=H
      have A6:=Aside0.mk az
      clear az
      by_cases c7: δ = true
      ·subst c7
       have H1:(some B)=some r:=by rw[if_pos rfl] at H;exact H
       clear H
       have H:=H1
       clear H1
       obtain rfl:=Option.some.inj H
       have X:0≤(B:Int):=of_decide_eq_true (by assumption)
       have Y:B<(l0.length:Int):=of_decide_eq_true (by assumption)
       obtain⟨ζ,ε,J,L⟩:=Y9 ι.out B X Y
       cases ε
       replace J:=(HB.out.cell (World.block_lt_of_cell? w _ J)).trans J
       replace L:=(HB.out.cell (World.block_lt_of_cell? w _ L)).trans L
       replace X:=eq_true X
       replace Y:=eq_true Y
       go_wp2_with (first|(go_at_call 92;((with_reducible refine(api_Inside_without_1.calls ((Qo l0 B).f0) ((Qo l0 B).f1) O true _ A6.out Ar_ nr_ cr_ gr_ gx_ zx_ (Z3 HCR.out (by repeat(first|(with_reducible first|exact HB.out|apply Qq|apply Qj|apply Qi)|exact HB.out|(refine Qs ?_ (Aside0.out (by assumption)))))) (Z3 HCX.out (by repeat(first|(with_reducible first|exact HB.out|apply Qq|apply Qj|apply Qi)|exact HB.out|(refine Qs ?_ (Aside0.out (by assumption))))))).mono ?_);rintro e w8 ⟨rfl,hb⟩;have ρ:=Aside0.mk (Qy HB.out hb);clear HB;have HB:=ρ;clear ρ;(try clear hb);(try clear a4);(try clear hk);(try clear hi))))
       go_ret
       exact⟨rfl,HB.out⟩
      ·replace c7:=Bool.eq_false_iff.mpr c7
       subst c7
       have H1:(api_Inside_100.l0 k1 l0 O (l0.length:Int) (wrap64 (B+1)))=some r:=by rw[if_neg (show ¬ (false=true) by decide)] at H;exact H
       clear H
       have H:=H1
       clear H1
       have H':=Aside0.mk H
       clear H
       have X:0≤(B:Int):=of_decide_eq_true (by assumption)
       have Y:B<(l0.length:Int):=of_decide_eq_true (by assumption)
       obtain⟨ζ,ε,J,L⟩:=Y9 ι.out B X Y
       cases ε
       replace J:=(HB.out.cell (World.block_lt_of_cell? w _ J)).trans J
       replace L:=(HB.out.cell (World.block_lt_of_cell? w _ L)).trans L
       replace X:=eq_true X
       replace Y:=eq_true Y
       go_wp2_with (first|(go_at_call 92;((with_reducible refine(api_Inside_without_1.calls ((Qo l0 B).f0) ((Qo l0 B).f1) O false _ A6.out Ar_ nr_ cr_ gr_ gx_ zx_ (Z3 HCR.out (by repeat(first|(with_reducible first|exact HB.out|apply Qq|apply Qj|apply Qi)|exact HB.out|(refine Qs ?_ (Aside0.out (by assumption)))))) (Z3 HCX.out (by repeat(first|(with_reducible first|exact HB.out|apply Qq|apply Qj|apply Qi)|exact HB.out|(refine Qs ?_ (Aside0.out (by assumption))))))).mono ?_);rintro e w9 ⟨rfl,hb⟩;have ρ:=Aside0.mk (Qy HB.out hb);clear HB;have HB:=ρ;clear ρ;(try clear hb);(try clear a4);(try clear hk);(try clear hi))))
       go_roundg k1
       case measure=>have:=an.out;omega
       case rel=>exact⟨(wrap64 (B+1)),rfl,H',⟨by have:=an.out;omega⟩,HB⟩
     ·rw[if_neg c5] at H
      exact absurd H (by simp)
    ·rw[if_neg c4] at H
     exact absurd H (by simp)
   ·rw[if_neg c3] at H
    have c3b0:decide (B<(l0.length:Int))=false:=decide_eq_false c3
    clear c3
    obtain rfl:=Option.some.inj H
    go_wp2
    go_ret
    exact⟨rfl,HB.out⟩
end Go.Proofs.Ytmfffemidlhcpaa.C
