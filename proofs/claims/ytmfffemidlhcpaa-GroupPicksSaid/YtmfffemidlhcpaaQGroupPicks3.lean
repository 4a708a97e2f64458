/- Texts of this claim, one behind the other: what the law's functions come to, walked (printed by a program, with the words that the print uses), and what that is, in plain Lean. No conditions of their own. -/
import Derived.Test.YtmfffemidlhcpaaQGroupPicks2
namespace Go.Proofs.Ytmfffemidlhcpaa.C
open Go.RowKit Go.Proofs.YtmfffemidlhcpaaW.PrintWords Go.Proofs.YtmfffemidlhcpaaW.PrintLast Go.Proofs.YtmfffemidlhcpaaW.PrintMore
attribute [local go_sem] Z0 Zy Z6 Z5 Zr Zq Zz Zx
set_option linter.unusedVariables false
set_option linter.unusedSimpArgs false
mutual
def group_way.j0:Nat→Int→Int→Int→Int→Int→Int→Int→Int→Int→Int→Int→Bool→Bool→Int→Int→Int→Option (Int)
 |0,_,_,_,_,_,_,_,_,_,_,_,_,_,_,_,_=>none
 |k+1,O,Z,Y,γ,δ,ε,ζ,η,θ,ι,B,κ,μ,J,X,ν =>if B=0 then (group_way.j1 k O Z Y true γ δ ε ζ η θ ι B κ μ J X ν) else (if B=X then (group_way.j1 k O Z Y (decide ((wrap64 ((wrap64 (J-O)) * B))≥0)) γ δ ε ζ η θ ι B κ μ J X ν) else (group_way.j1 k O Z Y false γ δ ε ζ η θ ι B κ μ J X ν))
def group_way.j1:Nat→Int→Int→Int→Bool→Int→Int→Int→Int→Int→Int→Int→Int→Bool→Bool→Int→Int→Int→Option (Int)
 |0,_,_,_,_,_,_,_,_,_,_,_,_,_,_,_,_,_=>none
 |k+1,O,Z,Y,ξ,γ,δ,ε,ζ,η,θ,ι,B,κ,μ,J,X,ν =>if ξ = true then ((group_dist.f O J).bind fun τ =>(some τ)) else (if B=X then ((group_dist.f O Z).bind fun a5=>((group_dist.f Z Y).bind fun b9=>((group_dist.f Y J).bind fun br=>(some (wrap64 ((wrap64 (a5+b9))+br)))))) else ((group_dist.f O Z).bind fun cb=>((group_dist.f Z J).bind fun cj=>(some (wrap64 (cb+cj))))))
end
def group_way.f (k:Nat) (B:Int) (δ :Int) (ε :Int) (ι :Int) (μ :Int) (κ :Int) (ν :Int) (ξ :Int) (ψ :Int) (a1:Bool) (a2:Bool) (Y:Int) (γ:Int) (ρ:Int):Option (Int):=if ψ > 0 then (group_way.j0 k (wrap64 (δ + ε)) (wrap64 (B-1)) 0 δ ε ι μ κ ν ξ ψ a1 a2 Y γ ρ) else (group_way.j0 k (wrap64 (δ + ε)) 0 (wrap64 (B-1)) δ ε ι μ κ ν ξ ψ a1 a2 Y γ ρ)
theorem group_way.Zu:∀ k,(∀ O Y Z B X y5 y6 y7 y8 y9 γ δ ζ η θ ι,LeO (group_way.j0 k O Y Z B X y5 y6 y7 y8 y9 γ δ ζ η θ ι) (group_way.j0 (k+1) O Y Z B X y5 y6 y7 y8 y9 γ δ ζ η θ ι))∧(∀ O Y Z B X y5 y6 y7 y8 y9 γ δ ζ η θ ι κ,LeO (group_way.j1 k O Y Z B X y5 y6 y7 y8 y9 γ δ ζ η θ ι κ) (group_way.j1 (k+1) O Y Z B X y5 y6 y7 y8 y9 γ δ ζ η θ ι κ))
 |0=>⟨fun _ _ _ _ _ _ _ _ _ _ _ _ _ _ _ _ r h=>by simp[group_way.j0] at h,fun _ _ _ _ _ _ _ _ _ _ _ _ _ _ _ _ _ r h=>by simp[group_way.j1] at h⟩
 |k+1=>by
  obtain⟨J,ε⟩:=group_way.Zu k
  refine⟨?_, ?_⟩
  ·intro O Y Z B X y5 y6 y7 y8 y9 γ δ ζ η θ ι
   unfold group_way.j0
   repeat' first|(with_reducible first|apply J|apply ε |exact LeO.refl _|exact LeO.none _|refine LeO.ite ?_ ?_|refine LeO.bind ?_ (fun _=>?_))|apply J|apply ε |exact LeO.none _|refine LeO.ite ?_ ?_|refine LeO.bind ?_ (fun _=>?_)
  ·intro O Y Z B X y5 y6 y7 y8 y9 γ δ ζ η θ ι κ
   unfold group_way.j1
   repeat' first|(with_reducible first|apply J|apply ε |exact LeO.refl _|exact LeO.none _|refine LeO.ite ?_ ?_|refine LeO.bind ?_ (fun _=>?_))|apply J|apply ε |exact LeO.none _|refine LeO.ite ?_ ?_|refine LeO.bind ?_ (fun _=>?_)
theorem group_way.mono:∀ B X a2 a3 O a5 Y a7 a8 a9 Z γ δ ζ k,LeO (group_way.f k B X a2 a3 O a5 Y a7 a8 a9 Z γ δ ζ) (group_way.f (k+1) B X a2 a3 O a5 Y a7 a8 a9 Z γ δ ζ):=by
 intro B X a2 a3 O a5 Y a7 a8 a9 Z γ δ ζ k
 obtain⟨J,ε⟩:=group_way.Zu k
 unfold group_way.f
 repeat' first|(with_reducible first|apply J|apply ε |exact LeO.refl _|exact LeO.none _|refine LeO.ite ?_ ?_|refine LeO.bind ?_ (fun _=>?_))|apply J|apply ε |exact LeO.none _|refine LeO.ite ?_ ?_|refine LeO.bind ?_ (fun _=>?_)
def group_way.T7:Bool×List (List Nat×List Nat):=(true,[([],[]),([],[]),([0,1],[0,1]),([],[]),([],[]),([4],[4]),([3,5,2],[3,5]),([2,6],[2,6]),([7,6,0,1,2,3,4,5,6,7],[7])])
def group_way.B7:List Nat:=[0,0,3,0,0,16,63,127,255]
theorem group_way.V4:rtab .any (opsOf Try.f52 7)=group_way.T7:=by kernel_rfl
theorem group_way.K6:Zk group_way.T7.2 group_way.B7=true:=by kernel_rfl
def group_way.T8:Bool×List (List Nat×List Nat):=(true,[([],[]),([],[]),([0,1],[0,1]),([],[]),([],[]),([3,4,2],[3,4]),([2,5],[2,5]),([],[]),([],[]),([8],[8]),([7,9,5],[7,9]),([6,10],[6,10]),([11,10,0,1,2,3,4,5,6,7,8,9,10,11],[11])])
def group_way.B8:List Nat:=[0,0,3,0,0,31,63,0,0,256,959,2047,4095]
theorem group_way.En:rtab .any (opsOf Try.f52 8)=group_way.T8:=by kernel_rfl
theorem group_way.Lw:Zk group_way.T8.2 group_way.B8=true:=by kernel_rfl
set_option maxHeartbeats 8000000 in
set_option maxRecDepth 100000 in
theorem group_way.calls (k:Nat) (B:Int) (δ :Int) (ε :Int) (ι :Int) (μ :Int) (κ :Int) (ν :Int) (ξ :Int) (ψ :Int) (a1:Bool) (a2:Bool) (Y:Int) (γ:Int) (ρ:Int) (r:Int) (w:World) (h:group_way.f k B δ ε ι μ κ ν ξ ψ a1 a2 Y γ ρ=some r):
 Calls Try.prog 52 #[.int .i64 B,.agg #[.int .i64 δ,.int .i64 ε,.int .i64 ι,.int .i64 μ,.int .i64 κ,.int .i64 ν,.int .i64 ξ,.int .i64 ψ,.bool a1,.bool a2],.agg #[.int .i64 Y,.int .i64 γ,.int .i64 ρ]] w fun e w'=>e = .returned (.int .i64 r)∧Below w.heap.size w w':=by
 have er:=Try.underlying31
 have ch:=Try.underlying36
 have HB:=aK (Below.refl w.heap.size w)
 have H:(if ψ > 0 then (group_way.j0 k (wrap64 (δ + ε)) (wrap64 (B-1)) 0 δ ε ι μ κ ν ξ ψ a1 a2 Y γ ρ) else (group_way.j0 k (wrap64 (δ + ε)) 0 (wrap64 (B-1)) δ ε ι μ κ ν ξ ψ a1 a2 Y γ ρ))=some r:=h
 clear h
 have al:=aK H
 clear H
 go_enter Try.func52,Try.ntmps52
 go_upto_if 21 with(first|((with_reducible refine Qe (N:=4) rfl ?_);refine qE 4 #[.int .i64 δ,.int .i64 ε,.int .i64 ι,.int .i64 μ,.int .i64 κ,.int .i64 ν,.int .i64 ξ,.int .i64 ψ,.bool a1,.bool a2] 31 ?_;intro cn hg w5 hbox hb;have O:=aK hbox;have dd:=sGe hg;have de:=sGe hg;replace HB:=sHb hb;clear hb hbox hg)|((with_reducible refine Qe (N:=5) rfl ?_);refine qE 5 #[.int .i64 Y,.int .i64 γ,.int .i64 ρ] 36 ?_;intro η hg w6 hbox hb;have J:=aK hbox;have df:=sGe hg;have dh:=sGe hg;have X:=sNl O hg;have Z:=sNg O hg;replace O:=sBk O hb;replace HB:=sHb hb;clear hb hbox hg;have dx:=X.out;have fi:=Z.out;obtain⟨a8,a9,ao,φ,am,b3,b4,bc,bi,bj,aa,ab,b2,bk,bl,bm,bn,bo,bp,bq⟩:=Zg O.out))
 (try simp only[Act.put,qS])
 go_cut [8,9] (fun v8 v9 wc=>∃ (kq:Nat) (ζ :Int) (θ :Int),v8 = .int .i64 ζ ∧ v9 = .int .i64 θ ∧ Aside0 (group_way.j0 kq (wrap64 (δ + ε)) ζ θ δ ε ι μ κ ν ξ ψ a1 a2 Y γ ρ=some r)∧Aside0 (kq≤k)∧Aside0 (wc.heap[cn]?=some (.cells #[.int .i64 δ,.int .i64 ε,.int .i64 ι,.int .i64 μ,.int .i64 κ,.int .i64 ν,.int .i64 ξ,.int .i64 ψ,.bool a1,.bool a2] 31 (0,0)))∧Aside0 (wc.heap[η]?=some (.cells #[.int .i64 Y,.int .i64 γ,.int .i64 ρ] 36 (0,0)))∧Aside0 (Below w.heap.size w wc))
 case first=>
  have H:=al.out
  clear al
  by_cases c9: ψ > 0
  ·rw[if_pos c9] at H
   have c9b0:decide (0 < ψ)=true:=decide_eq_true c9
   clear c9
   (first|rw[c9b0]|(simp only[Za,Zb];rw[c9b0])|skip)
   have H':=aK H
   clear H
   go_wp2
   go_meet
   case rel=>exact⟨_,(wrap64 (B-1)),(0),rfl,rfl,H',⟨by first|omega|exact Nat.le_refl _⟩,O,J,HB⟩
  ·rw[if_neg c9] at H
   have c9b0:decide (0 < ψ)=false:=decide_eq_false c9
   clear c9
   (first|rw[c9b0]|(simp only[Za,Zb];rw[c9b0])|skip)
   have H':=aK H
   clear H
   go_wp2
   go_meet
   case rel=>exact⟨_,(0),(wrap64 (B-1)),rfl,rfl,H',⟨by first|omega|exact Nat.le_refl _⟩,O,J,HB⟩
 case rest=>
  clear al
  try clear a8
  try clear a9
  try clear ao
  try clear φ
  try clear am
  try clear b3
  try clear b4
  try clear bc
  try clear bi
  try clear bj
  try clear aa
  try clear ab
  try clear b2
  try clear bk
  try clear bl
  try clear bm
  try clear bn
  try clear bo
  try clear bp
  try clear bq
  obtain⟨kq,ζ,θ,rfl,rfl,HA,du,O,J,HB⟩:=hcut
  cases kq with
  |zero=>exact absurd HA.out (by simp[group_way.j0])
  |succ ff=>
   have H:=HA.out
   clear HA
   simp only[group_way.j0] at H
   have ck:=aK H
   clear H
   go_upto_region 4 with(fail)
   go_cut [24] (fun cp wc=>∃ (kq:Nat) (σ:Bool),cp = .bool σ∧Aside0 (group_way.j1 kq (wrap64 (δ + ε)) ζ θ σ δ ε ι μ κ ν ξ ψ a1 a2 Y γ ρ=some r)∧Aside0 (kq≤ff)∧Aside0 (wc.heap[cn]?=some (.cells #[.int .i64 δ,.int .i64 ε,.int .i64 ι,.int .i64 μ,.int .i64 κ,.int .i64 ν,.int .i64 ξ,.int .i64 ψ,.bool a1,.bool a2] 31 (0,0)))∧Aside0 (wc.heap[η]?=some (.cells #[.int .i64 Y,.int .i64 γ,.int .i64 ρ] 36 (0,0)))∧Aside0 (Below w.heap.size w wc))
   case first=>
    have H:=ck.out
    clear ck
    by_cases a6: ψ = 0
    ·rw[if_pos a6] at H
     have c11b0:(ψ == 0)=true:=beq_iff_eq.mpr a6
     have c11b1:(ψ != 0)=false:=bne_eq_false_iff_eq.mpr a6
     clear a6
     (first|rw[c11b0]|(simp only[Za,Zb];rw[c11b0])|skip)
     have H':=aK H
     clear H
     have ev:=X.out
     have f7:=Z.out
     obtain⟨af,bd,bu,e9,ea,et,f8,ee,fg,fj,ba,bf,bv,fa,fb,fc,fe,eu,fk,ga⟩:=Zg O.out
     go_wp2
     go_meet
     case rel=>exact⟨_,(true),rfl,H',⟨by have:=du.out;omega⟩,O,J,HB⟩
    ·rw[if_neg a6] at H
     have c11b0:(ψ == 0)=false:=beq_eq_false_iff_ne.mpr a6
     have c11b1:(ψ != 0)=true:=bne_iff_ne.mpr a6
     (first|rw[c11b0]|(simp only[Za,Zb];rw[c11b0])|skip)
     by_cases ae: ψ = γ
     ·rw[if_pos ae] at H
      have c14b0:(ψ == γ)=true:=beq_iff_eq.mpr ae
      have c14b1:(ψ != γ)=false:=bne_eq_false_iff_eq.mpr ae
      clear ae
      have H':=aK H
      clear H
      have gt:=X.out
      have gu:=Z.out
      obtain⟨cx,cy,χ,ci,cm,eb,ec,cr,ho,i0,cz,d0,ω,ed,en,eo,ep,fh,i1,i2⟩:=Zg O.out
      obtain⟨ap,ar,bg,au,av,bh⟩:=qD3 J.out
      go_wp2
      go_meet
      case rel=>exact⟨_,(decide ((wrap64 ((wrap64 (Y - (wrap64 (δ + ε)))) * ψ))≥0)),rfl,H',⟨by have:=du.out;omega⟩,O,J,HB⟩
     ·rw[if_neg ae] at H
      have c14b0:(ψ == γ)=false:=beq_eq_false_iff_ne.mpr ae
      have c14b1:(ψ != γ)=true:=bne_iff_ne.mpr ae
      have H':=aK H
      clear H
      have d5:=X.out
      have d6:=Z.out
      obtain⟨ag,ah,b5,cq,ct,cu,cv,d8,d9,da,ai,aj,b8,d1,d2,d3,d7,db,dr,dv⟩:=Zg O.out
      obtain⟨ak,an,a3,aw,ax,b6⟩:=qD3 J.out
      go_wp2
      go_meet
      case rel=>exact⟨_,(false),rfl,H',⟨by have:=du.out;omega⟩,O,J,HB⟩
   case rest=>
    clear ck
    try clear a8
    try clear a9
    try clear ao
    try clear φ
    try clear am
    try clear b3
    try clear b4
    try clear bc
    try clear bi
    try clear bj
    try clear aa
    try clear ab
    try clear b2
    try clear bk
    try clear bl
    try clear bm
    try clear bn
    try clear bo
    try clear bp
    try clear bq
    obtain⟨kq,σ,rfl,HA,di,O,J,HB⟩:=hcut
    cases kq with
    |zero=>exact absurd HA.out (by simp[group_way.j1])
    |succ dj=>
     have H:=HA.out
     clear HA
     simp only[group_way.j1] at H
     by_cases ac:σ=true
     ·subst ac
      rw[if_pos rfl] at H
      obtain⟨τ,co,H⟩:=qO H
      have cw:=aK co
      clear co
      obtain rfl:=Option.some.inj H
      have dl:=Z.out
      have dy:=X.out
      obtain⟨ay,az,cd,b0,b1,ce⟩:=qD3 J.out
      go_wp2_with (first|((with_reducible refine Qf (f:=76) rfl ?_);refine Qt (some 48) rfl rfl Try.func76 kr rfl #[.int .i64 (wrap64 (δ + ε)),.int .i64 Y] rfl qM ?_;(with_reducible refine(group_dist.calls (wrap64 (δ + ε)) Y τ _ cw.out).mono ?_);rintro e dt ⟨rfl,hb⟩;refine⟨_,rfl, ?_⟩;replace O:=sBk O hb;replace J:=sBk J hb;replace HB:=sHb hb;(try clear hb);(try clear a4);(try clear hk);(try clear hi)))
      go_ret
      exact⟨rfl,HB.out⟩
     ·replace ac:=Bool.eq_false_iff.mpr ac
      subst ac
      rw[if_neg nft] at H
      by_cases b7: ψ = γ
      ·rw[if_pos b7] at H
       have c26b0:(ψ == γ)=true:=beq_iff_eq.mpr b7
       have c26b1:(ψ != γ)=false:=bne_eq_false_iff_eq.mpr b7
       clear b7
       obtain⟨a5,bw,H⟩:=qO H
       have cg:=aK bw
       clear bw
       obtain⟨b9,a7,H⟩:=qO H
       have e5:=aK a7
       clear a7
       obtain⟨br,bs,H⟩:=qO H
       have d4:=aK bs
       clear bs
       obtain rfl:=Option.some.inj H
       have em:=X.out
       have ez:=Z.out
       obtain⟨dm,dn,ew,i9,ia,ib,iu,fu,fv,fw,dp,dq,ey,iv,iw,ix,iy,fx,fy,fz⟩:=Zg O.out
       obtain⟨gm,gn,gp,gq,gr,gs⟩:=qD3 J.out
       try go_wp2
       replace O:=aK (Qd O.out)
       replace J:=aK (Qd J.out)
       replace HB:=aK (Qg HB.out)
       refine Ze (n:=13) (S:=fun w'=>w'.cell? ⟨η,0,none⟩=some (.int .i64 Y)∧w'.cell? ⟨η,1,none⟩=some (.int .i64 γ)∧w'.cell? ⟨η,2,none⟩=some (.int .i64 ρ)) (ds:=[]) #[false,false,false,false,false,false,false,false,false,false,false,false,false] kr rfl rfl ⟨(Qa J.out 0).trans rfl,(Qa J.out 1).trans rfl,(Qa J.out 2).trans rfl⟩ (fun hHeld=>?_);refine Q5 group_way.En group_way.Lw (fun HT_ HW_=>?_)
       generalize wc.drew=k8 at O J HB hHeld ⊢
       refine qP 0 (some 63) (bN 13 1) HT_ ?_
       refine qP 1 (some 64) (bN 13 3) HT_ ?_
       refine qP 3 (some 66) (bN 13 11) HT_ ?_
       refine qP 4 (some 67) (bN 13 27) HT_ ?_
       refine qP 7 (some 70) (bN 13 155) HT_ ?_
       refine qP 8 (some 71) (bN 13 411) HT_ ?_
       refine qT 9 (some 72) (bN 13 923) HT_ HW_ hHeld ?_
       refine Zf (i:=2) (N:=some 65) (bN 13 927) rfl rfl (Q3 HT_.out kr) (by decide) (fun K hK=>?_)
       refine Zd Try.func76 kr rfl #[.int .i64 (wrap64 (δ + ε)),.int .i64 ζ] (by rfl) rfl rfl qM ?_
       with_reducible refine(group_dist.calls (wrap64 (δ + ε)) ζ a5 _ cg.out).mono ?_
       rintro e fp ⟨rfl,hb⟩
       refine⟨_,rfl, ?_⟩
       replace O:=sBk O hb
       replace J:=sBk J hb
       replace HB:=sHb hb
       (try clear hb)
       (try clear a4)
       (try clear hk)
       (try clear hi)
       refine hK.out _ _ ⟨qc J,qc J,qc J⟩ (fun hHeld=>?_)
       clear hK K
       refine qN (some 65) ?_
       refine Zf (i:=5) (N:=some 68) (bN 13 959) rfl rfl (Q3 HT_.out kr) (by decide) (fun K hK=>?_)
       refine Zd Try.func76 kr rfl #[.int .i64 ζ,.int .i64 θ] (by rfl) rfl rfl qM ?_
       with_reducible refine(group_dist.calls ζ θ b9 _ e5.out).mono ?_
       rintro e jo ⟨rfl,hb⟩
       refine⟨_,rfl, ?_⟩
       replace O:=sBk O hb
       replace J:=sBk J hb
       replace HB:=sHb hb
       (try clear hb)
       (try clear a4)
       (try clear hk)
       (try clear hi)
       refine hK.out _ _ ⟨qc J,qc J,qc J⟩ (fun hHeld=>?_)
       clear hK K
       refine qN (some 68) ?_
       refine qP 6 (some 69) (bN 13 1023) HT_ ?_
       refine Zf (i:=10) (N:=some 73) (bN 13 2047) rfl rfl (Q3 HT_.out kr) (by decide) (fun K hK=>?_)
       refine Zd Try.func76 kr rfl #[.int .i64 θ,.int .i64 Y] (by rfl) rfl rfl qM ?_
       with_reducible refine(group_dist.calls θ Y br _ d4.out).mono ?_
       rintro e h9 ⟨rfl,hb⟩
       refine⟨_,rfl, ?_⟩
       replace O:=sBk O hb
       replace J:=sBk J hb
       replace HB:=sHb hb
       (try clear hb)
       (try clear a4)
       (try clear hk)
       (try clear hi)
       refine hK.out _ _ ⟨qc J,qc J,qc J⟩ (fun hHeld=>?_)
       clear hK K
       refine qN (some 73) ?_
       refine qP 11 (some 74) (bN 13 4095) HT_ ?_
       refine qP 12 (some 6) (bN 13 8191) HT_ ?_
       refine Zi (Zc HT_.out kr) ?_
       try go_wp2
       go_ret
       exact⟨rfl,HB.out⟩
      ·rw[if_neg b7] at H
       have c26b0:(ψ == γ)=false:=beq_eq_false_iff_ne.mpr b7
       have c26b1:(ψ != γ)=true:=bne_iff_ne.mpr b7
       obtain⟨cb,ca,H⟩:=qO H
       have dc:=aK ca
       clear ca
       obtain⟨cj,bb,H⟩:=qO H
       have cf:=aK bb
       clear bb
       obtain rfl:=Option.some.inj H
       have fl:=X.out
       have fm:=Z.out
       obtain⟨dw,gf,gg,gv,gw,gx,gy,gz,h6,h7,h0,h4,h5,h8,ha,he,hh,hj,hl,hu⟩:=Zg O.out
       obtain⟨dz,e0,e6,e3,e4,gh⟩:=qD3 J.out
       try go_wp2
       replace O:=aK (Qd O.out)
       replace J:=aK (Qd J.out)
       replace HB:=aK (Qg HB.out)
       refine Ze (n:=9) (S:=fun w'=>w'.cell? ⟨η,0,none⟩=some (.int .i64 Y)∧w'.cell? ⟨η,1,none⟩=some (.int .i64 γ)∧w'.cell? ⟨η,2,none⟩=some (.int .i64 ρ)) (ds:=[]) #[false,false,false,false,false,false,false,false,false] kr rfl rfl ⟨(Qa J.out 0).trans rfl,(Qa J.out 1).trans rfl,(Qa J.out 2).trans rfl⟩ (fun hHeld=>?_);refine Q5 group_way.V4 group_way.K6 (fun HT_ HW_=>?_)
       generalize wc.drew=ks at O J HB hHeld ⊢
       refine qP 0 (some 55) (bN 9 1) HT_ ?_
       refine qP 1 (some 56) (bN 9 3) HT_ ?_
       refine qP 3 (some 58) (bN 9 11) HT_ ?_
       refine qP 4 (some 59) (bN 9 27) HT_ ?_
       refine qT 5 (some 60) (bN 9 59) HT_ HW_ hHeld ?_
       refine Zf (i:=2) (N:=some 57) (bN 9 63) rfl rfl (Q3 HT_.out kr) (by decide) (fun K hK=>?_)
       refine Zd Try.func76 kr rfl #[.int .i64 (wrap64 (δ + ε)),.int .i64 ζ] (by rfl) rfl rfl qM ?_
       with_reducible refine(group_dist.calls (wrap64 (δ + ε)) ζ cb _ dc.out).mono ?_
       rintro e ko ⟨rfl,hb⟩
       refine⟨_,rfl, ?_⟩
       replace O:=sBk O hb
       replace J:=sBk J hb
       replace HB:=sHb hb
       (try clear hb)
       (try clear a4)
       (try clear hk)
       (try clear hi)
       refine hK.out _ _ ⟨qc J,qc J,qc J⟩ (fun hHeld=>?_)
       clear hK K
       refine qN (some 57) ?_
       refine Zf (i:=6) (N:=some 61) (bN 9 127) rfl rfl (Q3 HT_.out kr) (by decide) (fun K hK=>?_)
       refine Zd Try.func76 kr rfl #[.int .i64 ζ,.int .i64 Y] (by rfl) rfl rfl qM ?_
       with_reducible refine(group_dist.calls ζ Y cj _ cf.out).mono ?_
       rintro e bz ⟨rfl,hb⟩
       refine⟨_,rfl, ?_⟩
       replace O:=sBk O hb
       replace J:=sBk J hb
       replace HB:=sHb hb
       (try clear hb)
       (try clear a4)
       (try clear hk)
       (try clear hi)
       refine hK.out _ _ ⟨qc J,qc J,qc J⟩ (fun hHeld=>?_)
       clear hK K
       refine qN (some 61) ?_
       refine qP 7 (some 62) (bN 9 255) HT_ ?_
       refine qP 8 (some 6) (bN 9 511) HT_ ?_
       refine Zi (Zc HT_.out kr) ?_
       try go_wp2
       go_ret
       exact⟨rfl,HB.out⟩
def newelref21_far.f (B:Int) (X:Int):Option (Int):=if B<X then (some (wrap64 (X-B))) else (some (wrap64 (B-X)))
set_option maxHeartbeats 8000000 in
set_option maxRecDepth 100000 in
theorem newelref21_far.calls (B:Int) (X:Int) (r:Int) (w:World) (h:newelref21_far.f B X=some r):
 Calls Try.prog 57 #[.int .i64 B,.int .i64 X] w fun e w'=>e = .returned (.int .i64 r)∧Drawn0 w w':=by
 have H:(if B<X then (some (wrap64 (X-B))) else (some (wrap64 (B-X))))=some r:=h
 clear h
 by_cases c3:B<X
 ·rw[if_pos c3] at H
  have c3b0:=decide_eq_true c3
  clear c3
  obtain rfl:=Option.some.inj H
  go_enter Try.func57,Try.ntmps57
  go_wp2
  go_ret
  exact⟨qR,by repeat(first|exact Drawn0.refl _|apply Drawn0.step)⟩
 ·rw[if_neg c3] at H
  have c3b0:=decide_eq_false c3
  clear c3
  obtain rfl:=Option.some.inj H
  go_enter Try.func57,Try.ntmps57
  go_wp2
  go_ret
  exact⟨qR,by repeat(first|exact Drawn0.refl _|apply Drawn0.step)⟩
mutual
def newelref21_Way.j0:Nat→Int→Int→Int→Int→Int→Int→Int→Int→Int→Int→Bool→Bool→Int→Int→Int→Option (Int)
 |0,_,_,_,_,_,_,_,_,_,_,_,_,_,_,_=>none
 |k+1,B,O,ε,ζ,η,θ,ι,κ,μ,γ,ν,ξ,J,δ,ρ=>if γ=0 then ((newelref21_far.f O J).bind fun ae=>(some ae)) else (if γ=1 then (newelref21_Way.j1 k O (wrap64 (B-1)) 0 (decide (J<O)) ε ζ η θ ι κ μ γ ν ξ J δ ρ) else (newelref21_Way.j1 k O 0 (wrap64 (B-1)) (decide (J>O)) ε ζ η θ ι κ μ γ ν ξ J δ ρ))
def newelref21_Way.j1:Nat→Int→Int→Int→Bool→Int→Int→Int→Int→Int→Int→Int→Int→Bool→Bool→Int→Int→Int→Option (Int)
 |0,_,_,_,_,_,_,_,_,_,_,_,_,_,_,_,_,_=>none
 |k+1,O,Z,Y,X,ε,ζ,η,θ,ι,κ,μ,γ,ν,ξ,J,δ,ρ=>if γ = δ then (if X=true then ((newelref21_far.f O Z).bind fun af=>((newelref21_far.f Z Y).bind fun ap=>((newelref21_far.f Y J).bind fun ar=>(some (wrap64 ((wrap64 (af+ap))+ar)))))) else ((newelref21_far.f O J).bind fun au=>(some au))) else ((newelref21_far.f O Z).bind fun av=>((newelref21_far.f Z J).bind fun b7=>(some (wrap64 (av+b7)))))
end
def newelref21_Way.f (k:Nat) (B:Int) (δ :Int) (ε :Int) (ι :Int) (μ :Int) (κ :Int) (ν :Int) (ξ :Int) (ψ :Int) (a1:Bool) (a2:Bool) (Y:Int) (γ:Int) (ρ:Int):Option (Int):=if ι = 1 then (newelref21_Way.j0 k B (wrap64 (δ + ε)) δ ε ι μ κ ν ξ ψ a1 a2 Y γ ρ) else (newelref21_Way.j0 k B δ δ ε ι μ κ ν ξ ψ a1 a2 Y γ ρ)
set_option maxHeartbeats 8000000 in
set_option maxRecDepth 100000 in
theorem newelref21_Way.calls (k:Nat) (B:Int) (δ :Int) (ε :Int) (ι :Int) (μ :Int) (κ :Int) (ν :Int) (ξ :Int) (ψ :Int) (a1:Bool) (a2:Bool) (Y:Int) (γ:Int) (ρ:Int) (r:Int) (w:World) (h:newelref21_Way.f k B δ ε ι μ κ ν ξ ψ a1 a2 Y γ ρ=some r):
 Calls Try.prog 35 #[.int .i64 B,.agg #[.int .i64 δ,.int .i64 ε,.int .i64 ι,.int .i64 μ,.int .i64 κ,.int .i64 ν,.int .i64 ξ,.int .i64 ψ,.bool a1,.bool a2],.agg #[.int .i64 Y,.int .i64 γ,.int .i64 ρ]] w fun e w'=>e = .returned (.int .i64 r)∧Below w.heap.size w w':=by
 have er:=Try.underlying31
 have ch:=Try.underlying36
 have HB:=aK (Below.refl w.heap.size w)
 have H:(if ι = 1 then (newelref21_Way.j0 k B (wrap64 (δ + ε)) δ ε ι μ κ ν ξ ψ a1 a2 Y γ ρ) else (newelref21_Way.j0 k B δ δ ε ι μ κ ν ξ ψ a1 a2 Y γ ρ))=some r:=h
 clear h
 have al:=aK H
 clear H
 go_enter Try.func35,Try.ntmps35
 go_upto_if 17 with(first|((with_reducible refine Qe (N:=4) rfl ?_);refine qE 4 #[.int .i64 δ,.int .i64 ε,.int .i64 ι,.int .i64 μ,.int .i64 κ,.int .i64 ν,.int .i64 ξ,.int .i64 ψ,.bool a1,.bool a2] 31 ?_;intro τ hg w5 hbox hb;have J:=aK hbox;have bg:=sGe hg;have bh:=sGe hg;replace HB:=sHb hb;clear hb hbox hg)|((with_reducible refine Qe (N:=5) rfl ?_);refine qE 5 #[.int .i64 Y,.int .i64 γ,.int .i64 ρ] 36 ?_;intro a4 hg w6 hbox hb;have η :=aK hbox;have cd:=sGe hg;have cr:=sGe hg;have O:=sNl J hg;have X:=sNg J hg;replace J:=sBk J hb;replace HB:=sHb hb;clear hb hbox hg;have dx:=O.out;have fi:=X.out;obtain⟨a8,a9,ao,φ,am,b3,b4,bc,bi,bj,aa,ab,b2,bk,bl,bm,bn,bo,bp,bq⟩:=Zg J.out))
 repeat(go_quiet (first|((with_reducible refine Qe (N:=4) rfl ?_);refine qE 4 #[.int .i64 δ,.int .i64 ε,.int .i64 ι,.int .i64 μ,.int .i64 κ,.int .i64 ν,.int .i64 ξ,.int .i64 ψ,.bool a1,.bool a2] 31 ?_;intro τ hg w5 hbox hb;have J:=aK hbox;have bg:=sGe hg;have bh:=sGe hg;replace HB:=sHb hb;clear hb hbox hg)|((with_reducible refine Qe (N:=5) rfl ?_);refine qE 5 #[.int .i64 Y,.int .i64 γ,.int .i64 ρ] 36 ?_;intro a4 hg w6 hbox hb;have η :=aK hbox;have cd:=sGe hg;have cr:=sGe hg;have O:=sNl J hg;have X:=sNg J hg;replace J:=sBk J hb;replace HB:=sHb hb;clear hb hbox hg;have dx:=O.out;have fi:=X.out;obtain⟨a8,a9,ao,φ,am,b3,b4,bc,bi,bj,aa,ab,b2,bk,bl,bm,bn,bo,bp,bq⟩:=Zg J.out));go_upto_if 17 with(first|((with_reducible refine Qe (N:=4) rfl ?_);refine qE 4 #[.int .i64 δ,.int .i64 ε,.int .i64 ι,.int .i64 μ,.int .i64 κ,.int .i64 ν,.int .i64 ξ,.int .i64 ψ,.bool a1,.bool a2] 31 ?_;intro τ hg w5 hbox hb;have J:=aK hbox;have bg:=sGe hg;have bh:=sGe hg;replace HB:=sHb hb;clear hb hbox hg)|((with_reducible refine Qe (N:=5) rfl ?_);refine qE 5 #[.int .i64 Y,.int .i64 γ,.int .i64 ρ] 36 ?_;intro a4 hg w6 hbox hb;have η :=aK hbox;have cd:=sGe hg;have cr:=sGe hg;have O:=sNl J hg;have X:=sNg J hg;replace J:=sBk J hb;replace HB:=sHb hb;clear hb hbox hg;have dx:=O.out;have fi:=X.out;obtain⟨a8,a9,ao,φ,am,b3,b4,bc,bi,bj,aa,ab,b2,bk,bl,bm,bn,bo,bp,bq⟩:=Zg J.out)))
 (try simp only[Act.put,qS])
 go_cut [7] (fun v7 wc=>∃ (kq:Nat) (ζ :Int),v7 = .int .i64 ζ ∧ Aside0 (newelref21_Way.j0 kq B ζ δ ε ι μ κ ν ξ ψ a1 a2 Y γ ρ=some r)∧Aside0 (kq≤k)∧Aside0 (wc.heap[τ]?=some (.cells #[.int .i64 δ,.int .i64 ε,.int .i64 ι,.int .i64 μ,.int .i64 κ,.int .i64 ν,.int .i64 ξ,.int .i64 ψ,.bool a1,.bool a2] 31 (0,0)))∧Aside0 (wc.heap[a4]?=some (.cells #[.int .i64 Y,.int .i64 γ,.int .i64 ρ] 36 (0,0)))∧Aside0 (Below w.heap.size w wc))
 case first=>
  have H:=al.out
  clear al
  by_cases c9: ι = 1
  ·rw[if_pos c9] at H
   have c9b0:(ι == 1)=true:=beq_iff_eq.mpr c9
   have c9b1:(ι != 1)=false:=bne_eq_false_iff_eq.mpr c9
   clear c9
   (first|rw[c9b0]|(simp only[Za,Zb];rw[c9b0])|skip)
   have H':=aK H
   clear H
   have cf:=O.out
   have cj:=X.out
   obtain⟨bs,cn,cw,fq,fr,gi,gj,az,ce,ck,co,cp,d4,gl,gx,gy,gz,b0,dd,dk⟩:=Zg J.out
   go_wp2
   repeat(go_quiet (fail);try go_wp2)
   go_meet
   case rel=>exact⟨_,(wrap64 (δ + ε)),rfl,H',⟨by first|omega|exact Nat.le_refl _⟩,J,η,HB⟩
  ·rw[if_neg c9] at H
   have c9b0:(ι == 1)=false:=beq_eq_false_iff_ne.mpr c9
   have c9b1:(ι != 1)=true:=bne_iff_ne.mpr c9
   (first|rw[c9b0]|(simp only[Za,Zb];rw[c9b0])|skip)
   have H':=aK H
   clear H
   go_wp2
   repeat(go_quiet (fail);try go_wp2)
   go_meet
   case rel=>exact⟨_,(δ),rfl,H',⟨by first|omega|exact Nat.le_refl _⟩,J,η,HB⟩
 case rest=>
  clear al
  try clear a8
  try clear a9
  try clear ao
  try clear φ
  try clear am
  try clear b3
  try clear b4
  try clear bc
  try clear bi
  try clear bj
  try clear aa
  try clear ab
  try clear b2
  try clear bk
  try clear bl
  try clear bm
  try clear bn
  try clear bo
  try clear bp
  try clear bq
  obtain⟨kq,ζ,rfl,HA,du,J,η,HB⟩:=hcut
  cases kq with
  |zero=>exact absurd HA.out (by simp[newelref21_Way.j0])
  |succ ff=>
   have H:=HA.out
   clear HA
   simp only[newelref21_Way.j0] at H
   by_cases a5: ψ = 0
   ·rw[if_pos a5] at H
    have c12b0:(ψ == 0)=true:=beq_iff_eq.mpr a5
    have c12b1:(ψ != 0)=false:=bne_eq_false_iff_eq.mpr a5
    clear a5
    obtain⟨ae,bz,H⟩:=qO H
    have br:=aK bz
    clear bz
    obtain rfl:=Option.some.inj H
    have ej:=O.out
    have ek:=X.out
    obtain⟨bu,bv,di,eg,eh,ei,ep,f7,f8,fa,ci,cm,ef,fb,fc,fe,fg,fl,fn,fo⟩:=Zg J.out
    obtain⟨cx,cy,χ,cz,d0,ω⟩:=qD3 η.out
    go_wp2_with (first|(go_at_call 57;(with_reducible refine(newelref21_far.calls ζ Y ae _ br.out).mono ?_);rintro e w' ⟨rfl,⟨nd,rfl⟩⟩;(try first|exact⟨rfl,_,World.drewN_drewN _ _ _⟩|exact⟨rfl,_,Eq.trans (World.drewN_drewN _ _ _) (congrArg (World.drewN _) (Nat.add_assoc _ _ _))⟩)))
    repeat(go_quiet (first|(go_at_call 57;(with_reducible refine(newelref21_far.calls ζ Y ae _ br.out).mono ?_);rintro e w' ⟨rfl,⟨nd,rfl⟩⟩;(try first|exact⟨rfl,_,World.drewN_drewN _ _ _⟩|exact⟨rfl,_,Eq.trans (World.drewN_drewN _ _ _) (congrArg (World.drewN _) (Nat.add_assoc _ _ _))⟩)));try go_wp2_with (first|(go_at_call 57;(with_reducible refine(newelref21_far.calls ζ Y ae _ br.out).mono ?_);rintro e w' ⟨rfl,⟨nd,rfl⟩⟩;(try first|exact⟨rfl,_,World.drewN_drewN _ _ _⟩|exact⟨rfl,_,Eq.trans (World.drewN_drewN _ _ _) (congrArg (World.drewN _) (Nat.add_assoc _ _ _))⟩))))
    go_ret
    exact⟨by first|rfl|(simp[Qk,Qj] <;> rfl)|(simp[*,Qk,Qj] <;> rfl),bel⟩
   ·rw[if_neg a5] at H
    have c12b0:(ψ == 0)=false:=beq_eq_false_iff_ne.mpr a5
    have c12b1:(ψ != 0)=true:=bne_iff_ne.mpr a5
    have bf:=aK H
    clear H
    have d5:=O.out
    have d6:=X.out
    obtain⟨ag,ah,b5,cq,ct,cu,cv,d8,d9,da,ai,aj,b8,d1,d2,d3,d7,db,dr,dv⟩:=Zg J.out
    obtain⟨ak,an,a3,aw,ax,b6⟩:=qD3 η.out
    go_upto_if 38 with(fail)
    repeat(go_quiet (fail);go_upto_if 38 with(fail))
    go_cut [8,9,10] (fun v8 v9 bd wc=>∃ (kq:Nat) (Z:Int) (θ :Int) (σ:Bool),v8 = .int .i64 Z∧v9 = .int .i64 θ ∧ bd = .bool σ∧Aside0 (newelref21_Way.j1 kq ζ Z θ σ δ ε ι μ κ ν ξ ψ a1 a2 Y γ ρ=some r)∧Aside0 (kq≤ff)∧Aside0 (wc.heap[τ]?=some (.cells #[.int .i64 δ,.int .i64 ε,.int .i64 ι,.int .i64 μ,.int .i64 κ,.int .i64 ν,.int .i64 ξ,.int .i64 ψ,.bool a1,.bool a2] 31 (0,0)))∧Aside0 (wc.heap[a4]?=some (.cells #[.int .i64 Y,.int .i64 γ,.int .i64 ρ] 36 (0,0)))∧Aside0 (Below w.heap.size w wc))
    case first=>
     have H:=bf.out
     clear bf
     by_cases ac: ψ = 1
     ·rw[if_pos ac] at H
      have c21b0:(ψ == 1)=true:=beq_iff_eq.mpr ac
      have c21b1:(ψ != 1)=false:=bne_eq_false_iff_eq.mpr ac
      clear ac
      (first|rw[c21b0]|(simp only[Za,Zb];rw[c21b0])|skip)
      have H':=aK H
      clear H
      have el:=X.out
      have em:=O.out
      obtain⟨bb,de,df,dh,dj,dl⟩:=qD3 η.out
      go_wp2
      repeat(go_quiet (fail);try go_wp2)
      go_meet
      case rel=>exact⟨_,(wrap64 (B-1)),(0),(decide (Y < ζ)),rfl,rfl,rfl,H',⟨by have:=du.out;omega⟩,J,η,HB⟩
     ·rw[if_neg ac] at H
      have c21b0:(ψ == 1)=false:=beq_eq_false_iff_ne.mpr ac
      have c21b1:(ψ != 1)=true:=bne_iff_ne.mpr ac
      (first|rw[c21b0]|(simp only[Za,Zb];rw[c21b0])|skip)
      have H':=aK H
      clear H
      go_wp2
      repeat(go_quiet (fail);try go_wp2)
      go_meet
      case rel=>exact⟨_,(0),(wrap64 (B-1)),(decide (Y > ζ)),rfl,rfl,rfl,H',⟨by have:=du.out;omega⟩,J,η,HB⟩
    case rest=>
     clear bf
     try clear a5
     try clear c12b0
     try clear c12b1
     try clear ag
     try clear ah
     try clear b5
     try clear cq
     try clear ct
     try clear cu
     try clear cv
     try clear d8
     try clear d9
     try clear da
     try clear ak
     try clear an
     try clear a3
     try clear a8
     try clear a9
     try clear ao
     try clear φ
     try clear am
     try clear b3
     try clear b4
     try clear bc
     try clear bi
     try clear bj
     try clear ai
     try clear aj
     try clear b8
     try clear d1
     try clear d2
     try clear d3
     try clear d7
     try clear db
     try clear dr
     try clear dv
     try clear aw
     try clear ax
     try clear b6
     try clear aa
     try clear ab
     try clear b2
     try clear bk
     try clear bl
     try clear bm
     try clear bn
     try clear bo
     try clear bp
     try clear bq
     obtain⟨kq,Z,θ,σ,rfl,rfl,rfl,HA,e3,J,η,HB⟩:=hcut
     cases kq with
     |zero=>exact absurd HA.out (by simp[newelref21_Way.j1])
     |succ e4=>
      have H:=HA.out
      clear HA
      simp only[newelref21_Way.j1] at H
      by_cases a6: ψ = γ
      ·rw[if_pos a6] at H
       have c24b0:(ψ == γ)=true:=beq_iff_eq.mpr a6
       have c24b1:(ψ != γ)=false:=bne_eq_false_iff_eq.mpr a6
       clear a6
       by_cases b9:σ=true
       ·subst b9
        rw[if_pos rfl] at H
        obtain⟨af,ay,H⟩:=qO H
        have b1:=aK ay
        clear ay
        obtain⟨ap,bw,H⟩:=qO H
        have cg:=aK bw
        clear bw
        obtain⟨ar,a7,H⟩:=qO H
        have e5:=aK a7
        clear a7
        obtain rfl:=Option.some.inj H
        have fj:=O.out
        have fk:=X.out
        obtain⟨e7,e8,eu,ft,fu,fv,fw,ic,ie,ig,e9,ea,ev,fx,fy,fz,ga,ih,ii,ij⟩:=Zg J.out
        obtain⟨dm,dn,ew,dp,dq,ey⟩:=qD3 η.out
        go_wp2_with (first|(go_at_call 57;(with_reducible refine(newelref21_far.calls ζ Z af _ b1.out).mono ?_);rintro e w' ⟨rfl,⟨nd,rfl⟩⟩;(try first|exact⟨rfl,_,World.drewN_drewN _ _ _⟩|exact⟨rfl,_,Eq.trans (World.drewN_drewN _ _ _) (congrArg (World.drewN _) (Nat.add_assoc _ _ _))⟩))|(go_at_call 57;(with_reducible refine(newelref21_far.calls Z θ ap _ cg.out).mono ?_);rintro e w' ⟨rfl,⟨nd,rfl⟩⟩;(try first|exact⟨rfl,_,World.drewN_drewN _ _ _⟩|exact⟨rfl,_,Eq.trans (World.drewN_drewN _ _ _) (congrArg (World.drewN _) (Nat.add_assoc _ _ _))⟩))|(go_at_call 57;(with_reducible refine(newelref21_far.calls θ Y ar _ e5.out).mono ?_);rintro e w' ⟨rfl,⟨nd,rfl⟩⟩;(try first|exact⟨rfl,_,World.drewN_drewN _ _ _⟩|exact⟨rfl,_,Eq.trans (World.drewN_drewN _ _ _) (congrArg (World.drewN _) (Nat.add_assoc _ _ _))⟩)))
        repeat(go_quiet (first|(go_at_call 57;(with_reducible refine(newelref21_far.calls ζ Z af _ b1.out).mono ?_);rintro e w' ⟨rfl,⟨nd,rfl⟩⟩;(try first|exact⟨rfl,_,World.drewN_drewN _ _ _⟩|exact⟨rfl,_,Eq.trans (World.drewN_drewN _ _ _) (congrArg (World.drewN _) (Nat.add_assoc _ _ _))⟩))|(go_at_call 57;(with_reducible refine(newelref21_far.calls Z θ ap _ cg.out).mono ?_);rintro e w' ⟨rfl,⟨nd,rfl⟩⟩;(try first|exact⟨rfl,_,World.drewN_drewN _ _ _⟩|exact⟨rfl,_,Eq.trans (World.drewN_drewN _ _ _) (congrArg (World.drewN _) (Nat.add_assoc _ _ _))⟩))|(go_at_call 57;(with_reducible refine(newelref21_far.calls θ Y ar _ e5.out).mono ?_);rintro e w' ⟨rfl,⟨nd,rfl⟩⟩;(try first|exact⟨rfl,_,World.drewN_drewN _ _ _⟩|exact⟨rfl,_,Eq.trans (World.drewN_drewN _ _ _) (congrArg (World.drewN _) (Nat.add_assoc _ _ _))⟩)));try go_wp2_with (first|(go_at_call 57;(with_reducible refine(newelref21_far.calls ζ Z af _ b1.out).mono ?_);rintro e w' ⟨rfl,⟨nd,rfl⟩⟩;(try first|exact⟨rfl,_,World.drewN_drewN _ _ _⟩|exact⟨rfl,_,Eq.trans (World.drewN_drewN _ _ _) (congrArg (World.drewN _) (Nat.add_assoc _ _ _))⟩))|(go_at_call 57;(with_reducible refine(newelref21_far.calls Z θ ap _ cg.out).mono ?_);rintro e w' ⟨rfl,⟨nd,rfl⟩⟩;(try first|exact⟨rfl,_,World.drewN_drewN _ _ _⟩|exact⟨rfl,_,Eq.trans (World.drewN_drewN _ _ _) (congrArg (World.drewN _) (Nat.add_assoc _ _ _))⟩))|(go_at_call 57;(with_reducible refine(newelref21_far.calls θ Y ar _ e5.out).mono ?_);rintro e w' ⟨rfl,⟨nd,rfl⟩⟩;(try first|exact⟨rfl,_,World.drewN_drewN _ _ _⟩|exact⟨rfl,_,Eq.trans (World.drewN_drewN _ _ _) (congrArg (World.drewN _) (Nat.add_assoc _ _ _))⟩))))
        go_ret
        exact⟨by first|rfl|(simp[Qk,Qj] <;> rfl)|(simp[*,Qk,Qj] <;> rfl),bel⟩
       ·replace b9:=Bool.eq_false_iff.mpr b9
        subst b9
        rw[if_neg nft] at H
        obtain⟨au,dt,H⟩:=qO H
        have dy:=aK dt
        clear dt
        obtain rfl:=Option.some.inj H
        have i9:=O.out
        have ia:=X.out
        obtain⟨gb,gt,gu,jb,jc,jd,je,j6,j7,j8,ge,gv,gw,jf,jg,jh,ji,j9,jx,jy⟩:=Zg J.out
        obtain⟨gm,gn,dz,gp,gq,e0⟩:=qD3 η.out
        go_wp2_with (first|(go_at_call 57;(with_reducible refine(newelref21_far.calls ζ Y au _ dy.out).mono ?_);rintro e w' ⟨rfl,⟨nd,rfl⟩⟩;(try first|exact⟨rfl,_,World.drewN_drewN _ _ _⟩|exact⟨rfl,_,Eq.trans (World.drewN_drewN _ _ _) (congrArg (World.drewN _) (Nat.add_assoc _ _ _))⟩)))
        repeat(go_quiet (first|(go_at_call 57;(with_reducible refine(newelref21_far.calls ζ Y au _ dy.out).mono ?_);rintro e w' ⟨rfl,⟨nd,rfl⟩⟩;(try first|exact⟨rfl,_,World.drewN_drewN _ _ _⟩|exact⟨rfl,_,Eq.trans (World.drewN_drewN _ _ _) (congrArg (World.drewN _) (Nat.add_assoc _ _ _))⟩)));try go_wp2_with (first|(go_at_call 57;(with_reducible refine(newelref21_far.calls ζ Y au _ dy.out).mono ?_);rintro e w' ⟨rfl,⟨nd,rfl⟩⟩;(try first|exact⟨rfl,_,World.drewN_drewN _ _ _⟩|exact⟨rfl,_,Eq.trans (World.drewN_drewN _ _ _) (congrArg (World.drewN _) (Nat.add_assoc _ _ _))⟩))))
        go_ret
        exact⟨by first|rfl|(simp[Qk,Qj] <;> rfl)|(simp[*,Qk,Qj] <;> rfl),bel⟩
      ·rw[if_neg a6] at H
       have c24b0:(ψ == γ)=false:=beq_eq_false_iff_ne.mpr a6
       have c24b1:(ψ != γ)=true:=bne_iff_ne.mpr a6
       obtain⟨av,cb,H⟩:=qO H
       have ba:=aK cb
       clear cb
       obtain⟨b7,ca,H⟩:=qO H
       have dc:=aK ca
       clear ca
       obtain rfl:=Option.some.inj H
       have he:=O.out
       have im:=X.out
       obtain⟨en,eo,fm,hj,hl,ik,io,ip,iq,ir,gr,gs,il,it,kc,kg,kh,ki,kj,kk⟩:=Zg J.out
       obtain⟨dw,gf,gg,h0,h4,h5⟩:=qD3 η.out
       go_wp2_with (first|(go_at_call 57;(with_reducible refine(newelref21_far.calls ζ Z av _ ba.out).mono ?_);rintro e w' ⟨rfl,⟨nd,rfl⟩⟩;(try first|exact⟨rfl,_,World.drewN_drewN _ _ _⟩|exact⟨rfl,_,Eq.trans (World.drewN_drewN _ _ _) (congrArg (World.drewN _) (Nat.add_assoc _ _ _))⟩))|(go_at_call 57;(with_reducible refine(newelref21_far.calls Z Y b7 _ dc.out).mono ?_);rintro e w' ⟨rfl,⟨nd,rfl⟩⟩;(try first|exact⟨rfl,_,World.drewN_drewN _ _ _⟩|exact⟨rfl,_,Eq.trans (World.drewN_drewN _ _ _) (congrArg (World.drewN _) (Nat.add_assoc _ _ _))⟩)))
       repeat(go_quiet (first|(go_at_call 57;(with_reducible refine(newelref21_far.calls ζ Z av _ ba.out).mono ?_);rintro e w' ⟨rfl,⟨nd,rfl⟩⟩;(try first|exact⟨rfl,_,World.drewN_drewN _ _ _⟩|exact⟨rfl,_,Eq.trans (World.drewN_drewN _ _ _) (congrArg (World.drewN _) (Nat.add_assoc _ _ _))⟩))|(go_at_call 57;(with_reducible refine(newelref21_far.calls Z Y b7 _ dc.out).mono ?_);rintro e w' ⟨rfl,⟨nd,rfl⟩⟩;(try first|exact⟨rfl,_,World.drewN_drewN _ _ _⟩|exact⟨rfl,_,Eq.trans (World.drewN_drewN _ _ _) (congrArg (World.drewN _) (Nat.add_assoc _ _ _))⟩)));try go_wp2_with (first|(go_at_call 57;(with_reducible refine(newelref21_far.calls ζ Z av _ ba.out).mono ?_);rintro e w' ⟨rfl,⟨nd,rfl⟩⟩;(try first|exact⟨rfl,_,World.drewN_drewN _ _ _⟩|exact⟨rfl,_,Eq.trans (World.drewN_drewN _ _ _) (congrArg (World.drewN _) (Nat.add_assoc _ _ _))⟩))|(go_at_call 57;(with_reducible refine(newelref21_far.calls Z Y b7 _ dc.out).mono ?_);rintro e w' ⟨rfl,⟨nd,rfl⟩⟩;(try first|exact⟨rfl,_,World.drewN_drewN _ _ _⟩|exact⟨rfl,_,Eq.trans (World.drewN_drewN _ _ _) (congrArg (World.drewN _) (Nat.add_assoc _ _ _))⟩))))
       go_ret
       exact⟨by first|rfl|(simp[Qk,Qj] <;> rfl)|(simp[*,Qk,Qj] <;> rfl),bel⟩
def newelref21_Cost.f (k:Nat) (B:Int) (J:Int) (O:Int) (X:Int) (Y:Int) (Z:Int) (γ:Int) (ζ :Int) (θ :Int) (η :Int) (δ :Int) (ε :Int) (ι :Int) (μ :Int) (κ :Int) (ν :Int) (ξ :Int) (ψ :Int) (a1:Bool) (a2:Bool) (φ :List Int) (χ :List Int) (a6:List Int) (a7:Int) (a8:Int) (a9:Int):Option (Int):=(newelref18_Rest.f k B J O X Y Z γ ζ θ η δ ε ι μ κ ν ξ).bind fun a5=>((newelref21_Way.f k B δ ε ι μ κ ν ξ ψ a1 a2 a7 a8 a9).bind fun af=>(some (wrap64 ((wrap64 (a5+(wrap64 (J * af))))+(wrap64 ((wrap64 ((wrap64 ((φ.length:Int)+(χ.length:Int)))+(a6.length:Int))) * (wrap64 ((wrap64 ((wrap64 (O+X)) + θ))+γ))))))))
def newelref21_Cost.T2:Bool×List (List Nat×List Nat):=(true,[([],[]),([],[]),([1],[1]),([0,2],[0,2]),([],[]),([4],[4]),([5],[5]),([],[]),([7],[7]),([],[]),([],[]),([8,9,10,3],[8,9,10]),([6,11],[6,11]),([3,12],[3,12]),([],[]),([],[]),([15],[15]),([16],[16]),([],[]),([18],[18]),([19],[19]),([17,20],[17,20]),([],[]),([22],[22]),([21,23],[21,23]),([],[]),([25],[25]),([26],[26]),([24,27],[24,27]),([14,28],[14,28]),([13,29],[13,29]),([30,11,0,1,2,3,4,5,6,7,8,9,10,11,12,13,14,15,16,17,18,19,20,21,22,23,24,25,26,27,28,29,30],[30])])
def newelref21_Cost.B2:List Nat:=[0,0,2,7,0,16,48,0,128,0,0,1935,4095,8191,0,0,32768,98304,0,262144,786432,2064384,0,4194304,16744448,0,33554432,100663296,268402688,536854528,1073741823,2147483647]
theorem newelref21_Cost.D7:rtab .any (opsOf Try.f12 2)=newelref21_Cost.T2:=by kernel_rfl
theorem newelref21_Cost.Ea:Zk newelref21_Cost.T2.2 newelref21_Cost.B2=true:=by kernel_rfl
set_option maxHeartbeats 8000000 in
set_option maxRecDepth 100000 in
theorem newelref21_Cost.calls (k:Nat) (B:Int) (J:Int) (O:Int) (X:Int) (Y:Int) (Z:Int) (γ:Int) (ζ :Int) (θ :Int) (η :Int) (δ :Int) (ε :Int) (ι :Int) (μ :Int) (κ :Int) (ν :Int) (ξ :Int) (ψ :Int) (a1:Bool) (a2:Bool) (aa:Option Addr) (ab:Nat) (φ :List Int) (ac:Option Addr) (ae:Nat) (χ :List Int) (ak:Option Addr) (am:Nat) (a6:List Int) (a7:Int) (a8:Int) (a9:Int) (r:Int) (w:World) (aw:Kd.C (Kd.int .i64) w aa φ.length φ) (ax: φ.length≤ab) (b3:Kd.C (Kd.int .i64) w ac χ.length χ) (b4: χ.length≤ae) (cw:Kd.C (Kd.int .i64) w ak a6.length a6) (cz:a6.length≤am) (h:newelref21_Cost.f k B J O X Y Z γ ζ θ η δ ε ι μ κ ν ξ ψ a1 a2 φ χ a6 a7 a8 a9=some r):
 Calls Try.prog 12 #[.agg #[.int .i64 B,.int .i64 J,.int .i64 O,.int .i64 X,.int .i64 Y,.int .i64 Z,.int .i64 γ,.int .i64 ζ,.int .i64 θ,.int .i64 η],.agg #[.int .i64 δ,.int .i64 ε,.int .i64 ι,.int .i64 μ,.int .i64 κ,.int .i64 ν,.int .i64 ξ,.int .i64 ψ,.bool a1,.bool a2],.agg #[.slice aa φ.length ab,.slice ac χ.length ae,.slice ak a6.length am],.agg #[.int .i64 a7,.int .i64 a8,.int .i64 a9]] w fun e w'=>e = .returned (.int .i64 r)∧Below w.heap.size w w':=by
 have cg:=Try.underlying25
 have er:=Try.underlying31
 have e9:=Try.underlying34
 have ch:=Try.underlying36
 have gk:=Try.underlying29
 have cm:=aK aw
 have cn:=aK ax
 clear aw ax
 have co:=aK b3
 have cp:=aK b4
 clear b3 b4
 have dt:=aK cw
 have du:=aK cz
 clear cw cz
 have HB:=aK (Below.refl w.heap.size w)
 have H:((newelref18_Rest.f k B J O X Y Z γ ζ θ η δ ε ι μ κ ν ξ).bind fun a5=>((newelref21_Way.f k B δ ε ι μ κ ν ξ ψ a1 a2 a7 a8 a9).bind fun af=>(some (wrap64 ((wrap64 (a5+(wrap64 (J * af))))+(wrap64 ((wrap64 ((wrap64 ((φ.length:Int)+(χ.length:Int)))+(a6.length:Int))) * (wrap64 ((wrap64 ((wrap64 (O+X)) + θ))+γ)))))))))=some r:=h
 clear h
 obtain⟨a5,bc,H⟩:=qO H
 have A5:=aK bc
 clear bc
 obtain⟨af,ao,H⟩:=qO H
 have A6:=aK ao
 clear ao
 obtain rfl:=Option.some.inj H
 go_enter Try.func12,Try.ntmps12
 try go_wp2_with (first|((with_reducible refine Qe (N:=4) rfl ?_);refine qE 4 #[.int .i64 B,.int .i64 J,.int .i64 O,.int .i64 X,.int .i64 Y,.int .i64 Z,.int .i64 γ,.int .i64 ζ,.int .i64 θ,.int .i64 η] 25 ?_;intro a0 hg w7 hbox hb;have ρ:=aK hbox;have b1:=sGe hg;have b2:=sGe hg;replace HB:=sHb hb;clear hb hbox hg)|((with_reducible refine Qe (N:=5) rfl ?_);refine qE 5 #[.int .i64 δ,.int .i64 ε,.int .i64 ι,.int .i64 μ,.int .i64 κ,.int .i64 ν,.int .i64 ξ,.int .i64 ψ,.bool a1,.bool a2] 31 ?_;intro a3 hg w8 hbox hb;have σ:=aK hbox;have b5:=sGe hg;have b6:=sGe hg;have ar:=sNl ρ hg;have au:=sNg ρ hg;replace ρ:=sBk ρ hb;replace HB:=sHb hb;clear hb hbox hg)|((with_reducible refine Qe (N:=6) rfl ?_);refine qE 6 #[.slice aa φ.length ab,.slice ac χ.length ae,.slice ak a6.length am] 34 ?_;intro b7 hg w9 hbox hb;have ω :=aK hbox;have b8:=sGe hg;have b9:=sGe hg;have ah:=sNl ρ hg;have ai:=sNg ρ hg;have aj:=sNl σ hg;have al:=sNg σ hg;replace ρ:=sBk ρ hb;replace σ:=sBk σ hb;replace HB:=sHb hb;clear hb hbox hg)|((with_reducible refine Qe (N:=7) rfl ?_);refine qE 7 #[.int .i64 a7,.int .i64 a8,.int .i64 a9] 36 ?_;intro ag hg fj hbox hb;have τ :=aK hbox;have ba:=sGe hg;have bb:=sGe hg;have av:=sNl ρ hg;have ay:=sNg ρ hg;have az:=sNl σ hg;have b0:=sNg σ hg;have an:=sNl ω hg;have ap:=sNg ω hg;replace ρ:=sBk ρ hb;replace σ:=sBk σ hb;replace ω :=sBk ω hb;replace HB:=sHb hb;clear hb hbox hg;have et:=ai.out;have fi:=ah.out;have ev:=al.out;have f7:=aj.out;have gp:=an.out;have gq:=ap.out;obtain⟨bw,bz,d5,ca,cb,d6⟩:=qD3 ω.out))
 replace ρ:=aK (Qd ρ.out)
 replace σ:=aK (Qd σ.out)
 replace ω :=aK (Qd ω.out)
 replace τ :=aK (Qd τ.out)
 replace HB:=aK (Qg HB.out)
 refine Ze (n:=32) (S:=fun w'=>w'.cell? ⟨a0,0,none⟩=some (.int .i64 B)∧w'.cell? ⟨a0,1,none⟩=some (.int .i64 J)∧w'.cell? ⟨a0,2,none⟩=some (.int .i64 O)∧w'.cell? ⟨a0,3,none⟩=some (.int .i64 X)∧w'.cell? ⟨a0,4,none⟩=some (.int .i64 Y)∧w'.cell? ⟨a0,5,none⟩=some (.int .i64 Z)∧w'.cell? ⟨a0,6,none⟩=some (.int .i64 γ)∧w'.cell? ⟨a0,7,none⟩=some (.int .i64 ζ)∧w'.cell? ⟨a0,8,none⟩=some (.int .i64 θ)∧w'.cell? ⟨a0,9,none⟩=some (.int .i64 η)∧w'.cell? ⟨a3,0,none⟩=some (.int .i64 δ)∧w'.cell? ⟨a3,1,none⟩=some (.int .i64 ε)∧w'.cell? ⟨a3,2,none⟩=some (.int .i64 ι)∧w'.cell? ⟨a3,3,none⟩=some (.int .i64 μ)∧w'.cell? ⟨a3,4,none⟩=some (.int .i64 κ)∧w'.cell? ⟨a3,5,none⟩=some (.int .i64 ν)∧w'.cell? ⟨a3,6,none⟩=some (.int .i64 ξ)∧w'.cell? ⟨a3,7,none⟩=some (.int .i64 ψ)∧w'.cell? ⟨a3,8,none⟩=some (.bool a1)∧w'.cell? ⟨a3,9,none⟩=some (.bool a2)∧w'.cell? ⟨ag,0,none⟩=some (.int .i64 a7)∧w'.cell? ⟨ag,1,none⟩=some (.int .i64 a8)∧w'.cell? ⟨ag,2,none⟩=some (.int .i64 a9)) (ds:=[]) #[false,false,false,false,false,false,false,false,false,false,false,false,false,false,false,false,false,false,false,false,false,false,false,false,false,false,false,false,false,false,false,false] kr rfl rfl ⟨(Qa ρ.out 0).trans rfl,(Qa ρ.out 1).trans rfl,(Qa ρ.out 2).trans rfl,(Qa ρ.out 3).trans rfl,(Qa ρ.out 4).trans rfl,(Qa ρ.out 5).trans rfl,(Qa ρ.out 6).trans rfl,(Qa ρ.out 7).trans rfl,(Qa ρ.out 8).trans rfl,(Qa ρ.out 9).trans rfl,(Qa σ.out 0).trans rfl,(Qa σ.out 1).trans rfl,(Qa σ.out 2).trans rfl,(Qa σ.out 3).trans rfl,(Qa σ.out 4).trans rfl,(Qa σ.out 5).trans rfl,(Qa σ.out 6).trans rfl,(Qa σ.out 7).trans rfl,(Qa σ.out 8).trans rfl,(Qa σ.out 9).trans rfl,(Qa τ.out 0).trans rfl,(Qa τ.out 1).trans rfl,(Qa τ.out 2).trans rfl⟩ (fun hHeld=>?_);refine Q5 newelref21_Cost.D7 newelref21_Cost.Ea (fun HT_ HW_=>?_)
 generalize fj.drew=ez at ρ σ ω τ HB hHeld ⊢
 refine qP 1 (some 22) (bN 32 2) HT_ ?_
 refine qP 4 (some 25) (bN 32 18) HT_ ?_
 refine qP 5 (some 26) (bN 32 50) HT_ ?_
 refine qP 7 (some 28) (bN 32 178) HT_ ?_
 refine qP 14 (some 35) (bN 32 16562) HT_ ?_
 refine qP 15 (some 36) (bN 32 49330) HT_ ?_
 refine qP 16 (some 37) (bN 32 114866) HT_ ?_
 refine qP 18 (some 39) (bN 32 377010) HT_ ?_
 refine qP 19 (some 40) (bN 32 901298) HT_ ?_
 refine qP 22 (some 43) (bN 32 5095602) HT_ ?_
 refine qP 25 (some 46) (bN 32 38650034) HT_ ?_
 refine qP 26 (some 47) (bN 32 105758898) HT_ ?_
 refine qT 0 (some 21) (bN 32 105758899) HT_ HW_ hHeld ?_
 refine qT 2 (some 23) (bN 32 105758903) HT_ HW_ hHeld ?_
 refine qT 6 (some 27) (bN 32 105758967) HT_ HW_ hHeld ?_
 refine qT 8 (some 29) (bN 32 105759223) HT_ HW_ hHeld ?_
 refine qT 9 (some 30) (bN 32 105759735) HT_ HW_ hHeld ?_
 refine qT 10 (some 31) (bN 32 105760759) HT_ HW_ hHeld ?_
 refine qT 17 (some 38) (bN 32 105891831) HT_ HW_ hHeld ?_
 refine qT 20 (some 41) (bN 32 106940407) HT_ HW_ hHeld ?_
 refine qP 21 (some 42) (bN 32 109037559) HT_ ?_
 refine qT 23 (some 44) (bN 32 117426167) HT_ HW_ hHeld ?_
 refine qP 24 (some 45) (bN 32 134203383) HT_ ?_
 refine qT 27 (some 48) (bN 32 268421111) HT_ HW_ hHeld ?_
 refine qP 28 (some 49) (bN 32 536856567) HT_ ?_
 refine qP 29 (some 50) (bN 32 1073727479) HT_ ?_
 refine Zf (i:=3) (N:=some 24) (bN 32 1073727487) rfl rfl (Q3 HT_.out kr) (by decide) (fun K hK=>?_)
 refine Zd Try.func34 kr rfl #[.agg #[.int .i64 B,.int .i64 J,.int .i64 O,.int .i64 X,.int .i64 Y,.int .i64 Z,.int .i64 γ,.int .i64 ζ,.int .i64 θ,.int .i64 η],.agg #[.int .i64 δ,.int .i64 ε,.int .i64 ι,.int .i64 μ,.int .i64 κ,.int .i64 ν,.int .i64 ξ]] (by rfl) rfl rfl qM ?_
 with_reducible refine(newelref18_Rest.calls k B J O X Y Z γ ζ θ η δ ε ι μ κ ν ξ a5 _ A5.out).mono ?_
 rintro e cx ⟨rfl,hb⟩
 refine⟨_,rfl, ?_⟩
 replace ρ:=sBk ρ hb
 replace σ:=sBk σ hb
 replace ω :=sBk ω hb
 replace τ :=sBk τ hb
 replace HB:=sHb hb
 (try clear hb)
 (try clear a4)
 (try clear hk)
 (try clear hi)
 refine hK.out _ _ ⟨qc ρ,qc ρ,qc ρ,qc ρ,qc ρ,qc ρ,qc ρ,qc ρ,qc ρ,qc ρ,qc σ,qc σ,qc σ,qc σ,qc σ,qc σ,qc σ,qc σ,qc σ,qc σ,qc τ,qc τ,qc τ⟩ (fun hHeld=>?_)
 clear hK K
 refine qN (some 24) ?_
 refine Zf (i:=11) (N:=some 32) (bN 32 1073729535) rfl rfl (Q3 HT_.out kr) (by decide) (fun K hK=>?_)
 refine Zd Try.func35 kr rfl #[.int .i64 B,.agg #[.int .i64 δ,.int .i64 ε,.int .i64 ι,.int .i64 μ,.int .i64 κ,.int .i64 ν,.int .i64 ξ,.int .i64 ψ,.bool a1,.bool a2],.agg #[.int .i64 a7,.int .i64 a8,.int .i64 a9]] (by rfl) rfl rfl qM ?_
 with_reducible refine(newelref21_Way.calls k B δ ε ι μ κ ν ξ ψ a1 a2 a7 a8 a9 af _ A6.out).mono ?_
 rintro e d1 ⟨rfl,hb⟩
 refine⟨_,rfl, ?_⟩
 replace ρ:=sBk ρ hb
 replace σ:=sBk σ hb
 replace ω :=sBk ω hb
 replace τ :=sBk τ hb
 replace HB:=sHb hb
 (try clear hb)
 (try clear a4)
 (try clear hk)
 (try clear hi)
 refine hK.out _ _ ⟨qc ρ,qc ρ,qc ρ,qc ρ,qc ρ,qc ρ,qc ρ,qc ρ,qc ρ,qc ρ,qc σ,qc σ,qc σ,qc σ,qc σ,qc σ,qc σ,qc σ,qc σ,qc σ,qc τ,qc τ,qc τ⟩ (fun hHeld=>?_)
 clear hK K
 refine qN (some 32) ?_
 refine qP 12 (some 33) (bN 32 1073733631) HT_ ?_
 refine qP 13 (some 34) (bN 32 1073741823) HT_ ?_
 refine qP 30 (some 51) (bN 32 2147483647) HT_ ?_
 refine qP 31 (some 8) (bN 32 4294967295) HT_ ?_
 refine Zi (Zc HT_.out kr) ?_
 try go_wp2
 go_ret
 exact⟨rfl,HB.out⟩
def collect_rising.l0:Nat→List Int→Int→List Int→Int→Int→Option (Bool)
 |0,_,_,_,_,_=>none
 |k+1,B,J,O,Z,Y=>if Y<Z then (if 0≤Y then (if Y<(O.length:Int) then (if (rd O Y)<0 then (some false) else (if (rd O Y)≥J then (some false) else (if Y>0 then (if 0≤(wrap64 (Y-1)) then (if (wrap64 (Y-1))<(B.length:Int) then (if (rd B (wrap64 (Y-1)))≥(rd O Y) then (some false) else (collect_rising.l0 k B J O Z (wrap64 (Y+1)))) else (none)) else (none)) else (collect_rising.l0 k B J O Z (wrap64 (Y+1)))))) else (none)) else (none)) else (some true)
def collect_rising.f (k:Nat) (l0:List Int) (X:Int):Option (Bool):=collect_rising.l0 k l0 X l0 (l0.length:Int) 0
theorem collect_rising.Zu:∀ k,(∀ O Y Z B X,LeO (collect_rising.l0 k O Y Z B X) (collect_rising.l0 (k+1) O Y Z B X))
 |0=>fun _ _ _ _ _ r h=>by simp[collect_rising.l0] at h
 |k+1=>by
  have J:=collect_rising.Zu k
  ·intro O Y Z B X
   unfold collect_rising.l0
   repeat' first|(with_reducible first|apply J|exact LeO.refl _|exact LeO.none _|refine LeO.ite ?_ ?_|refine LeO.bind ?_ (fun _=>?_))|apply J|exact LeO.none _|refine LeO.ite ?_ ?_|refine LeO.bind ?_ (fun _=>?_)
theorem collect_rising.mono:∀ B X k,LeO (collect_rising.f k B X) (collect_rising.f (k+1) B X):=by
 intro B X k
 have J:=collect_rising.Zu k
 unfold collect_rising.f
 repeat' first|(with_reducible first|apply J|exact LeO.refl _|exact LeO.none _|refine LeO.ite ?_ ?_|refine LeO.bind ?_ (fun _=>?_))|apply J|exact LeO.none _|refine LeO.ite ?_ ?_|refine LeO.bind ?_ (fun _=>?_)
set_option maxHeartbeats 8000000 in
set_option maxRecDepth 100000 in
theorem collect_rising.calls (k:Nat) (Z:Option Addr) (c0:Nat) (l0:List Int) (X:Int) (r:Bool) (w:World) (κ :Kd.C (Kd.int .i64) w Z l0.length l0) (γ:l0.length≤c0) (h:collect_rising.f k l0 X=some r):
 Calls Try.prog 50 #[.slice Z l0.length c0,.int .i64 X] w fun e w'=>e = .returned (.bool r)∧Drawn0 w w':=by
 have ξ :=aK κ
 have ah:=aK γ
 clear κ γ
 have H:(collect_rising.l0 k l0 X l0 (l0.length:Int) 0)=some r:=h
 clear h
 have H':=aK H
 clear H
 go_enter Try.func50,Try.ntmps50
 go_wp2
 go_loopg [9] k (fun kq v9 w'=>∃ (B:Int),v9 = .int .i64 B∧Aside0 (collect_rising.l0 kq l0 X l0 (l0.length:Int) B=some r)∧Aside0 (kq≤k)∧Drawn0 w w')
 case atStart=>exact⟨(0),rfl,H',⟨Nat.le_refl _⟩,by repeat(first|exact Drawn0.refl _|apply Drawn0.step)⟩
 case round=>
  clear H'
  obtain⟨B,rfl,HA,am,⟨m1,rfl⟩⟩:=hrel
  cases gk with
  |zero=>exact absurd HA.out (by simp[collect_rising.l0])
  |succ k1=>
   have H:=HA.out
   clear HA
   simp only[collect_rising.l0] at H
   by_cases c3:B<(l0.length:Int)
   ·rw[if_pos c3] at H
    have c3b0:=decide_eq_true c3
    clear c3
    by_cases c4:0≤B
    ·rw[if_pos c4] at H
     have c4b0:=decide_eq_true c4
     clear c4
     by_cases c5:B<(l0.length:Int)
     ·rw[if_pos c5] at H
      have c5b0:=decide_eq_true c5
      clear c5
      by_cases c6:(rd l0 B)<0
      ·rw[if_pos c6] at H
       have c6b0:=decide_eq_true c6
       clear c6
       obtain rfl:=Option.some.inj H
       have J:0≤(B:Int):=of_decide_eq_true (by assumption)
       have O:B<(l0.length:Int):=of_decide_eq_true (by assumption)
       obtain⟨ε,δ,ζ⟩:=Kd.Yx ξ.out B J O
       cases δ
       replace J:=eq_true J
       replace O:=eq_true O
       go_wp2
       go_ret
       exact⟨qR,by repeat(first|exact Drawn0.refl _|apply Drawn0.step)⟩
      ·rw[if_neg c6] at H
       have c6b0:=decide_eq_false c6
       clear c6
       by_cases c7:(rd l0 B)≥X
       ·rw[if_pos c7] at H
        have c7b0:decide (X≤(rd l0 B))=true:=decide_eq_true c7
        clear c7
        obtain rfl:=Option.some.inj H
        have J:0≤(B:Int):=of_decide_eq_true (by assumption)
        have O:B<(l0.length:Int):=of_decide_eq_true (by assumption)
        obtain⟨ε,δ,ζ⟩:=Kd.Yx ξ.out B J O
        cases δ
        replace J:=eq_true J
        replace O:=eq_true O
        go_wp2
        go_ret
        exact⟨qR,by repeat(first|exact Drawn0.refl _|apply Drawn0.step)⟩
       ·rw[if_neg c7] at H
        have c7b0:decide (X≤(rd l0 B))=false:=decide_eq_false c7
        clear c7
        by_cases c8:B>0
        ·rw[if_pos c8] at H
         have c8b0:decide (0<B)=true:=decide_eq_true c8
         clear c8
         obtain⟨Y,ι⟩:∃ j_:Int,(wrap64 (B-1))=j_:=⟨_,rfl⟩
         replace H:(if 0≤(Y) then (if (Y)<(l0.length:Int) then (if (rd l0 (Y))≥(rd l0 B) then (some false) else (collect_rising.l0 k1 l0 X l0 (l0.length:Int) (wrap64 (B+1)))) else (none)) else (none))=some r:=by first|(rw[ι] at H;exact H)|(simp only[ι] at H ⊢;exact H)
         have hji9w:(IntKind.i64.wrap (B-1))=Y:=(Za _).trans ι
         by_cases c10:0≤(Y)
         ·rw[if_pos c10] at H
          have c10b0:=decide_eq_true c10
          clear c10
          by_cases a6:(Y)<(l0.length:Int)
          ·rw[if_pos a6] at H
           have c11b0:=decide_eq_true a6
           clear a6
           by_cases a5:(rd l0 (Y))≥(rd l0 B)
           ·rw[if_pos a5] at H
            have c12b0:decide ((rd l0 B)≤(rd l0 (Y)))=true:=decide_eq_true a5
            clear a5
            obtain rfl:=Option.some.inj H
            have J:0≤(B:Int):=of_decide_eq_true (by assumption)
            have O:B<(l0.length:Int):=of_decide_eq_true (by assumption)
            obtain⟨ε,δ,ζ⟩:=Kd.Yx ξ.out B J O
            cases δ
            replace J:=eq_true J
            replace O:=eq_true O
            have η :0≤((Y):Int):=of_decide_eq_true (by assumption)
            have θ :(Y)<(l0.length:Int):=of_decide_eq_true (by assumption)
            obtain⟨μ,ν,ρ⟩:=Kd.Yx ξ.out (Y) η θ
            obtain rfl: ε = μ :=(by injection ν)
            replace η :=eq_true η
            replace θ :=eq_true θ
            go_wp2
            go_ret
            exact⟨by first|rfl|(simp;done)|(simp only[← ι] <;> (first|rfl|simp))|(simp[*];done),by repeat(first|exact Drawn0.refl _|apply Drawn0.step)⟩
           ·rw[if_neg a5] at H
            have c12b0:decide ((rd l0 B)≤(rd l0 (Y)))=false:=decide_eq_false a5
            clear a5
            have H':=aK H
            clear H
            have J:0≤(B:Int):=of_decide_eq_true (by assumption)
            have O:B<(l0.length:Int):=of_decide_eq_true (by assumption)
            obtain⟨ε,δ,ζ⟩:=Kd.Yx ξ.out B J O
            cases δ
            replace J:=eq_true J
            replace O:=eq_true O
            have η :0≤((Y):Int):=of_decide_eq_true (by assumption)
            have θ :(Y)<(l0.length:Int):=of_decide_eq_true (by assumption)
            obtain⟨μ,ν,ρ⟩:=Kd.Yx ξ.out (Y) η θ
            obtain rfl: ε = μ :=(by injection ν)
            replace η :=eq_true η
            replace θ :=eq_true θ
            go_wp2
            go_roundg k1
            case measure=>have:=am.out;omega
            case rel=>exact⟨(wrap64 (B+1)),rfl,H',⟨by have:=am.out;omega⟩,by repeat(first|exact Drawn0.refl _|apply Drawn0.step)⟩
          ·rw[if_neg a6] at H
           exact absurd H (by simp)
         ·rw[if_neg c10] at H
          exact absurd H (by simp)
        ·rw[if_neg c8] at H
         have c8b0:decide (0<B)=false:=decide_eq_false c8
         clear c8
         have H':=aK H
         clear H
         have J:0≤(B:Int):=of_decide_eq_true (by assumption)
         have O:B<(l0.length:Int):=of_decide_eq_true (by assumption)
         obtain⟨ε,δ,ζ⟩:=Kd.Yx ξ.out B J O
         cases δ
         replace J:=eq_true J
         replace O:=eq_true O
         go_wp2
         go_roundg k1
         case measure=>have:=am.out;omega
         case rel=>exact⟨(wrap64 (B+1)),rfl,H',⟨by have:=am.out;omega⟩,by repeat(first|exact Drawn0.refl _|apply Drawn0.step)⟩
     ·rw[if_neg c5] at H
      exact absurd H (by simp)
    ·rw[if_neg c4] at H
     exact absurd H (by simp)
   ·rw[if_neg c3] at H
    have c3b0:=decide_eq_false c3
    clear c3
    obtain rfl:=Option.some.inj H
    go_wp2
    go_ret
    exact⟨qR,by repeat(first|exact Drawn0.refl _|apply Drawn0.step)⟩
mutual
def collect_Check.j0:Nat→Bool→Int→Int→Int→Bool→Bool→List Int→List Int→List Int→Option (Int)
 |0,_,_,_,_,_,_,_,_,_=>none
 |k+1,ε,B,Y,Z,γ,δ,J,O,X=>if ε = true then (some 200) else ((some (([J,O,X]:List (List Int)):List (List Int))).bind fun μ =>(collect_Check.l0 k μ (μ.length:Int) 0 B Y Z γ δ J O X))
def collect_Check.l0:Nat→List (List Int)→Int→Int→Int→Int→Int→Bool→Bool→List Int→List Int→List Int→Option (Int)
 |0,_,_,_,_,_,_,_,_,_,_,_=>none
 |k+1,ζ,η,ε,B,Y,Z,γ,δ,J,O,X=>if ε < η then (if 0 ≤ ε then (if ε < (ζ.length:Int) then ((collect_rising.f k (Y4 ζ ε) B).bind fun bh=>(if bh=true then (collect_Check.l0 k ζ η (wrap64 (ε + 1)) B Y Z γ δ J O X) else (some 200))) else (none)) else (none)) else (some 0)
end
def collect_Check.f (k:Nat) (B:Int) (J:Int) (O:Int) (X:Bool) (Y:Bool) (Z:List Int) (γ:List Int) (δ :List Int):Option (Int):=if B<2 then (collect_Check.j0 k true B J O X Y Z γ δ) else (if B>64 then (collect_Check.j0 k true B J O X Y Z γ δ) else (if J<0 then (collect_Check.j0 k true B J O X Y Z γ δ) else (if J≥B then (collect_Check.j0 k true B J O X Y Z γ δ) else (if O<(-1) then (collect_Check.j0 k true B J O X Y Z γ δ) else (collect_Check.j0 k (decide (O>1)) B J O X Y Z γ δ)))))
theorem collect_Check.Zu:∀ k,(∀ O Y Z B X y5 y6 y7 y8,LeO (collect_Check.j0 k O Y Z B X y5 y6 y7 y8) (collect_Check.j0 (k+1) O Y Z B X y5 y6 y7 y8))∧(∀ O Y Z B X y5 y6 y7 y8 y9 γ,LeO (collect_Check.l0 k O Y Z B X y5 y6 y7 y8 y9 γ) (collect_Check.l0 (k+1) O Y Z B X y5 y6 y7 y8 y9 γ))
 |0=>⟨fun _ _ _ _ _ _ _ _ _ r h=>by simp[collect_Check.j0] at h,fun _ _ _ _ _ _ _ _ _ _ _ r h=>by simp[collect_Check.l0] at h⟩
 |k+1=>by
  obtain⟨J,ε⟩:=collect_Check.Zu k
  refine⟨?_, ?_⟩
  ·intro O Y Z B X y5 y6 y7 y8
   unfold collect_Check.j0
   repeat' first|(with_reducible first|apply J|apply ε |apply collect_rising.mono|exact LeO.refl _|exact LeO.none _|refine LeO.ite ?_ ?_|refine LeO.bind ?_ (fun _=>?_))|apply J|apply ε |apply collect_rising.mono|exact LeO.none _|refine LeO.ite ?_ ?_|refine LeO.bind ?_ (fun _=>?_)
  ·intro O Y Z B X y5 y6 y7 y8 y9 γ
   unfold collect_Check.l0
   repeat' first|(with_reducible first|apply J|apply ε |apply collect_rising.mono|exact LeO.refl _|exact LeO.none _|refine LeO.ite ?_ ?_|refine LeO.bind ?_ (fun _=>?_))|apply J|apply ε |apply collect_rising.mono|exact LeO.none _|refine LeO.ite ?_ ?_|refine LeO.bind ?_ (fun _=>?_)
theorem collect_Check.mono:∀ B X a2 a3 O a5 Y a7 k,LeO (collect_Check.f k B X a2 a3 O a5 Y a7) (collect_Check.f (k+1) B X a2 a3 O a5 Y a7):=by
 intro B X a2 a3 O a5 Y a7 k
 obtain⟨J,ε⟩:=collect_Check.Zu k
 unfold collect_Check.f
 repeat' first|(with_reducible first|apply J|apply ε |apply collect_rising.mono|exact LeO.refl _|exact LeO.none _|refine LeO.ite ?_ ?_|refine LeO.bind ?_ (fun _=>?_))|apply J|apply ε |apply collect_rising.mono|exact LeO.none _|refine LeO.ite ?_ ?_|refine LeO.bind ?_ (fun _=>?_)
set_option maxHeartbeats 8000000 in
set_option maxRecDepth 100000 in
theorem collect_Check.calls (k:Nat) (B:Int) (J:Int) (O:Int) (X:Bool) (Y:Bool) (θ :Nat→Prop) (a3:Option Addr) (a4:Nat) (Z:List Int) (ι :Nat→Prop) (a7:Option Addr) (a8:Nat) (γ:List Int) (κ :Nat→Prop) (a9:Option Addr) (aa:Nat) (δ :List Int) (r:Int) (w:World) (fj:Kd.V (Kd.int .i64) 3 w w.heap.size (fun k_=> θ k_) (.slice a3 Z.length a4) Z) (fk:Kd.V (Kd.int .i64) 3 w w.heap.size (fun k_=> ι k_) (.slice a7 γ.length a8) γ) (fl:Kd.V (Kd.int .i64) 3 w w.heap.size (fun k_=> κ k_) (.slice a9 δ.length aa) δ) (h:collect_Check.f k B J O X Y Z γ δ = some r):
 Calls Try.prog 29 #[.agg #[.int .i64 B,.int .i64 J,.int .i64 O,.bool X,.bool Y,.slice a3 Z.length a4,.slice a7 γ.length a8,.slice a9 δ.length aa]] w fun e w'=>e = .returned (.int .i64 r)∧Below w.heap.size w w':=by
 have lr:=Try.underlying76
 have ab:=aK (show Kd.V (Kd.int .i64) 3 w w.heap.size (fun k_=>((θ k_ ∨ ι k_ ∨ κ k_)∨w.heap.size≤k_)) (.slice a3 Z.length a4) Z from Kd.Ys fj (fun k_ hk=>.inl (.inl hk)))
 have ag:=aK (show Kd.V (Kd.int .i64) 3 w w.heap.size (fun k_=>((θ k_ ∨ ι k_ ∨ κ k_)∨w.heap.size≤k_)) (.slice a7 γ.length a8) γ from Kd.Ys fk (fun k_ hk=>.inl (.inr (.inl hk))))
 have ah:=aK (show Kd.V (Kd.int .i64) 3 w w.heap.size (fun k_=>((θ k_ ∨ ι k_ ∨ κ k_)∨w.heap.size≤k_)) (.slice a9 δ.length aa) δ from Kd.Ys fl (fun k_ hk=>.inl (.inr (.inr hk))))
 have HB:=aK (Below.refl w.heap.size w)
 have H:(if B<2 then (collect_Check.j0 k true B J O X Y Z γ δ) else (if B>64 then (collect_Check.j0 k true B J O X Y Z γ δ) else (if J<0 then (collect_Check.j0 k true B J O X Y Z γ δ) else (if J≥B then (collect_Check.j0 k true B J O X Y Z γ δ) else (if O<(-1) then (collect_Check.j0 k true B J O X Y Z γ δ) else (collect_Check.j0 k (decide (O>1)) B J O X Y Z γ δ))))))=some r:=h
 clear h
 have dm:=aK H
 clear H
 go_enter Try.func29,Try.ntmps29
 go_upto_region 1 with(first|((with_reducible refine Qe (N:=1) rfl ?_);refine qE 1 #[.int .i64 B,.int .i64 J,.int .i64 O,.bool X,.bool Y,.slice a3 Z.length a4,.slice a7 γ.length a8,.slice a9 δ.length aa] 76 ?_;intro ε hg w3 hbox hb;have ζ :=aK hbox;have fy:=sGe hg;have fz:=sGe hg;replace ab:=aK (Kd.Um (Kd.Vg ab.out ε (Nat.le_of_eq hg.symm)) hb);replace ag:=aK (Kd.Um (Kd.Vg ag.out ε (Nat.le_of_eq hg.symm)) hb);replace ah:=aK (Kd.Um (Kd.Vg ah.out ε (Nat.le_of_eq hg.symm)) hb);replace HB:=sHb hb;clear hb hbox hg))
 (try simp only[Act.put,qS])
 go_cut [34] (fun ft wc=>∃ (kq:Nat) (b2:Bool),ft = .bool b2∧Aside0 (collect_Check.j0 kq b2 B J O X Y Z γ δ = some r)∧Aside0 (kq≤k)∧Aside0 (Kd.V (Kd.int .i64) 3 wc w.heap.size (fun k_=>((θ k_ ∨ ι k_ ∨ κ k_)∨w.heap.size≤k_)∧k_ ≠ ε) (.slice a3 Z.length a4) Z)∧Aside0 (Kd.V (Kd.int .i64) 3 wc w.heap.size (fun k_=>((θ k_ ∨ ι k_ ∨ κ k_)∨w.heap.size≤k_)∧k_ ≠ ε) (.slice a7 γ.length a8) γ)∧Aside0 (Kd.V (Kd.int .i64) 3 wc w.heap.size (fun k_=>((θ k_ ∨ ι k_ ∨ κ k_)∨w.heap.size≤k_)∧k_ ≠ ε) (.slice a9 δ.length aa) δ)∧Aside0 (wc.heap[ε]?=some (.cells #[.int .i64 B,.int .i64 J,.int .i64 O,.bool X,.bool Y,(.slice a3 Z.length a4),(.slice a7 γ.length a8),(.slice a9 δ.length aa)] 76 (0,0)))∧Aside0 (Below w.heap.size w wc))
 case first=>
  have H:=dm.out
  clear dm
  by_cases c4:B<2
  ·rw[if_pos c4] at H
   have c4b0:=decide_eq_true c4
   clear c4
   (first|rw[c4b0]|(simp only[Za,Zb];rw[c4b0])|skip)
   have H':=aK H
   clear H
   obtain⟨br,cd,ce,cv,dr,dv,dw,dx,cg,ch,cq,e3,er,ez,f7,ff⟩:=qD8 ζ.out
   go_wp2
   go_meet
   case rel=>exact⟨_,(true),rfl,H',⟨by first|omega|exact Nat.le_refl _⟩,⟨by(with_reducible repeat first|apply Kd.Z2|apply Kd.Z1|apply Kd.Xd);exact ab.out⟩,⟨by(with_reducible repeat first|apply Kd.Z2|apply Kd.Z1|apply Kd.Xd);exact ag.out⟩,⟨by(with_reducible repeat first|apply Kd.Z2|apply Kd.Z1|apply Kd.Xd);exact ah.out⟩,ζ,HB⟩
  ·rw[if_neg c4] at H
   have c4b0:=decide_eq_false c4
   clear c4
   (first|rw[c4b0]|(simp only[Za,Zb];rw[c4b0])|skip)
   by_cases c6:B>64
   ·rw[if_pos c6] at H
    have c6b0:decide (64<B)=true:=decide_eq_true c6
    clear c6
    have H':=aK H
    clear H
    obtain⟨a0,a2,b1,d7,dj,dn,dp,fv,ae,ay,bc,dq,du,dz,e0,fw⟩:=qD8 ζ.out
    go_wp2
    go_meet
    case rel=>exact⟨_,(true),rfl,H',⟨by first|omega|exact Nat.le_refl _⟩,⟨by(with_reducible repeat first|apply Kd.Z2|apply Kd.Z1|apply Kd.Xd);exact ab.out⟩,⟨by(with_reducible repeat first|apply Kd.Z2|apply Kd.Z1|apply Kd.Xd);exact ag.out⟩,⟨by(with_reducible repeat first|apply Kd.Z2|apply Kd.Z1|apply Kd.Xd);exact ah.out⟩,ζ,HB⟩
   ·rw[if_neg c6] at H
    have c6b0:decide (64<B)=false:=decide_eq_false c6
    clear c6
    by_cases c8:J<0
    ·rw[if_pos c8] at H
     have c8b0:=decide_eq_true c8
     clear c8
     have H':=aK H
     clear H
     obtain⟨ao,b7,bj,bo,dc,di,dy,e4,bi,bk,e5,e6,e7,e8,ev,fu⟩:=qD8 ζ.out
     go_wp2
     go_meet
     case rel=>exact⟨_,(true),rfl,H',⟨by first|omega|exact Nat.le_refl _⟩,⟨by(with_reducible repeat first|apply Kd.Z2|apply Kd.Z1|apply Kd.Xd);exact ab.out⟩,⟨by(with_reducible repeat first|apply Kd.Z2|apply Kd.Z1|apply Kd.Xd);exact ag.out⟩,⟨by(with_reducible repeat first|apply Kd.Z2|apply Kd.Z1|apply Kd.Xd);exact ah.out⟩,ζ,HB⟩
    ·rw[if_neg c8] at H
     have c8b0:=decide_eq_false c8
     clear c8
     by_cases c10:J≥B
     ·rw[if_pos c10] at H
      have c10b0:decide (B≤J)=true:=decide_eq_true c10
      clear c10
      have H':=aK H
      clear H
      obtain⟨bs,cn,cw,fq,fr,gi,gj,az,co,cp,d4,gl,gx,gy,gz,b0⟩:=qD8 ζ.out
      go_wp2
      go_meet
      case rel=>exact⟨_,(true),rfl,H',⟨by first|omega|exact Nat.le_refl _⟩,⟨by(with_reducible repeat first|apply Kd.Z2|apply Kd.Z1|apply Kd.Xd);exact ab.out⟩,⟨by(with_reducible repeat first|apply Kd.Z2|apply Kd.Z1|apply Kd.Xd);exact ag.out⟩,⟨by(with_reducible repeat first|apply Kd.Z2|apply Kd.Z1|apply Kd.Xd);exact ah.out⟩,ζ,HB⟩
     ·rw[if_neg c10] at H
      have c10b0:decide (B≤J)=false:=decide_eq_false c10
      clear c10
      by_cases a5:O<(-1)
      ·rw[if_pos a5] at H
       have c12b0:=decide_eq_true a5
       clear a5
       have H':=aK H
       clear H
       obtain⟨af,bd,bu,e9,ea,et,f8,ee,ba,bf,bv,fa,fb,fc,fe,eu⟩:=qD8 ζ.out
       go_wp2
       go_meet
       case rel=>exact⟨_,(true),rfl,H',⟨by first|omega|exact Nat.le_refl _⟩,⟨by(with_reducible repeat first|apply Kd.Z2|apply Kd.Z1|apply Kd.Xd);exact ab.out⟩,⟨by(with_reducible repeat first|apply Kd.Z2|apply Kd.Z1|apply Kd.Xd);exact ag.out⟩,⟨by(with_reducible repeat first|apply Kd.Z2|apply Kd.Z1|apply Kd.Xd);exact ah.out⟩,ζ,HB⟩
      ·rw[if_neg a5] at H
       have c12b0:=decide_eq_false a5
       clear a5
       have H':=aK H
       clear H
       obtain⟨bw,bz,d5,ef,eg,eh,ei,gg,ca,cb,d6,ej,ek,el,em,gh⟩:=qD8 ζ.out
       go_wp2
       go_meet
       case rel=>exact⟨_,(decide (O>1)),rfl,H',⟨by first|omega|exact Nat.le_refl _⟩,⟨by(with_reducible repeat first|apply Kd.Z2|apply Kd.Z1|apply Kd.Xd);exact ab.out⟩,⟨by(with_reducible repeat first|apply Kd.Z2|apply Kd.Z1|apply Kd.Xd);exact ag.out⟩,⟨by(with_reducible repeat first|apply Kd.Z2|apply Kd.Z1|apply Kd.Xd);exact ah.out⟩,ζ,HB⟩
 case rest=>
  clear dm
  obtain⟨kq,b2,rfl,HA,fo,ν,ξ,ρ,ζ,HB⟩:=hcut
  cases kq with
  |zero=>exact absurd HA.out (by simp[collect_Check.j0])
  |succ fg=>
   have H:=HA.out
   clear HA
   simp only[collect_Check.j0] at H
   by_cases a1:b2=true
   ·subst a1
    rw[if_pos rfl] at H
    obtain rfl:=Option.some.inj H
    go_wp2
    go_ret
    exact⟨rfl,HB.out⟩
   ·replace a1:=Bool.eq_false_iff.mpr a1
    subst a1
    rw[if_neg nft] at H
    obtain⟨μ,au⟩:∃ y_:List (List Int),y_=(([Z,γ,δ]:List (List Int))):=⟨_,rfl⟩
    replace H:(collect_Check.l0 fg μ (μ.length:Int) 0 B J O X Y Z γ δ)=some r:=by first|(rw[au];with_reducible exact H)|(have al:=(Option.bind_some _ _).symm.trans H;rw[au];with_reducible exact al)|(have al:=(Option.bind_some _ _).symm.trans H;with_reducible exact al)|with_reducible exact H|(rw[au];exact H)|exact H
    have bm:=aK au
    clear au
    have H':=aK H
    clear H
    obtain⟨cx,cy,χ,ci,cm,eb,ec,cr,cz,d0,ω,ed,en,eo,ep,fh⟩:=qD8 ζ.out
    go_wp2_with (first|((with_reducible refine Qe (N:=44) rfl ?_);refine Kd.N_lit (Kd.slice 3 (Kd.int .i64)) _ 32 ?hg (N':=44) ?hd (xs:=([Z,γ,δ]:List (List Int))) (inner:=[.slice a3 Z.length a4,.slice a7 γ.length a8,.slice a9 δ.length aa]) (ok:=(fun k_=>((θ k_ ∨ ι k_ ∨ κ k_)∨w.heap.size≤k_)∧k_ ≠ ε)) (okp:=(fun k_=>((θ k_ ∨ ι k_ ∨ κ k_)∨w.heap.size≤k_)∧k_ ≠ ε)) ?hr ?hp (fun _ hk=>hk) ((show ∀ k_,wc.heap.size≤k_→(fun k_=>((θ k_ ∨ ι k_ ∨ κ k_)∨w.heap.size≤k_)∧k_ ≠ ε) k_ from fun k_ hk=>⟨(.inr (Nat.le_trans (Qn HB.out) hk)),Kd.Cg (g:= ε) (o:=.cells #[.int .i64 B,.int .i64 J,.int .i64 O,.bool X,.bool Y,.slice a3 Z.length a4,.slice a7 γ.length a8,.slice a9 δ.length aa] 76 (0,0)) ζ.out k_ hk⟩) _ (Nat.le_refl _)) (Below.refl _ _) (Nat.le_refl _) (by simp) ?_;(case hd=>rfl);(case hg=>rfl);(case hr=>go_simp <;> rfl);(case hp=>exact(Reps.one (show Kd.FK (Kd.slice 3 (Kd.int .i64)) _ _ Z [.slice a3 Z.length a4] from(Kd.J2 (Kd.Vd (Kd.Ys (ok':=(fun k_=>((θ k_ ∨ ι k_ ∨ κ k_)∨w.heap.size≤k_)∧k_ ≠ ε)) (ν.out) (fun k_ hk=>⟨hk.1,hk.2⟩))).2.1 (Kd.V_F (Kd.Ys (ok':=(fun k_=>((θ k_ ∨ ι k_ ∨ κ k_)∨w.heap.size≤k_)∧k_ ≠ ε)) (ν.out) (fun k_ hk=>⟨hk.1,hk.2⟩))))) (Reps.one (show Kd.FK (Kd.slice 3 (Kd.int .i64)) _ _ γ [.slice a7 γ.length a8] from(Kd.J2 (Kd.Vd (Kd.Ys (ok':=(fun k_=>((θ k_ ∨ ι k_ ∨ κ k_)∨w.heap.size≤k_)∧k_ ≠ ε)) (ξ.out) (fun k_ hk=>⟨hk.1,hk.2⟩))).2.1 (Kd.V_F (Kd.Ys (ok':=(fun k_=>((θ k_ ∨ ι k_ ∨ κ k_)∨w.heap.size≤k_)∧k_ ≠ ε)) (ξ.out) (fun k_ hk=>⟨hk.1,hk.2⟩))))) (Reps.one (show Kd.FK (Kd.slice 3 (Kd.int .i64)) _ _ δ [.slice a9 δ.length aa] from(Kd.J2 (Kd.Vd (Kd.Ys (ok':=(fun k_=>((θ k_ ∨ ι k_ ∨ κ k_)∨w.heap.size≤k_)∧k_ ≠ ε)) (ρ.out) (fun k_ hk=>⟨hk.1,hk.2⟩))).2.1 (Kd.V_F (Kd.Ys (ok':=(fun k_=>((θ k_ ∨ ι k_ ∨ κ k_)∨w.heap.size≤k_)∧k_ ≠ ε)) (ρ.out) (fun k_ hk=>⟨hk.1,hk.2⟩))))) (Reps.none _ _)))));intro ga d1 ap hb hg_ hnew_;clear hg_ hnew_;(first|rw[← bm.out] at ap|(simp only[Int.reduceToNat] at ap;rw[← bm.out] at ap));have bp:=aK (Kd.Dj ap (Qn HB.out));replace ν :=aK (Kd.Vh ν.out (Kd.Lg ap) hb);replace ξ :=aK (Kd.Vh ξ.out (Kd.Lg ap) hb);replace ρ:=aK (Kd.Vh ρ.out (Kd.Lg ap) hb);replace ζ :=sBk ζ hb;replace HB:=sHb hb;clear hb ap;obtain⟨d2,d3,dl⟩:=Kd.Ly bp.out;subst dl))
    go_loopg [46] fg (fun kq fx w'=>∃ (η :Int),fx = .int .i64 η ∧ Aside0 (collect_Check.l0 kq μ (μ.length:Int) η B J O X Y Z γ δ = some r)∧Aside0 (kq≤fg)∧Aside0 (Kd.N (Kd.slice 3 (Kd.int .i64)) 32 w' w.heap.size (fun k_=>((θ k_ ∨ ι k_ ∨ κ k_)∨w.heap.size≤k_)∧k_ ≠ ε) (.slice d2 μ.length d3) μ)∧Aside0 (Kd.V (Kd.int .i64) 3 w' w.heap.size (fun k_=>((θ k_ ∨ ι k_ ∨ κ k_)∨w.heap.size≤k_)∧some k_≠((.slice d2 μ.length d3):Value).ownBlock∧k_ ≠ ε) (.slice a3 Z.length a4) Z)∧Aside0 (Kd.V (Kd.int .i64) 3 w' w.heap.size (fun k_=>((θ k_ ∨ ι k_ ∨ κ k_)∨w.heap.size≤k_)∧some k_≠((.slice d2 μ.length d3):Value).ownBlock∧k_ ≠ ε) (.slice a7 γ.length a8) γ)∧Aside0 (Kd.V (Kd.int .i64) 3 w' w.heap.size (fun k_=>((θ k_ ∨ ι k_ ∨ κ k_)∨w.heap.size≤k_)∧some k_≠((.slice d2 μ.length d3):Value).ownBlock∧k_ ≠ ε) (.slice a9 δ.length aa) δ)∧Aside0 (w'.heap[ε]?=some (.cells #[.int .i64 B,.int .i64 J,.int .i64 O,.bool X,.bool Y,(.slice a3 Z.length a4),(.slice a7 γ.length a8),(.slice a9 δ.length aa)] 76 (0,0)))∧Aside0 (Below w.heap.size w w'))
    case atStart=>exact⟨(0),rfl,H',⟨Nat.le_refl _⟩,⟨by(with_reducible repeat(first|apply Kd.L0|apply Kd.Lz|apply Kd.Ef));exact bp.out⟩,⟨by(with_reducible repeat first|apply Kd.Z2|apply Kd.Z1|apply Kd.Xd);exact Kd.Ys ν.out (fun _ hk=>⟨hk.1.1,⟨hk.2,hk.1.2⟩⟩)⟩,⟨by(with_reducible repeat first|apply Kd.Z2|apply Kd.Z1|apply Kd.Xd);exact Kd.Ys ξ.out (fun _ hk=>⟨hk.1.1,⟨hk.2,hk.1.2⟩⟩)⟩,⟨by(with_reducible repeat first|apply Kd.Z2|apply Kd.Z1|apply Kd.Xd);exact Kd.Ys ρ.out (fun _ hk=>⟨hk.1.1,⟨hk.2,hk.1.2⟩⟩)⟩,ζ,HB⟩
    case round=>
     clear H'
     try clear a1
     try clear cx
     try clear cy
     try clear χ
     try clear ci
     try clear cm
     try clear eb
     try clear ec
     try clear cr
     try clear cz
     try clear d0
     try clear ω
     try clear ed
     try clear en
     try clear eo
     try clear ep
     try clear fh
     obtain⟨η,rfl,HA,bn,ak,ν,ξ,ρ,ζ,HB⟩:=hrel
     cases gk with
     |zero=>exact absurd HA.out (by simp[collect_Check.l0])
     |succ k2=>
      have H:=HA.out
      clear HA
      simp only[collect_Check.l0] at H
      by_cases φ : η < (μ.length:Int)
      ·rw[if_pos φ] at H
       have c20b0:=decide_eq_true φ
       clear φ
       by_cases ac:0 ≤ η
       ·rw[if_pos ac] at H
        have c21b0:=decide_eq_true ac
        clear ac
        by_cases b3: η < (μ.length:Int)
        ·rw[if_pos b3] at H
         have c22b0:=decide_eq_true b3
         clear b3
         obtain⟨bh,fi,H⟩:=qO H
         have fp:=aK fi
         clear fi
         by_cases a6:bh=true
         ·subst a6
          rw[if_pos rfl] at H
          have H':=aK H
          clear H
          have am:0≤(η :Int):=of_decide_eq_true (by assumption)
          have an: η < (μ.length:Int):=of_decide_eq_true (by assumption)
          obtain⟨fm,b4,b6,bl,av,ai,aj⟩:=Dy (Kd.J1 ak.out).2.2 η am an
          cases bl
          obtain⟨fn,bb,bg,ar⟩:=Kd.Dz ak.out [] η am (by first|exact an|exact of_decide_eq_true (by assumption)|(have e_:=(Kd.J1 ak.out).1;omega))
          obtain⟨bq,ct,rfl,τ,ψ⟩:=Kd.Ki bg
          have σ:=ar 0 _ rfl
          rw[Nat.add_zero,show((Kd.slice 3 (Kd.int .i64))).sz=1 from rfl,Nat.mul_one] at σ
          replace σ:=Option.some.inj (σ.symm.trans av)
          injection σ with hva_ hvn_ hvc_
          rw[hva_] at ψ
          rw[hvc_] at τ
          have cu:=aK (show Kd.V (Kd.int .i64) 3 _ w.heap.size _ _ (Y4 μ η) from Kd.Ve τ ψ)
          clear hva_ hvn_ hvc_ ψ τ
          clear ar bb
          have aw:=aK aj
          have ax:=aK ai
          clear aj ai
          replace am:=eq_true am
          replace an:=eq_true an
          obtain⟨d8,d9,dt,h0,h4,h5,h6,b5,da,db,gf,h7,h8,h9,ha,b8⟩:=qD8 ζ.out
          go_wp2_with (first|((with_reducible refine Qf (f:=50) rfl ?_);refine Qt (some 53) rfl rfl Try.func50 kr rfl #[.slice b4 (Y4 μ η).length b6,.int .i64 B] rfl qM ?_;(with_reducible refine(collect_rising.calls k2 _ _ (Y4 μ η) B true _ ?side1 ?side2 fp.out).mono ?_);(case side1=>exact aw.out);(case side2=>exact ax.out);rintro e w' ⟨rfl,⟨nd,rfl⟩⟩;refine⟨_,rfl, ?_⟩))
          go_roundg k2
          case measure=>have:=fo.out;have:=bn.out;omega
          case rel=>exact⟨(wrap64 (η + 1)),qR,H',⟨by have:=fo.out;have:=bn.out;omega⟩,⟨by(with_reducible repeat(first|apply Kd.L0|apply Kd.Lz|apply Kd.Ef));exact ak.out⟩,⟨by(with_reducible repeat first|apply Kd.Z2|apply Kd.Z1|apply Kd.Xd);exact ν.out⟩,⟨by(with_reducible repeat first|apply Kd.Z2|apply Kd.Z1|apply Kd.Xd);exact ξ.out⟩,⟨by(with_reducible repeat first|apply Kd.Z2|apply Kd.Z1|apply Kd.Xd);exact ρ.out⟩,⟨bka ζ⟩,⟨bel⟩⟩
         ·replace a6:=Bool.eq_false_iff.mpr a6
          subst a6
          rw[if_neg nft] at H
          obtain rfl:=Option.some.inj H
          have am:0≤(η :Int):=of_decide_eq_true (by assumption)
          have an: η < (μ.length:Int):=of_decide_eq_true (by assumption)
          obtain⟨fm,b4,b6,bl,av,ai,aj⟩:=Dy (Kd.J1 ak.out).2.2 η am an
          cases bl
          obtain⟨fn,bb,bg,ar⟩:=Kd.Dz ak.out [] η am (by first|exact an|exact of_decide_eq_true (by assumption)|(have e_:=(Kd.J1 ak.out).1;omega))
          obtain⟨bq,ct,rfl,τ,ψ⟩:=Kd.Ki bg
          have σ:=ar 0 _ rfl
          rw[Nat.add_zero,show((Kd.slice 3 (Kd.int .i64))).sz=1 from rfl,Nat.mul_one] at σ
          replace σ:=Option.some.inj (σ.symm.trans av)
          injection σ with hva_ hvn_ hvc_
          rw[hva_] at ψ
          rw[hvc_] at τ
          have cu:=aK (show Kd.V (Kd.int .i64) 3 _ w.heap.size _ _ (Y4 μ η) from Kd.Ve τ ψ)
          clear hva_ hvn_ hvc_ ψ τ
          clear ar bb
          have aw:=aK aj
          have ax:=aK ai
          clear aj ai
          replace am:=eq_true am
          replace an:=eq_true an
          obtain⟨b9,cf,dd,de,df,dh,ew,j4,cj,ck,dk,ey,i9,ia,ib,j5⟩:=qD8 ζ.out
          go_wp2_with (first|((with_reducible refine Qf (f:=50) rfl ?_);refine Qt (some 53) rfl rfl Try.func50 kr rfl #[.slice b4 (Y4 μ η).length b6,.int .i64 B] rfl qM ?_;(with_reducible refine(collect_rising.calls k2 _ _ (Y4 μ η) B false _ ?side1 ?side2 fp.out).mono ?_);(case side1=>exact aw.out);(case side2=>exact ax.out);rintro e w' ⟨rfl,⟨nd,rfl⟩⟩;refine⟨_,rfl, ?_⟩))
          go_ret
          exact⟨by first|rfl|(simp[Qk,Qj] <;> rfl)|(simp[*,Qk,Qj] <;> rfl),bel⟩
        ·rw[if_neg b3] at H
         exact absurd H (by simp)
       ·rw[if_neg ac] at H
        exact absurd H (by simp)
      ·rw[if_neg φ] at H
       have c20b0:=decide_eq_false φ
       clear φ
       obtain rfl:=Option.some.inj H
       go_wp2
       go_ret
       exact⟨rfl,HB.out⟩
mutual
def newelref20_rises.l0:Nat→List Int→Int→Int→Option (Bool)
 |0,_,_,_=>none
 |k+1,B,J,X=>if X<(B.length:Int) then (if 0≤X then (if (rd B X)<0 then (newelref20_rises.j1 k B J X true) else (newelref20_rises.j1 k B J X (decide ((rd B X)≥J)))) else (none)) else (some true)
def newelref20_rises.j1:Nat→List Int→Int→Int→Bool→Option (Bool)
 |0,_,_,_,_=>none
 |k+1,B,J,X,ξ =>if ξ = true then (some false) else (if X>0 then (if 0≤X then (if X<(B.length:Int) then (if 0≤(wrap64 (X-1)) then (if (wrap64 (X-1))<(B.length:Int) then (if (rd B X)≤(rd B (wrap64 (X-1))) then (some false) else (newelref20_rises.l0 k B J (wrap64 (X+1)))) else (none)) else (none)) else (none)) else (none)) else (newelref20_rises.l0 k B J (wrap64 (X+1))))
end
def newelref20_rises.f (k:Nat) (l0:List Int) (X:Int):Option (Bool):=newelref20_rises.l0 k l0 X 0
def newelref20_View.f (k:Nat) (B:Int) (O:List Int) (X:List Int) (J:List Int):Option (Bool):=(newelref20_rises.f k O B).bind fun Y=>((newelref20_rises.f k X B).bind fun Z=>((newelref20_rises.f k J B).bind fun γ=>(if Y=true then (if Z=true then (some γ) else (some false)) else (some false))))
end Go.Proofs.Ytmfffemidlhcpaa.C
namespace Go.Proofs.Ytmfffemidlhcpaa.ColPure
open Go.RowKit Go.Proofs.YtmfffemidlhcpaaW.PrintWords Go.Proofs.YtmfffemidlhcpaaW.PrintLast Go.Proofs.YtmfffemidlhcpaaW.PrintMore Go.Proofs.Ytmfffemidlhcpaa.C
set_option linter.unusedVariables false
theorem Lm (l:List Int) (i:Nat) (h:i<l.length):rd l (i:Int)=l[i]:=by
 simp[rd,h]
theorem up1 {i:Nat} (h:i≤1000000):wrap64 ((i:Int)+1)=((i+1:Nat):Int):=by unfold wrap64;omega
theorem w64 {n:Int} (h: -1000000≤n) (O:n≤1000000):wrap64 n=n:=by unfold wrap64;omega
theorem K3 (l:List Int) (i:Nat) (h:i<l.length):l.drop i=l[i] :: l.drop (i+1):=List.drop_eq_getElem_cons h
def Yj (fl:Int):Int→List Int→Bool
 |_,[]=>true
 |p,x :: xs=>decide (p<x∧x<fl)&&Yj fl x xs
def X4 (l:List Int) (i:Nat):Int:=if i=0 then -1 else rd l ((i-1:Nat):Int)
theorem J5 (l:List Int) (i:Nat) (h:i<l.length):X4 l (i+1)=l[i]:=by
 unfold X4
 rw[if_neg (by omega),Nat.add_sub_cancel,Lm l i h]
theorem U1 (l:List Int) (fl:Int) (hm:l.length≤1000) (j:Nat):∀ (f i:Nat),i+j=l.length→j<f → -1≤X4 l i→collect_rising.l0 f l fl l (l.length:Int) (i:Int)=some (Yj fl (X4 l i) (l.drop i)):=by
 induction j with
 |zero=>
  intro f i hi hf hp
  obtain⟨f,rfl⟩:∃ m,f=m+1:=⟨f-1,by omega⟩
  rw[collect_rising.l0,if_neg (by omega),List.drop_of_length_le (by omega)]
  rfl
 |succ j ih=>
  intro f i hi hf hp
  obtain⟨f,rfl⟩:∃ m,f=m+1:=⟨f-1,by omega⟩
  have ha:i<l.length:=by omega
  have go:0≤l[i]→collect_rising.l0 f l fl l (l.length:Int) (wrap64 ((i:Int)+1))=some (Yj fl l[i] (l.drop (i+1))):=by
   intro Y
   rw[up1 (by omega),ih f (i+1) (by omega) (by omega) (by rw[J5 l i ha];omega),J5 l i ha]
  rw[collect_rising.l0,if_pos (by omega),if_pos (by omega),if_pos (by omega),Lm l i ha,K3 l i ha,Yj]
  by_cases c1:l[i]<0
  ·rw[if_pos c1,decide_eq_false (by omega),Bool.false_and]
  rw[if_neg c1]
  by_cases c2:l[i]≥fl
  ·rw[if_pos c2,decide_eq_false (by omega),Bool.false_and]
  rw[if_neg c2]
  by_cases c3:i=0
  ·have hv:X4 l i = -1:=by unfold X4;rw[if_pos c3]
   rw[if_neg (by omega),go (by omega),hv,decide_eq_true (by omega),Bool.true_and]
  ·have ew:wrap64 ((i:Int)-1)=((i-1:Nat):Int):=by rw[w64 (by omega) (by omega)];omega
   have hv:X4 l i=rd l ((i-1:Nat):Int):=by unfold X4;rw[if_neg c3]
   rw[if_pos (by omega),ew,if_pos (by omega),if_pos (by omega),← hv]
   by_cases c4:X4 l i≥l[i]
   ·rw[if_pos c4,decide_eq_false (by omega),Bool.false_and]
   ·rw[if_neg c4,go (by omega),decide_eq_true (by omega),Bool.true_and]
theorem K9 (l:List Int) (fl:Int) (hm:l.length≤1000) (f:Nat) (hf:l.length<f):collect_rising.f f l fl=some (Yj fl (-1) l):=by
 have:=U1 l fl hm l.length f 0 (by omega) hf (by unfold X4;rw[if_pos rfl];exact Int.le_refl _)
 rw[List.drop_zero] at this
 exact this
structure Few (I U D:List Int):Prop where
 i:I.length≤600
 u:U.length≤600
 d:D.length≤600
variable {I U D : List Int}
def Wj (fl f d:Int) (I U D:List Int):Bool:=Yj fl (-1) I&&Yj fl (-1) U&&Yj fl (-1) D&&decide (2≤fl∧fl≤64∧0≤f∧f<fl ∧ -1≤d∧d≤1)
theorem W9 (h:Few I U D) (fl f d:Int) (su sd:Bool) (k:Nat) (hk:1500≤k):collect_Check.j0 k false fl f d su sd I U D=some (if Yj fl (-1) I&&Yj fl (-1) U&&Yj fl (-1) D then 0 else 200):=by
 have:=h.i;have:=h.u;have:=h.d
 obtain⟨k,rfl⟩:∃ m,k=m+5:=⟨k-5,by omega⟩
 rw[collect_Check.j0,if_neg (by decide),Option.bind_some]
 have e1:wrap64 (0+1)=1:=w64 (by omega) (by omega)
 have e2:wrap64 (1+1)=2:=w64 (by omega) (by omega)
 have e3:wrap64 (2+1)=3:=w64 (by omega) (by omega)
 have el:(([I,U,D]:List (List Int)).length:Int)=3:=rfl
 have r0:Y4 [I,U,D] 0=I:=rfl
 have r1:Y4 [I,U,D] 1=U:=rfl
 have r2:Y4 [I,U,D] 2=D:=rfl
 rw[el]
 rw[collect_Check.l0,if_pos (by decide),if_pos (by decide),el,if_pos (by decide),r0,K9 I fl (by omega) _ (by omega),Option.bind_some]
 cases Yj fl (-1) I
 ·rfl
 rw[if_pos rfl,e1,collect_Check.l0,if_pos (by decide),if_pos (by decide),el,if_pos (by decide),r1,K9 U fl (by omega) _ (by omega),Option.bind_some]
 cases Yj fl (-1) U
 ·rfl
 rw[if_pos rfl,e2,collect_Check.l0,if_pos (by decide),if_pos (by decide),el,if_pos (by decide),r2,K9 D fl (by omega) _ (by omega),Option.bind_some]
 cases Yj fl (-1) D
 ·rfl
 rw[if_pos rfl,e3,collect_Check.l0,if_neg (by decide)]
 rfl
theorem Mx (fl f d:Int) (su sd:Bool) (k:Nat) (hk:1500≤k):collect_Check.j0 k true fl f d su sd I U D=some 200:=by
 obtain⟨k,rfl⟩:∃ m,k=m+1:=⟨k-1,by omega⟩
 rw[collect_Check.j0,if_pos rfl]
theorem Ym (h:Few I U D) (fl f d:Int) (su sd:Bool) (k:Nat) (hk:1500≤k):collect_Check.f k fl f d su sd I U D=some (if Wj fl f d I U D then 0 else 200):=by
 unfold collect_Check.f
 have bad:=Mx (I:=I) (U:=U) (D:=D) fl f d su sd k hk
 by_cases c1:fl<2
 ·rw[if_pos c1,bad]
  unfold Wj
  rw[decide_eq_false (by omega),Bool.and_false]
  rfl
 rw[if_neg c1]
 by_cases c2:fl>64
 ·rw[if_pos c2,bad]
  unfold Wj
  rw[decide_eq_false (by omega),Bool.and_false]
  rfl
 rw[if_neg c2]
 by_cases c3:f<0
 ·rw[if_pos c3,bad]
  unfold Wj
  rw[decide_eq_false (by omega),Bool.and_false]
  rfl
 rw[if_neg c3]
 by_cases c4:f≥fl
 ·rw[if_pos c4,bad]
  unfold Wj
  rw[decide_eq_false (by omega),Bool.and_false]
  rfl
 rw[if_neg c4]
 by_cases c5:d < -1
 ·rw[if_pos c5,bad]
  unfold Wj
  rw[decide_eq_false (by omega),Bool.and_false]
  rfl
 rw[if_neg c5]
 by_cases c6:d>1
 ·rw[decide_eq_true c6,bad]
  unfold Wj
  rw[decide_eq_false (by omega),Bool.and_false]
  rfl
 ·rw[decide_eq_false c6,W9 h fl f d su sd k hk]
  unfold Wj
  rw[decide_eq_true (by omega),Bool.and_true]
theorem Wt (l:List Int) (fl:Int) (hm:l.length≤1000) (j:Nat):∀ (f i:Nat),i+j=l.length→2 * j+1<f → -1≤X4 l i→newelref20_rises.l0 f l fl (i:Int)=some (Yj fl (X4 l i) (l.drop i)):=by
 induction j with
 |zero=>
  intro f i hi hf hp
  obtain⟨f,rfl⟩:∃ m,f=m+1:=⟨f-1,by omega⟩
  rw[newelref20_rises.l0,if_neg (by omega),List.drop_of_length_le (by omega)]
  rfl
 |succ j ih=>
  intro f i hi hf hp
  obtain⟨f,rfl⟩:∃ m,f=m+2:=⟨f-2,by omega⟩
  have ha:i<l.length:=by omega
  have go:0≤l[i]→newelref20_rises.l0 f l fl (wrap64 ((i:Int)+1))=some (Yj fl l[i] (l.drop (i+1))):=by
   intro Y
   rw[up1 (by omega),ih f (i+1) (by omega) (by omega) (by rw[J5 l i ha];omega),J5 l i ha]
  have bad:newelref20_rises.j1 (f+1) l fl (i:Int) true=some false:=by
   rw[newelref20_rises.j1,if_pos rfl]
  have good:0≤l[i]→l[i]<fl→newelref20_rises.j1 (f+1) l fl (i:Int) false=some (Yj fl (X4 l i) (l.drop i)):=by
   intro Y h1
   rw[newelref20_rises.j1,if_neg (by decide),K3 l i ha,Yj]
   by_cases c3:i=0
   ·have hv:X4 l i = -1:=by unfold X4;rw[if_pos c3]
    rw[if_neg (by omega),go (by omega),hv,decide_eq_true (by omega),Bool.true_and]
   ·have ew:wrap64 ((i:Int)-1)=((i-1:Nat):Int):=by rw[w64 (by omega) (by omega)];omega
    have hv:X4 l i=rd l ((i-1:Nat):Int):=by unfold X4;rw[if_neg c3]
    rw[if_pos (by omega),if_pos (by omega),if_pos (by omega),ew,if_pos (by omega),if_pos (by omega),← hv,Lm l i ha]
    by_cases c4:l[i]≤X4 l i
    ·rw[if_pos c4,decide_eq_false (by omega),Bool.false_and]
    ·rw[if_neg c4,go (by omega),decide_eq_true (by omega),Bool.true_and]
  rw[newelref20_rises.l0,if_pos (by omega),if_pos (by omega),Lm l i ha]
  by_cases c1:l[i]<0
  ·rw[if_pos c1,bad,K3 l i ha,Yj,decide_eq_false (by omega),Bool.false_and]
  rw[if_neg c1]
  by_cases c2:l[i]≥fl
  ·rw[decide_eq_true c2,bad,K3 l i ha,Yj,decide_eq_false (by omega),Bool.false_and]
  ·rw[decide_eq_false c2,good (by omega) (by omega)]
theorem Gz (l:List Int) (fl:Int) (hm:l.length≤1000) (f:Nat) (hf:2 * l.length+1<f):newelref20_rises.f f l fl=some (Yj fl (-1) l):=by
 have:=Wt l fl hm l.length f 0 (by omega) hf (by unfold X4;rw[if_pos rfl];exact Int.le_refl _)
 rw[List.drop_zero] at this
 exact this
theorem Li (h:Few I U D) (fl:Int) (k:Nat) (hk:1500≤k):newelref20_View.f k fl I U D=some (Yj fl (-1) I&&(Yj fl (-1) U&&Yj fl (-1) D)):=by
 have:=h.i;have:=h.u;have:=h.d
 unfold newelref20_View.f
 rw[Gz I fl (by omega) k (by omega),Gz U fl (by omega) k (by omega),Gz D fl (by omega) k (by omega)]
 simp only[Option.bind_some]
 cases Yj fl (-1) I <;> cases Yj fl (-1) U <;> simp
end Go.Proofs.Ytmfffemidlhcpaa.ColPure
namespace Go.Proofs.Ytmfffemidlhcpaa.K
open Go.RowKit Go.Proofs.YtmfffemidlhcpaaW.PrintWords Go.Proofs.YtmfffemidlhcpaaW.PrintLast Go.Proofs.YtmfffemidlhcpaaW.PrintMore
attribute [local go_sem] Z0 Zy Z6 Z5 Zr Zq Zz Zx
set_option linter.unusedVariables false
set_option linter.unusedSimpArgs false
def N4:Option Int→Value
 |none=>.nilIface
 |some c=>.iface 0 (.int .i64 c)
theorem Qk:N4 none = .nilIface:=rfl
theorem Qj (c:Int):N4 (some c) = .iface 0 (.int .i64 c):=rfl
theorem Kf:(Try.prog.info? 3).map (fun i=>(i.zero,i.size,i.bytes))=some (some (.int .i64 0),1,8):=by kernel_rfl
structure S36 where
 f0:Int
 f1:Int
 f2:Int
def z36:S36:=⟨(0:Int),(0:Int),(0:Int)⟩
def k36:Kd S36:=Kd.iso (Kd.pair (Kd.int .i64) (Kd.pair (Kd.int .i64) (Kd.int .i64))) (fun x:S36=>(x.f0,x.f1,x.f2))
theorem Kz {w:World} {x:S36} {cs:List Value} (h:k36.K w x cs):cs = [.int .i64 x.f0,.int .i64 x.f1,.int .i64 x.f2]:=by
 obtain⟨_,_,rfl,rfl,⟨_,_,rfl,rfl,rfl⟩⟩:=h
 exact rfl
theorem Yh {w:World} {base:Nat} {ok:Nat→Prop} {x:S36} {cs:List Value} (h:k36.M w base ok x cs):cs = [.int .i64 x.f0,.int .i64 x.f1,.int .i64 x.f2]:=by
 obtain⟨_,_,rfl,rfl,⟨_,_,rfl,rfl,rfl⟩⟩:=h
 exact rfl
theorem K2 (w:World) (base:Nat) (ok:Nat→Prop) (x:S36):k36.M w base ok x [.int .i64 x.f0,.int .i64 x.f1,.int .i64 x.f2]:=⟨[.int .i64 x.f0],[.int .i64 x.f1,.int .i64 x.f2],rfl,rfl,⟨[.int .i64 x.f1],[.int .i64 x.f2],rfl,rfl,rfl⟩⟩
def Qc (xs:List S36) (i:Int):S36:=xs.getD i.toNat z36
theorem Xc {w:World} {A:Option Addr} {n:Nat} {xs:List S36} (h:Kd.C k36 w A n xs) (i:Int) (Y:0≤i) (h1:i<n):∃ ad,A=some ad∧w.cell? (ad.add (i.toNat * 3))=some (.int .i64 (Qc xs i).f0)∧w.cell? ⟨(ad.add (i.toNat * 3)).block,(ad.add (i.toNat * 3)).off+1,none⟩=some (.int .i64 (Qc xs i).f1)∧w.cell? ⟨(ad.add (i.toNat * 3)).block,(ad.add (i.toNat * 3)).off+2,none⟩=some (.int .i64 (Qc xs i).f2):=by
 obtain⟨ad,c,e,_,hK,γ⟩:=Kd.V2 h z36 i Y h1
 have hc:∀ j u,c[j]?=some u→w.cell? (ad.add (i.toNat * 3+j))=some u:=γ
 obtain rfl:=Kz hK
 exact⟨ad,e,hc 0 _ rfl,by rw[← Z4 _ _ 1 (by omega)];exact hc 1 _ rfl,by rw[← Z4 _ _ 2 (by omega)];exact hc 2 _ rfl⟩
structure S86 where
 f0:Int
 f1:Int
def z86:S86:=⟨(0:Int),(0:Int)⟩
def k86:Kd S86:=Kd.iso (Kd.pair (Kd.int .i64) (Kd.int .i64)) (fun x:S86=>(x.f0,x.f1))
theorem Ky {w:World} {x:S86} {cs:List Value} (h:k86.K w x cs):cs = [.int .i64 x.f0,.int .i64 x.f1]:=by
 obtain⟨_,_,rfl,rfl,rfl⟩:=h
 exact rfl
theorem J7 {w:World} {base:Nat} {ok:Nat→Prop} {x:S86} {cs:List Value} (h:k86.M w base ok x cs):cs = [.int .i64 x.f0,.int .i64 x.f1]:=by
 obtain⟨_,_,rfl,rfl,rfl⟩:=h
 exact rfl
theorem Ns (w:World) (x:S86):k86.K w x [.int .i64 x.f0,.int .i64 x.f1]:=⟨[.int .i64 x.f0],[.int .i64 x.f1],rfl,rfl,rfl⟩
theorem Uc (w:World) (base:Nat) (ok:Nat→Prop) (x:S86):k86.M w base ok x [.int .i64 x.f0,.int .i64 x.f1]:=⟨[.int .i64 x.f0],[.int .i64 x.f1],rfl,rfl,rfl⟩
def Qp (xs:List S86) (i:Int):S86:=xs.getD i.toNat z86
theorem Xk {w:World} {A:Option Addr} {n:Nat} {xs:List S86} (h:Kd.C k86 w A n xs) (i:Int) (Y:0≤i) (h1:i<n):∃ ad,A=some ad∧w.cell? (ad.add (i.toNat * 2))=some (.int .i64 (Qp xs i).f0)∧w.cell? ⟨(ad.add (i.toNat * 2)).block,(ad.add (i.toNat * 2)).off+1,none⟩=some (.int .i64 (Qp xs i).f1):=by
 obtain⟨ad,c,e,_,hK,γ⟩:=Kd.V2 h z86 i Y h1
 have hc:∀ j u,c[j]?=some u→w.cell? (ad.add (i.toNat * 2+j))=some u:=γ
 obtain rfl:=Ky hK
 exact⟨ad,e,hc 0 _ rfl,by rw[← Z4 _ _ 1 (by omega)];exact hc 1 _ rfl⟩
def cmp_Or_int.l0:Nat→Int→List Int→Int→Int→Option (Int)
 |0,_,_,_,_=>none
 |k+1,B,x6,O,Z=>if Z<O then (if 0≤Z then (if Z<(x6.length:Int) then (if (rd x6 Z)=B then (cmp_Or_int.l0 k B x6 O (wrap64 (Z+1))) else (some (rd x6 Z))) else (none)) else (none)) else (some B)
def cmp_Or_int.f (k:Nat) (l0:List Int):Option (Int):=cmp_Or_int.l0 k 0 l0 (l0.length:Int) 0
set_option maxHeartbeats 8000000 in
set_option maxRecDepth 100000 in
theorem cmp_Or_int.calls (k:Nat) (Z:Option Addr) (c0:Nat) (l0:List Int) (r:Int) (w:World) (κ :Kd.C (Kd.int .i64) w Z l0.length l0) (γ:l0.length≤c0) (h:cmp_Or_int.f k l0=some r):
 Calls Try.prog 80 #[.slice Z l0.length c0] w fun e w'=>e = .returned (.int .i64 r)∧Drawn0 w w':=by
 have ξ :=aK κ
 have ah:=aK γ
 clear κ γ
 have H:(cmp_Or_int.l0 k 0 l0 (l0.length:Int) 0)=some r:=h
 clear h
 have H':=aK H
 clear H
 go_enter Try.func80,Try.ntmps80
 go_wp2
 go_loopg [8] k (fun kq v8 w'=>∃ (B:Int),v8 = .int .i64 B∧Aside0 (cmp_Or_int.l0 kq 0 l0 (l0.length:Int) B=some r)∧Aside0 (kq≤k)∧Drawn0 w w')
 case atStart=>exact⟨(0),qR,H',⟨Nat.le_refl _⟩,by repeat(first|exact Drawn0.refl _|apply Drawn0.step)⟩
 case round=>
  clear H'
  obtain⟨B,rfl,HA,am,⟨m1,rfl⟩⟩:=hrel
  cases gk with
  |zero=>exact absurd HA.out (by simp[cmp_Or_int.l0])
  |succ k1=>
   have H:=HA.out
   clear HA
   simp only[cmp_Or_int.l0] at H
   by_cases c2:B<(l0.length:Int)
   ·rw[if_pos c2] at H
    have c2b0:=decide_eq_true c2
    clear c2
    by_cases c3:0≤B
    ·rw[if_pos c3] at H
     have c3b0:=decide_eq_true c3
     clear c3
     by_cases c4:B<(l0.length:Int)
     ·rw[if_pos c4] at H
      have c4b0:=decide_eq_true c4
      clear c4
      by_cases c5:(rd l0 B)=0
      ·rw[if_pos c5] at H
       have c5b0:((rd l0 B)==0)=true:=beq_iff_eq.mpr c5
       have c5b1:((rd l0 B) != 0)=false:=bne_eq_false_iff_eq.mpr c5
       clear c5
       have H':=aK H
       clear H
       have J:0≤(B:Int):=of_decide_eq_true (by first|(with_reducible assumption)|assumption)
       have O:B<(l0.length:Int):=of_decide_eq_true (by first|(with_reducible assumption)|assumption)
       obtain⟨δ,X,Y⟩:=Kd.Yx ξ.out B J O
       cases X
       replace J:=eq_true J
       replace O:=eq_true O
       go_wp2
       go_roundg k1
       case measure=>have:=am.out;omega
       case rel=>exact⟨(wrap64 (B+1)),qR,H',⟨by have:=am.out;omega⟩,by repeat(first|exact Drawn0.refl _|apply Drawn0.step)⟩
      ·rw[if_neg c5] at H
       have c5b0:((rd l0 B)==0)=false:=beq_eq_false_iff_ne.mpr c5
       have c5b1:((rd l0 B) != 0)=true:=bne_iff_ne.mpr c5
       obtain rfl:=Option.some.inj H
       have J:0≤(B:Int):=of_decide_eq_true (by first|(with_reducible assumption)|assumption)
       have O:B<(l0.length:Int):=of_decide_eq_true (by first|(with_reducible assumption)|assumption)
       obtain⟨δ,X,Y⟩:=Kd.Yx ξ.out B J O
       cases X
       replace J:=eq_true J
       replace O:=eq_true O
       go_wp2
       go_ret
       exact⟨qR,by repeat(first|exact Drawn0.refl _|apply Drawn0.step)⟩
     ·rw[if_neg c4] at H
      exact absurd H (by simp)
    ·rw[if_neg c3] at H
     exact absurd H (by simp)
   ·rw[if_neg c2] at H
    have c2b0:=decide_eq_false c2
    clear c2
    obtain rfl:=Option.some.inj H
    go_wp2
    go_ret
    exact⟨qR,by repeat(first|exact Drawn0.refl _|apply Drawn0.step)⟩
def cmp_isNaN_int.f (B:Int):Option (Bool):=some (B != B)
set_option maxHeartbeats 8000000 in
set_option maxRecDepth 100000 in
theorem cmp_isNaN_int.calls (B:Int) (r:Bool) (w:World) (h:cmp_isNaN_int.f B=some r):
 Calls Try.prog 94 #[.int .i64 B] w fun e w'=>e = .returned (.bool r)∧Drawn0 w w':=by
 have H:(some (B != B))=some r:=h
 clear h
 obtain rfl:=Option.some.inj H
 go_enter Try.func94,Try.ntmps94
 go_wp2
 go_ret
 exact⟨qR,by repeat(first|exact Drawn0.refl _|apply Drawn0.step)⟩
def cmp_Compare_int.f (B:Int) (X:Int):Option (Int):=(cmp_isNaN_int.f B).bind fun J=>((cmp_isNaN_int.f X).bind fun γ=>(if J=true then (if γ=true then (some 0) else (some (-1))) else (if γ=true then (some 1) else (if B<X then (some (-1)) else (if B>X then (some 1) else (some 0))))))
set_option maxHeartbeats 8000000 in
set_option maxRecDepth 100000 in
theorem cmp_Compare_int.calls (B:Int) (X:Int) (r:Int) (w:World) (h:cmp_Compare_int.f B X=some r):
 Calls Try.prog 81 #[.int .i64 B,.int .i64 X] w fun e w'=>e = .returned (.int .i64 r)∧Drawn0 w w':=by
 have H:((cmp_isNaN_int.f B).bind fun J=>((cmp_isNaN_int.f X).bind fun γ=>(if J=true then (if γ=true then (some 0) else (some (-1))) else (if γ=true then (some 1) else (if B<X then (some (-1)) else (if B>X then (some 1) else (some 0)))))))=some r:=h
 clear h
 obtain⟨J,a7,H⟩:=qO H
 have A3:=aK a7
 clear a7
 obtain⟨γ,ab,H⟩:=qO H
 have A4:=aK ab
 clear ab
 by_cases c5:J=true
 ·subst c5
  rw[if_pos rfl] at H
  by_cases c6:γ=true
  ·subst c6
   rw[if_pos rfl] at H
   obtain rfl:=Option.some.inj H
   go_enter Try.func81,Try.ntmps81
   go_wp2_with (first|((with_reducible refine Qf (f:=94) rfl ?_);refine Qt (some 8) rfl rfl Try.func94 kr rfl #[.int .i64 B] rfl (by(try simp only[List.map_toArray,List.map_cons,List.map_nil]);first|done|rfl|(simp only[List.length_drop,List.length_take];rfl)) ?_;(with_reducible refine(cmp_isNaN_int.calls B true _ A3.out).mono ?_);rintro e w' ⟨rfl,⟨nd,rfl⟩⟩;refine⟨_,rfl, ?_⟩)|((with_reducible refine Qf (f:=94) rfl ?_);refine Qt (some 10) rfl rfl Try.func94 kr rfl #[.int .i64 X] rfl (by(try simp only[List.map_toArray,List.map_cons,List.map_nil]);first|done|rfl|(simp only[List.length_drop,List.length_take];rfl)) ?_;(with_reducible refine(cmp_isNaN_int.calls X true _ A4.out).mono ?_);rintro e w' ⟨rfl,⟨nd,rfl⟩⟩;refine⟨_,rfl, ?_⟩))
   go_ret
   exact⟨qR,by repeat(first|exact Drawn0.refl _|apply Drawn0.step)⟩
  ·replace c6:=Bool.eq_false_iff.mpr c6
   subst c6
   rw[if_neg nft] at H
   obtain rfl:=Option.some.inj H
   go_enter Try.func81,Try.ntmps81
   go_wp2_with (first|((with_reducible refine Qf (f:=94) rfl ?_);refine Qt (some 8) rfl rfl Try.func94 kr rfl #[.int .i64 B] rfl (by(try simp only[List.map_toArray,List.map_cons,List.map_nil]);first|done|rfl|(simp only[List.length_drop,List.length_take];rfl)) ?_;(with_reducible refine(cmp_isNaN_int.calls B true _ A3.out).mono ?_);rintro e w' ⟨rfl,⟨nd,rfl⟩⟩;refine⟨_,rfl, ?_⟩)|((with_reducible refine Qf (f:=94) rfl ?_);refine Qt (some 10) rfl rfl Try.func94 kr rfl #[.int .i64 X] rfl (by(try simp only[List.map_toArray,List.map_cons,List.map_nil]);first|done|rfl|(simp only[List.length_drop,List.length_take];rfl)) ?_;(with_reducible refine(cmp_isNaN_int.calls X false _ A4.out).mono ?_);rintro e w' ⟨rfl,⟨nd,rfl⟩⟩;refine⟨_,rfl, ?_⟩))
   go_ret
   exact⟨qR,by repeat(first|exact Drawn0.refl _|apply Drawn0.step)⟩
 ·replace c5:=Bool.eq_false_iff.mpr c5
  subst c5
  rw[if_neg nft] at H
  by_cases c7:γ=true
  ·subst c7
   rw[if_pos rfl] at H
   obtain rfl:=Option.some.inj H
   go_enter Try.func81,Try.ntmps81
   go_wp2_with (first|((with_reducible refine Qf (f:=94) rfl ?_);refine Qt (some 8) rfl rfl Try.func94 kr rfl #[.int .i64 B] rfl (by(try simp only[List.map_toArray,List.map_cons,List.map_nil]);first|done|rfl|(simp only[List.length_drop,List.length_take];rfl)) ?_;(with_reducible refine(cmp_isNaN_int.calls B false _ A3.out).mono ?_);rintro e w' ⟨rfl,⟨nd,rfl⟩⟩;refine⟨_,rfl, ?_⟩)|((with_reducible refine Qf (f:=94) rfl ?_);refine Qt (some 10) rfl rfl Try.func94 kr rfl #[.int .i64 X] rfl (by(try simp only[List.map_toArray,List.map_cons,List.map_nil]);first|done|rfl|(simp only[List.length_drop,List.length_take];rfl)) ?_;(with_reducible refine(cmp_isNaN_int.calls X true _ A4.out).mono ?_);rintro e w' ⟨rfl,⟨nd,rfl⟩⟩;refine⟨_,rfl, ?_⟩))
   go_ret
   exact⟨qR,by repeat(first|exact Drawn0.refl _|apply Drawn0.step)⟩
  ·replace c7:=Bool.eq_false_iff.mpr c7
   subst c7
   rw[if_neg nft] at H
   by_cases c8:B<X
   ·rw[if_pos c8] at H
    have c8b0:=decide_eq_true c8
    clear c8
    obtain rfl:=Option.some.inj H
    go_enter Try.func81,Try.ntmps81
    go_wp2_with (first|((with_reducible refine Qf (f:=94) rfl ?_);refine Qt (some 8) rfl rfl Try.func94 kr rfl #[.int .i64 B] rfl (by(try simp only[List.map_toArray,List.map_cons,List.map_nil]);first|done|rfl|(simp only[List.length_drop,List.length_take];rfl)) ?_;(with_reducible refine(cmp_isNaN_int.calls B false _ A3.out).mono ?_);rintro e w' ⟨rfl,⟨nd,rfl⟩⟩;refine⟨_,rfl, ?_⟩)|((with_reducible refine Qf (f:=94) rfl ?_);refine Qt (some 10) rfl rfl Try.func94 kr rfl #[.int .i64 X] rfl (by(try simp only[List.map_toArray,List.map_cons,List.map_nil]);first|done|rfl|(simp only[List.length_drop,List.length_take];rfl)) ?_;(with_reducible refine(cmp_isNaN_int.calls X false _ A4.out).mono ?_);rintro e w' ⟨rfl,⟨nd,rfl⟩⟩;refine⟨_,rfl, ?_⟩))
    go_ret
    exact⟨qR,by repeat(first|exact Drawn0.refl _|apply Drawn0.step)⟩
   ·rw[if_neg c8] at H
    have c8b0:=decide_eq_false c8
    clear c8
    by_cases c9:B>X
    ·rw[if_pos c9] at H
     have c9b0:decide (X<B)=true:=decide_eq_true c9
     clear c9
     obtain rfl:=Option.some.inj H
     go_enter Try.func81,Try.ntmps81
     go_wp2_with (first|((with_reducible refine Qf (f:=94) rfl ?_);refine Qt (some 8) rfl rfl Try.func94 kr rfl #[.int .i64 B] rfl (by(try simp only[List.map_toArray,List.map_cons,List.map_nil]);first|done|rfl|(simp only[List.length_drop,List.length_take];rfl)) ?_;(with_reducible refine(cmp_isNaN_int.calls B false _ A3.out).mono ?_);rintro e w' ⟨rfl,⟨nd,rfl⟩⟩;refine⟨_,rfl, ?_⟩)|((with_reducible refine Qf (f:=94) rfl ?_);refine Qt (some 10) rfl rfl Try.func94 kr rfl #[.int .i64 X] rfl (by(try simp only[List.map_toArray,List.map_cons,List.map_nil]);first|done|rfl|(simp only[List.length_drop,List.length_take];rfl)) ?_;(with_reducible refine(cmp_isNaN_int.calls X false _ A4.out).mono ?_);rintro e w' ⟨rfl,⟨nd,rfl⟩⟩;refine⟨_,rfl, ?_⟩))
     go_ret
     exact⟨qR,by repeat(first|exact Drawn0.refl _|apply Drawn0.step)⟩
    ·rw[if_neg c9] at H
     have c9b0:decide (X<B)=false:=decide_eq_false c9
     clear c9
     obtain rfl:=Option.some.inj H
     go_enter Try.func81,Try.ntmps81
     go_wp2_with (first|((with_reducible refine Qf (f:=94) rfl ?_);refine Qt (some 8) rfl rfl Try.func94 kr rfl #[.int .i64 B] rfl (by(try simp only[List.map_toArray,List.map_cons,List.map_nil]);first|done|rfl|(simp only[List.length_drop,List.length_take];rfl)) ?_;(with_reducible refine(cmp_isNaN_int.calls B false _ A3.out).mono ?_);rintro e w' ⟨rfl,⟨nd,rfl⟩⟩;refine⟨_,rfl, ?_⟩)|((with_reducible refine Qf (f:=94) rfl ?_);refine Qt (some 10) rfl rfl Try.func94 kr rfl #[.int .i64 X] rfl (by(try simp only[List.map_toArray,List.map_cons,List.map_nil]);first|done|rfl|(simp only[List.length_drop,List.length_take];rfl)) ?_;(with_reducible refine(cmp_isNaN_int.calls X false _ A4.out).mono ?_);rintro e w' ⟨rfl,⟨nd,rfl⟩⟩;refine⟨_,rfl, ?_⟩))
     go_ret
     exact⟨qR,by repeat(first|exact Drawn0.refl _|apply Drawn0.step)⟩
def call_halls_1.f (k:Nat) (B:Int) (J:Int) (O:Int) (δ :Int) (ε :Int) (ι :Int):Option (Int):=(cmp_Compare_int.f B δ).bind fun μ =>((cmp_Compare_int.f J ε).bind fun a6=>((cmp_Or_int.f k (([μ,a6]:List Int))).bind fun Y=>(some Y)))
def call_halls_1.T1:Bool×List (List Nat×List Nat):=(true,[([],[]),([0],[0]),([],[]),([2],[2]),([1,3],[1,3]),([],[]),([5],[5]),([],[]),([7],[7]),([6,8,4],[6,8]),([4,9],[4,9]),([10,9],[10]),([11,11,0,1,2,3,4,5,6,7,8,9,10,11],[11])])
def call_halls_1.B1:List Nat:=[0,1,0,4,15,0,32,0,128,511,1023,2047,4095]
theorem call_halls_1.Kr:rtab .any (opsOf Try.f79 1)=call_halls_1.T1:=by kernel_rfl
theorem call_halls_1.Y6:Zk call_halls_1.T1.2 call_halls_1.B1=true:=by kernel_rfl
set_option maxHeartbeats 8000000 in
set_option maxRecDepth 100000 in
theorem call_halls_1.calls (k:Nat) (B:Int) (J:Int) (O:Int) (δ :Int) (ε :Int) (ι :Int) (r:Int) (w:World) (h:call_halls_1.f k B J O δ ε ι = some r):
 Calls Try.prog 79 #[.agg #[.int .i64 B,.int .i64 J,.int .i64 O],.agg #[.int .i64 δ,.int .i64 ε,.int .i64 ι]] w fun e w'=>e = .returned (.int .i64 r)∧Below w.heap.size w w':=by
 have ch:=Try.underlying36
 have HB:=aK (Below.refl w.heap.size w)
 have H:((cmp_Compare_int.f B δ).bind fun μ =>((cmp_Compare_int.f J ε).bind fun a6=>((cmp_Or_int.f k (([μ,a6]:List Int))).bind fun Y=>(some Y))))=some r:=h
 clear h
 obtain⟨μ,a7,H⟩:=qO H
 have A3:=aK a7
 clear a7
 obtain⟨a6,ab,H⟩:=qO H
 have A4:=aK ab
 clear ab
 obtain⟨a9,η⟩:∃ y_:List Int,y_=(([μ,a6]:List Int)):=⟨_,rfl⟩
 replace H:((cmp_Or_int.f k a9).bind fun Y=>(some Y))=some r:=by first|(rw[η];with_reducible exact H)|(have al:=(Option.bind_some _ _).symm.trans H;rw[η];with_reducible exact al)|(have al:=(Option.bind_some _ _).symm.trans H;with_reducible exact al)|with_reducible exact H|(rw[η];exact H)|exact H
 have aa:=aK η
 clear η
 obtain⟨Y,bc,H⟩:=qO H
 have A5:=aK bc
 clear bc
 obtain rfl:=Option.some.inj H
 go_enter Try.func79,Try.ntmps79
 try go_wp2_with (first|((with_reducible refine Qe (N:=2) rfl ?_);refine Zh ?hg (N:=2) ?hd (cs:=#[.int .i64 B,.int .i64 J,.int .i64 O]) (t:=36) ?hr ?_;(case hd=>rfl);(case hg=>rfl);(case hr=>first|(go_simp;done)|(go_simp;rfl));intro ξ hg w6 hbox hb;have ρ:=aK (Q2 (by repeat(first|(with_reducible first|exact HB.out|apply Qo|apply Qi|apply Qg)|exact HB.out)) hb);have τ :=aK (hbox);have ω :=aK ((by rw[hg];exact(Qn (by repeat(first|(with_reducible first|exact HB.out|apply Qo|apply Qi|apply Qg)|exact HB.out))):w.heap.size ≤ ξ));have a3:=aK ((by rw[hg];exact(Qn (by repeat(first|(with_reducible first|exact HB.out|apply Qo|apply Qi|apply Qg)|exact HB.out))):w.heap.size ≤ ξ));clear HB;have HB:=ρ;have γ:= τ;have bm:= ω;have ao:=a3;clear ρ τ ω a3;clear hb hbox hg)|((with_reducible refine Qe (N:=3) rfl ?_);refine Zh ?hg (N:=3) ?hd (cs:=#[.int .i64 δ,.int .i64 ε,.int .i64 ι]) (t:=36) ?hr ?_;(case hd=>rfl);(case hg=>rfl);(case hr=>first|(go_simp;done)|(go_simp;rfl));intro ν hg w7 hbox hb;have ρ:=aK (Qz (g:= ξ) (o:=.cells #[.int .i64 B,.int .i64 J,.int .i64 O] 36 (0,0)) (by(with_reducible repeat first|refine Qm ?_ _|refine Qd ?_|refine Ql ?_ _);exact γ.out) hb);have τ :=aK (Q2 (by repeat(first|(with_reducible first|exact HB.out|apply Qo|apply Qi|apply Qg|refine Qr ?_ ao.out)|exact HB.out)) hb);have ω :=aK (hbox);have a3:=aK ((by rw[hg];exact(Qn (by repeat(first|(with_reducible first|exact HB.out|apply Qo|apply Qi|apply Qg|refine Qr ?_ ao.out)|exact HB.out))):w.heap.size ≤ ν));have an:=aK ((by rw[hg];exact(Qn (by repeat(first|(with_reducible first|exact HB.out|apply Qo|apply Qi|apply Qg|refine Qr ?_ ao.out)|exact HB.out))):w.heap.size ≤ ν));have b1:=aK ((by rw[hg];exact Nat.ne_of_lt (Xi (g:= ξ) (o:=.cells #[.int .i64 B,.int .i64 J,.int .i64 O] 36 (0,0)) (by(with_reducible repeat first|refine Qm ?_ _|refine Qd ?_|refine Ql ?_ _);exact γ.out)): ξ ≠ ν));have b7:=aK ((by rw[hg];exact Nat.ne_of_gt (Xi (g:= ξ) (o:=.cells #[.int .i64 B,.int .i64 J,.int .i64 O] 36 (0,0)) (by(with_reducible repeat first|refine Qm ?_ _|refine Qd ?_|refine Ql ?_ _);exact γ.out)): ν ≠ ξ));clear γ;clear HB;have γ:=ρ;have HB:= τ;have ζ := ω;have bn:=a3;have bh:=an;have σ:=b1;have φ :=b7;clear ρ τ ω a3 an b1 b7;clear hb hbox hg))
 have ρ:=aK (Qd γ.out)
 have τ :=aK (Qd ζ.out)
 have ω :=aK (Qg HB.out)
 clear γ
 clear ζ
 clear HB
 have γ:=ρ
 have ζ := τ
 have HB:= ω
 clear ρ τ ω
 refine Ze (n:=13) (S:=fun w'=>w'.cell? ⟨ξ,0,none⟩=some (.int .i64 B)∧w'.cell? ⟨ξ,1,none⟩=some (.int .i64 J)∧w'.cell? ⟨ξ,2,none⟩=some (.int .i64 O)∧w'.cell? ⟨ν,0,none⟩=some (.int .i64 δ)∧w'.cell? ⟨ν,1,none⟩=some (.int .i64 ε)∧w'.cell? ⟨ν,2,none⟩=some (.int .i64 ι)) (ds:=[]) #[false,false,false,false,false,false,false,false,false,false,false,false,false] kr rfl rfl ⟨(Qa γ.out 0).trans rfl,(Qa γ.out 1).trans rfl,(Qa γ.out 2).trans rfl,(Qa ζ.out 0).trans rfl,(Qa ζ.out 1).trans rfl,(Qa ζ.out 2).trans rfl⟩ (fun hHeld=>?_);refine Q5 call_halls_1.Kr call_halls_1.Y6 (fun HT_ HW_=>?_)
 generalize w7.drew=w8 at γ ζ HB hHeld ⊢
 refine qP 0 (some 5) (qB 13 1) HT_ ?_
 refine qP 2 (some 7) (qB 13 5) HT_ ?_
 refine qP 5 (some 10) (qB 13 37) HT_ ?_
 refine qP 7 (some 12) (qB 13 165) HT_ ?_
 refine qT 1 (some 6) (qB 13 167) HT_ HW_ hHeld ?_
 refine qT 3 (some 8) (qB 13 175) HT_ HW_ hHeld ?_
 refine qT 6 (some 11) (qB 13 239) HT_ HW_ hHeld ?_
 refine qT 8 (some 13) (qB 13 495) HT_ HW_ hHeld ?_
 refine Zf (i:=4) (N:=some 9) #[true,true,true,true,true,true,true,true,true,false,false,false,false] rfl rfl (Q3 HT_.out kr) (by decide) (fun K hK=>?_)
 refine Zd Try.func81 kr rfl #[.int .i64 B,.int .i64 δ] (by rfl) rfl rfl (by(try simp only[List.map_toArray,List.map_cons,List.map_nil]);first|done|rfl|(simp only[List.length_drop,List.length_take];rfl)) ?_
 with_reducible refine(cmp_Compare_int.calls B δ μ _ A3.out).mono ?_
 rintro e w' ⟨rfl,⟨nd,rfl⟩⟩
 refine⟨_,rfl, ?_⟩
 refine hK.out _ _ ⟨qc γ,qc γ,qc γ,qc ζ,qc ζ,qc ζ⟩ (fun hHeld=>?_)
 clear hK K
 refine qN (some 9) ?_
 refine Zf (i:=9) (N:=some 14) #[true,true,true,true,true,true,true,true,true,true,false,false,false] rfl rfl (Q3 HT_.out kr) (by decide) (fun K hK=>?_)
 refine Zd Try.func81 kr rfl #[.int .i64 J,.int .i64 ε] (by rfl) rfl rfl (by(try simp only[List.map_toArray,List.map_cons,List.map_nil]);first|done|rfl|(simp only[List.length_drop,List.length_take];rfl)) ?_
 with_reducible refine(cmp_Compare_int.calls J ε a6 _ A4.out).mono ?_
 rintro e w' ⟨rfl,⟨nd,rfl⟩⟩
 refine⟨_,rfl, ?_⟩
 refine hK.out _ _ ⟨qc γ,qc γ,qc γ,qc ζ,qc ζ,qc ζ⟩ (fun hHeld=>?_)
 clear hK K
 refine qN (some 14) ?_
 refine Zf (i:=10) (N:=some 15) #[true,true,true,true,true,true,true,true,true,true,true,false,false] rfl rfl (Q3 HT_.out kr) (by decide) (fun K hK=>?_)
 refine Kd.Zv (Kd.int .i64) _ 3 ?hg (N:=15) ?hd (xs:=([μ,a6]:List Int)) (inner:=[.int .i64 μ,.int .i64 a6]) (ok:=fun _=>True) (okp:=fun _=>True) ?hr ?hp (fun _ hk=>hk) trivial (Below.refl _ _) (Nat.le_refl _) (by simp) ?_;(case hd=>rfl);(case hg=>rfl);(case hr=>first|(go_simp;done)|(go_simp;rfl));(case hp=>exact(Reps.one (show Kd.M (Kd.int .i64) _ _ _ μ [.int .i64 μ] from rfl) (Reps.one (show Kd.M (Kd.int .i64) _ _ _ a6 [.int .i64 a6] from rfl) (Reps.none _ _))))
 intro θ w9 X hb hg_ hnew_
 clear hg_ hnew_
 (first|rw[← aa.out] at X|(simp only[Int.reduceToNat] at X;rw[← aa.out] at X))
 have ρ:=aK (Kd.Q8 X (Qn (by repeat(first|(with_reducible first|exact HB.out|apply Qo|apply Qi|apply Qg|refine Qr ?_ ao.out|refine Qr ?_ bh.out)|exact HB.out))))
 have τ :=aK (Qz (g:= ξ) (o:=.cells #[.int .i64 B,.int .i64 J,.int .i64 O] 36 (0,0)) (by(with_reducible repeat first|refine Qm ?_ _|refine Qd ?_|refine Ql ?_ _);exact γ.out) hb)
 have ω :=aK (Qz (g:= ν) (o:=.cells #[.int .i64 δ,.int .i64 ε,.int .i64 ι] 36 (0,0)) (by(with_reducible repeat first|refine Qm ?_ _|refine Qd ?_|refine Ql ?_ _);exact ζ.out) hb)
 have a3:=aK (Q2 (by repeat(first|(with_reducible first|exact HB.out|apply Qo|apply Qi|apply Qg|refine Qr ?_ ao.out|refine Qr ?_ bh.out)|exact HB.out)) hb)
 clear γ
 clear ζ
 clear HB
 have Z:=ρ
 have γ:= τ
 have ζ := ω
 have HB:=a3
 clear ρ τ ω a3
 clear hb X
 obtain⟨ψ,a1,χ⟩:=Kd.Q7 Z.out
 (first|subst χ |(injection χ with aj aw ak;have ax:=aj.symm;have ay:=ak.symm;clear aj aw ak;subst ax;subst ay))
 refine hK.out _ _ ⟨qc γ,qc γ,qc γ,qc ζ,qc ζ,qc ζ⟩ (fun hHeld=>?_)
 clear hK K
 refine qN (some 15) ?_
 refine Zf (i:=11) (N:=some 16) #[true,true,true,true,true,true,true,true,true,true,true,true,false] rfl rfl (Q3 HT_.out kr) (by decide) (fun K hK=>?_)
 refine Zd Try.func80 kr rfl #[.slice ψ a9.length a1] (by rfl) rfl rfl (by(try simp only[List.map_toArray,List.map_cons,List.map_nil]);first|done|rfl|(simp only[List.length_drop,List.length_take];rfl)) ?_
 with_reducible refine(cmp_Or_int.calls k _ _ a9 Y _ ?side1 ?side2 A5.out).mono ?_
 (case side1=>repeat(first|exact(Kd.Qw Z.out).2.2|(with_reducible refine Kd.J9 ?_ _)|(with_reducible refine Kd.J8 ?_ _)|(with_reducible refine Kd.Ge ?_)))
 (case side2=>exact(Kd.Qw Z.out).2.1)
 rintro e w' ⟨rfl,⟨nd,rfl⟩⟩
 refine⟨_,rfl, ?_⟩
 refine hK.out _ _ ⟨qc γ,qc γ,qc γ,qc ζ,qc ζ,qc ζ⟩ (fun hHeld=>?_)
 clear hK K
 refine qN (some 16) ?_
 refine qP 12 (some 4) (qB 13 8191) HT_ ?_
 refine Zi (Zc HT_.out kr) ?_
 try go_wp2
 go_ret
 exact⟨by first|rfl|(simp[Qk,Qj] <;> rfl)|(simp[*,Qk,Qj] <;> rfl),by repeat(first|(with_reducible first|exact HB.out|apply Qo|apply Qi|apply Qg|refine Qr ?_ ao.out|refine Qr ?_ bh.out)|exact HB.out)⟩
def call_ins_1.f (k:Nat) (B:Int) (J:Int) (δ :Int) (ε :Int):Option (Int):=(cmp_Compare_int.f B δ).bind fun γ=>((cmp_Compare_int.f J ε).bind fun η =>((cmp_Or_int.f k (([γ,η]:List Int))).bind fun ν =>(some ν)))
def call_ins_1.T1:Bool×List (List Nat×List Nat):=(true,[([],[]),([0],[0]),([],[]),([2],[2]),([1,3],[1,3]),([],[]),([5],[5]),([],[]),([7],[7]),([6,8,4],[6,8]),([4,9],[4,9]),([10,9],[10]),([11,11,0,1,2,3,4,5,6,7,8,9,10,11],[11])])
def call_ins_1.B1:List Nat:=[0,1,0,4,15,0,32,0,128,511,1023,2047,4095]
theorem call_ins_1.Kr:rtab .any (opsOf Try.f83 1)=call_ins_1.T1:=by kernel_rfl
theorem call_ins_1.Y6:Zk call_ins_1.T1.2 call_ins_1.B1=true:=by kernel_rfl
set_option maxHeartbeats 8000000 in
set_option maxRecDepth 100000 in
theorem call_ins_1.calls (k:Nat) (B:Int) (J:Int) (δ :Int) (ε :Int) (r:Int) (w:World) (h:call_ins_1.f k B J δ ε = some r):
 Calls Try.prog 83 #[.agg #[.int .i64 B,.int .i64 J],.agg #[.int .i64 δ,.int .i64 ε]] w fun e w'=>e = .returned (.int .i64 r)∧Below w.heap.size w w':=by
 have cu:=Try.underlying86
 have HB:=aK (Below.refl w.heap.size w)
 have H:((cmp_Compare_int.f B δ).bind fun γ=>((cmp_Compare_int.f J ε).bind fun η =>((cmp_Or_int.f k (([γ,η]:List Int))).bind fun ν =>(some ν))))=some r:=h
 clear h
 obtain⟨γ,a7,H⟩:=qO H
 have A3:=aK a7
 clear a7
 obtain⟨η,ab,H⟩:=qO H
 have A4:=aK ab
 clear ab
 obtain⟨ζ,κ⟩:∃ y_:List Int,y_=(([γ,η]:List Int)):=⟨_,rfl⟩
 replace H:((cmp_Or_int.f k ζ).bind fun ν =>(some ν))=some r:=by first|(rw[κ];with_reducible exact H)|(have al:=(Option.bind_some _ _).symm.trans H;rw[κ];with_reducible exact al)|(have al:=(Option.bind_some _ _).symm.trans H;with_reducible exact al)|with_reducible exact H|(rw[κ];exact H)|exact H
 have σ:=aK κ
 clear κ
 obtain⟨ν,bc,H⟩:=qO H
 have A5:=aK bc
 clear bc
 obtain rfl:=Option.some.inj H
 go_enter Try.func83,Try.ntmps83
 try go_wp2_with (first|((with_reducible refine Qe (N:=2) rfl ?_);refine Zh ?hg (N:=2) ?hd (cs:=#[.int .i64 B,.int .i64 J]) (t:=86) ?hr ?_;(case hd=>rfl);(case hg=>rfl);(case hr=>first|(go_simp;done)|(go_simp;rfl));intro Z hg w6 hbox hb;have ρ:=aK (Q2 (by repeat(first|(with_reducible first|exact HB.out|apply Qo|apply Qi|apply Qg)|exact HB.out)) hb);have τ :=aK (hbox);have ω :=aK ((by rw[hg];exact(Qn (by repeat(first|(with_reducible first|exact HB.out|apply Qo|apply Qi|apply Qg)|exact HB.out))):w.heap.size≤Z));have a3:=aK ((by rw[hg];exact(Qn (by repeat(first|(with_reducible first|exact HB.out|apply Qo|apply Qi|apply Qg)|exact HB.out))):w.heap.size≤Z));clear HB;have HB:=ρ;have Y:= τ;have ar:= ω;have θ :=a3;clear ρ τ ω a3;clear hb hbox hg)|((with_reducible refine Qe (N:=3) rfl ?_);refine Zh ?hg (N:=3) ?hd (cs:=#[.int .i64 δ,.int .i64 ε]) (t:=86) ?hr ?_;(case hd=>rfl);(case hg=>rfl);(case hr=>first|(go_simp;done)|(go_simp;rfl));intro ι hg w7 hbox hb;have ρ:=aK (Qz (g:=Z) (o:=.cells #[.int .i64 B,.int .i64 J] 86 (0,0)) (by(with_reducible repeat first|refine Qm ?_ _|refine Qd ?_|refine Ql ?_ _);exact Y.out) hb);have τ :=aK (Q2 (by repeat(first|(with_reducible first|exact HB.out|apply Qo|apply Qi|apply Qg|refine Qr ?_ θ.out)|exact HB.out)) hb);have ω :=aK (hbox);have a3:=aK ((by rw[hg];exact(Qn (by repeat(first|(with_reducible first|exact HB.out|apply Qo|apply Qi|apply Qg|refine Qr ?_ θ.out)|exact HB.out))):w.heap.size ≤ ι));have an:=aK ((by rw[hg];exact(Qn (by repeat(first|(with_reducible first|exact HB.out|apply Qo|apply Qi|apply Qg|refine Qr ?_ θ.out)|exact HB.out))):w.heap.size ≤ ι));have b1:=aK ((by rw[hg];exact Nat.ne_of_lt (Xi (g:=Z) (o:=.cells #[.int .i64 B,.int .i64 J] 86 (0,0)) (by(with_reducible repeat first|refine Qm ?_ _|refine Qd ?_|refine Ql ?_ _);exact Y.out)):Z ≠ ι));have b7:=aK ((by rw[hg];exact Nat.ne_of_gt (Xi (g:=Z) (o:=.cells #[.int .i64 B,.int .i64 J] 86 (0,0)) (by(with_reducible repeat first|refine Qm ?_ _|refine Qd ?_|refine Ql ?_ _);exact Y.out)): ι ≠ Z));clear Y;clear HB;have Y:=ρ;have HB:= τ;have O:= ω;have a2:=a3;have μ :=an;have φ :=b1;have a0:=b7;clear ρ τ ω a3 an b1 b7;clear hb hbox hg))
 have ρ:=aK (Qd Y.out)
 have τ :=aK (Qd O.out)
 have ω :=aK (Qg HB.out)
 clear Y
 clear O
 clear HB
 have Y:=ρ
 have O:= τ
 have HB:= ω
 clear ρ τ ω
 refine Ze (n:=13) (S:=fun w'=>w'.cell? ⟨Z,0,none⟩=some (.int .i64 B)∧w'.cell? ⟨Z,1,none⟩=some (.int .i64 J)∧w'.cell? ⟨ι,0,none⟩=some (.int .i64 δ)∧w'.cell? ⟨ι,1,none⟩=some (.int .i64 ε)) (ds:=[]) #[false,false,false,false,false,false,false,false,false,false,false,false,false] kr rfl rfl ⟨(Qa Y.out 0).trans rfl,(Qa Y.out 1).trans rfl,(Qa O.out 0).trans rfl,(Qa O.out 1).trans rfl⟩ (fun hHeld=>?_);refine Q5 call_ins_1.Kr call_ins_1.Y6 (fun HT_ HW_=>?_)
 generalize w7.drew=w8 at Y O HB hHeld ⊢
 refine qP 0 (some 5) (qB 13 1) HT_ ?_
 refine qP 2 (some 7) (qB 13 5) HT_ ?_
 refine qP 5 (some 10) (qB 13 37) HT_ ?_
 refine qP 7 (some 12) (qB 13 165) HT_ ?_
 refine qT 1 (some 6) (qB 13 167) HT_ HW_ hHeld ?_
 refine qT 3 (some 8) (qB 13 175) HT_ HW_ hHeld ?_
 refine qT 6 (some 11) (qB 13 239) HT_ HW_ hHeld ?_
 refine qT 8 (some 13) (qB 13 495) HT_ HW_ hHeld ?_
 refine Zf (i:=4) (N:=some 9) #[true,true,true,true,true,true,true,true,true,false,false,false,false] rfl rfl (Q3 HT_.out kr) (by decide) (fun K hK=>?_)
 refine Zd Try.func81 kr rfl #[.int .i64 B,.int .i64 δ] (by rfl) rfl rfl (by(try simp only[List.map_toArray,List.map_cons,List.map_nil]);first|done|rfl|(simp only[List.length_drop,List.length_take];rfl)) ?_
 with_reducible refine(cmp_Compare_int.calls B δ γ _ A3.out).mono ?_
 rintro e w' ⟨rfl,⟨nd,rfl⟩⟩
 refine⟨_,rfl, ?_⟩
 refine hK.out _ _ ⟨qc Y,qc Y,qc O,qc O⟩ (fun hHeld=>?_)
 clear hK K
 refine qN (some 9) ?_
 refine Zf (i:=9) (N:=some 14) #[true,true,true,true,true,true,true,true,true,true,false,false,false] rfl rfl (Q3 HT_.out kr) (by decide) (fun K hK=>?_)
 refine Zd Try.func81 kr rfl #[.int .i64 J,.int .i64 ε] (by rfl) rfl rfl (by(try simp only[List.map_toArray,List.map_cons,List.map_nil]);first|done|rfl|(simp only[List.length_drop,List.length_take];rfl)) ?_
 with_reducible refine(cmp_Compare_int.calls J ε η _ A4.out).mono ?_
 rintro e w' ⟨rfl,⟨nd,rfl⟩⟩
 refine⟨_,rfl, ?_⟩
 refine hK.out _ _ ⟨qc Y,qc Y,qc O,qc O⟩ (fun hHeld=>?_)
 clear hK K
 refine qN (some 14) ?_
 refine Zf (i:=10) (N:=some 15) #[true,true,true,true,true,true,true,true,true,true,true,false,false] rfl rfl (Q3 HT_.out kr) (by decide) (fun K hK=>?_)
 refine Kd.Zv (Kd.int .i64) _ 3 ?hg (N:=15) ?hd (xs:=([γ,η]:List Int)) (inner:=[.int .i64 γ,.int .i64 η]) (ok:=fun _=>True) (okp:=fun _=>True) ?hr ?hp (fun _ hk=>hk) trivial (Below.refl _ _) (Nat.le_refl _) (by simp) ?_;(case hd=>rfl);(case hg=>rfl);(case hr=>first|(go_simp;done)|(go_simp;rfl));(case hp=>exact(Reps.one (show Kd.M (Kd.int .i64) _ _ _ γ [.int .i64 γ] from rfl) (Reps.one (show Kd.M (Kd.int .i64) _ _ _ η [.int .i64 η] from rfl) (Reps.none _ _))))
 intro ai w9 X hb hg_ hnew_
 clear hg_ hnew_
 (first|rw[← σ.out] at X|(simp only[Int.reduceToNat] at X;rw[← σ.out] at X))
 have ρ:=aK (Kd.Q8 X (Qn (by repeat(first|(with_reducible first|exact HB.out|apply Qo|apply Qi|apply Qg|refine Qr ?_ θ.out|refine Qr ?_ μ.out)|exact HB.out))))
 have τ :=aK (Qz (g:=Z) (o:=.cells #[.int .i64 B,.int .i64 J] 86 (0,0)) (by(with_reducible repeat first|refine Qm ?_ _|refine Qd ?_|refine Ql ?_ _);exact Y.out) hb)
 have ω :=aK (Qz (g:= ι) (o:=.cells #[.int .i64 δ,.int .i64 ε] 86 (0,0)) (by(with_reducible repeat first|refine Qm ?_ _|refine Qd ?_|refine Ql ?_ _);exact O.out) hb)
 have a3:=aK (Q2 (by repeat(first|(with_reducible first|exact HB.out|apply Qo|apply Qi|apply Qg|refine Qr ?_ θ.out|refine Qr ?_ μ.out)|exact HB.out)) hb)
 clear Y
 clear O
 clear HB
 have ξ :=ρ
 have Y:= τ
 have O:= ω
 have HB:=a3
 clear ρ τ ω a3
 clear hb X
 obtain⟨ψ,a1,χ⟩:=Kd.Q7 ξ.out
 (first|subst χ |(injection χ with aj aw ak;have ax:=aj.symm;have ay:=ak.symm;clear aj aw ak;subst ax;subst ay))
 refine hK.out _ _ ⟨qc Y,qc Y,qc O,qc O⟩ (fun hHeld=>?_)
 clear hK K
 refine qN (some 15) ?_
 refine Zf (i:=11) (N:=some 16) #[true,true,true,true,true,true,true,true,true,true,true,true,false] rfl rfl (Q3 HT_.out kr) (by decide) (fun K hK=>?_)
 refine Zd Try.func80 kr rfl #[.slice ψ ζ.length a1] (by rfl) rfl rfl (by(try simp only[List.map_toArray,List.map_cons,List.map_nil]);first|done|rfl|(simp only[List.length_drop,List.length_take];rfl)) ?_
 with_reducible refine(cmp_Or_int.calls k _ _ ζ ν _ ?side1 ?side2 A5.out).mono ?_
 (case side1=>repeat(first|exact(Kd.Qw ξ.out).2.2|(with_reducible refine Kd.J9 ?_ _)|(with_reducible refine Kd.J8 ?_ _)|(with_reducible refine Kd.Ge ?_)))
 (case side2=>exact(Kd.Qw ξ.out).2.1)
 rintro e w' ⟨rfl,⟨nd,rfl⟩⟩
 refine⟨_,rfl, ?_⟩
 refine hK.out _ _ ⟨qc Y,qc Y,qc O,qc O⟩ (fun hHeld=>?_)
 clear hK K
 refine qN (some 16) ?_
 refine qP 12 (some 4) (qB 13 8191) HT_ ?_
 refine Zi (Zc HT_.out kr) ?_
 try go_wp2
 go_ret
 exact⟨by first|rfl|(simp[Qk,Qj] <;> rfl)|(simp[*,Qk,Qj] <;> rfl),by repeat(first|(with_reducible first|exact HB.out|apply Qo|apply Qi|apply Qg|refine Qr ?_ θ.out|refine Qr ?_ μ.out)|exact HB.out)⟩
end Go.Proofs.Ytmfffemidlhcpaa.K
namespace Go.Proofs.Ytmfffemidlhcpaa.C
open Go.RowKit Go.Proofs.YtmfffemidlhcpaaW.PrintWords Go.Proofs.YtmfffemidlhcpaaW.PrintLast Go.Proofs.YtmfffemidlhcpaaW.PrintMore
attribute [local go_sem] Z0 Zy Z6 Z5 Zr Zq Zz Zx
set_option linter.unusedVariables false
set_option linter.unusedSimpArgs false
def call_within.f (B:Int) (X:Int) (a2:Int):Option (Bool):=if X≤B then (some (decide (B≤a2))) else (some false)
set_option maxHeartbeats 8000000 in
set_option maxRecDepth 100000 in
theorem call_within.calls (B:Int) (X:Int) (a2:Int) (r:Bool) (w:World) (h:call_within.f B X a2=some r):
 Calls Try.prog 44 #[.int .i64 B,.int .i64 X,.int .i64 a2] w fun e w'=>e = .returned (.bool r)∧Drawn0 w w':=by
 have H:(if X≤B then (some (decide (B≤a2))) else (some false))=some r:=h
 clear h
 by_cases c4:X≤B
 ·rw[if_pos c4] at H
  have c4b0:=decide_eq_true c4
  clear c4
  obtain rfl:=Option.some.inj H
  go_enter Try.func44,Try.ntmps44
  go_wp2
  go_ret
  exact⟨qR,by repeat(first|exact Drawn0.refl _|apply Drawn0.step)⟩
 ·rw[if_neg c4] at H
  have c4b0:=decide_eq_false c4
  clear c4
  obtain rfl:=Option.some.inj H
  go_enter Try.func44,Try.ntmps44
  go_wp2
  go_ret
  exact⟨qR,by repeat(first|exact Drawn0.refl _|apply Drawn0.step)⟩
end Go.Proofs.Ytmfffemidlhcpaa.C
namespace Go.Proofs.Ytmfffemidlhcpaa.C
open Go.RowKit Go.Proofs.YtmfffemidlhcpaaW.PrintWords Go.Proofs.YtmfffemidlhcpaaW.PrintLast Go.Proofs.YtmfffemidlhcpaaW.PrintMore
set_option linter.unusedVariables false
set_option linter.unusedSimpArgs false
section
variable {P : Program} {ops : Array Oper} {Q : Exit → Act → World → Prop}
theorem X6 {oi:Oper} {N:Option Tmp} {a:Act} {w:World} {K:Act→World→Prop} {f:FuncId} {fn:Func} {x:Operand} {xs:Array Operand} {ts:Array TypeId} (hf:P.funcs[f]?=some fn) (hname:(fn.name == "runtime.NumGoroutine")=false) (hb:fn.body.isSome=true) (first cap args all:Array Value) (hall:first ++ args++cap=all)
 (hw:Region.wanted oi (yielded ops a.tmps)=true) (hN:oi.dst=N) (hop:oi.op = .call {callee:=.value x,args:=xs,argTypes:=ts}) (hx:a.eval x = .func (.func f) first cap) (hargs:xs.map a.eval=args)
 (h:Calls P f all w fun e w'=>∃ v,e = .returned v∧K (a.put N v) w'):if Region.wanted oi (yielded ops a.tmps)=true then Oper.wp P oi a w K Q else K (a.put N undef) w:=by
 refine Dx f all hw hN ?_ h
 have he:=Ue hf hname hb all w
 unfold execOp
 simp[hop,hx,resolve,Deferred.ofValue,invoke,hargs,hall,he]
end
def tok (a b:Int):Int:=a * 18446744073709551616+(b+9223372036854775808)
def Yq (t:Int):Int:=t / 18446744073709551616
def Yp (t:Int):Int:=t % 18446744073709551616-9223372036854775808
theorem Kq (a b:Int) (h: -9223372036854775808≤b∧b≤9223372036854775807):Yq (tok a b)=a:=by unfold Yq tok;omega
theorem Kp (a b:Int) (h: -9223372036854775808≤b∧b≤9223372036854775807):Yp (tok a b)=b:=by unfold Yp tok;omega
theorem Z7 {w W:World} {g:Nat} {t:TypeId} {cs:Array Value} (h:w.heap[g]?=some (.cells cs t (0,0))) (hb:Below w.heap.size w W):W.heap[g]?=some (.cells cs t (0,0)):=Qz h hb
def Ui (a b:Int):Int:=if a<b then -1 else if a>b then 1 else 0
def Yc (B X Y b1:Int):Int:=if Ui B Y≠0 then Ui B Y else Ui X b1
theorem cmp_eq (a b:Int):K.cmp_Compare_int.f a b=some (Ui a b):=by
 unfold K.cmp_Compare_int.f K.cmp_isNaN_int.f Ui
 simp only[Option.bind_some,bne_self_eq_false]
 rw[if_neg (by decide),if_neg (by decide)]
 split
 ·rfl
 ·split <;> rfl
theorem Dr (a b:Int):K.cmp_Or_int.f 5 [a,b]=some (if a≠0 then a else b):=by
 have w1:wrap64 (0+1)=1:=by unfold wrap64;omega
 have w2:wrap64 (1+1)=2:=by unfold wrap64;omega
 have r0:rd [a,b] 0=a:=rfl
 have r1:rd [a,b] 1=b:=rfl
 have l2:(([a,b]:List Int).length:Int)=2:=rfl
 unfold K.cmp_Or_int.f
 rw[l2,K.cmp_Or_int.l0,if_pos (by decide),if_pos (by decide),l2,if_pos (by decide),r0,w1]
 by_cases h:a=0
 ·rw[if_pos h,if_neg (fun g=>g h),K.cmp_Or_int.l0,if_pos (by decide),if_pos (by decide),l2,if_pos (by decide),r1,w2]
  by_cases O:b=0
  ·rw[if_pos O,K.cmp_Or_int.l0,if_neg (by decide),O]
  ·rw[if_neg O]
 ·rw[if_neg h,if_pos h]
def call_halls_1.f (B J O δ ε ι :Int):Option Int:=some (Yc B J δ ε)
def call_ins_1.f (B J δ ε :Int):Option Int:=some (Yc B J δ ε)
theorem call_halls_1.calls (B J O δ ε ι r:Int) (w:World) (h:call_halls_1.f B J O δ ε ι = some r):
 Calls Try.prog 79 #[.agg #[.int .i64 B,.int .i64 J,.int .i64 O],.agg #[.int .i64 δ,.int .i64 ε,.int .i64 ι]] w fun e w'=>e = .returned (.int .i64 r)∧Below w.heap.size w w':=by
 refine K.call_halls_1.calls 5 B J O δ ε ι r w ?_
 unfold K.call_halls_1.f
 rw[cmp_eq,cmp_eq]
 simp only[Option.bind_some]
 rw[Dr]
 exact h
theorem call_ins_1.calls (B J δ ε r:Int) (w:World) (h:call_ins_1.f B J δ ε = some r):
 Calls Try.prog 83 #[.agg #[.int .i64 B,.int .i64 J],.agg #[.int .i64 δ,.int .i64 ε]] w fun e w'=>e = .returned (.int .i64 r)∧Below w.heap.size w w':=by
 refine K.call_ins_1.calls 5 B J δ ε r w ?_
 unfold K.call_ins_1.f
 rw[cmp_eq,cmp_eq]
 simp only[Option.bind_some]
 rw[Dr]
 exact h
def Xf (F C:Int) (B J X:Int):Bool:=decide ((J=1∨J = -1)∧(0≤B∧B≤wrap64 (F-1))∧(0≤wrap64 (B+J)∧wrap64 (B+J)≤wrap64 (F-1))∧(-1≤X∧X≤wrap64 (C-1)))
def Y0 (F C:Int) (B J:Int):Bool:=decide ((0≤B∧B≤wrap64 (C-1))∧(0≤J∧J≤wrap64 (F-1)))
theorem Jd (a b c:Int) (r:Bool) (h:decide (b≤a∧a≤c)=r):call_within.f a b c=some r:=by
 unfold call_within.f
 subst h
 by_cases h1:b≤a
 ·rw[if_pos h1];simp[h1]
 ·rw[if_neg h1];simp[h1]
theorem N1 (F C B J X:Int):Xf F C B J X=((J==1||J == -1)&&(decide (0≤B∧B≤wrap64 (F-1))&&(decide (0≤wrap64 (B+J)∧wrap64 (B+J)≤wrap64 (F-1))&&decide (-1≤X∧X≤wrap64 (C-1))))):=by
 unfold Xf
 rw[Bool.eq_iff_iff]
 simp[and_assoc]
theorem E7 (F C B J:Int):Y0 F C B J=(decide (0≤B∧B≤wrap64 (C-1))&&decide (0≤J∧J≤wrap64 (F-1))):=by
 unfold Y0
 rw[Bool.eq_iff_iff]
 simp[and_assoc]
def call_hall_1.f (B J O X:Int):Option Bool:=some (Xf (Yq X) (Yp X) B J O)
def call_inside_1.f (B J X:Int):Option Bool:=some (Y0 (Yq X) (Yp X) B J)
set_option maxRecDepth 100000 in
set_option maxHeartbeats 4000000 in
theorem G5 (F C B J X:Int) (r:Bool) (w:World) (h:Xf F C B J X=r) (g:Nat) (hg:w.heap[g]?=some (.cells #[.int .i64 F,.int .i64 C] 59 (0,0))):
 Calls Try.prog 82 #[.agg #[.int .i64 B,.int .i64 J,.int .i64 X],.pointer (some ⟨g,0,none⟩)] w fun e w'=>e = .returned (.bool r)∧Below w.heap.size w w':=by
 rw[N1] at h
 have HG:=aK hg
 have HB:=aK (Below.refl w.heap.size w)
 clear hg
 have Z:∃ b,decide (0≤B∧B≤wrap64 (F-1))=b:=⟨_,rfl⟩
 have O:∃ b,decide (0≤wrap64 (B+J)∧wrap64 (B+J)≤wrap64 (F-1))=b:=⟨_,rfl⟩
 have ε :∃ b,decide (-1≤X∧X≤wrap64 (C-1))=b:=⟨_,rfl⟩
 have θ :∃ b,(J==1)=b:=⟨_,rfl⟩
 have ι :∃ b,(J == -1)=b:=⟨_,rfl⟩
 obtain⟨b1,Z⟩:=Z
 obtain⟨b2,O⟩:=O
 obtain⟨b3,ε⟩:= ε
 obtain⟨d1,θ⟩:= θ
 obtain⟨Y,ι⟩:= ι
 rw[Z,O,ε,θ,ι] at h
 have D1:=aK Z
 have D2:=aK O
 have D3:=aK ε
 clear Z O ε
 cases d1 <;> cases Y <;> cases b1 <;> cases b2 <;> cases b3 <;> simp only[Bool.or_false,Bool.false_or,Bool.or_true,Bool.true_or,Bool.and_false,Bool.false_and,Bool.and_true,Bool.true_and] at h <;> subst h <;>
 ·go_enter Try.func82,Try.ntmps82
  go_wp2_with (first|((with_reducible refine Qe (N:=2) rfl ?_);refine Zh ?hg (N:=2) ?hd (cs:=#[.int .i64 B,.int .i64 J,.int .i64 X]) (t:=36) ?hr ?_;(case hd=>rfl);(case hg=>rfl);(case hr=>first|(go_simp;done)|(go_simp;rfl));intro gb hgb w1 hbox hb;have ρ:=aK (Q2 HB.out hb);clear HB;have HB:=ρ;clear ρ;have hk:=Z7 HG.out HB.out;have γ:w1.cell? ⟨g,0,none⟩=some (.int .i64 F):=(Qa hk 0).trans rfl;have δ :w1.cell? ⟨g,1,none⟩=some (.int .i64 C):=(Qa hk 1).trans rfl;have ζ :w1.cell? ⟨gb,0,none⟩=some (.int .i64 B):=(Qa hbox 0).trans rfl;have η :w1.cell? ⟨gb,1,none⟩=some (.int .i64 J):=(Qa hbox 1).trans rfl;have κ :w1.cell? ⟨gb,2,none⟩=some (.int .i64 X):=(Qa hbox 2).trans rfl;clear hk hbox hb hgb)|(go_at_call 44;((with_reducible refine(call_within.calls B 0 (wrap64 (F-1)) _ _ (Jd _ _ _ _ D1.out)).mono ?_);rintro e w' ⟨rfl,⟨nd,rfl⟩⟩))|(go_at_call 44;((with_reducible refine(call_within.calls (wrap64 (B+J)) 0 (wrap64 (F-1)) _ _ (Jd _ _ _ _ D2.out)).mono ?_);rintro e w' ⟨rfl,⟨nd,rfl⟩⟩))|(go_at_call 44;((with_reducible refine(call_within.calls X (-1) (wrap64 (C-1)) _ _ (Jd _ _ _ _ D3.out)).mono ?_);rintro e w' ⟨rfl,⟨nd,rfl⟩⟩)))
  go_ret
  exact⟨rfl,by repeat(first|exact HB.out|apply Qi)⟩
set_option maxRecDepth 100000 in
set_option maxHeartbeats 4000000 in
theorem Ud (F C B J:Int) (r:Bool) (w:World) (h:Y0 F C B J=r) (g:Nat) (hg:w.heap[g]?=some (.cells #[.int .i64 F,.int .i64 C] 59 (0,0))):
 Calls Try.prog 84 #[.agg #[.int .i64 B,.int .i64 J],.pointer (some ⟨g,0,none⟩)] w fun e w'=>e = .returned (.bool r)∧Below w.heap.size w w':=by
 rw[E7] at h
 have HG:=aK hg
 have HB:=aK (Below.refl w.heap.size w)
 clear hg
 have Z:∃ b,decide (0≤B∧B≤wrap64 (C-1))=b:=⟨_,rfl⟩
 have O:∃ b,decide (0≤J∧J≤wrap64 (F-1))=b:=⟨_,rfl⟩
 obtain⟨b1,Z⟩:=Z
 obtain⟨b2,O⟩:=O
 rw[Z,O] at h
 have D1:=aK Z
 have D2:=aK O
 clear Z O
 cases b1 <;> cases b2 <;> simp only[Bool.and_false,Bool.false_and,Bool.and_true,Bool.true_and] at h <;> subst h <;>
 ·go_enter Try.func84,Try.ntmps84
  go_wp2_with (first|((with_reducible refine Qe (N:=2) rfl ?_);refine Zh ?hg (N:=2) ?hd (cs:=#[.int .i64 B,.int .i64 J]) (t:=86) ?hr ?_;(case hd=>rfl);(case hg=>rfl);(case hr=>first|(go_simp;done)|(go_simp;rfl));intro gb hgb w1 hbox hb;have ρ:=aK (Q2 HB.out hb);clear HB;have HB:=ρ;clear ρ;have hk:=Z7 HG.out HB.out;have γ:w1.cell? ⟨g,0,none⟩=some (.int .i64 F):=(Qa hk 0).trans rfl;have δ :w1.cell? ⟨g,1,none⟩=some (.int .i64 C):=(Qa hk 1).trans rfl;have ζ :w1.cell? ⟨gb,0,none⟩=some (.int .i64 B):=(Qa hbox 0).trans rfl;have η :w1.cell? ⟨gb,1,none⟩=some (.int .i64 J):=(Qa hbox 1).trans rfl;clear hk;clear hbox hb hgb)|(go_at_call 44;((with_reducible refine(call_within.calls B 0 (wrap64 (C-1)) _ _ (Jd _ _ _ _ D1.out)).mono ?_);rintro e w' ⟨rfl,⟨nd,rfl⟩⟩))|(go_at_call 44;((with_reducible refine(call_within.calls J 0 (wrap64 (F-1)) _ _ (Jd _ _ _ _ D2.out)).mono ?_);rintro e w' ⟨rfl,⟨nd,rfl⟩⟩)))
  go_ret
  exact⟨rfl,by repeat(first|exact HB.out|apply Qi)⟩
theorem call_hall_1.calls (B J O X:Int) (r:Bool) (w:World) (h:call_hall_1.f B J O X=some r) (g:Nat) (hg:w.heap[g]?=some (.cells #[.int .i64 (Yq X),.int .i64 (Yp X)] 59 (0,0))):
 Calls Try.prog 82 #[.agg #[.int .i64 B,.int .i64 J,.int .i64 O],.pointer (some ⟨g,0,none⟩)] w fun e w'=>e = .returned (.bool r)∧Below w.heap.size w w':=
 G5 _ _ _ _ _ _ _ (Option.some.inj h) g hg
theorem call_inside_1.calls (B J X:Int) (r:Bool) (w:World) (h:call_inside_1.f B J X=some r) (g:Nat) (hg:w.heap[g]?=some (.cells #[.int .i64 (Yq X),.int .i64 (Yp X)] 59 (0,0))):
 Calls Try.prog 84 #[.agg #[.int .i64 B,.int .i64 J],.pointer (some ⟨g,0,none⟩)] w fun e w'=>e = .returned (.bool r)∧Below w.heap.size w w':=
 Ud _ _ _ _ _ _ (Option.some.inj h) g hg
def api_Inside_without_1.f (B J X:Int):Option Bool:=some (Yc (Yq X) (Yp X) B J==0)
set_option maxRecDepth 100000 in
set_option maxHeartbeats 4000000 in
theorem Ka (B J O Y:Int) (r:Bool) (w:World) (h:(Yc B J O Y==0)=r) (A:Option Addr) (n c:Nat) (gr gx:Nat) (hr:w.heap[gr]?=some (.cells #[.slice A n c,.func (.func 83) #[] #[]] 116 (0,0))) (hx:w.heap[gx]?=some (.cells #[.int .i64 B,.int .i64 J] 86 (0,0))):
 Calls Try.prog 92 #[.agg #[.int .i64 O,.int .i64 Y],.pointer (some ⟨gr,0,none⟩),.pointer (some ⟨gx,0,none⟩)] w fun e w'=>e = .returned (.bool r)∧Below w.heap.size w w':=by
 have HR:=aK hr
 have HX:=aK hx
 have HB:=aK (Below.refl w.heap.size w)
 clear hr hx
 have hd:∃ z,Yc B J O Y=z:=⟨_,rfl⟩
 obtain⟨z,hd⟩:=hd
 rw[hd] at h
 have D1:=aK (show call_ins_1.f B J O Y=some z from congrArg some hd)
 clear hd
 cases r <;>
 ·go_enter Try.func92,Try.ntmps92
  go_wp2_with (first|((with_reducible refine Qe (N:=3) rfl ?_);refine Zh ?hg (N:=3) ?hd (cs:=#[.int .i64 O,.int .i64 Y]) (t:=86) ?hr ?_;(case hd=>rfl);(case hg=>rfl);(case hr=>first|(go_simp;done)|(go_simp;rfl));intro gb hgb w1 hbox hb;have ρ:=aK (Q2 HB.out hb);clear HB;have HB:=ρ;clear ρ;have hk:=Z7 HR.out HB.out;have hq:=Z7 HX.out HB.out;have γ:w1.cell? ⟨gr,0,none⟩=some (.slice A n c):=(Qa hk 0).trans rfl;have δ :w1.cell? ⟨gr,1,none⟩=some (.func (.func 83) #[] #[]):=(Qa hk 1).trans rfl;have X:w1.cell? ⟨gx,0,none⟩=some (.int .i64 B):=(Qa hq 0).trans rfl;have Z:w1.cell? ⟨gx,1,none⟩=some (.int .i64 J):=(Qa hq 1).trans rfl;have ζ :w1.cell? ⟨gb,0,none⟩=some (.int .i64 O):=(Qa hbox 0).trans rfl;have η :w1.cell? ⟨gb,1,none⟩=some (.int .i64 Y):=(Qa hbox 1).trans rfl;clear hk hq;clear hbox hb hgb)|(go_at_call 83;((with_reducible refine(call_ins_1.calls B J O Y z _ D1.out).mono ?_);rintro e w2 ⟨rfl,hb⟩;have ρ:=aK (Q2 HB.out hb);clear HB;have HB:=ρ;clear ρ;clear hb)))
  go_ret
  exact⟨rfl,HB.out⟩
theorem api_Inside_without_1.calls (B J X:Int) (r:Bool) (w:World) (h:api_Inside_without_1.f B J X=some r) (A:Option Addr) (n c:Nat) (gr gx:Nat) (z:Int) (hr:w.heap[gr]?=some (.cells #[.slice A n c,.func (.func 83) #[] #[]] 116 (0,0))) (hx:w.heap[gx]?=some (.cells #[.int .i64 (Yq X),.int .i64 (Yp X)] 86 (0,0))):
 Calls Try.prog 92 #[.agg #[.int .i64 B,.int .i64 J],.pointer (some ⟨gr,0,none⟩),.pointer (some ⟨gx,0,none⟩)] w fun e w'=>e = .returned (.bool r)∧Below w.heap.size w w':=
 Ka (Yq X) (Yp X) B J r w (Option.some.inj h) A n c gr gx hr hx
end Go.Proofs.Ytmfffemidlhcpaa.C
namespace Go.Proofs.Ytmfffemidlhcpaa.C
open Go.RowKit Go.Proofs.YtmfffemidlhcpaaW.PrintWords Go.Proofs.YtmfffemidlhcpaaW.PrintLast Go.Proofs.YtmfffemidlhcpaaW.PrintMore
attribute [local go_sem] Z0 Zy Z6 Z5 Zr Zq Zz Zx
set_option linter.unusedVariables false
set_option linter.unusedSimpArgs false
def api_Inside_100.l0:Nat→List (S86)→Int→Int→Int→Option (Int)
 |0,_,_,_,_=>none
 |k+1,B,J,O,Z=>if Z<O then (if 0≤Z then (if Z<(B.length:Int) then ((api_Inside_without_1.f ((Qp B Z).f0) ((Qp B Z).f1) J).bind fun ε =>(if ε = true then (some Z) else (api_Inside_100.l0 k B J O (wrap64 (Z+1))))) else (none)) else (none)) else (some (-1))
def api_Inside_100.f (k:Nat) (l0:List (S86)) (X:Int):Option (Int):=api_Inside_100.l0 k l0 X (l0.length:Int) 0
set_option maxHeartbeats 8000000 in
set_option maxRecDepth 100000 in
theorem api_Inside_100.calls (k:Nat) (Z:Option Addr) (c0:Nat) (l0:List (S86)) (X:Int) (r:Int) (w:World) (κ :Kd.C k86 w Z l0.length l0) (γ:l0.length≤c0) (h:api_Inside_100.f k l0 X=some r) (Ar_:Option Addr) (nr_ cr_ gr_ gx_:Nat) (zx_:Int) (hgr_:w.heap[gr_]?=some (.cells #[.slice Ar_ nr_ cr_,.func (.func 83) #[] #[]] 116 (0,0))) (hgx_:w.heap[gx_]?=some (.cells #[.int .i64 (Yq X),.int .i64 (Yp X)] 86 (0,0))):
 Calls Try.prog 100 #[.slice Z l0.length c0,.func (.func 92) #[] #[.pointer (some ⟨gr_,0,none⟩),.pointer (some ⟨gx_,0,none⟩)]] w fun e w'=>e = .returned (.int .i64 r)∧Below w.heap.size w w':=by
 have HCR:=aK hgr_
 have HCX:=aK hgx_
 clear hgr_ hgx_
 have cu:=Try.underlying86
 have ξ :=aK κ
 have ah:=aK γ
 clear κ γ
 have HB:=aK (Below.refl w.heap.size w)
 have H:(api_Inside_100.l0 k l0 X (l0.length:Int) 0)=some r:=h
 clear h
 have H':=aK H
 clear H
 go_enter Try.func100,Try.ntmps100
 go_wp2
 go_loopg [8] k (fun kq v8 w'=>∃ (B:Int),v8 = .int .i64 B∧Aside0 (api_Inside_100.l0 kq l0 X (l0.length:Int) B=some r)∧Aside0 (kq≤k)∧Aside0 (Below w.heap.size w w'))
 case atStart=>exact⟨(0),rfl,H',⟨Nat.le_refl _⟩,HB⟩
 case round=>
  clear H'
  obtain⟨B,rfl,HA,am,HB⟩:=hrel
  cases gk with
  |zero=>exact absurd HA.out (by simp[api_Inside_100.l0])
  |succ k1=>
   have H:=HA.out
   clear HA
   simp only[api_Inside_100.l0] at H
   by_cases c3:B<(l0.length:Int)
   ·rw[if_pos c3] at H
    have c3b0:=decide_eq_true c3
    clear c3
    by_cases c4:0≤B
    ·rw[if_pos c4] at H
     have c4b0:=decide_eq_true c4
     clear c4
     by_cases c5:B<(l0.length:Int)
     ·rw[if_pos c5] at H
      have c5b0:=decide_eq_true c5
      clear c5
      obtain⟨ε,ao,H⟩:=qO H
      have A6:=aK ao
      clear ao
      by_cases c7: ε = true
      ·subst c7
       rw[if_pos rfl] at H
       obtain rfl:=Option.some.inj H
       have Y:0≤(B:Int):=of_decide_eq_true (by assumption)
       have δ :B<(l0.length:Int):=of_decide_eq_true (by assumption)
       obtain⟨η,ζ,J,O⟩:=Xk ξ.out B Y δ
       cases ζ
       replace J:=sCl HB J
       replace O:=sCl HB O
       replace Y:=eq_true Y
       replace δ :=eq_true δ
       go_wp2_with (first|(go_at_call 92;((with_reducible refine(api_Inside_without_1.calls ((Qp l0 B).f0) ((Qp l0 B).f1) X true _ A6.out Ar_ nr_ cr_ gr_ gx_ zx_ (Z7 HCR.out (by repeat(first|(with_reducible first|exact HB.out|apply Qo|apply Qi|apply Qg)|exact HB.out|(refine Qr ?_ (Aside0.out (by assumption)))))) (Z7 HCX.out (by repeat(first|(with_reducible first|exact HB.out|apply Qo|apply Qi|apply Qg)|exact HB.out|(refine Qr ?_ (Aside0.out (by assumption))))))).mono ?_);rintro e w8 ⟨rfl,hb⟩;have ρ:=aK (Q2 HB.out hb);clear HB;have HB:=ρ;clear ρ;(try clear hb);(try clear a4);(try clear hk);(try clear hi))))
       go_ret
       exact⟨rfl,HB.out⟩
      ·replace c7:=Bool.eq_false_iff.mpr c7
       subst c7
       rw[if_neg nft] at H
       have H':=aK H
       clear H
       have Y:0≤(B:Int):=of_decide_eq_true (by assumption)
       have δ :B<(l0.length:Int):=of_decide_eq_true (by assumption)
       obtain⟨η,ζ,J,O⟩:=Xk ξ.out B Y δ
       cases ζ
       replace J:=sCl HB J
       replace O:=sCl HB O
       replace Y:=eq_true Y
       replace δ :=eq_true δ
       go_wp2_with (first|(go_at_call 92;((with_reducible refine(api_Inside_without_1.calls ((Qp l0 B).f0) ((Qp l0 B).f1) X false _ A6.out Ar_ nr_ cr_ gr_ gx_ zx_ (Z7 HCR.out (by repeat(first|(with_reducible first|exact HB.out|apply Qo|apply Qi|apply Qg)|exact HB.out|(refine Qr ?_ (Aside0.out (by assumption)))))) (Z7 HCX.out (by repeat(first|(with_reducible first|exact HB.out|apply Qo|apply Qi|apply Qg)|exact HB.out|(refine Qr ?_ (Aside0.out (by assumption))))))).mono ?_);rintro e w9 ⟨rfl,hb⟩;have ρ:=aK (Q2 HB.out hb);clear HB;have HB:=ρ;clear ρ;(try clear hb);(try clear a4);(try clear hk);(try clear hi))))
       go_roundg k1
       case measure=>have:=am.out;omega
       case rel=>exact⟨(wrap64 (B+1)),rfl,H',⟨by have:=am.out;omega⟩,HB⟩
     ·rw[if_neg c5] at H
      exact absurd H (by simp)
    ·rw[if_neg c4] at H
     exact absurd H (by simp)
   ·rw[if_neg c3] at H
    have c3b0:=decide_eq_false c3
    clear c3
    obtain rfl:=Option.some.inj H
    go_wp2
    go_ret
    exact⟨rfl,HB.out⟩
end Go.Proofs.Ytmfffemidlhcpaa.C
namespace Go.Proofs.Ytmfffemidlhcpaa.C
open Go.RowKit Go.Proofs.YtmfffemidlhcpaaW.PrintWords Go.Proofs.YtmfffemidlhcpaaW.PrintLast Go.Proofs.YtmfffemidlhcpaaW.PrintMore
set_option linter.unusedVariables false
structure Flat {α:Type} (d:Kd α) (enc:α→List Value):Prop where
 len:∀ x,(enc x).length=d.sz
 one:∀ x,∀ u ∈ enc x,u.oneCell'=true
 M:∀ w base ok x cs,d.M w base ok x cs↔cs=enc x
 K:∀ w x cs,d.K w x cs↔cs=enc x
def Yv {α:Type} (enc:α→List Value) (xs:List α):List Value:=xs.flatMap enc
section
variable {α : Type} {d : Kd α} {enc : α → List Value}
theorem G9 (x:α) (xs:List α):Yv enc (x :: xs)=enc x++Yv enc xs:=rfl
theorem Uf (xs ys:List α):Yv enc (xs++ys)=Yv enc xs++Yv enc ys:=List.flatMap_append
theorem Vy (F:Flat d enc) (xs:List α):(Yv enc xs).length=xs.length * d.sz:=by
 induction xs with
 |nil=>simp[Yv]
 |cons x xs ih=>rw[G9,List.length_append,F.len,ih,List.length_cons,Nat.add_mul,Nat.one_mul,Nat.add_comm]
theorem W7 (F:Flat d enc) (xs:List α) (m:Nat) (h:m≤xs.length):(Yv enc xs).take (m * d.sz)=Yv enc (xs.take m):=by
 have e:Yv enc xs=Yv enc (xs.take m)++Yv enc (xs.drop m):=by rw[← Uf,List.take_append_drop]
 have hl:(Yv enc (xs.take m)).length=m * d.sz:=by rw[Vy F,List.length_take,Nat.min_eq_left h]
 rw[e,← hl,List.take_left']
 rfl
theorem Vt (F:Flat d enc) {R:α→List Value→Prop} (hR:∀ p c,R p c↔c=enc p) (xs:List α):∀ inner,Reps R d.sz xs inner↔inner=Yv enc xs:=by
 induction xs with
 |nil=>
  intro inner
  constructor
  ·intro h
   have:=h.1
   simp only[List.length_nil,Nat.zero_mul] at this
   exact List.eq_nil_of_length_eq_zero this
  ·rintro rfl
   exact Reps.none _ _
 |cons x xs ih=>
  intro inner
  constructor
  ·intro h
   have h1:=h.2 0 x rfl
   rw[hR,Nat.zero_mul,List.drop_zero] at h1
   have O:=Kd.Mb (m:=1) h
   rw[List.drop_one,List.tail_cons,ih,Nat.one_mul] at O
   rw[G9,← h1,← O,List.take_append_drop]
  ·rintro rfl
   have h1:Reps R d.sz [x] (enc x):=by
    have:=Reps.snoc (Reps.none R d.sz) ((hR x (enc x)).2 rfl) (F.len x)
    simpa using this
   exact Kd.Ju (ps:=[x]) h1 ((ih _).2 rfl)
theorem Up (F:Flat d enc) {e:Nat} {w:World} {base:Nat} {ok:Nat→Prop} {v:Value} {xs:List α}:d.R e w base ok v xs↔(∀ k,v.ownBlock=some k→ok k)∧w.ownsRow base e d.sz v xs.length (Yv enc xs):=by
 constructor
 ·rintro⟨Y,inner,ho,hr⟩
  rw[Vt F (fun p c=>F.M _ _ _ p c)] at hr
  subst hr
  exact⟨Y,ho⟩
 ·rintro⟨Y,ho⟩
  exact⟨Y,_,ho,(Vt F (fun p c=>F.M _ _ _ p c) xs _).2 rfl⟩
theorem Wr {P:Program} (w:World) (t e ty:TypeId) (z:Value) (ht:P.underlying t=some (.slice e)) (hv:∀ w,(zeroValue e).run P w = .ok z w) (J:∀ u ∈ z.cells.toList,u.oneCell'=true) (b o n c:Nat) (hn:0<n)
 (hc:∀ j,j<n * z.cells.size→(w.cell? ⟨b,o+j,none⟩).isSome=true) (hf:∀ j,j<n * z.cells.size→w.frozen? ⟨b,o+j,none⟩=false):
 ∃ vs,vs.length=n * z.cells.size∧(Builtin.clear_ #[t] ty #[.slice (some ⟨b,o,none⟩) n c]).run P w = .ok (.tuple #[]) (w.setCells b o vs):=by
 refine⟨(Builtin.zeroCells z.cells n).toList,by simp[Builtin.zeroCells], ?_⟩
 have hl:(Builtin.zeroCells z.cells n).toList.length=n * z.cells.size:=by simp[Builtin.zeroCells]
 have h1:∀ v ∈ (Builtin.zeroCells z.cells n).toList,v.oneCell'=true:=by
  intro v hv'
  simp only[Builtin.zeroCells,Array.mem_toList_iff,Array.mem_map,Array.mem_range] at hv'
  obtain⟨i,hi,rfl⟩:=hv'
  have hs:0<z.cells.size:=by
   rcases Nat.eq_zero_or_pos z.cells.size with h|h
   ·rw[h,Nat.mul_zero] at hi;omega
   ·exact h
  have hm:i % z.cells.size<z.cells.size:=Nat.mod_lt _ hs
  rw[getElem!_pos z.cells _ hm]
  exact J _ (by simp)
 have hst:=run_storeCells_cells (P:=P) b o (Builtin.zeroCells z.cells n).toList 0 w (by rw[hl];simpa using hc) (by rw[hl];simpa using hf) h1
 simp only[Nat.add_zero] at hst
 obtain⟨m,rfl⟩:∃ m,n=m+1:=⟨n-1,by omega⟩
 simp[Builtin.clear_,run_underlying ht,hv,hst]
theorem M3 (g j:Nat):(⟨g,0,none⟩:Addr).add j=⟨g,j,none⟩:=by unfold Addr.add;split <;> simp_all
theorem Mm {W:World} {g:Nat} {vs:List Value} {o:Nat}:W.grownBy (W.setCells g o vs) (some g):=by
 obtain⟨s1,s2,s3,s4⟩:=Ja g vs o W
 exact⟨s1,s2,s3,by rw[s4];exact Nat.le_refl _,fun k _ hk=>Ji _ _ k (fun he=>hk (by rw[he]))⟩
theorem Mv {P:Program} (F:Flat d enc) {W:World} {base:Nat} {ok:Nat→Prop} {e:Nat} (t ty:TypeId) (ht:P.underlying t=some (.slice e)) (z:Value) (hv:∀ w,(zeroValue e).run P w = .ok z w) (J:∀ u ∈ z.cells.toList,u.oneCell'=true) (hzs:z.cells.size=d.sz)
 (A:Option Addr) (c:Nat) (xs:List α) (HO:d.R e W base ok (.slice A xs.length c) xs) (i:Nat) (hi:i≤xs.length):
 ∃ w1,(Builtin.clear_ #[t] ty #[.slice (if c=i then A else A.map (·.add (i * d.sz))) (xs.length-i) (c-i)]).run P W = .ok (.tuple #[]) w1∧d.R e w1 base ok (.slice A i c) (xs.take i)∧W.grownBy w1 (Value.slice A i c).ownBlock:=by
 obtain⟨Y,ho⟩:=(Up F).1 HO
 have hob:(Value.slice A i c).ownBlock=(Value.slice A xs.length c).ownBlock:=by cases A <;> rfl
 rcases ho.2 with⟨B,O⟩|⟨g,cap,cur,B,hb,hh,hnc,hcm,hcs,htake⟩
 ·injection B with e1 e2 e3
  subst e1 e3
  have X:i=0:=by omega
  subst X
  refine⟨W, ?_, ?_,World.grownBy.refl W _⟩
  ·rw[O]
   simp[Builtin.clear_,run_underlying ht]
  ·have:xs = []:=List.eq_nil_of_length_eq_zero O
   subst this
   exact Kd.Xu _ _ _ _ _
 ·injection B with e1 e2 e3
  subst e1 e3
  have own_i:∀ (w1:World) (cur':Array Value),w1.heap[g]?=some (.cells cur' e (0,0))→cur'.size=cur.size→cur'.toList.take (i * d.sz)=cur.toList.take (i * d.sz)→d.R e w1 base ok (.slice (some ⟨g,0,none⟩) i c) (xs.take i):=by
   intro w1 cur' g1 g2 g3
   rw[Up F]
   have hl:(xs.take i).length=i:=by rw[List.length_take,Nat.min_eq_left hi]
   refine⟨fun k hk=>Y k (by simpa[Value.ownBlock] using hk), ?_⟩
   rw[hl]
   refine⟨by rw[Vy F,hl],.inr ⟨g,c,cur',rfl,hb,g1,by omega,hcm,by rw[g2,hcs], ?_⟩⟩
   have hq:cur.toList.take (i * d.sz)=(cur.toList.take (xs.length * d.sz)).take (i * d.sz):=by
    rw[List.take_take,Nat.min_eq_left (Nat.mul_le_mul_right _ hi)]
   rw[g3,hq,htake,W7 F xs i hi]
  rcases Nat.lt_or_ge i xs.length with hlt|hge
  ·rw[if_neg (by omega)]
   simp only[Option.map_some,M3]
   have hsz:(xs.length-i) * z.cells.size+i * d.sz≤cur.size:=by
    rw[hzs,hcs,← Nat.add_mul]
    exact Nat.mul_le_mul_right _ (by omega)
   obtain⟨vs,hvl,hrun⟩:=Wr (P:=P) W t e ty z ht hv J g (i * d.sz) (xs.length-i) (c-i) (by omega)
    (fun j hj=>by rw[cell_of_row W g _ cur e (0,0) hh];simp;omega) (fun j _=>Qh hh _)
   obtain⟨cur',g1,g2,g3⟩:=Jh vs (i * d.sz) W cur hh (by rw[hvl];omega)
   refine⟨_,hrun,own_i _ cur' g1 g2 ?_, ?_⟩
   ·rw[g3,List.append_assoc,List.take_append_of_le_length (by rw[List.length_take];simp;omega),List.take_take,Nat.min_self]
   ·have:(Value.slice (some ⟨g,0,none⟩) i c).ownBlock=some g:=rfl
    rw[this]
    exact Mm
  ·have hie:i=xs.length:=by omega
   refine⟨W, ?_,own_i W cur hh rfl rfl,World.grownBy.refl W _⟩
   rw[hie,Nat.sub_self]
   split <;> simp[Builtin.clear_,run_underlying ht]
theorem Wm {P:Program} {ops:Array Oper} {o:Oper} {rest:List Oper} {a:Act} {Q:Exit→Act→World→Prop} (F:Flat d enc) {W:World} {base:Nat} {ok:Nat→Prop} {e:Nat} (hgd:o.guard=none) (x:Operand) (t:TypeId) (ho:o.op = .call {callee:=.builtin .clear,args:=#[x],argTypes:=#[t]})
 (ht:P.underlying t=some (.slice e)) (z:Value) (hv:∀ w,(zeroValue e).run P w = .ok z w) (J:∀ u ∈ z.cells.toList,u.oneCell'=true) (hzs:z.cells.size=d.sz)
 (A A1:Option Addr) (c c1 X:Nat) (xs:List α) (HO:d.R e W base ok (.slice A xs.length c) xs) (i:Nat) (hi:i≤xs.length) (B:A1=(if c=i then A else A.map (·.add (i * d.sz)))) (O:X=xs.length-i) (cr:c1=c-i) (hx:a.eval x = .slice A1 X c1)
 (h:∀ w1,d.R e w1 base ok (.slice A i c) (xs.take i)→W.grownBy w1 (Value.slice A i c).ownBlock→wpList P ops Q rest (a.put o.dst (.tuple #[])) w1):wpList P ops Q (o :: rest) a W:=by
 subst B O cr
 obtain⟨w1,hr,hR,hg⟩:=Mv F t o.type ht z hv J hzs A c xs HO i hi
 refine Kd.Gd hgd (v:=.tuple #[]) (w1:=w1) ?_ (h w1 hR hg)
 unfold execOp
 simp only[ho,resolve,invoke,builtin,Sem.run_bind,Sem.run_pure,Result.andThen_ok,List.map_toArray,List.map_cons,List.map_nil,hx,hr]
theorem W8 {P:Program} {ops:Array Oper} {o:Oper} {rest:List Oper} {a:Act} {Q:Exit→Act→World→Prop} (F:Flat d enc) {w w0 W:World} {S ok:Nat→Prop} {e:Nat} (hgd:o.guard=none) (x:Operand) (t:TypeId) (ho:o.op = .call {callee:=.builtin .clear,args:=#[x],argTypes:=#[t]})
 (ht:P.underlying t=some (.slice e)) (z:Value) (hv:∀ w,(zeroValue e).run P w = .ok z w) (J:∀ u ∈ z.cells.toList,u.oneCell'=true) (hzs:z.cells.size=d.sz)
 (A A1:Option Addr) (c c1 X:Nat) (xs:List α) (HO:d.R e W w0.heap.size ok (.slice A xs.length c) xs) (i:Nat) (hi:i≤xs.length) (B:A1=(if c=i then A else A.map (·.add (i * d.sz)))) (O:X=xs.length-i) (cr:c1=c-i) (hx:a.eval x = .slice A1 X c1)
 (HB:Below w0.heap.size w0 W) (HK:Kept w W S) (hok:∀ k,ok k→S k∨w.heap.size≤k) (ys:List α) (hys:ys=xs.take i)
 (h:∀ w1,d.R e w1 w0.heap.size ok (.slice A ys.length c) ys→Below w0.heap.size w0 w1→Kept w w1 S→wpList P ops Q rest (a.put o.dst (.tuple #[])) w1):wpList P ops Q (o :: rest) a W:=by
 have hob:(Value.slice A i c).ownBlock=(Value.slice A xs.length c).ownBlock:=by cases A <;> rfl
 have hl:ys.length=i:=by rw[hys,List.length_take,Nat.min_eq_left hi]
 refine Wm F hgd x t ho ht z hv J hzs A A1 c c1 X xs HO i hi B O cr hx ?_
 intro w1 hR hg
 rw[hob] at hg
 refine h w1 (by rw[hl,hys];exact hR) (HB.grown hg HB.size (Yk ((Up F).1 HO).2)) (Kept.G3 hg HK (fun k hk=>hok k (HO.1 k hk)))
end
theorem flatI:Flat k86 (fun x=>[.int .i64 x.f0,.int .i64 x.f1]) where
 len:=fun _=>rfl
 one:=fun x u hu=>by
  simp only[List.mem_cons,List.not_mem_nil,or_false] at hu
  rcases hu with rfl|rfl <;> rfl
 M:=fun w base ok x cs=>⟨J7,fun h=>by rw[h];exact Uc w base ok x⟩
 K:=fun w x cs=>⟨Ky,fun h=>by rw[h];exact Ns w x⟩
theorem zeroI (w:World):(zeroValue 86).run Try.prog w = .ok (.agg #[.int .i64 0,.int .i64 0]) w:=by kernel_rfl
theorem X8 {w W:World} {S:Nat→Prop} {g:Nat} {o:Obj} (h:w.heap[g]?=some o) (hk:Kept w W S) (hn:¬ S g):W.heap[g]?=some o:=(hk.2 g (Xi h) hn).trans h
end Go.Proofs.Ytmfffemidlhcpaa.C
