/- What this law's functions come to, walked; what that is, in plain Lean. No conditions of its own. -/
import Derived.Test.YtmfffemidlhcpaaQGroupSpreads2
set_option linter.unusedSimpArgs false
set_option linter.unusedVariables false
set_option maxHeartbeats 8000000
set_option maxRecDepth 100000
namespace Go.Proofs.Ytmfffemidlhcpaa.C
open Go.RowKit Go.Proofs.YtmfffemidlhcpaaW.PrintWords Go.Proofs.YtmfffemidlhcpaaW.PrintLast Go.Proofs.YtmfffemidlhcpaaW.PrintMore
attribute [local go_sem] Z2 Z0 Xb Xa Zt Zs Z1 Zz
mutual
def group_way.j0:Nat→Int→Int→Int→Int→Int→Int→Int→Int→Int→Int→Int→Bool→Bool→Int→Int→Int→Option (Int)
 |0,_,_,_,_,_,_,_,_,_,_,_,_,_,_,_,_=>none
 |k+1,X,Z,Y,γ,δ,ε,ζ,η,θ,ι,B,κ,μ,J,O,ν =>if B=0 then (group_way.j1 k X Z Y true γ δ ε ζ η θ ι B κ μ J O ν) else (if B=O then (group_way.j1 k X Z Y (decide ((wrap64 ((wrap64 (J-X)) * B))≥0)) γ δ ε ζ η θ ι B κ μ J O ν) else (group_way.j1 k X Z Y false γ δ ε ζ η θ ι B κ μ J O ν))
def group_way.j1:Nat→Int→Int→Int→Bool→Int→Int→Int→Int→Int→Int→Int→Int→Bool→Bool→Int→Int→Int→Option (Int)
 |0,_,_,_,_,_,_,_,_,_,_,_,_,_,_,_,_,_=>none
 |k+1,X,Z,Y,ξ,γ,δ,ε,ζ,η,θ,ι,B,κ,μ,J,O,ν =>if ξ = true then ((group_dist.f X J).bind fun χ =>(some χ)) else (if B=O then ((group_dist.f X Z).bind fun a1=>((group_dist.f Z Y).bind fun a3=>((group_dist.f Y J).bind fun b8=>(some (wrap64 ((wrap64 (a1+a3))+b8)))))) else ((group_dist.f X Z).bind fun bd=>((group_dist.f Z J).bind fun bf=>(some (wrap64 (bd+bf))))))
end
def group_way.f (k:Nat) (B:Int) (X:Int) (ζ :Int) (ι :Int) (ν :Int) (κ :Int) (ξ :Int) (ρ:Int) (ψ :Int) (a2:Bool) (a8:Bool) (Y:Int) (Z:Int) (γ:Int):Option (Int):=if ψ > 0 then (group_way.j0 k (wrap64 (X + ζ)) (wrap64 (B-1)) 0 X ζ ι ν κ ξ ρ ψ a2 a8 Y Z γ) else (group_way.j0 k (wrap64 (X + ζ)) 0 (wrap64 (B-1)) X ζ ι ν κ ξ ρ ψ a2 a8 Y Z γ)
theorem group_way.Z6:∀ k,(∀ O X Z B Y y5 y6 y7 y8 y9 γ δ ζ η θ ι,LeO (group_way.j0 k O X Z B Y y5 y6 y7 y8 y9 γ δ ζ η θ ι) (group_way.j0 (k+1) O X Z B Y y5 y6 y7 y8 y9 γ δ ζ η θ ι))∧(∀ O X Z B Y y5 y6 y7 y8 y9 γ δ ζ η θ ι κ,LeO (group_way.j1 k O X Z B Y y5 y6 y7 y8 y9 γ δ ζ η θ ι κ) (group_way.j1 (k+1) O X Z B Y y5 y6 y7 y8 y9 γ δ ζ η θ ι κ))
 |0=>⟨fun _ _ _ _ _ _ _ _ _ _ _ _ _ _ _ _ r h=>by simp[group_way.j0] at h,fun _ _ _ _ _ _ _ _ _ _ _ _ _ _ _ _ _ r h=>by simp[group_way.j1] at h⟩
 |k+1=>by
  obtain⟨J,ε⟩:=group_way.Z6 k
  refine⟨?_, ?_⟩
  ·intro O X Z B Y y5 y6 y7 y8 y9 γ δ ζ η θ ι
   unfold group_way.j0
   repeat' first|(with_reducible first|apply J|apply ε |exact LeO.refl _|exact LeO.none _|refine LeO.ite ?_ ?_|refine LeO.bind ?_ (fun _=>?_))|apply J|apply ε |exact LeO.none _|refine LeO.ite ?_ ?_|refine LeO.bind ?_ (fun _=>?_)
  ·intro O X Z B Y y5 y6 y7 y8 y9 γ δ ζ η θ ι κ
   unfold group_way.j1
   repeat' first|(with_reducible first|apply J|apply ε |exact LeO.refl _|exact LeO.none _|refine LeO.ite ?_ ?_|refine LeO.bind ?_ (fun _=>?_))|apply J|apply ε |exact LeO.none _|refine LeO.ite ?_ ?_|refine LeO.bind ?_ (fun _=>?_)
theorem group_way.mono:∀ B Z a2 a3 O a5 X a7 a8 a9 Y γ δ ζ k,LeO (group_way.f k B Z a2 a3 O a5 X a7 a8 a9 Y γ δ ζ) (group_way.f (k+1) B Z a2 a3 O a5 X a7 a8 a9 Y γ δ ζ):=by
 intro B Z a2 a3 O a5 X a7 a8 a9 Y γ δ ζ k
 obtain⟨J,ε⟩:=group_way.Z6 k
 unfold group_way.f
 repeat' first|(with_reducible first|apply J|apply ε |exact LeO.refl _|exact LeO.none _|refine LeO.ite ?_ ?_|refine LeO.bind ?_ (fun _=>?_))|apply J|apply ε |exact LeO.none _|refine LeO.ite ?_ ?_|refine LeO.bind ?_ (fun _=>?_)
def group_way.T7:Bool×List (List Nat×List Nat):=(true,[([],[]),([],[]),([0,1],[0,1]),([],[]),([],[]),([4],[4]),([3,5,2],[3,5]),([2,6],[2,6]),([7,6,0,1,2,3,4,5,6,7],[7])])
def group_way.B7:List Nat:=[0,0,3,0,0,16,63,127,255]
theorem group_way.Wc:rtab .any (opsOf Try.f52 7)=group_way.T7:=by kernel_rfl
theorem group_way.G5:Zq group_way.T7.2 group_way.B7=true:=by kernel_rfl
def group_way.T8:Bool×List (List Nat×List Nat):=(true,[([],[]),([],[]),([0,1],[0,1]),([],[]),([],[]),([3,4,2],[3,4]),([2,5],[2,5]),([],[]),([],[]),([8],[8]),([7,9,5],[7,9]),([6,10],[6,10]),([11,10,0,1,2,3,4,5,6,7,8,9,10,11],[11])])
def group_way.B8:List Nat:=[0,0,3,0,0,31,63,0,0,256,959,2047,4095]
theorem group_way.Dh:rtab .any (opsOf Try.f52 8)=group_way.T8:=by kernel_rfl
theorem group_way.Mj:Zq group_way.T8.2 group_way.B8=true:=by kernel_rfl
theorem group_way.calls (k:Nat) (B:Int) (X:Int) (ζ :Int) (ι :Int) (ν :Int) (κ :Int) (ξ :Int) (ρ:Int) (ψ :Int) (a2:Bool) (a8:Bool) (Y:Int) (Z:Int) (γ:Int) (r:Int) (w:World) (h:group_way.f k B X ζ ι ν κ ξ ρ ψ a2 a8 Y Z γ=some r):
 Calls Try.prog 52 #[nI B,.agg #[nI X,nI ζ,nI ι,nI ν,nI κ,nI ξ,nI ρ,nI ψ,.bool a2,.bool a8],.agg #[nI Y,nI Z,nI γ]] w fun e w'=>e = .returned (nI r)∧Below w.heap.size w w':=by
 have gl:=Try.underlying31
 have cg:=Try.underlying36
 have HB:=aK (Below.refl w.heap.size w)
 have H:(if ψ > 0 then (group_way.j0 k (wrap64 (X + ζ)) (wrap64 (B-1)) 0 X ζ ι ν κ ξ ρ ψ a2 a8 Y Z γ) else (group_way.j0 k (wrap64 (X + ζ)) 0 (wrap64 (B-1)) X ζ ι ν κ ξ ρ ψ a2 a8 Y Z γ))=some r:=h
 clear h
 have af:=aK H
 clear H
 go_enter Try.func52,Try.ntmps52
 go_upto_if 21 with(first|((with_reducible refine Qe (N:=4) rfl ?_);refine qE 4 #[nI X,nI ζ,nI ι,nI ν,nI κ,nI ξ,nI ρ,nI ψ,.bool a2,.bool a8] 31 ?_;intro bh hg w5 hbox hb;have O:=aK hbox;have cm:=sGe hg;have cp:=sGe hg;replace HB:=sHb hb;clear hb hbox hg)|((with_reducible refine Qe (N:=5) rfl ?_);refine qE 5 #[nI Y,nI Z,nI γ] 36 ?_;intro θ hg w6 hbox hb;have J:=aK hbox;have cq:=sGe hg;have cr:=sGe hg;have δ :=sNl O hg;have ε :=sNg O hg;replace O:=sBk O hb;replace HB:=sHb hb;clear hb hbox hg;have da:= δ.out;have dk:= ε.out;obtain⟨ac,ae,ab,ar,bi,bo,bq,br,bz,cb,ah,al,b5,cd,ce,cf,ch,cj,cu,cw⟩:=Zi O.out))
 (try simp only[Act.put,qS])
 go_cut [8,9] (fun v8 v9 wc=>∃ (kq:Nat) (η :Int) (μ :Int),v8=nI η ∧ v9=nI μ ∧ Aside0 (group_way.j0 kq (wrap64 (X + ζ)) η μ X ζ ι ν κ ξ ρ ψ a2 a8 Y Z γ=some r)∧Aside0 (kq≤k)∧Aside0 (wc.heap[bh]?=some (.cells #[nI X,nI ζ,nI ι,nI ν,nI κ,nI ξ,nI ρ,nI ψ,.bool a2,.bool a8] 31 (0,0)))∧Aside0 (wc.heap[θ]?=some (.cells #[nI Y,nI Z,nI γ] 36 (0,0)))∧Aside0 (Below w.heap.size w wc))
 case first=>
  have H:=af.out
  clear af
  by_cases c9: ψ > 0
  ·rw[if_pos c9] at H
   have c9b0:decide (0 < ψ)=true:=decide_eq_true c9
   clear c9
   (first|rw[c9b0]|(simp only[Zy,Z8];rw[c9b0])|skip)
   have H':=aK H
   clear H
   go_wp2
   go_meet
   case rel=>exact⟨_,(wrap64 (B-1)),(0),rfl,rfl,H',⟨by first|omega|exact Nat.le_refl _⟩,O,J,HB⟩
  ·rw[if_neg c9] at H
   have c9b0:decide (0 < ψ)=false:=decide_eq_false c9
   clear c9
   (first|rw[c9b0]|(simp only[Zy,Z8];rw[c9b0])|skip)
   have H':=aK H
   clear H
   go_wp2
   go_meet
   case rel=>exact⟨_,(0),(wrap64 (B-1)),rfl,rfl,H',⟨by first|omega|exact Nat.le_refl _⟩,O,J,HB⟩
 case rest=>
  clear af
  try clear ac
  try clear ae
  try clear ab
  try clear ar
  try clear bi
  try clear bo
  try clear bq
  try clear br
  try clear bz
  try clear cb
  try clear ah
  try clear al
  try clear b5
  try clear cd
  try clear ce
  try clear cf
  try clear ch
  try clear cj
  try clear cu
  try clear cw
  obtain⟨kq,η,μ,rfl,rfl,HA,d1,O,J,HB⟩:=hcut
  cases kq with
  |zero=>exact absurd HA.out (by simp[group_way.j0])
  |succ fc=>
   have H:=HA.out
   clear HA
   simp only[group_way.j0] at H
   have bg:=aK H
   clear H
   go_upto_region 4 with(fail)
   go_cut [24] (fun bn wc=>∃ (kq:Nat) (φ :Bool),bn = .bool φ ∧ Aside0 (group_way.j1 kq (wrap64 (X + ζ)) η μ φ X ζ ι ν κ ξ ρ ψ a2 a8 Y Z γ=some r)∧Aside0 (kq≤fc)∧Aside0 (wc.heap[bh]?=some (.cells #[nI X,nI ζ,nI ι,nI ν,nI κ,nI ξ,nI ρ,nI ψ,.bool a2,.bool a8] 31 (0,0)))∧Aside0 (wc.heap[θ]?=some (.cells #[nI Y,nI Z,nI γ] 36 (0,0)))∧Aside0 (Below w.heap.size w wc))
   case first=>
    have H:=bg.out
    clear bg
    by_cases a5: ψ = 0
    ·rw[if_pos a5] at H
     have c11b0:(ψ == 0)=true:=beq_iff_eq.mpr a5
     have c11b1:(ψ != 0)=false:=bne_eq_false_iff_eq.mpr a5
     clear a5
     (first|rw[c11b0]|(simp only[Zy,Z8];rw[c11b0])|skip)
     have H':=aK H
     clear H
     have e0:= δ.out
     have e3:= ε.out
     obtain⟨ao,bc,bk,du,ed,eh,ew,e4,df,e6,ap,be,bm,ey,ez,f7,f8,e5,e7,e8⟩:=Zi O.out
     go_wp2
     go_meet
     case rel=>exact⟨_,(true),rfl,H',⟨by have:=d1.out;omega⟩,O,J,HB⟩
    ·rw[if_neg a5] at H
     have c11b0:(ψ == 0)=false:=beq_eq_false_iff_ne.mpr a5
     have c11b1:(ψ != 0)=true:=bne_iff_ne.mpr a5
     (first|rw[c11b0]|(simp only[Zy,Z8];rw[c11b0])|skip)
     by_cases σ: ψ = Z
     ·rw[if_pos σ] at H
      have c14b0:(ψ == Z)=true:=beq_iff_eq.mpr σ
      have c14b1:(ψ != Z)=false:=bne_eq_false_iff_eq.mpr σ
      clear σ
      have H':=aK H
      clear H
      have ge:= δ.out
      have gf:= ε.out
      obtain⟨d3,d4,ω,bp,bu,bw,ee,fi,i5,i6,d5,d6,b9,ef,eg,er,et,fj,i7,i9⟩:=Zi O.out
      obtain⟨az,b0,bl,b1,b2,ca⟩:=qD3 J.out
      go_wp2
      go_meet
      case rel=>exact⟨_,(decide ((wrap64 ((wrap64 (Y - (wrap64 (X + ζ)))) * ψ))≥0)),rfl,H',⟨by have:=d1.out;omega⟩,O,J,HB⟩
     ·rw[if_neg σ] at H
      have c14b0:(ψ == Z)=false:=beq_eq_false_iff_ne.mpr σ
      have c14b1:(ψ != Z)=true:=bne_iff_ne.mpr σ
      have H':=aK H
      clear H
      have db:= δ.out
      have dc:= ε.out
      obtain⟨ag,ai,b3,ba,bb,cv,d7,dy,dz,gg,aj,am,b4,d8,d9,dd,de,gh,gi,gj⟩:=Zi O.out
      obtain⟨a7,a9,τ,aa,an,a6⟩:=qD3 J.out
      go_wp2
      go_meet
      case rel=>exact⟨_,(false),rfl,H',⟨by have:=d1.out;omega⟩,O,J,HB⟩
   case rest=>
    clear bg
    try clear ac
    try clear ae
    try clear ab
    try clear ar
    try clear bi
    try clear bo
    try clear bq
    try clear br
    try clear bz
    try clear cb
    try clear ah
    try clear al
    try clear b5
    try clear cd
    try clear ce
    try clear cf
    try clear ch
    try clear cj
    try clear cu
    try clear cw
    obtain⟨kq,φ,rfl,HA,ct,O,J,HB⟩:=hcut
    cases kq with
    |zero=>exact absurd HA.out (by simp[group_way.j1])
    |succ cy=>
     have H:=HA.out
     clear HA
     simp only[group_way.j1] at H
     by_cases ak: φ = true
     ·subst ak
      rw[if_pos rfl] at H
      obtain⟨χ,ci,H⟩:=qQ H
      obtain rfl:=qJ H
      have d2:= ε.out
      have dx:= δ.out
      obtain⟨au,av,bs,aw,ax,bv⟩:=qD3 J.out
      go_wp2_with (first|((with_reducible refine Qf (f:=76) rfl ?_);refine Q0 (some 48) rfl rfl Try.func76 kr rfl #[nI (wrap64 (X + ζ)),nI Y] rfl qM ?_;(with_reducible refine(group_dist.calls (wrap64 (X + ζ)) Y χ _ ci.out).mono ?_);rintro e dt ⟨rfl,hb⟩;refine⟨_,rfl, ?_⟩;replace O:=sBk O hb;replace J:=sBk J hb;replace HB:=sHb hb;(try clear hb);(try clear a4);(try clear hk);(try clear hi)))
      go_ret
      exact⟨rfl,HB.out⟩
     ·replace ak:=Bool.eq_false_iff.mpr ak
      subst ak
      rw[if_neg nft] at H
      by_cases ay: ψ = Z
      ·rw[if_pos ay] at H
       have c26b0:(ψ == Z)=true:=beq_iff_eq.mpr ay
       have c26b1:(ψ != Z)=false:=bne_eq_false_iff_eq.mpr ay
       clear ay
       obtain⟨a1,b6,H⟩:=qQ H
       obtain⟨a3,ei,H⟩:=qQ H
       obtain⟨b8,fl,H⟩:=qQ H
       obtain rfl:=qJ H
       have dw:= δ.out
       have ea:= ε.out
       obtain⟨bj,ck,dl,ii,ij,ik,j4,fp,fq,fr,cn,co,dm,j5,j6,j7,j8,ft,fu,ho⟩:=Zi O.out
       obtain⟨fy,fz,h7,ga,gb,h8⟩:=qD3 J.out
       try go_wp2
       replace O:=aK (Qd O.out)
       replace J:=aK (Qd J.out)
       replace HB:=aK (Qj HB.out)
       refine Zg (n:=13) (S:=fun w'=>cI w' θ 0 Y∧cI w' θ 1 Z∧cI w' θ 2 γ) (ds:=[]) #[false,false,false,false,false,false,false,false,false,false,false,false,false] kr rfl rfl ⟨(Qa J.out 0).trans rfl,(Qa J.out 1).trans rfl,(Qa J.out 2).trans rfl⟩ (fun hHeld=>?_);refine Zb group_way.Dh group_way.Mj (fun HT_ HW_=>?_)
       generalize wc.drew=ka at O J HB hHeld ⊢
       refine qP 0 (some 63) (bN 13 1) HT_ ?_
       refine qP 1 (some 64) (bN 13 3) HT_ ?_
       refine qP 3 (some 66) (bN 13 11) HT_ ?_
       refine qP 4 (some 67) (bN 13 27) HT_ ?_
       refine qP 7 (some 70) (bN 13 155) HT_ ?_
       refine qP 8 (some 71) (bN 13 411) HT_ ?_
       refine qT 9 (some 72) (bN 13 923) HT_ HW_ hHeld ?_
       refine qK 2 (some 65) (bN 13 927) HT_ fun K hK=>?_
       refine Zd Try.func76 kr rfl #[nI (wrap64 (X + ζ)),nI η] (by rfl) rfl rfl qM ?_
       with_reducible refine(group_dist.calls (wrap64 (X + ζ)) η a1 _ b6.out).mono ?_
       rintro e k4 ⟨rfl,hb⟩
       refine⟨_,rfl, ?_⟩
       replace O:=sBk O hb
       replace J:=sBk J hb
       replace HB:=sHb hb
       (try clear hb)
       (try clear a4)
       (try clear hk)
       (try clear hi)
       refine hK.out _ _ ⟨qc J,qc J,qc J⟩ (fun hHeld=>?_)
       clear hK K
       refine qN (some 65) ?_
       refine qK 5 (some 68) (bN 13 959) HT_ fun K hK=>?_
       refine Zd Try.func76 kr rfl #[nI η,nI μ] (by rfl) rfl rfl qM ?_
       with_reducible refine(group_dist.calls η μ a3 _ ei.out).mono ?_
       rintro e jv ⟨rfl,hb⟩
       refine⟨_,rfl, ?_⟩
       replace O:=sBk O hb
       replace J:=sBk J hb
       replace HB:=sHb hb
       (try clear hb)
       (try clear a4)
       (try clear hk)
       (try clear hi)
       refine hK.out _ _ ⟨qc J,qc J,qc J⟩ (fun hHeld=>?_)
       clear hK K
       refine qN (some 68) ?_
       refine qP 6 (some 69) (bN 13 1023) HT_ ?_
       refine qK 10 (some 73) (bN 13 2047) HT_ fun K hK=>?_
       refine Zd Try.func76 kr rfl #[nI μ,nI Y] (by rfl) rfl rfl qM ?_
       with_reducible refine(group_dist.calls μ Y b8 _ fl.out).mono ?_
       rintro e ib ⟨rfl,hb⟩
       refine⟨_,rfl, ?_⟩
       replace O:=sBk O hb
       replace J:=sBk J hb
       replace HB:=sHb hb
       (try clear hb)
       (try clear a4)
       (try clear hk)
       (try clear hi)
       refine hK.out _ _ ⟨qc J,qc J,qc J⟩ (fun hHeld=>?_)
       clear hK K
       refine qN (some 73) ?_
       refine qP 11 (some 74) (bN 13 4095) HT_ ?_
       refine qP 12 (some 6) (bN 13 8191) HT_ ?_
       refine Zl (Ze HT_.out kr) ?_
       try go_wp2
       go_ret
       exact⟨rfl,HB.out⟩
      ·rw[if_neg ay] at H
       have c26b0:(ψ == Z)=false:=beq_eq_false_iff_ne.mpr ay
       have c26b1:(ψ != Z)=true:=bne_iff_ne.mpr ay
       obtain⟨bd,b7,H⟩:=qQ H
       obtain⟨bf,cx,H⟩:=qQ H
       obtain rfl:=qJ H
       have e9:= δ.out
       have iu:= ε.out
       obtain⟨dv,fe,ff,gk,gm,gn,gr,gs,gt,gw,fg,fh,fw,gx,gz,h0,h6,h9,ha,hh⟩:=Zi O.out
       obtain⟨dn,dp,gu,dq,dr,gv⟩:=qD3 J.out
       try go_wp2
       replace O:=aK (Qd O.out)
       replace J:=aK (Qd J.out)
       replace HB:=aK (Qj HB.out)
       refine Zg (n:=9) (S:=fun w'=>cI w' θ 0 Y∧cI w' θ 1 Z∧cI w' θ 2 γ) (ds:=[]) #[false,false,false,false,false,false,false,false,false] kr rfl rfl ⟨(Qa J.out 0).trans rfl,(Qa J.out 1).trans rfl,(Qa J.out 2).trans rfl⟩ (fun hHeld=>?_);refine Zb group_way.Wc group_way.G5 (fun HT_ HW_=>?_)
       generalize wc.drew=gy at O J HB hHeld ⊢
       refine qP 0 (some 55) (bN 9 1) HT_ ?_
       refine qP 1 (some 56) (bN 9 3) HT_ ?_
       refine qP 3 (some 58) (bN 9 11) HT_ ?_
       refine qP 4 (some 59) (bN 9 27) HT_ ?_
       refine qT 5 (some 60) (bN 9 59) HT_ HW_ hHeld ?_
       refine qK 2 (some 57) (bN 9 63) HT_ fun K hK=>?_
       refine Zd Try.func76 kr rfl #[nI (wrap64 (X + ζ)),nI η] (by rfl) rfl rfl qM ?_
       with_reducible refine(group_dist.calls (wrap64 (X + ζ)) η bd _ b7.out).mono ?_
       rintro e j3 ⟨rfl,hb⟩
       refine⟨_,rfl, ?_⟩
       replace O:=sBk O hb
       replace J:=sBk J hb
       replace HB:=sHb hb
       (try clear hb)
       (try clear a4)
       (try clear hk)
       (try clear hi)
       refine hK.out _ _ ⟨qc J,qc J,qc J⟩ (fun hHeld=>?_)
       clear hK K
       refine qN (some 57) ?_
       refine qK 6 (some 61) (bN 9 127) HT_ fun K hK=>?_
       refine Zd Try.func76 kr rfl #[nI η,nI Y] (by rfl) rfl rfl qM ?_
       with_reducible refine(group_dist.calls η Y bf _ cx.out).mono ?_
       rintro e cz ⟨rfl,hb⟩
       refine⟨_,rfl, ?_⟩
       replace O:=sBk O hb
       replace J:=sBk J hb
       replace HB:=sHb hb
       (try clear hb)
       (try clear a4)
       (try clear hk)
       (try clear hi)
       refine hK.out _ _ ⟨qc J,qc J,qc J⟩ (fun hHeld=>?_)
       clear hK K
       refine qN (some 61) ?_
       refine qP 7 (some 62) (bN 9 255) HT_ ?_
       refine qP 8 (some 6) (bN 9 511) HT_ ?_
       refine Zl (Ze HT_.out kr) ?_
       try go_wp2
       go_ret
       exact⟨rfl,HB.out⟩
def newelref21_far.f (B:Int) (Z:Int):Option (Int):=if B<Z then (some (wrap64 (Z-B))) else (some (wrap64 (B-Z)))
theorem newelref21_far.calls (B:Int) (Z:Int) (r:Int) (w:World) (h:newelref21_far.f B Z=some r):
 Calls Try.prog 57 #[nI B,nI Z] w fun e w'=>e = .returned (nI r)∧Drawn0 w w':=by
 have H:(if B<Z then (some (wrap64 (Z-B))) else (some (wrap64 (B-Z))))=some r:=h
 clear h
 by_cases c3:B<Z
 ·rw[if_pos c3] at H
  have c3b0:=decide_eq_true c3
  clear c3
  obtain rfl:=qJ H
  go_enter Try.func57,Try.ntmps57
  go_wp2
  go_ret
  exact⟨qR,by repeat(first|exact Drawn0.refl _|apply Drawn0.step)⟩
 ·rw[if_neg c3] at H
  have c3b0:=decide_eq_false c3
  clear c3
  obtain rfl:=qJ H
  go_enter Try.func57,Try.ntmps57
  go_wp2
  go_ret
  exact⟨qR,by repeat(first|exact Drawn0.refl _|apply Drawn0.step)⟩
mutual
def newelref21_Way.j0:Nat→Int→Int→Int→Int→Int→Int→Int→Int→Int→Int→Bool→Bool→Int→Int→Int→Option (Int)
 |0,_,_,_,_,_,_,_,_,_,_,_,_,_,_,_=>none
 |k+1,B,X,ε,ζ,η,θ,ι,κ,μ,γ,ν,ξ,J,δ,ρ=>if γ=0 then ((newelref21_far.f X J).bind fun a1=>(some a1)) else (if γ=1 then (newelref21_Way.j1 k X (wrap64 (B-1)) 0 (decide (J<X)) ε ζ η θ ι κ μ γ ν ξ J δ ρ) else (newelref21_Way.j1 k X 0 (wrap64 (B-1)) (decide (J>X)) ε ζ η θ ι κ μ γ ν ξ J δ ρ))
def newelref21_Way.j1:Nat→Int→Int→Int→Bool→Int→Int→Int→Int→Int→Int→Int→Int→Bool→Bool→Int→Int→Int→Option (Int)
 |0,_,_,_,_,_,_,_,_,_,_,_,_,_,_,_,_,_=>none
 |k+1,X,Z,Y,O,ε,ζ,η,θ,ι,κ,μ,γ,ν,ξ,J,δ,ρ=>if γ = δ then (if O=true then ((newelref21_far.f X Z).bind fun a4=>((newelref21_far.f Z Y).bind fun a5=>((newelref21_far.f Y J).bind fun ao=>(some (wrap64 ((wrap64 (a4+a5))+ao)))))) else ((newelref21_far.f X J).bind fun ap=>(some ap))) else ((newelref21_far.f X Z).bind fun az=>((newelref21_far.f Z J).bind fun b0=>(some (wrap64 (az+b0)))))
end
def newelref21_Way.f (k:Nat) (B:Int) (X:Int) (ζ :Int) (ι :Int) (ν :Int) (κ :Int) (ξ :Int) (ρ:Int) (ψ :Int) (a2:Bool) (a8:Bool) (Y:Int) (Z:Int) (γ:Int):Option (Int):=if ι = 1 then (newelref21_Way.j0 k B (wrap64 (X + ζ)) X ζ ι ν κ ξ ρ ψ a2 a8 Y Z γ) else (newelref21_Way.j0 k B X X ζ ι ν κ ξ ρ ψ a2 a8 Y Z γ)
theorem newelref21_Way.calls (k:Nat) (B:Int) (X:Int) (ζ :Int) (ι :Int) (ν :Int) (κ :Int) (ξ :Int) (ρ:Int) (ψ :Int) (a2:Bool) (a8:Bool) (Y:Int) (Z:Int) (γ:Int) (r:Int) (w:World) (h:newelref21_Way.f k B X ζ ι ν κ ξ ρ ψ a2 a8 Y Z γ=some r):
 Calls Try.prog 35 #[nI B,.agg #[nI X,nI ζ,nI ι,nI ν,nI κ,nI ξ,nI ρ,nI ψ,.bool a2,.bool a8],.agg #[nI Y,nI Z,nI γ]] w fun e w'=>e = .returned (nI r)∧Below w.heap.size w w':=by
 have gl:=Try.underlying31
 have cg:=Try.underlying36
 have HB:=aK (Below.refl w.heap.size w)
 have H:(if ι = 1 then (newelref21_Way.j0 k B (wrap64 (X + ζ)) X ζ ι ν κ ξ ρ ψ a2 a8 Y Z γ) else (newelref21_Way.j0 k B X X ζ ι ν κ ξ ρ ψ a2 a8 Y Z γ))=some r:=h
 clear h
 have af:=aK H
 clear H
 go_enter Try.func35,Try.ntmps35
 go_upto_if 17 with(first|((with_reducible refine Qe (N:=4) rfl ?_);refine qE 4 #[nI X,nI ζ,nI ι,nI ν,nI κ,nI ξ,nI ρ,nI ψ,.bool a2,.bool a8] 31 ?_;intro φ hg w5 hbox hb;have J:=aK hbox;have b2:=sGe hg;have bk:=sGe hg;replace HB:=sHb hb;clear hb hbox hg)|((with_reducible refine Qe (N:=5) rfl ?_);refine qE 5 #[nI Y,nI Z,nI γ] 36 ?_;intro χ hg w6 hbox hb;have θ :=aK hbox;have bm:=sGe hg;have ca:=sGe hg;have O:=sNl J hg;have δ :=sNg J hg;replace J:=sBk J hb;replace HB:=sHb hb;clear hb hbox hg;have da:=O.out;have dk:= δ.out;obtain⟨ac,ae,ab,ar,bi,bo,bq,br,bz,cb,ah,al,b5,cd,ce,cf,ch,cj,cu,cw⟩:=Zi J.out))
 repeat(go_quiet (first|((with_reducible refine Qe (N:=4) rfl ?_);refine qE 4 #[nI X,nI ζ,nI ι,nI ν,nI κ,nI ξ,nI ρ,nI ψ,.bool a2,.bool a8] 31 ?_;intro φ hg w5 hbox hb;have J:=aK hbox;have b2:=sGe hg;have bk:=sGe hg;replace HB:=sHb hb;clear hb hbox hg)|((with_reducible refine Qe (N:=5) rfl ?_);refine qE 5 #[nI Y,nI Z,nI γ] 36 ?_;intro χ hg w6 hbox hb;have θ :=aK hbox;have bm:=sGe hg;have ca:=sGe hg;have O:=sNl J hg;have δ :=sNg J hg;replace J:=sBk J hb;replace HB:=sHb hb;clear hb hbox hg;have da:=O.out;have dk:= δ.out;obtain⟨ac,ae,ab,ar,bi,bo,bq,br,bz,cb,ah,al,b5,cd,ce,cf,ch,cj,cu,cw⟩:=Zi J.out));go_upto_if 17 with(first|((with_reducible refine Qe (N:=4) rfl ?_);refine qE 4 #[nI X,nI ζ,nI ι,nI ν,nI κ,nI ξ,nI ρ,nI ψ,.bool a2,.bool a8] 31 ?_;intro φ hg w5 hbox hb;have J:=aK hbox;have b2:=sGe hg;have bk:=sGe hg;replace HB:=sHb hb;clear hb hbox hg)|((with_reducible refine Qe (N:=5) rfl ?_);refine qE 5 #[nI Y,nI Z,nI γ] 36 ?_;intro χ hg w6 hbox hb;have θ :=aK hbox;have bm:=sGe hg;have ca:=sGe hg;have O:=sNl J hg;have δ :=sNg J hg;replace J:=sBk J hb;replace HB:=sHb hb;clear hb hbox hg;have da:=O.out;have dk:= δ.out;obtain⟨ac,ae,ab,ar,bi,bo,bq,br,bz,cb,ah,al,b5,cd,ce,cf,ch,cj,cu,cw⟩:=Zi J.out)))
 (try simp only[Act.put,qS])
 go_cut [7] (fun v7 wc=>∃ (kq:Nat) (η :Int),v7=nI η ∧ Aside0 (newelref21_Way.j0 kq B η X ζ ι ν κ ξ ρ ψ a2 a8 Y Z γ=some r)∧Aside0 (kq≤k)∧Aside0 (wc.heap[φ]?=some (.cells #[nI X,nI ζ,nI ι,nI ν,nI κ,nI ξ,nI ρ,nI ψ,.bool a2,.bool a8] 31 (0,0)))∧Aside0 (wc.heap[χ]?=some (.cells #[nI Y,nI Z,nI γ] 36 (0,0)))∧Aside0 (Below w.heap.size w wc))
 case first=>
  have H:=af.out
  clear af
  by_cases c9: ι = 1
  ·rw[if_pos c9] at H
   have c9b0:(ι == 1)=true:=beq_iff_eq.mpr c9
   have c9b1:(ι != 1)=false:=bne_eq_false_iff_eq.mpr c9
   clear c9
   (first|rw[c9b0]|(simp only[Zy,Z8];rw[c9b0])|skip)
   have H':=aK H
   clear H
   have cx:=O.out
   have dj:= δ.out
   obtain⟨ci,cp,bg,fk,fl,fm,fn,bs,av,aw,cq,cr,bh,gm,gn,gp,gq,bv,ax,ay⟩:=Zi J.out
   go_wp2
   repeat(go_quiet (fail);try go_wp2)
   go_meet
   case rel=>exact⟨_,(wrap64 (X + ζ)),rfl,H',⟨by first|omega|exact Nat.le_refl _⟩,J,θ,HB⟩
  ·rw[if_neg c9] at H
   have c9b0:(ι == 1)=false:=beq_eq_false_iff_ne.mpr c9
   have c9b1:(ι != 1)=true:=bne_iff_ne.mpr c9
   (first|rw[c9b0]|(simp only[Zy,Z8];rw[c9b0])|skip)
   have H':=aK H
   clear H
   go_wp2
   repeat(go_quiet (fail);try go_wp2)
   go_meet
   case rel=>exact⟨_,(X),rfl,H',⟨by first|omega|exact Nat.le_refl _⟩,J,θ,HB⟩
 case rest=>
  clear af
  try clear ac
  try clear ae
  try clear ab
  try clear ar
  try clear bi
  try clear bo
  try clear bq
  try clear br
  try clear bz
  try clear cb
  try clear ah
  try clear al
  try clear b5
  try clear cd
  try clear ce
  try clear cf
  try clear ch
  try clear cj
  try clear cu
  try clear cw
  obtain⟨kq,η,rfl,HA,d1,J,θ,HB⟩:=hcut
  cases kq with
  |zero=>exact absurd HA.out (by simp[newelref21_Way.j0])
  |succ fc=>
   have H:=HA.out
   clear HA
   simp only[newelref21_Way.j0] at H
   by_cases a3: ψ = 0
   ·rw[if_pos a3] at H
    have c12b0:(ψ == 0)=true:=beq_iff_eq.mpr a3
    have c12b1:(ψ != 0)=false:=bne_eq_false_iff_eq.mpr a3
    clear a3
    obtain⟨a1,bn,H⟩:=qQ H
    obtain rfl:=qJ H
    have e5:=O.out
    have e6:= δ.out
    obtain⟨bf,bp,dn,be,bl,dr,e9,ee,ej,eu,bu,bw,dp,ev,fb,gu,gv,hl,i1,i2⟩:=Zi J.out
    obtain⟨d3,d4,ω,d5,d6,b9⟩:=qD3 θ.out
    go_wp2_with (first|(go_at_call 57;(with_reducible refine(newelref21_far.calls η Y a1 _ bn.out).mono ?_);rintro e w' ⟨rfl,⟨nd,rfl⟩⟩;(try first|exact⟨rfl,_,World.drewN_drewN _ _ _⟩|exact⟨rfl,_,Eq.trans (World.drewN_drewN _ _ _) (congrArg (World.drewN _) (Nat.add_assoc _ _ _))⟩)))
    repeat(go_quiet (first|(go_at_call 57;(with_reducible refine(newelref21_far.calls η Y a1 _ bn.out).mono ?_);rintro e w' ⟨rfl,⟨nd,rfl⟩⟩;(try first|exact⟨rfl,_,World.drewN_drewN _ _ _⟩|exact⟨rfl,_,Eq.trans (World.drewN_drewN _ _ _) (congrArg (World.drewN _) (Nat.add_assoc _ _ _))⟩)));try go_wp2_with (first|(go_at_call 57;(with_reducible refine(newelref21_far.calls η Y a1 _ bn.out).mono ?_);rintro e w' ⟨rfl,⟨nd,rfl⟩⟩;(try first|exact⟨rfl,_,World.drewN_drewN _ _ _⟩|exact⟨rfl,_,Eq.trans (World.drewN_drewN _ _ _) (congrArg (World.drewN _) (Nat.add_assoc _ _ _))⟩))))
    go_ret
    exact⟨by first|rfl|(simp[Ql,Qk] <;> rfl)|(simp[*,Ql,Qk] <;> rfl),bel⟩
   ·rw[if_neg a3] at H
    have c12b0:(ψ == 0)=false:=beq_eq_false_iff_ne.mpr a3
    have c12b1:(ψ != 0)=true:=bne_iff_ne.mpr a3
    have b1:=aK H
    clear H
    have db:=O.out
    have dc:= δ.out
    obtain⟨ag,ai,b3,ba,bb,cv,d7,dy,dz,gg,aj,am,b4,d8,d9,dd,de,gh,gi,gj⟩:=Zi J.out
    obtain⟨a7,a9,τ,aa,an,a6⟩:=qD3 θ.out
    go_upto_if 38 with(fail)
    repeat(go_quiet (fail);go_upto_if 38 with(fail))
    go_cut [8,9,10] (fun v8 v9 dq wc=>∃ (kq:Nat) (ε :Int) (μ :Int) (σ:Bool),v8=nI ε ∧ v9=nI μ ∧ dq = .bool σ∧Aside0 (newelref21_Way.j1 kq η ε μ σ X ζ ι ν κ ξ ρ ψ a2 a8 Y Z γ=some r)∧Aside0 (kq≤fc)∧Aside0 (wc.heap[φ]?=some (.cells #[nI X,nI ζ,nI ι,nI ν,nI κ,nI ξ,nI ρ,nI ψ,.bool a2,.bool a8] 31 (0,0)))∧Aside0 (wc.heap[χ]?=some (.cells #[nI Y,nI Z,nI γ] 36 (0,0)))∧Aside0 (Below w.heap.size w wc))
    case first=>
     have H:=b1.out
     clear b1
     by_cases ak: ψ = 1
     ·rw[if_pos ak] at H
      have c21b0:(ψ == 1)=true:=beq_iff_eq.mpr ak
      have c21b1:(ψ != 1)=false:=bne_eq_false_iff_eq.mpr ak
      clear ak
      (first|rw[c21b0]|(simp only[Zy,Z8];rw[c21b0])|skip)
      have H':=aK H
      clear H
      have ek:= δ.out
      have el:=O.out
      obtain⟨ct,cy,dh,cz,d2,di⟩:=qD3 θ.out
      go_wp2
      repeat(go_quiet (fail);try go_wp2)
      go_meet
      case rel=>exact⟨_,(wrap64 (B-1)),(0),(decide (Y < η)),rfl,rfl,rfl,H',⟨by have:=d1.out;omega⟩,J,θ,HB⟩
     ·rw[if_neg ak] at H
      have c21b0:(ψ == 1)=false:=beq_eq_false_iff_ne.mpr ak
      have c21b1:(ψ != 1)=true:=bne_iff_ne.mpr ak
      (first|rw[c21b0]|(simp only[Zy,Z8];rw[c21b0])|skip)
      have H':=aK H
      clear H
      go_wp2
      repeat(go_quiet (fail);try go_wp2)
      go_meet
      case rel=>exact⟨_,(0),(wrap64 (B-1)),(decide (Y > η)),rfl,rfl,rfl,H',⟨by have:=d1.out;omega⟩,J,θ,HB⟩
    case rest=>
     clear b1
     try clear a3
     try clear c12b0
     try clear c12b1
     try clear ag
     try clear ai
     try clear b3
     try clear ba
     try clear bb
     try clear cv
     try clear d7
     try clear dy
     try clear dz
     try clear gg
     try clear a7
     try clear a9
     try clear τ
     try clear ac
     try clear ae
     try clear ab
     try clear ar
     try clear bi
     try clear bo
     try clear bq
     try clear br
     try clear bz
     try clear cb
     try clear aj
     try clear am
     try clear b4
     try clear d8
     try clear d9
     try clear dd
     try clear de
     try clear gh
     try clear gi
     try clear gj
     try clear aa
     try clear an
     try clear a6
     try clear ah
     try clear al
     try clear b5
     try clear cd
     try clear ce
     try clear cf
     try clear ch
     try clear cj
     try clear cu
     try clear cw
     obtain⟨kq,ε,μ,σ,rfl,rfl,rfl,HA,dw,J,θ,HB⟩:=hcut
     cases kq with
     |zero=>exact absurd HA.out (by simp[newelref21_Way.j1])
     |succ dx=>
      have H:=HA.out
      clear HA
      simp only[newelref21_Way.j1] at H
      by_cases au: ψ = Z
      ·rw[if_pos au] at H
       have c24b0:(ψ == Z)=true:=beq_iff_eq.mpr au
       have c24b1:(ψ != Z)=false:=bne_eq_false_iff_eq.mpr au
       clear au
       by_cases b8:σ=true
       ·subst b8
        rw[if_pos rfl] at H
        obtain⟨a4,ef,H⟩:=qQ H
        obtain⟨a5,b6,H⟩:=qQ H
        obtain⟨ao,ei,H⟩:=qQ H
        obtain rfl:=qJ H
        have e7:=O.out
        have e8:= δ.out
        obtain⟨bd,ea,ez,bc,fo,fp,fq,il,im,io,eb,ec,f7,fr,ft,fu,fv,ip,iq,ir⟩:=Zi J.out
        obtain⟨bj,ck,dl,cn,co,dm⟩:=qD3 θ.out
        go_wp2_with (first|(go_at_call 57;(with_reducible refine(newelref21_far.calls η ε a4 _ ef.out).mono ?_);rintro e w' ⟨rfl,⟨nd,rfl⟩⟩;(try first|exact⟨rfl,_,World.drewN_drewN _ _ _⟩|exact⟨rfl,_,Eq.trans (World.drewN_drewN _ _ _) (congrArg (World.drewN _) (Nat.add_assoc _ _ _))⟩))|(go_at_call 57;(with_reducible refine(newelref21_far.calls ε μ a5 _ b6.out).mono ?_);rintro e w' ⟨rfl,⟨nd,rfl⟩⟩;(try first|exact⟨rfl,_,World.drewN_drewN _ _ _⟩|exact⟨rfl,_,Eq.trans (World.drewN_drewN _ _ _) (congrArg (World.drewN _) (Nat.add_assoc _ _ _))⟩))|(go_at_call 57;(with_reducible refine(newelref21_far.calls μ Y ao _ ei.out).mono ?_);rintro e w' ⟨rfl,⟨nd,rfl⟩⟩;(try first|exact⟨rfl,_,World.drewN_drewN _ _ _⟩|exact⟨rfl,_,Eq.trans (World.drewN_drewN _ _ _) (congrArg (World.drewN _) (Nat.add_assoc _ _ _))⟩)))
        repeat(go_quiet (first|(go_at_call 57;(with_reducible refine(newelref21_far.calls η ε a4 _ ef.out).mono ?_);rintro e w' ⟨rfl,⟨nd,rfl⟩⟩;(try first|exact⟨rfl,_,World.drewN_drewN _ _ _⟩|exact⟨rfl,_,Eq.trans (World.drewN_drewN _ _ _) (congrArg (World.drewN _) (Nat.add_assoc _ _ _))⟩))|(go_at_call 57;(with_reducible refine(newelref21_far.calls ε μ a5 _ b6.out).mono ?_);rintro e w' ⟨rfl,⟨nd,rfl⟩⟩;(try first|exact⟨rfl,_,World.drewN_drewN _ _ _⟩|exact⟨rfl,_,Eq.trans (World.drewN_drewN _ _ _) (congrArg (World.drewN _) (Nat.add_assoc _ _ _))⟩))|(go_at_call 57;(with_reducible refine(newelref21_far.calls μ Y ao _ ei.out).mono ?_);rintro e w' ⟨rfl,⟨nd,rfl⟩⟩;(try first|exact⟨rfl,_,World.drewN_drewN _ _ _⟩|exact⟨rfl,_,Eq.trans (World.drewN_drewN _ _ _) (congrArg (World.drewN _) (Nat.add_assoc _ _ _))⟩)));try go_wp2_with (first|(go_at_call 57;(with_reducible refine(newelref21_far.calls η ε a4 _ ef.out).mono ?_);rintro e w' ⟨rfl,⟨nd,rfl⟩⟩;(try first|exact⟨rfl,_,World.drewN_drewN _ _ _⟩|exact⟨rfl,_,Eq.trans (World.drewN_drewN _ _ _) (congrArg (World.drewN _) (Nat.add_assoc _ _ _))⟩))|(go_at_call 57;(with_reducible refine(newelref21_far.calls ε μ a5 _ b6.out).mono ?_);rintro e w' ⟨rfl,⟨nd,rfl⟩⟩;(try first|exact⟨rfl,_,World.drewN_drewN _ _ _⟩|exact⟨rfl,_,Eq.trans (World.drewN_drewN _ _ _) (congrArg (World.drewN _) (Nat.add_assoc _ _ _))⟩))|(go_at_call 57;(with_reducible refine(newelref21_far.calls μ Y ao _ ei.out).mono ?_);rintro e w' ⟨rfl,⟨nd,rfl⟩⟩;(try first|exact⟨rfl,_,World.drewN_drewN _ _ _⟩|exact⟨rfl,_,Eq.trans (World.drewN_drewN _ _ _) (congrArg (World.drewN _) (Nat.add_assoc _ _ _))⟩))))
        go_ret
        exact⟨by first|rfl|(simp[Ql,Qk] <;> rfl)|(simp[*,Ql,Qk] <;> rfl),bel⟩
       ·replace b8:=Bool.eq_false_iff.mpr b8
        subst b8
        rw[if_neg nft] at H
        obtain⟨ap,d0,H⟩:=qQ H
        obtain rfl:=qJ H
        have gx:=O.out
        have gy:= δ.out
        obtain⟨cm,f8,ge,j9,ja,ji,jj,j6,j7,j8,ed,fa,gf,jk,jl,jm,jn,js,jt,ju⟩:=Zi J.out
        obtain⟨eo,ep,dt,et,fi,du⟩:=qD3 θ.out
        go_wp2_with (first|(go_at_call 57;(with_reducible refine(newelref21_far.calls η Y ap _ d0.out).mono ?_);rintro e w' ⟨rfl,⟨nd,rfl⟩⟩;(try first|exact⟨rfl,_,World.drewN_drewN _ _ _⟩|exact⟨rfl,_,Eq.trans (World.drewN_drewN _ _ _) (congrArg (World.drewN _) (Nat.add_assoc _ _ _))⟩)))
        repeat(go_quiet (first|(go_at_call 57;(with_reducible refine(newelref21_far.calls η Y ap _ d0.out).mono ?_);rintro e w' ⟨rfl,⟨nd,rfl⟩⟩;(try first|exact⟨rfl,_,World.drewN_drewN _ _ _⟩|exact⟨rfl,_,Eq.trans (World.drewN_drewN _ _ _) (congrArg (World.drewN _) (Nat.add_assoc _ _ _))⟩)));try go_wp2_with (first|(go_at_call 57;(with_reducible refine(newelref21_far.calls η Y ap _ d0.out).mono ?_);rintro e w' ⟨rfl,⟨nd,rfl⟩⟩;(try first|exact⟨rfl,_,World.drewN_drewN _ _ _⟩|exact⟨rfl,_,Eq.trans (World.drewN_drewN _ _ _) (congrArg (World.drewN _) (Nat.add_assoc _ _ _))⟩))))
        go_ret
        exact⟨by first|rfl|(simp[Ql,Qk] <;> rfl)|(simp[*,Ql,Qk] <;> rfl),bel⟩
      ·rw[if_neg au] at H
       have c24b0:(ψ == Z)=false:=beq_eq_false_iff_ne.mpr au
       have c24b1:(ψ != Z)=true:=bne_iff_ne.mpr au
       obtain⟨az,e0,H⟩:=qQ H
       obtain⟨b0,b7,H⟩:=qQ H
       obtain rfl:=qJ H
       have eh:=O.out
       have gt:= δ.out
       obtain⟨df,eg,ew,ga,gb,gw,gz,h0,h4,h5,ey,fy,fz,h6,h7,h8,i7,i9,it,iu⟩:=Zi J.out
       obtain⟨dv,fe,ff,fg,fh,fw⟩:=qD3 θ.out
       go_wp2_with (first|(go_at_call 57;(with_reducible refine(newelref21_far.calls η ε az _ e0.out).mono ?_);rintro e w' ⟨rfl,⟨nd,rfl⟩⟩;(try first|exact⟨rfl,_,World.drewN_drewN _ _ _⟩|exact⟨rfl,_,Eq.trans (World.drewN_drewN _ _ _) (congrArg (World.drewN _) (Nat.add_assoc _ _ _))⟩))|(go_at_call 57;(with_reducible refine(newelref21_far.calls ε Y b0 _ b7.out).mono ?_);rintro e w' ⟨rfl,⟨nd,rfl⟩⟩;(try first|exact⟨rfl,_,World.drewN_drewN _ _ _⟩|exact⟨rfl,_,Eq.trans (World.drewN_drewN _ _ _) (congrArg (World.drewN _) (Nat.add_assoc _ _ _))⟩)))
       repeat(go_quiet (first|(go_at_call 57;(with_reducible refine(newelref21_far.calls η ε az _ e0.out).mono ?_);rintro e w' ⟨rfl,⟨nd,rfl⟩⟩;(try first|exact⟨rfl,_,World.drewN_drewN _ _ _⟩|exact⟨rfl,_,Eq.trans (World.drewN_drewN _ _ _) (congrArg (World.drewN _) (Nat.add_assoc _ _ _))⟩))|(go_at_call 57;(with_reducible refine(newelref21_far.calls ε Y b0 _ b7.out).mono ?_);rintro e w' ⟨rfl,⟨nd,rfl⟩⟩;(try first|exact⟨rfl,_,World.drewN_drewN _ _ _⟩|exact⟨rfl,_,Eq.trans (World.drewN_drewN _ _ _) (congrArg (World.drewN _) (Nat.add_assoc _ _ _))⟩)));try go_wp2_with (first|(go_at_call 57;(with_reducible refine(newelref21_far.calls η ε az _ e0.out).mono ?_);rintro e w' ⟨rfl,⟨nd,rfl⟩⟩;(try first|exact⟨rfl,_,World.drewN_drewN _ _ _⟩|exact⟨rfl,_,Eq.trans (World.drewN_drewN _ _ _) (congrArg (World.drewN _) (Nat.add_assoc _ _ _))⟩))|(go_at_call 57;(with_reducible refine(newelref21_far.calls ε Y b0 _ b7.out).mono ?_);rintro e w' ⟨rfl,⟨nd,rfl⟩⟩;(try first|exact⟨rfl,_,World.drewN_drewN _ _ _⟩|exact⟨rfl,_,Eq.trans (World.drewN_drewN _ _ _) (congrArg (World.drewN _) (Nat.add_assoc _ _ _))⟩))))
       go_ret
       exact⟨by first|rfl|(simp[Ql,Qk] <;> rfl)|(simp[*,Ql,Qk] <;> rfl),bel⟩
def newelref21_Cost.f (k:Nat) (B:Int) (J:Int) (O:Int) (Y:Int) (Z:Int) (γ:Int) (δ :Int) (ε :Int) (θ :Int) (η :Int) (X:Int) (ζ :Int) (ι :Int) (ν :Int) (κ :Int) (ξ :Int) (ρ:Int) (ψ :Int) (a2:Bool) (a8:Bool) (σ:List Int) (τ :List Int) (a3:List Int) (a5:Int) (a7:Int) (a9:Int):Option (Int):=(newelref18_Rest.f k B J O Y Z γ δ ε θ η X ζ ι ν κ ξ ρ).bind fun a6=>((newelref21_Way.f k B X ζ ι ν κ ξ ρ ψ a2 a8 a5 a7 a9).bind fun af=>(some (wrap64 ((wrap64 (a6+(wrap64 (J * af))))+(wrap64 ((wrap64 ((wrap64 ((σ.length:Int)+(τ.length:Int)))+(a3.length:Int))) * (wrap64 ((wrap64 ((wrap64 (O+Y)) + θ)) + δ))))))))
def newelref21_Cost.T2:Bool×List (List Nat×List Nat):=(true,[([],[]),([],[]),([1],[1]),([0,2],[0,2]),([],[]),([4],[4]),([5],[5]),([],[]),([7],[7]),([],[]),([],[]),([8,9,10,3],[8,9,10]),([6,11],[6,11]),([3,12],[3,12]),([],[]),([],[]),([15],[15]),([16],[16]),([],[]),([18],[18]),([19],[19]),([17,20],[17,20]),([],[]),([22],[22]),([21,23],[21,23]),([],[]),([25],[25]),([26],[26]),([24,27],[24,27]),([14,28],[14,28]),([13,29],[13,29]),([30,11,0,1,2,3,4,5,6,7,8,9,10,11,12,13,14,15,16,17,18,19,20,21,22,23,24,25,26,27,28,29,30],[30])])
def newelref21_Cost.B2:List Nat:=[0,0,2,7,0,16,48,0,128,0,0,1935,4095,8191,0,0,32768,98304,0,262144,786432,2064384,0,4194304,16744448,0,33554432,100663296,268402688,536854528,1073741823,2147483647]
theorem newelref21_Cost.C0:rtab .any (opsOf Try.f12 2)=newelref21_Cost.T2:=by kernel_rfl
theorem newelref21_Cost.E1:Zq newelref21_Cost.T2.2 newelref21_Cost.B2=true:=by kernel_rfl
theorem newelref21_Cost.calls (k:Nat) (B:Int) (J:Int) (O:Int) (Y:Int) (Z:Int) (γ:Int) (δ :Int) (ε :Int) (θ :Int) (η :Int) (X:Int) (ζ :Int) (ι :Int) (ν :Int) (κ :Int) (ξ :Int) (ρ:Int) (ψ :Int) (a2:Bool) (a8:Bool) (aa:Option Addr) (ab:Nat) (σ:List Int) (ac:Option Addr) (ae:Nat) (τ :List Int) (al:Option Addr) (an:Nat) (a3:List Int) (a5:Int) (a7:Int) (a9:Int) (r:Int) (w:World) (ao:Kd.C (Kd.int .i64) w aa σ.length σ) (ap:σ.length≤ab) (ar:Kd.C (Kd.int .i64) w ac τ.length τ) (b5: τ.length≤ae) (br:Kd.C (Kd.int .i64) w al a3.length a3) (bw:a3.length≤an) (h:newelref21_Cost.f k B J O Y Z γ δ ε θ η X ζ ι ν κ ξ ρ ψ a2 a8 σ τ a3 a5 a7 a9=some r):
 Calls Try.prog 12 #[.agg #[nI B,nI J,nI O,nI Y,nI Z,nI γ,nI δ,nI ε,nI θ,nI η],.agg #[nI X,nI ζ,nI ι,nI ν,nI κ,nI ξ,nI ρ,nI ψ,.bool a2,.bool a8],.agg #[.slice aa σ.length ab,.slice ac τ.length ae,.slice al a3.length an],.agg #[nI a5,nI a7,nI a9]] w fun e w'=>e = .returned (nI r)∧Below w.heap.size w w':=by
 have cj:=Try.underlying25
 have gl:=Try.underlying31
 have gq:=Try.underlying34
 have cg:=Try.underlying36
 have hl:=Try.underlying29
 have bm:=aK ao
 have bn:=aK ap
 clear ao ap
 have bp:=aK ar
 have bq:=aK b5
 clear ar b5
 have ct:=aK br
 have cy:=aK bw
 clear br bw
 have HB:=aK (Below.refl w.heap.size w)
 have H:((newelref18_Rest.f k B J O Y Z γ δ ε θ η X ζ ι ν κ ξ ρ).bind fun a6=>((newelref21_Way.f k B X ζ ι ν κ ξ ρ ψ a2 a8 a5 a7 a9).bind fun af=>(some (wrap64 ((wrap64 (a6+(wrap64 (J * af))))+(wrap64 ((wrap64 ((wrap64 ((σ.length:Int)+(τ.length:Int)))+(a3.length:Int))) * (wrap64 ((wrap64 ((wrap64 (O+Y)) + θ)) + δ)))))))))=some r:=h
 clear h
 obtain⟨a6,A5,H⟩:=qQ H
 obtain⟨af,A6,H⟩:=qQ H
 obtain rfl:=qJ H
 go_enter Try.func12,Try.ntmps12
 try go_wp2_with (first|((with_reducible refine Qe (N:=4) rfl ?_);refine qE 4 #[nI B,nI J,nI O,nI Y,nI Z,nI γ,nI δ,nI ε,nI θ,nI η] 25 ?_;intro a0 hg w7 hbox hb;have μ :=aK hbox;have b1:=sGe hg;have b2:=sGe hg;replace HB:=sHb hb;clear hb hbox hg)|((with_reducible refine Qe (N:=5) rfl ?_);refine qE 5 #[nI X,nI ζ,nI ι,nI ν,nI κ,nI ξ,nI ρ,nI ψ,.bool a2,.bool a8] 31 ?_;intro a1 hg w8 hbox hb;have φ :=aK hbox;have b3:=sGe hg;have b4:=sGe hg;have av:=sNl μ hg;have aw:=sNg μ hg;replace μ :=sBk μ hb;replace HB:=sHb hb;clear hb hbox hg)|((with_reducible refine Qe (N:=6) rfl ?_);refine qE 6 #[.slice aa σ.length ab,.slice ac τ.length ae,.slice al a3.length an] 34 ?_;intro b6 hg w9 hbox hb;have ω :=aK hbox;have b7:=sGe hg;have b8:=sGe hg;have ah:=sNl μ hg;have ai:=sNg μ hg;have aj:=sNl φ hg;have ak:=sNg φ hg;replace μ :=sBk μ hb;replace φ :=sBk φ hb;replace HB:=sHb hb;clear hb hbox hg)|((with_reducible refine Qe (N:=7) rfl ?_);refine qE 7 #[nI a5,nI a7,nI a9] 36 ?_;intro ag hg fj hbox hb;have χ :=aK hbox;have b9:=sGe hg;have ba:=sGe hg;have ax:=sNl μ hg;have ay:=sNg μ hg;have az:=sNl φ hg;have b0:=sNg φ hg;have am:=sNl ω hg;have au:=sNg ω hg;replace μ :=sBk μ hb;replace φ :=sBk φ hb;replace ω :=sBk ω hb;replace HB:=sHb hb;clear hb hbox hg;have du:=ai.out;have e4:=ah.out;have e0:=ak.out;have e3:=aj.out;have ga:=am.out;have gb:=au.out;obtain⟨cb,cd,db,ce,cf,dc⟩:=qD3 ω.out))
 replace μ :=aK (Qd μ.out)
 replace φ :=aK (Qd φ.out)
 replace ω :=aK (Qd ω.out)
 replace χ :=aK (Qd χ.out)
 replace HB:=aK (Qj HB.out)
 refine Zg (n:=32) (S:=fun w'=>cI w' a0 0 B∧cI w' a0 1 J∧cI w' a0 2 O∧cI w' a0 3 Y∧cI w' a0 4 Z∧cI w' a0 5 γ∧cI w' a0 6 δ ∧ cI w' a0 7 ε ∧ cI w' a0 8 θ ∧ cI w' a0 9 η ∧ cI w' a1 0 X∧cI w' a1 1 ζ ∧ cI w' a1 2 ι ∧ cI w' a1 3 ν ∧ cI w' a1 4 κ ∧ cI w' a1 5 ξ ∧ cI w' a1 6 ρ∧cI w' a1 7 ψ ∧ w'.cell? ⟨a1,8,none⟩=some (.bool a2)∧w'.cell? ⟨a1,9,none⟩=some (.bool a8)∧cI w' ag 0 a5∧cI w' ag 1 a7∧cI w' ag 2 a9) (ds:=[]) #[false,false,false,false,false,false,false,false,false,false,false,false,false,false,false,false,false,false,false,false,false,false,false,false,false,false,false,false,false,false,false,false] kr rfl rfl ⟨(Qa μ.out 0).trans rfl,(Qa μ.out 1).trans rfl,(Qa μ.out 2).trans rfl,(Qa μ.out 3).trans rfl,(Qa μ.out 4).trans rfl,(Qa μ.out 5).trans rfl,(Qa μ.out 6).trans rfl,(Qa μ.out 7).trans rfl,(Qa μ.out 8).trans rfl,(Qa μ.out 9).trans rfl,(Qa φ.out 0).trans rfl,(Qa φ.out 1).trans rfl,(Qa φ.out 2).trans rfl,(Qa φ.out 3).trans rfl,(Qa φ.out 4).trans rfl,(Qa φ.out 5).trans rfl,(Qa φ.out 6).trans rfl,(Qa φ.out 7).trans rfl,(Qa φ.out 8).trans rfl,(Qa φ.out 9).trans rfl,(Qa χ.out 0).trans rfl,(Qa χ.out 1).trans rfl,(Qa χ.out 2).trans rfl⟩ (fun hHeld=>?_);refine Zb newelref21_Cost.C0 newelref21_Cost.E1 (fun HT_ HW_=>?_)
 generalize fj.drew=fb at μ φ ω χ HB hHeld ⊢
 refine qP 1 (some 22) (bN 32 2) HT_ ?_
 refine qP 4 (some 25) (bN 32 18) HT_ ?_
 refine qP 5 (some 26) (bN 32 50) HT_ ?_
 refine qP 7 (some 28) (bN 32 178) HT_ ?_
 refine qP 14 (some 35) (bN 32 16562) HT_ ?_
 refine qP 15 (some 36) (bN 32 49330) HT_ ?_
 refine qP 16 (some 37) (bN 32 114866) HT_ ?_
 refine qP 18 (some 39) (bN 32 377010) HT_ ?_
 refine qP 19 (some 40) (bN 32 901298) HT_ ?_
 refine qP 22 (some 43) (bN 32 5095602) HT_ ?_
 refine qP 25 (some 46) (bN 32 38650034) HT_ ?_
 refine qP 26 (some 47) (bN 32 105758898) HT_ ?_
 refine qT 0 (some 21) (bN 32 105758899) HT_ HW_ hHeld ?_
 refine qT 2 (some 23) (bN 32 105758903) HT_ HW_ hHeld ?_
 refine qT 6 (some 27) (bN 32 105758967) HT_ HW_ hHeld ?_
 refine qT 8 (some 29) (bN 32 105759223) HT_ HW_ hHeld ?_
 refine qT 9 (some 30) (bN 32 105759735) HT_ HW_ hHeld ?_
 refine qT 10 (some 31) (bN 32 105760759) HT_ HW_ hHeld ?_
 refine qT 17 (some 38) (bN 32 105891831) HT_ HW_ hHeld ?_
 refine qT 20 (some 41) (bN 32 106940407) HT_ HW_ hHeld ?_
 refine qP 21 (some 42) (bN 32 109037559) HT_ ?_
 refine qT 23 (some 44) (bN 32 117426167) HT_ HW_ hHeld ?_
 refine qP 24 (some 45) (bN 32 134203383) HT_ ?_
 refine qT 27 (some 48) (bN 32 268421111) HT_ HW_ hHeld ?_
 refine qP 28 (some 49) (bN 32 536856567) HT_ ?_
 refine qP 29 (some 50) (bN 32 1073727479) HT_ ?_
 refine qK 3 (some 24) (bN 32 1073727487) HT_ fun K hK=>?_
 refine Zd Try.func34 kr rfl #[.agg #[nI B,nI J,nI O,nI Y,nI Z,nI γ,nI δ,nI ε,nI θ,nI η],.agg #[nI X,nI ζ,nI ι,nI ν,nI κ,nI ξ,nI ρ]] (by rfl) rfl rfl qM ?_
 with_reducible refine(newelref18_Rest.calls k B J O Y Z γ δ ε θ η X ζ ι ν κ ξ ρ a6 _ A5.out).mono ?_
 rintro e cr ⟨rfl,hb⟩
 refine⟨_,rfl, ?_⟩
 replace μ :=sBk μ hb
 replace φ :=sBk φ hb
 replace ω :=sBk ω hb
 replace χ :=sBk χ hb
 replace HB:=sHb hb
 (try clear hb)
 (try clear a4)
 (try clear hk)
 (try clear hi)
 refine hK.out _ _ ⟨qc μ,qc μ,qc μ,qc μ,qc μ,qc μ,qc μ,qc μ,qc μ,qc μ,qc φ,qc φ,qc φ,qc φ,qc φ,qc φ,qc φ,qc φ,qc φ,qc φ,qc χ,qc χ,qc χ⟩ (fun hHeld=>?_)
 clear hK K
 refine qN (some 24) ?_
 refine qK 11 (some 32) (bN 32 1073729535) HT_ fun K hK=>?_
 refine Zd Try.func35 kr rfl #[nI B,.agg #[nI X,nI ζ,nI ι,nI ν,nI κ,nI ξ,nI ρ,nI ψ,.bool a2,.bool a8],.agg #[nI a5,nI a7,nI a9]] (by rfl) rfl rfl qM ?_
 with_reducible refine(newelref21_Way.calls k B X ζ ι ν κ ξ ρ ψ a2 a8 a5 a7 a9 af _ A6.out).mono ?_
 rintro e cv ⟨rfl,hb⟩
 refine⟨_,rfl, ?_⟩
 replace μ :=sBk μ hb
 replace φ :=sBk φ hb
 replace ω :=sBk ω hb
 replace χ :=sBk χ hb
 replace HB:=sHb hb
 (try clear hb)
 (try clear a4)
 (try clear hk)
 (try clear hi)
 refine hK.out _ _ ⟨qc μ,qc μ,qc μ,qc μ,qc μ,qc μ,qc μ,qc μ,qc μ,qc μ,qc φ,qc φ,qc φ,qc φ,qc φ,qc φ,qc φ,qc φ,qc φ,qc φ,qc χ,qc χ,qc χ⟩ (fun hHeld=>?_)
 clear hK K
 refine qN (some 32) ?_
 refine qP 12 (some 33) (bN 32 1073733631) HT_ ?_
 refine qP 13 (some 34) (bN 32 1073741823) HT_ ?_
 refine qP 30 (some 51) (bN 32 2147483647) HT_ ?_
 refine qP 31 (some 8) (bN 32 4294967295) HT_ ?_
 refine Zl (Ze HT_.out kr) ?_
 try go_wp2
 go_ret
 exact⟨rfl,HB.out⟩
def collect_rising.l0:Nat→List Int→Int→List Int→Int→Int→Option (Bool)
 |0,_,_,_,_,_=>none
 |k+1,B,J,X,Z,Y=>if Y<Z then (if 0≤Y then (if Y<(X.length:Int) then (if (rd X Y)<0 then (some false) else (if (rd X Y)≥J then (some false) else (if Y>0 then (if 0≤(wrap64 (Y-1)) then (if (wrap64 (Y-1))<(B.length:Int) then (if (rd B (wrap64 (Y-1)))≥(rd X Y) then (some false) else (collect_rising.l0 k B J X Z (wrap64 (Y+1)))) else (none)) else (none)) else (collect_rising.l0 k B J X Z (wrap64 (Y+1)))))) else (none)) else (none)) else (some true)
def collect_rising.f (k:Nat) (l0:List Int) (Z:Int):Option (Bool):=collect_rising.l0 k l0 Z l0 (l0.length:Int) 0
theorem collect_rising.Z6:∀ k,(∀ O X Z B Y,LeO (collect_rising.l0 k O X Z B Y) (collect_rising.l0 (k+1) O X Z B Y))
 |0=>fun _ _ _ _ _ r h=>by simp[collect_rising.l0] at h
 |k+1=>by
  have J:=collect_rising.Z6 k
  ·intro O X Z B Y
   unfold collect_rising.l0
   repeat' first|(with_reducible first|apply J|exact LeO.refl _|exact LeO.none _|refine LeO.ite ?_ ?_|refine LeO.bind ?_ (fun _=>?_))|apply J|exact LeO.none _|refine LeO.ite ?_ ?_|refine LeO.bind ?_ (fun _=>?_)
theorem collect_rising.mono:∀ B Z k,LeO (collect_rising.f k B Z) (collect_rising.f (k+1) B Z):=by
 intro B Z k
 have J:=collect_rising.Z6 k
 unfold collect_rising.f
 repeat' first|(with_reducible first|apply J|exact LeO.refl _|exact LeO.none _|refine LeO.ite ?_ ?_|refine LeO.bind ?_ (fun _=>?_))|apply J|exact LeO.none _|refine LeO.ite ?_ ?_|refine LeO.bind ?_ (fun _=>?_)
theorem collect_rising.calls (k:Nat) (A0:Option Addr) (c0:Nat) (l0:List Int) (Z:Int) (r:Bool) (w:World) (ε :Kd.C (Kd.int .i64) w A0 l0.length l0) (Y:l0.length≤c0) (h:collect_rising.f k l0 Z=some r):
 Calls Try.prog 50 #[.slice A0 l0.length c0,nI Z] w fun e w'=>e = .returned (.bool r)∧Drawn0 w w':=by
 have ν :=aK ε
 have ah:=aK Y
 clear ε Y
 have H:(collect_rising.l0 k l0 Z l0 (l0.length:Int) 0)=some r:=h
 clear h
 have H':=aK H
 clear H
 go_enter Try.func50,Try.ntmps50
 go_wp2
 go_loopg [9] k (fun kq v9 w'=>∃ (B:Int),v9=nI B∧Aside0 (collect_rising.l0 kq l0 Z l0 (l0.length:Int) B=some r)∧Aside0 (kq≤k)∧Drawn0 w w')
 case atStart=>exact⟨(0),rfl,H',⟨Nat.le_refl _⟩,by repeat(first|exact Drawn0.refl _|apply Drawn0.step)⟩
 case round=>
  clear H'
  obtain⟨B,rfl,HA,af,⟨m1,rfl⟩⟩:=hrel
  cases gk with
  |zero=>exact absurd HA.out (by simp[collect_rising.l0])
  |succ k1=>
   have H:=HA.out
   clear HA
   simp only[collect_rising.l0] at H
   by_cases c3:B<(l0.length:Int)
   ·rw[if_pos c3] at H
    have c3b0:=decide_eq_true c3
    clear c3
    by_cases c4:0≤B
    ·rw[if_pos c4] at H
     have c4b0:=decide_eq_true c4
     clear c4
     by_cases c5:B<(l0.length:Int)
     ·rw[if_pos c5] at H
      have c5b0:=decide_eq_true c5
      clear c5
      by_cases c6:(rd l0 B)<0
      ·rw[if_pos c6] at H
       have c6b0:=decide_eq_true c6
       clear c6
       obtain rfl:=qJ H
       have J:0≤(B:Int):=of_decide_eq_true (by assumption)
       have O:B<(l0.length:Int):=of_decide_eq_true (by assumption)
       obtain⟨δ,γ,ζ⟩:=Kd.Jb ν.out B J O
       cases γ
       replace J:=eq_true J
       replace O:=eq_true O
       go_wp2
       go_ret
       exact⟨qR,by repeat(first|exact Drawn0.refl _|apply Drawn0.step)⟩
      ·rw[if_neg c6] at H
       have c6b0:=decide_eq_false c6
       clear c6
       by_cases c7:(rd l0 B)≥Z
       ·rw[if_pos c7] at H
        have c7b0:decide (Z≤(rd l0 B))=true:=decide_eq_true c7
        clear c7
        obtain rfl:=qJ H
        have J:0≤(B:Int):=of_decide_eq_true (by assumption)
        have O:B<(l0.length:Int):=of_decide_eq_true (by assumption)
        obtain⟨δ,γ,ζ⟩:=Kd.Jb ν.out B J O
        cases γ
        replace J:=eq_true J
        replace O:=eq_true O
        go_wp2
        go_ret
        exact⟨qR,by repeat(first|exact Drawn0.refl _|apply Drawn0.step)⟩
       ·rw[if_neg c7] at H
        have c7b0:decide (Z≤(rd l0 B))=false:=decide_eq_false c7
        clear c7
        by_cases c8:B>0
        ·rw[if_pos c8] at H
         have c8b0:decide (0<B)=true:=decide_eq_true c8
         clear c8
         obtain⟨X,ι⟩:∃ j_:Int,(wrap64 (B-1))=j_:=⟨_,rfl⟩
         replace H:(if 0≤(X) then (if (X)<(l0.length:Int) then (if (rd l0 (X))≥(rd l0 B) then (some false) else (collect_rising.l0 k1 l0 Z l0 (l0.length:Int) (wrap64 (B+1)))) else (none)) else (none))=some r:=by first|(rw[ι] at H;exact H)|(simp only[ι] at H ⊢;exact H)
         have hji9w:(IntKind.i64.wrap (B-1))=X:=(Zy _).trans ι
         by_cases c10:0≤(X)
         ·rw[if_pos c10] at H
          have c10b0:=decide_eq_true c10
          clear c10
          by_cases a5:(X)<(l0.length:Int)
          ·rw[if_pos a5] at H
           have c11b0:=decide_eq_true a5
           clear a5
           by_cases a3:(rd l0 (X))≥(rd l0 B)
           ·rw[if_pos a3] at H
            have c12b0:decide ((rd l0 B)≤(rd l0 (X)))=true:=decide_eq_true a3
            clear a3
            obtain rfl:=qJ H
            have J:0≤(B:Int):=of_decide_eq_true (by assumption)
            have O:B<(l0.length:Int):=of_decide_eq_true (by assumption)
            obtain⟨δ,γ,ζ⟩:=Kd.Jb ν.out B J O
            cases γ
            replace J:=eq_true J
            replace O:=eq_true O
            have η :0≤((X):Int):=of_decide_eq_true (by assumption)
            have θ :(X)<(l0.length:Int):=of_decide_eq_true (by assumption)
            obtain⟨κ,μ,ξ⟩:=Kd.Jb ν.out (X) η θ
            obtain rfl: δ = κ :=(by injection μ)
            replace η :=eq_true η
            replace θ :=eq_true θ
            go_wp2
            go_ret
            exact⟨by first|rfl|(simp;done)|(simp only[← ι] <;> (first|rfl|simp))|(simp[*];done),by repeat(first|exact Drawn0.refl _|apply Drawn0.step)⟩
           ·rw[if_neg a3] at H
            have c12b0:decide ((rd l0 B)≤(rd l0 (X)))=false:=decide_eq_false a3
            clear a3
            have H':=aK H
            clear H
            have J:0≤(B:Int):=of_decide_eq_true (by assumption)
            have O:B<(l0.length:Int):=of_decide_eq_true (by assumption)
            obtain⟨δ,γ,ζ⟩:=Kd.Jb ν.out B J O
            cases γ
            replace J:=eq_true J
            replace O:=eq_true O
            have η :0≤((X):Int):=of_decide_eq_true (by assumption)
            have θ :(X)<(l0.length:Int):=of_decide_eq_true (by assumption)
            obtain⟨κ,μ,ξ⟩:=Kd.Jb ν.out (X) η θ
            obtain rfl: δ = κ :=(by injection μ)
            replace η :=eq_true η
            replace θ :=eq_true θ
            go_wp2
            go_roundg k1
            case measure=>have:=af.out;omega
            case rel=>exact⟨(wrap64 (B+1)),rfl,H',⟨by have:=af.out;omega⟩,by repeat(first|exact Drawn0.refl _|apply Drawn0.step)⟩
          ·rw[if_neg a5] at H
           exact absurd H (by simp)
         ·rw[if_neg c10] at H
          exact absurd H (by simp)
        ·rw[if_neg c8] at H
         have c8b0:decide (0<B)=false:=decide_eq_false c8
         clear c8
         have H':=aK H
         clear H
         have J:0≤(B:Int):=of_decide_eq_true (by assumption)
         have O:B<(l0.length:Int):=of_decide_eq_true (by assumption)
         obtain⟨δ,γ,ζ⟩:=Kd.Jb ν.out B J O
         cases γ
         replace J:=eq_true J
         replace O:=eq_true O
         go_wp2
         go_roundg k1
         case measure=>have:=af.out;omega
         case rel=>exact⟨(wrap64 (B+1)),rfl,H',⟨by have:=af.out;omega⟩,by repeat(first|exact Drawn0.refl _|apply Drawn0.step)⟩
     ·rw[if_neg c5] at H
      exact absurd H (by simp)
    ·rw[if_neg c4] at H
     exact absurd H (by simp)
   ·rw[if_neg c3] at H
    have c3b0:=decide_eq_false c3
    clear c3
    obtain rfl:=qJ H
    go_wp2
    go_ret
    exact⟨qR,by repeat(first|exact Drawn0.refl _|apply Drawn0.step)⟩
mutual
def collect_Check.j0:Nat→Bool→Int→Int→Int→Bool→Bool→List Int→List Int→List Int→Option (Int)
 |0,_,_,_,_,_,_,_,_,_=>none
 |k+1,ε,B,Y,Z,γ,δ,J,O,X=>if ε = true then (some 200) else ((some (([J,O,X]:List (List Int)):List (List Int))).bind fun μ =>(collect_Check.l0 k μ (μ.length:Int) 0 B Y Z γ δ J O X))
def collect_Check.l0:Nat→List (List Int)→Int→Int→Int→Int→Int→Bool→Bool→List Int→List Int→List Int→Option (Int)
 |0,_,_,_,_,_,_,_,_,_,_,_=>none
 |k+1,ζ,η,ε,B,Y,Z,γ,δ,J,O,X=>if ε < η then (if 0 ≤ ε then (if ε < (ζ.length:Int) then ((collect_rising.f k (Jg ζ ε) B).bind fun bf=>(if bf=true then (collect_Check.l0 k ζ η (wrap64 (ε + 1)) B Y Z γ δ J O X) else (some 200))) else (none)) else (none)) else (some 0)
end
def collect_Check.f (k:Nat) (B:Int) (J:Int) (O:Int) (Y:Bool) (Z:Bool) (X:List Int) (γ:List Int) (δ :List Int):Option (Int):=if B<2 then (collect_Check.j0 k true B J O Y Z X γ δ) else (if B>64 then (collect_Check.j0 k true B J O Y Z X γ δ) else (if J<0 then (collect_Check.j0 k true B J O Y Z X γ δ) else (if J≥B then (collect_Check.j0 k true B J O Y Z X γ δ) else (if O<(-1) then (collect_Check.j0 k true B J O Y Z X γ δ) else (collect_Check.j0 k (decide (O>1)) B J O Y Z X γ δ)))))
theorem collect_Check.Z6:∀ k,(∀ O X Z B Y y5 y6 y7 y8,LeO (collect_Check.j0 k O X Z B Y y5 y6 y7 y8) (collect_Check.j0 (k+1) O X Z B Y y5 y6 y7 y8))∧(∀ O X Z B Y y5 y6 y7 y8 y9 γ,LeO (collect_Check.l0 k O X Z B Y y5 y6 y7 y8 y9 γ) (collect_Check.l0 (k+1) O X Z B Y y5 y6 y7 y8 y9 γ))
 |0=>⟨fun _ _ _ _ _ _ _ _ _ r h=>by simp[collect_Check.j0] at h,fun _ _ _ _ _ _ _ _ _ _ _ r h=>by simp[collect_Check.l0] at h⟩
 |k+1=>by
  obtain⟨J,ε⟩:=collect_Check.Z6 k
  refine⟨?_, ?_⟩
  ·intro O X Z B Y y5 y6 y7 y8
   unfold collect_Check.j0
   repeat' first|(with_reducible first|apply J|apply ε |apply collect_rising.mono|exact LeO.refl _|exact LeO.none _|refine LeO.ite ?_ ?_|refine LeO.bind ?_ (fun _=>?_))|apply J|apply ε |apply collect_rising.mono|exact LeO.none _|refine LeO.ite ?_ ?_|refine LeO.bind ?_ (fun _=>?_)
  ·intro O X Z B Y y5 y6 y7 y8 y9 γ
   unfold collect_Check.l0
   repeat' first|(with_reducible first|apply J|apply ε |apply collect_rising.mono|exact LeO.refl _|exact LeO.none _|refine LeO.ite ?_ ?_|refine LeO.bind ?_ (fun _=>?_))|apply J|apply ε |apply collect_rising.mono|exact LeO.none _|refine LeO.ite ?_ ?_|refine LeO.bind ?_ (fun _=>?_)
theorem collect_Check.mono:∀ B Z a2 a3 O a5 X a7 k,LeO (collect_Check.f k B Z a2 a3 O a5 X a7) (collect_Check.f (k+1) B Z a2 a3 O a5 X a7):=by
 intro B Z a2 a3 O a5 X a7 k
 obtain⟨J,ε⟩:=collect_Check.Z6 k
 unfold collect_Check.f
 repeat' first|(with_reducible first|apply J|apply ε |apply collect_rising.mono|exact LeO.refl _|exact LeO.none _|refine LeO.ite ?_ ?_|refine LeO.bind ?_ (fun _=>?_))|apply J|apply ε |apply collect_rising.mono|exact LeO.none _|refine LeO.ite ?_ ?_|refine LeO.bind ?_ (fun _=>?_)
theorem collect_Check.calls (k:Nat) (B:Int) (J:Int) (O:Int) (Y:Bool) (Z:Bool) (θ :Nat→Prop) (χ :Option Addr) (ψ :Nat) (X:List Int) (ι :Nat→Prop) (a1:Option Addr) (a2:Nat) (γ:List Int) (κ :Nat→Prop) (a4:Option Addr) (a5:Nat) (δ :List Int) (r:Int) (w:World) (ec:Kd.V (Kd.int .i64) 3 w w.heap.size (fun k_=> θ k_) (.slice χ X.length ψ) X) (eu:Kd.V (Kd.int .i64) 3 w w.heap.size (fun k_=> ι k_) (.slice a1 γ.length a2) γ) (ev:Kd.V (Kd.int .i64) 3 w w.heap.size (fun k_=> κ k_) (.slice a4 δ.length a5) δ) (h:collect_Check.f k B J O Y Z X γ δ = some r):
 Calls Try.prog 29 #[.agg #[nI B,nI J,nI O,.bool Y,.bool Z,.slice χ X.length ψ,.slice a1 γ.length a2,.slice a4 δ.length a5]] w fun e w'=>e = .returned (nI r)∧Below w.heap.size w w':=by
 have nc:=Try.underlying76
 have a6:=aK (show Kd.V (Kd.int .i64) 3 w w.heap.size (fun k_=>((θ k_ ∨ ι k_ ∨ κ k_)∨w.heap.size≤k_)) (.slice χ X.length ψ) X from Kd.Q5 ec (fun k_ hk=>.inl (.inl hk)))
 have a7:=aK (show Kd.V (Kd.int .i64) 3 w w.heap.size (fun k_=>((θ k_ ∨ ι k_ ∨ κ k_)∨w.heap.size≤k_)) (.slice a1 γ.length a2) γ from Kd.Q5 eu (fun k_ hk=>.inl (.inr (.inl hk))))
 have a9:=aK (show Kd.V (Kd.int .i64) 3 w w.heap.size (fun k_=>((θ k_ ∨ ι k_ ∨ κ k_)∨w.heap.size≤k_)) (.slice a4 δ.length a5) δ from Kd.Q5 ev (fun k_ hk=>.inl (.inr (.inr hk))))
 have HB:=aK (Below.refl w.heap.size w)
 have H:(if B<2 then (collect_Check.j0 k true B J O Y Z X γ δ) else (if B>64 then (collect_Check.j0 k true B J O Y Z X γ δ) else (if J<0 then (collect_Check.j0 k true B J O Y Z X γ δ) else (if J≥B then (collect_Check.j0 k true B J O Y Z X γ δ) else (if O<(-1) then (collect_Check.j0 k true B J O Y Z X γ δ) else (collect_Check.j0 k (decide (O>1)) B J O Y Z X γ δ))))))=some r:=h
 clear h
 have dm:=aK H
 clear H
 go_enter Try.func29,Try.ntmps29
 go_upto_region 1 with(first|((with_reducible refine Qe (N:=1) rfl ?_);refine qE 1 #[nI B,nI J,nI O,.bool Y,.bool Z,.slice χ X.length ψ,.slice a1 γ.length a2,.slice a4 δ.length a5] 76 ?_;intro ε hg w3 hbox hb;have ζ :=aK hbox;have fu:=sGe hg;have ga:=sGe hg;replace a6:=aK (Kd.Zh (Kd.Zf a6.out ε (Nat.le_of_eq hg.symm)) hb);replace a7:=aK (Kd.Zh (Kd.Zf a7.out ε (Nat.le_of_eq hg.symm)) hb);replace a9:=aK (Kd.Zh (Kd.Zf a9.out ε (Nat.le_of_eq hg.symm)) hb);replace HB:=sHb hb;clear hb hbox hg))
 (try simp only[Act.put,qS])
 go_cut [34] (fun ff wc=>∃ (kq:Nat) (az:Bool),ff = .bool az∧Aside0 (collect_Check.j0 kq az B J O Y Z X γ δ = some r)∧Aside0 (kq≤k)∧Aside0 (Kd.V (Kd.int .i64) 3 wc w.heap.size (fun k_=>((θ k_ ∨ ι k_ ∨ κ k_)∨w.heap.size≤k_)∧k_ ≠ ε) (.slice χ X.length ψ) X)∧Aside0 (Kd.V (Kd.int .i64) 3 wc w.heap.size (fun k_=>((θ k_ ∨ ι k_ ∨ κ k_)∨w.heap.size≤k_)∧k_ ≠ ε) (.slice a1 γ.length a2) γ)∧Aside0 (Kd.V (Kd.int .i64) 3 wc w.heap.size (fun k_=>((θ k_ ∨ ι k_ ∨ κ k_)∨w.heap.size≤k_)∧k_ ≠ ε) (.slice a4 δ.length a5) δ)∧Aside0 (wc.heap[ε]?=some (.cells #[nI B,nI J,nI O,.bool Y,.bool Z,(.slice χ X.length ψ),(.slice a1 γ.length a2),(.slice a4 δ.length a5)] 76 (0,0)))∧Aside0 (Below w.heap.size w wc))
 case first=>
  have H:=dm.out
  clear dm
  by_cases c4:B<2
  ·rw[if_pos c4] at H
   have c4b0:=decide_eq_true c4
   clear c4
   (first|rw[c4b0]|(simp only[Zy,Z8];rw[c4b0])|skip)
   have H':=aK H
   clear H
   obtain⟨cg,cn,d1,d2,dt,dw,dy,dz,dd,de,dk,e0,e3,e7,e8,e9⟩:=qD8 ζ.out
   go_wp2
   go_meet
   case rel=>exact⟨_,(true),rfl,H',⟨by first|omega|exact Nat.le_refl _⟩,⟨by(with_reducible repeat first|apply Kd.Q3|apply Kd.Q2|apply Kd.Q8);exact a6.out⟩,⟨by(with_reducible repeat first|apply Kd.Q3|apply Kd.Q2|apply Kd.Q8);exact a7.out⟩,⟨by(with_reducible repeat first|apply Kd.Q3|apply Kd.Q2|apply Kd.Q8);exact a9.out⟩,ζ,HB⟩
  ·rw[if_neg c4] at H
   have c4b0:=decide_eq_false c4
   clear c4
   (first|rw[c4b0]|(simp only[Zy,Z8];rw[c4b0])|skip)
   by_cases c6:B>64
   ·rw[if_pos c6] at H
    have c6b0:decide (64<B)=true:=decide_eq_true c6
    clear c6
    have H':=aK H
    clear H
    obtain⟨a0,av,ba,d7,d8,dn,dp,fg,aw,ax,bb,dq,dr,dv,e6,fh⟩:=qD8 ζ.out
    go_wp2
    go_meet
    case rel=>exact⟨_,(true),rfl,H',⟨by first|omega|exact Nat.le_refl _⟩,⟨by(with_reducible repeat first|apply Kd.Q3|apply Kd.Q2|apply Kd.Q8);exact a6.out⟩,⟨by(with_reducible repeat first|apply Kd.Q3|apply Kd.Q2|apply Kd.Q8);exact a7.out⟩,⟨by(with_reducible repeat first|apply Kd.Q3|apply Kd.Q2|apply Kd.Q8);exact a9.out⟩,ζ,HB⟩
   ·rw[if_neg c6] at H
    have c6b0:decide (64<B)=false:=decide_eq_false c6
    clear c6
    by_cases c8:J<0
    ·rw[if_pos c8] at H
     have c8b0:=decide_eq_true c8
     clear c8
     have H':=aK H
     clear H
     obtain⟨b6,bi,d0,da,dx,ea,eb,fo,bz,ch,fp,fq,fr,fv,fy,fz⟩:=qD8 ζ.out
     go_wp2
     go_meet
     case rel=>exact⟨_,(true),rfl,H',⟨by first|omega|exact Nat.le_refl _⟩,⟨by(with_reducible repeat first|apply Kd.Q3|apply Kd.Q2|apply Kd.Q8);exact a6.out⟩,⟨by(with_reducible repeat first|apply Kd.Q3|apply Kd.Q2|apply Kd.Q8);exact a7.out⟩,⟨by(with_reducible repeat first|apply Kd.Q3|apply Kd.Q2|apply Kd.Q8);exact a9.out⟩,ζ,HB⟩
    ·rw[if_neg c8] at H
     have c8b0:=decide_eq_false c8
     clear c8
     by_cases c10:J≥B
     ·rw[if_pos c10] at H
      have c10b0:decide (B≤J)=true:=decide_eq_true c10
      clear c10
      have H':=aK H
      clear H
      obtain⟨ci,cp,bg,fk,fl,fm,fn,bs,cq,cr,bh,gm,gn,gp,gq,bv⟩:=qD8 ζ.out
      go_wp2
      go_meet
      case rel=>exact⟨_,(true),rfl,H',⟨by first|omega|exact Nat.le_refl _⟩,⟨by(with_reducible repeat first|apply Kd.Q3|apply Kd.Q2|apply Kd.Q8);exact a6.out⟩,⟨by(with_reducible repeat first|apply Kd.Q3|apply Kd.Q2|apply Kd.Q8);exact a7.out⟩,⟨by(with_reducible repeat first|apply Kd.Q3|apply Kd.Q2|apply Kd.Q8);exact a9.out⟩,ζ,HB⟩
     ·rw[if_neg c10] at H
      have c10b0:decide (B≤J)=false:=decide_eq_false c10
      clear c10
      by_cases a3:O<(-1)
      ·rw[if_pos a3] at H
       have c12b0:=decide_eq_true a3
       clear a3
       have H':=aK H
       clear H
       obtain⟨ao,bc,bk,du,ed,eh,ew,e4,ap,be,bm,ey,ez,f7,f8,e5⟩:=qD8 ζ.out
       go_wp2
       go_meet
       case rel=>exact⟨_,(true),rfl,H',⟨by first|omega|exact Nat.le_refl _⟩,⟨by(with_reducible repeat first|apply Kd.Q3|apply Kd.Q2|apply Kd.Q8);exact a6.out⟩,⟨by(with_reducible repeat first|apply Kd.Q3|apply Kd.Q2|apply Kd.Q8);exact a7.out⟩,⟨by(with_reducible repeat first|apply Kd.Q3|apply Kd.Q2|apply Kd.Q8);exact a9.out⟩,ζ,HB⟩
      ·rw[if_neg a3] at H
       have c12b0:=decide_eq_false a3
       clear a3
       have H':=aK H
       clear H
       obtain⟨cb,cd,db,ei,ej,ek,el,gu,ce,cf,dc,em,en,eo,ep,gv⟩:=qD8 ζ.out
       go_wp2
       go_meet
       case rel=>exact⟨_,(decide (O>1)),rfl,H',⟨by first|omega|exact Nat.le_refl _⟩,⟨by(with_reducible repeat first|apply Kd.Q3|apply Kd.Q2|apply Kd.Q8);exact a6.out⟩,⟨by(with_reducible repeat first|apply Kd.Q3|apply Kd.Q2|apply Kd.Q8);exact a7.out⟩,⟨by(with_reducible repeat first|apply Kd.Q3|apply Kd.Q2|apply Kd.Q8);exact a9.out⟩,ζ,HB⟩
 case rest=>
  clear dm
  obtain⟨kq,az,rfl,HA,fc,ν,ξ,ρ,ζ,HB⟩:=hcut
  cases kq with
  |zero=>exact absurd HA.out (by simp[collect_Check.j0])
  |succ d9=>
   have H:=HA.out
   clear HA
   simp only[collect_Check.j0] at H
   by_cases a8:az=true
   ·subst a8
    rw[if_pos rfl] at H
    obtain rfl:=qJ H
    go_wp2
    go_ret
    exact⟨rfl,HB.out⟩
   ·replace a8:=Bool.eq_false_iff.mpr a8
    subst a8
    rw[if_neg nft] at H
    obtain⟨μ,al⟩:∃ y_:List (List Int),y_=(([X,γ,δ]:List (List Int))):=⟨_,rfl⟩
    replace H:(collect_Check.l0 d9 μ (μ.length:Int) 0 B J O Y Z X γ δ)=some r:=by first|(rw[al];with_reducible exact H)|(have ag:=(Option.bind_some _ _).symm.trans H;rw[al];with_reducible exact ag)|(have ag:=(Option.bind_some _ _).symm.trans H;with_reducible exact ag)|with_reducible exact H|(rw[al];exact H)|exact H
    have bo:=aK al
    clear al
    have H':=aK H
    clear H
    obtain⟨d3,d4,ω,bp,bu,bw,ee,fi,d5,d6,b9,ef,eg,er,et,fj⟩:=qD8 ζ.out
    go_wp2_with (first|((with_reducible refine Qe (N:=44) rfl ?_);refine Kd.N_lit (Kd.slice 3 (Kd.int .i64)) _ 32 ?hg (N':=44) ?hd (xs:=([X,γ,δ]:List (List Int))) (inner:=[.slice χ X.length ψ,.slice a1 γ.length a2,.slice a4 δ.length a5]) (ok:=(fun k_=>((θ k_ ∨ ι k_ ∨ κ k_)∨w.heap.size≤k_)∧k_ ≠ ε)) (okp:=(fun k_=>((θ k_ ∨ ι k_ ∨ κ k_)∨w.heap.size≤k_)∧k_ ≠ ε)) ?hr ?hp (fun _ hk=>hk) ((show ∀ k_,wc.heap.size≤k_→(fun k_=>((θ k_ ∨ ι k_ ∨ κ k_)∨w.heap.size≤k_)∧k_ ≠ ε) k_ from fun k_ hk=>⟨(.inr (Nat.le_trans (Qm HB.out) hk)),Kd.Xo (g:= ε) (o:=.cells #[nI B,nI J,nI O,.bool Y,.bool Z,.slice χ X.length ψ,.slice a1 γ.length a2,.slice a4 δ.length a5] 76 (0,0)) ζ.out k_ hk⟩) _ (Nat.le_refl _)) (Below.refl _ _) (Nat.le_refl _) (by simp) ?_;(case hd=>rfl);(case hg=>rfl);(case hr=>go_simp <;> rfl);(case hp=>exact(Reps.one (show Kd.FK (Kd.slice 3 (Kd.int .i64)) _ _ X [.slice χ X.length ψ] from(Kd.Kh (Kd.Z9 (Kd.Q5 (ok':=(fun k_=>((θ k_ ∨ ι k_ ∨ κ k_)∨w.heap.size≤k_)∧k_ ≠ ε)) (ν.out) (fun k_ hk=>⟨hk.1,hk.2⟩))).2.1 (Kd.V_F (Kd.Q5 (ok':=(fun k_=>((θ k_ ∨ ι k_ ∨ κ k_)∨w.heap.size≤k_)∧k_ ≠ ε)) (ν.out) (fun k_ hk=>⟨hk.1,hk.2⟩))))) (Reps.one (show Kd.FK (Kd.slice 3 (Kd.int .i64)) _ _ γ [.slice a1 γ.length a2] from(Kd.Kh (Kd.Z9 (Kd.Q5 (ok':=(fun k_=>((θ k_ ∨ ι k_ ∨ κ k_)∨w.heap.size≤k_)∧k_ ≠ ε)) (ξ.out) (fun k_ hk=>⟨hk.1,hk.2⟩))).2.1 (Kd.V_F (Kd.Q5 (ok':=(fun k_=>((θ k_ ∨ ι k_ ∨ κ k_)∨w.heap.size≤k_)∧k_ ≠ ε)) (ξ.out) (fun k_ hk=>⟨hk.1,hk.2⟩))))) (Reps.one (show Kd.FK (Kd.slice 3 (Kd.int .i64)) _ _ δ [.slice a4 δ.length a5] from(Kd.Kh (Kd.Z9 (Kd.Q5 (ok':=(fun k_=>((θ k_ ∨ ι k_ ∨ κ k_)∨w.heap.size≤k_)∧k_ ≠ ε)) (ρ.out) (fun k_ hk=>⟨hk.1,hk.2⟩))).2.1 (Kd.V_F (Kd.Q5 (ok':=(fun k_=>((θ k_ ∨ ι k_ ∨ κ k_)∨w.heap.size≤k_)∧k_ ≠ ε)) (ρ.out) (fun k_ hk=>⟨hk.1,hk.2⟩))))) (Reps.none _ _)))));intro gb cv ai hb hg_ hnew_;clear hg_ hnew_;(first|rw[← bo.out] at ai|(simp only[Int.reduceToNat] at ai;rw[← bo.out] at ai));have ca:=aK (Kd.Ci ai (Qm HB.out));replace ν :=aK (Kd.X5 ν.out (Kd.L5 ai) hb);replace ξ :=aK (Kd.X5 ξ.out (Kd.L5 ai) hb);replace ρ:=aK (Kd.X5 ρ.out (Kd.L5 ai) hb);replace ζ :=sBk ζ hb;replace HB:=sHb hb;clear hb ai;obtain⟨ck,cm,dl⟩:=Kd.Mn ca.out;subst dl))
    go_loopg [46] d9 (fun kq ft w'=>∃ (η :Int),ft=nI η ∧ Aside0 (collect_Check.l0 kq μ (μ.length:Int) η B J O Y Z X γ δ = some r)∧Aside0 (kq≤d9)∧Aside0 (Kd.N (Kd.slice 3 (Kd.int .i64)) 32 w' w.heap.size (fun k_=>((θ k_ ∨ ι k_ ∨ κ k_)∨w.heap.size≤k_)∧k_ ≠ ε) (.slice ck μ.length cm) μ)∧Aside0 (Kd.V (Kd.int .i64) 3 w' w.heap.size (fun k_=>((θ k_ ∨ ι k_ ∨ κ k_)∨w.heap.size≤k_)∧some k_≠((.slice ck μ.length cm):Value).ownBlock∧k_ ≠ ε) (.slice χ X.length ψ) X)∧Aside0 (Kd.V (Kd.int .i64) 3 w' w.heap.size (fun k_=>((θ k_ ∨ ι k_ ∨ κ k_)∨w.heap.size≤k_)∧some k_≠((.slice ck μ.length cm):Value).ownBlock∧k_ ≠ ε) (.slice a1 γ.length a2) γ)∧Aside0 (Kd.V (Kd.int .i64) 3 w' w.heap.size (fun k_=>((θ k_ ∨ ι k_ ∨ κ k_)∨w.heap.size≤k_)∧some k_≠((.slice ck μ.length cm):Value).ownBlock∧k_ ≠ ε) (.slice a4 δ.length a5) δ)∧Aside0 (w'.heap[ε]?=some (.cells #[nI B,nI J,nI O,.bool Y,.bool Z,(.slice χ X.length ψ),(.slice a1 γ.length a2),(.slice a4 δ.length a5)] 76 (0,0)))∧Aside0 (Below w.heap.size w w'))
    case atStart=>exact⟨(0),rfl,H',⟨Nat.le_refl _⟩,⟨by(with_reducible repeat(first|apply Kd.Mp|apply Kd.Mo|apply Kd.E8));exact ca.out⟩,⟨by(with_reducible repeat first|apply Kd.Q3|apply Kd.Q2|apply Kd.Q8);exact Kd.Q5 ν.out (fun _ hk=>⟨hk.1.1,⟨hk.2,hk.1.2⟩⟩)⟩,⟨by(with_reducible repeat first|apply Kd.Q3|apply Kd.Q2|apply Kd.Q8);exact Kd.Q5 ξ.out (fun _ hk=>⟨hk.1.1,⟨hk.2,hk.1.2⟩⟩)⟩,⟨by(with_reducible repeat first|apply Kd.Q3|apply Kd.Q2|apply Kd.Q8);exact Kd.Q5 ρ.out (fun _ hk=>⟨hk.1.1,⟨hk.2,hk.1.2⟩⟩)⟩,ζ,HB⟩
    case round=>
     clear H'
     try clear a8
     try clear d3
     try clear d4
     try clear ω
     try clear bp
     try clear bu
     try clear bw
     try clear ee
     try clear fi
     try clear d5
     try clear d6
     try clear b9
     try clear ef
     try clear eg
     try clear er
     try clear et
     try clear fj
     obtain⟨η,rfl,HA,b7,ac,ν,ξ,ρ,ζ,HB⟩:=hrel
     cases gk with
     |zero=>exact absurd HA.out (by simp[collect_Check.l0])
     |succ k2=>
      have H:=HA.out
      clear HA
      simp only[collect_Check.l0] at H
      by_cases bd: η < (μ.length:Int)
      ·rw[if_pos bd] at H
       have c20b0:=decide_eq_true bd
       clear bd
       by_cases ak:0 ≤ η
       ·rw[if_pos ak] at H
        have c21b0:=decide_eq_true ak
        clear ak
        by_cases ah: η < (μ.length:Int)
        ·rw[if_pos ah] at H
         have c22b0:=decide_eq_true ah
         clear ah
         obtain⟨bf,fe,H⟩:=qQ H
         by_cases au:bf=true
         ·subst au
          rw[if_pos rfl] at H
          have H':=aK H
          clear H
          have ae:0≤(η :Int):=of_decide_eq_true (by assumption)
          have af: η < (μ.length:Int):=of_decide_eq_true (by assumption)
          obtain⟨fa,b0,b1,bl,am,aa,ab⟩:=Cw (Kd.Kg ac.out).2.2 η ae af
          cases bl
          obtain⟨fb,b2,b5,aj⟩:=Kd.Cx ac.out [] η ae (by first|exact af|exact of_decide_eq_true (by assumption)|(have e_:=(Kd.Kg ac.out).1;omega))
          obtain⟨cj,co,rfl,τ,φ⟩:=Kd.Kx b5
          have σ:=aj 0 _ rfl
          rw[Nat.add_zero,show((Kd.slice 3 (Kd.int .i64))).sz=1 from rfl,Nat.mul_one] at σ
          replace σ:=Option.some.inj (σ.symm.trans am)
          injection σ with hva_ hvn_ hvc_
          rw[hva_] at φ
          rw[hvc_] at τ
          have ct:=aK (show Kd.V (Kd.int .i64) 3 _ w.heap.size _ _ (Jg μ η) from Kd.Gw τ φ)
          clear hva_ hvn_ hvc_ φ τ
          clear aj b2
          have an:=aK ab
          have ar:=aK aa
          clear ab aa
          replace ae:=eq_true ae
          replace af:=eq_true af
          obtain⟨b8,bn,fw,gg,gh,gi,gj,b3,bq,br,fx,h9,ha,he,hh,b4⟩:=qD8 ζ.out
          go_wp2_with (first|((with_reducible refine Qf (f:=50) rfl ?_);refine Q0 (some 53) rfl rfl Try.func50 kr rfl #[.slice b0 (Jg μ η).length b1,nI B] rfl qM ?_;(with_reducible refine(collect_rising.calls k2 _ _ (Jg μ η) B true _ ?side1 ?side2 fe.out).mono ?_);(case side1=>exact an.out);(case side2=>exact ar.out);rintro e w' ⟨rfl,⟨nd,rfl⟩⟩;refine⟨_,rfl, ?_⟩))
          go_roundg k2
          case measure=>have:=fc.out;have:=b7.out;omega
          case rel=>exact⟨(wrap64 (η + 1)),qR,H',⟨by have:=fc.out;have:=b7.out;omega⟩,⟨by(with_reducible repeat(first|apply Kd.Mp|apply Kd.Mo|apply Kd.E8));exact ac.out⟩,⟨by(with_reducible repeat first|apply Kd.Q3|apply Kd.Q2|apply Kd.Q8);exact ν.out⟩,⟨by(with_reducible repeat first|apply Kd.Q3|apply Kd.Q2|apply Kd.Q8);exact ξ.out⟩,⟨by(with_reducible repeat first|apply Kd.Q3|apply Kd.Q2|apply Kd.Q8);exact ρ.out⟩,⟨bka ζ⟩,⟨bel⟩⟩
         ·replace au:=Bool.eq_false_iff.mpr au
          subst au
          rw[if_neg nft] at H
          obtain rfl:=qJ H
          have ae:0≤(η :Int):=of_decide_eq_true (by assumption)
          have af: η < (μ.length:Int):=of_decide_eq_true (by assumption)
          obtain⟨fa,b0,b1,bl,am,aa,ab⟩:=Cw (Kd.Kg ac.out).2.2 η ae af
          cases bl
          obtain⟨fb,b2,b5,aj⟩:=Kd.Cx ac.out [] η ae (by first|exact af|exact of_decide_eq_true (by assumption)|(have e_:=(Kd.Kg ac.out).1;omega))
          obtain⟨cj,co,rfl,τ,φ⟩:=Kd.Kx b5
          have σ:=aj 0 _ rfl
          rw[Nat.add_zero,show((Kd.slice 3 (Kd.int .i64))).sz=1 from rfl,Nat.mul_one] at σ
          replace σ:=Option.some.inj (σ.symm.trans am)
          injection σ with hva_ hvn_ hvc_
          rw[hva_] at φ
          rw[hvc_] at τ
          have ct:=aK (show Kd.V (Kd.int .i64) 3 _ w.heap.size _ _ (Jg μ η) from Kd.Gw τ φ)
          clear hva_ hvn_ hvc_ φ τ
          clear aj b2
          have an:=aK ab
          have ar:=aK aa
          clear ab aa
          replace ae:=eq_true ae
          replace af:=eq_true af
          obtain⟨ay,cu,df,bj,cy,cz,dh,j4,cw,cx,dj,di,ii,ij,ik,j5⟩:=qD8 ζ.out
          go_wp2_with (first|((with_reducible refine Qf (f:=50) rfl ?_);refine Q0 (some 53) rfl rfl Try.func50 kr rfl #[.slice b0 (Jg μ η).length b1,nI B] rfl qM ?_;(with_reducible refine(collect_rising.calls k2 _ _ (Jg μ η) B false _ ?side1 ?side2 fe.out).mono ?_);(case side1=>exact an.out);(case side2=>exact ar.out);rintro e w' ⟨rfl,⟨nd,rfl⟩⟩;refine⟨_,rfl, ?_⟩))
          go_ret
          exact⟨by first|rfl|(simp[Ql,Qk] <;> rfl)|(simp[*,Ql,Qk] <;> rfl),bel⟩
        ·rw[if_neg ah] at H
         exact absurd H (by simp)
       ·rw[if_neg ak] at H
        exact absurd H (by simp)
      ·rw[if_neg bd] at H
       have c20b0:=decide_eq_false bd
       clear bd
       obtain rfl:=qJ H
       go_wp2
       go_ret
       exact⟨rfl,HB.out⟩
mutual
def newelref20_rises.l0:Nat→List Int→Int→Int→Option (Bool)
 |0,_,_,_=>none
 |k+1,B,J,X=>if X<(B.length:Int) then (if 0≤X then (if (rd B X)<0 then (newelref20_rises.j1 k B J X true) else (newelref20_rises.j1 k B J X (decide ((rd B X)≥J)))) else (none)) else (some true)
def newelref20_rises.j1:Nat→List Int→Int→Int→Bool→Option (Bool)
 |0,_,_,_,_=>none
 |k+1,B,J,X,ξ =>if ξ = true then (some false) else (if X>0 then (if 0≤X then (if X<(B.length:Int) then (if 0≤(wrap64 (X-1)) then (if (wrap64 (X-1))<(B.length:Int) then (if (rd B X)≤(rd B (wrap64 (X-1))) then (some false) else (newelref20_rises.l0 k B J (wrap64 (X+1)))) else (none)) else (none)) else (none)) else (none)) else (newelref20_rises.l0 k B J (wrap64 (X+1))))
end
def newelref20_rises.f (k:Nat) (l0:List Int) (Z:Int):Option (Bool):=newelref20_rises.l0 k l0 Z 0
def newelref20_View.f (k:Nat) (B:Int) (O:List Int) (X:List Int) (J:List Int):Option (Bool):=(newelref20_rises.f k O B).bind fun Y=>((newelref20_rises.f k X B).bind fun Z=>((newelref20_rises.f k J B).bind fun γ=>(if Y=true then (if Z=true then (some γ) else (some false)) else (some false))))
end Go.Proofs.Ytmfffemidlhcpaa.C
namespace Go.Proofs.Ytmfffemidlhcpaa.ColPure
open Go.RowKit Go.Proofs.YtmfffemidlhcpaaW.PrintWords Go.Proofs.YtmfffemidlhcpaaW.PrintLast Go.Proofs.YtmfffemidlhcpaaW.PrintMore Go.Proofs.Ytmfffemidlhcpaa.C
theorem Mc (l:List Int) (i:Nat) (h:i<l.length):rd l (i:Int)=l[i]:=by
 simp[rd,h]
theorem up1 {i:Nat} (h:i≤1000000):wrap64 ((i:Int)+1)=((i+1:Nat):Int):=by unfold wrap64;omega
theorem w64 {n:Int} (h: -1000000≤n) (O:n≤1000000):wrap64 n=n:=by unfold wrap64;omega
theorem Gj (l:List Int) (i:Nat) (h:i<l.length):l.drop i=l[i] :: l.drop (i+1):=List.drop_eq_getElem_cons h
def Yz (fl:Int):Int→List Int→Bool
 |_,[]=>true
 |p,x :: xs=>decide (p<x∧x<fl)&&Yz fl x xs
def Yh (l:List Int) (i:Nat):Int:=if i=0 then -1 else rd l ((i-1:Nat):Int)
theorem Kl (l:List Int) (i:Nat) (h:i<l.length):Yh l (i+1)=l[i]:=by
 unfold Yh
 rw[if_neg (by omega),Nat.add_sub_cancel,Mc l i h]
theorem Wh (l:List Int) (fl:Int) (hm:l.length≤1000) (j:Nat):∀ (f i:Nat),i+j=l.length→j<f → -1≤Yh l i→collect_rising.l0 f l fl l (l.length:Int) (i:Int)=some (Yz fl (Yh l i) (l.drop i)):=by
 induction j with
 |zero=>
  intro f i hi hf hp
  obtain⟨f,rfl⟩:∃ m,f=m+1:=⟨f-1,by omega⟩
  rw[collect_rising.l0,if_neg (by omega),List.drop_of_length_le (by omega)]
  rfl
 |succ j ih=>
  intro f i hi hf hp
  obtain⟨f,rfl⟩:∃ m,f=m+1:=⟨f-1,by omega⟩
  have ha:i<l.length:=by omega
  have go:0≤l[i]→collect_rising.l0 f l fl l (l.length:Int) (wrap64 ((i:Int)+1))=some (Yz fl l[i] (l.drop (i+1))):=by
   intro X
   rw[up1 (by omega),ih f (i+1) (by omega) (by omega) (by rw[Kl l i ha];omega),Kl l i ha]
  rw[collect_rising.l0,if_pos (by omega),if_pos (by omega),if_pos (by omega),Mc l i ha,Gj l i ha,Yz]
  by_cases c1:l[i]<0
  ·rw[if_pos c1,decide_eq_false (by omega),Bool.false_and]
  rw[if_neg c1]
  by_cases c2:l[i]≥fl
  ·rw[if_pos c2,decide_eq_false (by omega),Bool.false_and]
  rw[if_neg c2]
  by_cases c3:i=0
  ·have hv:Yh l i = -1:=by unfold Yh;rw[if_pos c3]
   rw[if_neg (by omega),go (by omega),hv,decide_eq_true (by omega),Bool.true_and]
  ·have ew:wrap64 ((i:Int)-1)=((i-1:Nat):Int):=by rw[w64 (by omega) (by omega)];omega
   have hv:Yh l i=rd l ((i-1:Nat):Int):=by unfold Yh;rw[if_neg c3]
   rw[if_pos (by omega),ew,if_pos (by omega),if_pos (by omega),← hv]
   by_cases c4:Yh l i≥l[i]
   ·rw[if_pos c4,decide_eq_false (by omega),Bool.false_and]
   ·rw[if_neg c4,go (by omega),decide_eq_true (by omega),Bool.true_and]
theorem Gq (l:List Int) (fl:Int) (hm:l.length≤1000) (f:Nat) (hf:l.length<f):collect_rising.f f l fl=some (Yz fl (-1) l):=by
 have:=Wh l fl hm l.length f 0 (by omega) hf (by unfold Yh;rw[if_pos rfl];exact Int.le_refl _)
 rw[List.drop_zero] at this
 exact this
structure Few (I U D:List Int):Prop where
 i:I.length≤600
 u:U.length≤600
 d:D.length≤600
variable {I U D : List Int}
def W3 (fl f d:Int) (I U D:List Int):Bool:=Yz fl (-1) I&&Yz fl (-1) U&&Yz fl (-1) D&&decide (2≤fl∧fl≤64∧0≤f∧f<fl ∧ -1≤d∧d≤1)
theorem L2 (h:Few I U D) (fl f d:Int) (su sd:Bool) (k:Nat) (hk:1500≤k):collect_Check.j0 k false fl f d su sd I U D=some (if Yz fl (-1) I&&Yz fl (-1) U&&Yz fl (-1) D then 0 else 200):=by
 have:=h.i;have:=h.u;have:=h.d
 obtain⟨k,rfl⟩:∃ m,k=m+5:=⟨k-5,by omega⟩
 rw[collect_Check.j0,if_neg (by decide),Option.bind_some]
 have e1:wrap64 (0+1)=1:=w64 (by omega) (by omega)
 have Y:wrap64 (1+1)=2:=w64 (by omega) (by omega)
 have e3:wrap64 (2+1)=3:=w64 (by omega) (by omega)
 have el:(([I,U,D]:List (List Int)).length:Int)=3:=rfl
 have r0:Jg [I,U,D] 0=I:=rfl
 have r1:Jg [I,U,D] 1=U:=rfl
 have r2:Jg [I,U,D] 2=D:=rfl
 rw[el]
 rw[collect_Check.l0,if_pos (by decide),if_pos (by decide),el,if_pos (by decide),r0,Gq I fl (by omega) _ (by omega),Option.bind_some]
 cases Yz fl (-1) I
 ·rfl
 rw[if_pos rfl,e1,collect_Check.l0,if_pos (by decide),if_pos (by decide),el,if_pos (by decide),r1,Gq U fl (by omega) _ (by omega),Option.bind_some]
 cases Yz fl (-1) U
 ·rfl
 rw[if_pos rfl,Y,collect_Check.l0,if_pos (by decide),if_pos (by decide),el,if_pos (by decide),r2,Gq D fl (by omega) _ (by omega),Option.bind_some]
 cases Yz fl (-1) D
 ·rfl
 rw[if_pos rfl,e3,collect_Check.l0,if_neg (by decide)]
 rfl
theorem Nv (fl f d:Int) (su sd:Bool) (k:Nat) (hk:1500≤k):collect_Check.j0 k true fl f d su sd I U D=some 200:=by
 obtain⟨k,rfl⟩:∃ m,k=m+1:=⟨k-1,by omega⟩
 rw[collect_Check.j0,if_pos rfl]
theorem Ja (h:Few I U D) (fl f d:Int) (su sd:Bool) (k:Nat) (hk:1500≤k):collect_Check.f k fl f d su sd I U D=some (if W3 fl f d I U D then 0 else 200):=by
 unfold collect_Check.f
 have bad:=Nv (I:=I) (U:=U) (D:=D) fl f d su sd k hk
 by_cases c1:fl<2
 ·rw[if_pos c1,bad]
  unfold W3
  rw[decide_eq_false (by omega),Bool.and_false]
  rfl
 rw[if_neg c1]
 by_cases c2:fl>64
 ·rw[if_pos c2,bad]
  unfold W3
  rw[decide_eq_false (by omega),Bool.and_false]
  rfl
 rw[if_neg c2]
 by_cases c3:f<0
 ·rw[if_pos c3,bad]
  unfold W3
  rw[decide_eq_false (by omega),Bool.and_false]
  rfl
 rw[if_neg c3]
 by_cases c4:f≥fl
 ·rw[if_pos c4,bad]
  unfold W3
  rw[decide_eq_false (by omega),Bool.and_false]
  rfl
 rw[if_neg c4]
 by_cases c5:d < -1
 ·rw[if_pos c5,bad]
  unfold W3
  rw[decide_eq_false (by omega),Bool.and_false]
  rfl
 rw[if_neg c5]
 by_cases c6:d>1
 ·rw[decide_eq_true c6,bad]
  unfold W3
  rw[decide_eq_false (by omega),Bool.and_false]
  rfl
 ·rw[decide_eq_false c6,L2 h fl f d su sd k hk]
  unfold W3
  rw[decide_eq_true (by omega),Bool.and_true]
theorem Lj (l:List Int) (fl:Int) (hm:l.length≤1000) (j:Nat):∀ (f i:Nat),i+j=l.length→2 * j+1<f → -1≤Yh l i→newelref20_rises.l0 f l fl (i:Int)=some (Yz fl (Yh l i) (l.drop i)):=by
 induction j with
 |zero=>
  intro f i hi hf hp
  obtain⟨f,rfl⟩:∃ m,f=m+1:=⟨f-1,by omega⟩
  rw[newelref20_rises.l0,if_neg (by omega),List.drop_of_length_le (by omega)]
  rfl
 |succ j ih=>
  intro f i hi hf hp
  obtain⟨f,rfl⟩:∃ m,f=m+2:=⟨f-2,by omega⟩
  have ha:i<l.length:=by omega
  have go:0≤l[i]→newelref20_rises.l0 f l fl (wrap64 ((i:Int)+1))=some (Yz fl l[i] (l.drop (i+1))):=by
   intro X
   rw[up1 (by omega),ih f (i+1) (by omega) (by omega) (by rw[Kl l i ha];omega),Kl l i ha]
  have bad:newelref20_rises.j1 (f+1) l fl (i:Int) true=some false:=by
   rw[newelref20_rises.j1,if_pos rfl]
  have good:0≤l[i]→l[i]<fl→newelref20_rises.j1 (f+1) l fl (i:Int) false=some (Yz fl (Yh l i) (l.drop i)):=by
   intro X h1
   rw[newelref20_rises.j1,if_neg (by decide),Gj l i ha,Yz]
   by_cases c3:i=0
   ·have hv:Yh l i = -1:=by unfold Yh;rw[if_pos c3]
    rw[if_neg (by omega),go (by omega),hv,decide_eq_true (by omega),Bool.true_and]
   ·have ew:wrap64 ((i:Int)-1)=((i-1:Nat):Int):=by rw[w64 (by omega) (by omega)];omega
    have hv:Yh l i=rd l ((i-1:Nat):Int):=by unfold Yh;rw[if_neg c3]
    rw[if_pos (by omega),if_pos (by omega),if_pos (by omega),ew,if_pos (by omega),if_pos (by omega),← hv,Mc l i ha]
    by_cases c4:l[i]≤Yh l i
    ·rw[if_pos c4,decide_eq_false (by omega),Bool.false_and]
    ·rw[if_neg c4,go (by omega),decide_eq_true (by omega),Bool.true_and]
  rw[newelref20_rises.l0,if_pos (by omega),if_pos (by omega),Mc l i ha]
  by_cases c1:l[i]<0
  ·rw[if_pos c1,bad,Gj l i ha,Yz,decide_eq_false (by omega),Bool.false_and]
  rw[if_neg c1]
  by_cases c2:l[i]≥fl
  ·rw[decide_eq_true c2,bad,Gj l i ha,Yz,decide_eq_false (by omega),Bool.false_and]
  ·rw[decide_eq_false c2,good (by omega) (by omega)]
theorem Vk (l:List Int) (fl:Int) (hm:l.length≤1000) (f:Nat) (hf:2 * l.length+1<f):newelref20_rises.f f l fl=some (Yz fl (-1) l):=by
 have:=Lj l fl hm l.length f 0 (by omega) hf (by unfold Yh;rw[if_pos rfl];exact Int.le_refl _)
 rw[List.drop_zero] at this
 exact this
theorem L6 (h:Few I U D) (fl:Int) (k:Nat) (hk:1500≤k):newelref20_View.f k fl I U D=some (Yz fl (-1) I&&(Yz fl (-1) U&&Yz fl (-1) D)):=by
 have:=h.i;have:=h.u;have:=h.d
 unfold newelref20_View.f
 rw[Vk I fl (by omega) k (by omega),Vk U fl (by omega) k (by omega),Vk D fl (by omega) k (by omega)]
 simp only[Option.bind_some]
 cases Yz fl (-1) I <;> cases Yz fl (-1) U <;> simp
end Go.Proofs.Ytmfffemidlhcpaa.ColPure
namespace Go.Proofs.Ytmfffemidlhcpaa.K
open Go.RowKit Go.Proofs.YtmfffemidlhcpaaW.PrintWords Go.Proofs.YtmfffemidlhcpaaW.PrintLast Go.Proofs.YtmfffemidlhcpaaW.PrintMore
attribute [local go_sem] Z2 Z0 Xb Xa Zt Zs Z1 Zz
def Ew:Option Int→Value
 |none=>.nilIface
 |some c=>.iface 0 (nI c)
theorem Ql:Ew none = .nilIface:=rfl
theorem Qk (c:Int):Ew (some c) = .iface 0 (nI c):=rfl
theorem Kt:(Try.prog.info? 3).map (fun i=>(i.zero,i.size,i.bytes))=some (some (nI 0),1,8):=by kernel_rfl
structure S36 where
 f0:Int
 f1:Int
 f2:Int
def z36:S36:=⟨(0:Int),(0:Int),(0:Int)⟩
def k36:Kd S36:=Kd.iso (Kd.pair (Kd.int .i64) (Kd.pair (Kd.int .i64) (Kd.int .i64))) (fun x:S36=>(x.f0,x.f1,x.f2))
theorem Vq {w:World} {x:S36} {cs:List Value} (h:k36.K w x cs):cs = [nI x.f0,nI x.f1,nI x.f2]:=by
 obtain⟨_,_,rfl,rfl,⟨_,_,rfl,rfl,rfl⟩⟩:=h
 exact rfl
theorem Yt {w:World} {base:Nat} {ok:Nat→Prop} {x:S36} {cs:List Value} (h:k36.M w base ok x cs):cs = [nI x.f0,nI x.f1,nI x.f2]:=by
 obtain⟨_,_,rfl,rfl,⟨_,_,rfl,rfl,rfl⟩⟩:=h
 exact rfl
theorem Jh (w:World) (base:Nat) (ok:Nat→Prop) (x:S36):k36.M w base ok x [nI x.f0,nI x.f1,nI x.f2]:=⟨[nI x.f0],[nI x.f1,nI x.f2],rfl,rfl,⟨[nI x.f1],[nI x.f2],rfl,rfl,rfl⟩⟩
def Qb (xs:List S36) (i:Int):S36:=xs.getD i.toNat z36
theorem Z4 {w:World} {A:Option Addr} {n:Nat} {xs:List S36} (h:Kd.C k36 w A n xs) (i:Int) (X:0≤i) (h1:i<n):∃ ad,A=some ad∧w.cell? (ad.add (i.toNat * 3))=some (nI (Qb xs i).f0)∧w.cell? ⟨(ad.add (i.toNat * 3)).block,(ad.add (i.toNat * 3)).off+1,none⟩=some (nI (Qb xs i).f1)∧w.cell? ⟨(ad.add (i.toNat * 3)).block,(ad.add (i.toNat * 3)).off+2,none⟩=some (nI (Qb xs i).f2):=by
 obtain⟨ad,c,e,_,hK,Y⟩:=Kd.Uf h z36 i X h1
 have hc:∀ j u,c[j]?=some u→w.cell? (ad.add (i.toNat * 3+j))=some u:=Y
 obtain rfl:=Vq hK
 exact⟨ad,e,hc 0 _ rfl,by rw[← Xc _ _ 1 (by omega)];exact hc 1 _ rfl,by rw[← Xc _ _ 2 (by omega)];exact hc 2 _ rfl⟩
structure S86 where
 f0:Int
 f1:Int
def z86:S86:=⟨(0:Int),(0:Int)⟩
def k86:Kd S86:=Kd.iso (Kd.pair (Kd.int .i64) (Kd.int .i64)) (fun x:S86=>(x.f0,x.f1))
theorem Gi {w:World} {x:S86} {cs:List Value} (h:k86.K w x cs):cs = [nI x.f0,nI x.f1]:=by
 obtain⟨_,_,rfl,rfl,rfl⟩:=h
 exact rfl
theorem Kn {w:World} {base:Nat} {ok:Nat→Prop} {x:S86} {cs:List Value} (h:k86.M w base ok x cs):cs = [nI x.f0,nI x.f1]:=by
 obtain⟨_,_,rfl,rfl,rfl⟩:=h
 exact rfl
theorem Eh (w:World) (x:S86):k86.K w x [nI x.f0,nI x.f1]:=⟨[nI x.f0],[nI x.f1],rfl,rfl,rfl⟩
theorem Up (w:World) (base:Nat) (ok:Nat→Prop) (x:S86):k86.M w base ok x [nI x.f0,nI x.f1]:=⟨[nI x.f0],[nI x.f1],rfl,rfl,rfl⟩
def Qp (xs:List S86) (i:Int):S86:=xs.getD i.toNat z86
theorem Xi {w:World} {A:Option Addr} {n:Nat} {xs:List S86} (h:Kd.C k86 w A n xs) (i:Int) (X:0≤i) (h1:i<n):∃ ad,A=some ad∧w.cell? (ad.add (i.toNat * 2))=some (nI (Qp xs i).f0)∧w.cell? ⟨(ad.add (i.toNat * 2)).block,(ad.add (i.toNat * 2)).off+1,none⟩=some (nI (Qp xs i).f1):=by
 obtain⟨ad,c,e,_,hK,Y⟩:=Kd.Uf h z86 i X h1
 have hc:∀ j u,c[j]?=some u→w.cell? (ad.add (i.toNat * 2+j))=some u:=Y
 obtain rfl:=Gi hK
 exact⟨ad,e,hc 0 _ rfl,by rw[← Xc _ _ 1 (by omega)];exact hc 1 _ rfl⟩
def cmp_Or_int.l0:Nat→Int→List Int→Int→Int→Option (Int)
 |0,_,_,_,_=>none
 |k+1,B,O,X,Z=>if Z<X then (if 0≤Z then (if Z<(O.length:Int) then (if (rd O Z)=B then (cmp_Or_int.l0 k B O X (wrap64 (Z+1))) else (some (rd O Z))) else (none)) else (none)) else (some B)
def cmp_Or_int.f (k:Nat) (l0:List Int):Option (Int):=cmp_Or_int.l0 k 0 l0 (l0.length:Int) 0
theorem cmp_Or_int.calls (k:Nat) (A0:Option Addr) (c0:Nat) (l0:List Int) (r:Int) (w:World) (ε :Kd.C (Kd.int .i64) w A0 l0.length l0) (Y:l0.length≤c0) (h:cmp_Or_int.f k l0=some r):
 Calls Try.prog 80 #[.slice A0 l0.length c0] w fun e w'=>e = .returned (nI r)∧Drawn0 w w':=by
 have ν :=aK ε
 have ah:=aK Y
 clear ε Y
 have H:(cmp_Or_int.l0 k 0 l0 (l0.length:Int) 0)=some r:=h
 clear h
 have H':=aK H
 clear H
 go_enter Try.func80,Try.ntmps80
 go_wp2
 go_loopg [8] k (fun kq v8 w'=>∃ (B:Int),v8=nI B∧Aside0 (cmp_Or_int.l0 kq 0 l0 (l0.length:Int) B=some r)∧Aside0 (kq≤k)∧Drawn0 w w')
 case atStart=>exact⟨(0),qR,H',⟨Nat.le_refl _⟩,by repeat(first|exact Drawn0.refl _|apply Drawn0.step)⟩
 case round=>
  clear H'
  obtain⟨B,rfl,HA,af,⟨m1,rfl⟩⟩:=hrel
  cases gk with
  |zero=>exact absurd HA.out (by simp[cmp_Or_int.l0])
  |succ k1=>
   have H:=HA.out
   clear HA
   simp only[cmp_Or_int.l0] at H
   by_cases c2:B<(l0.length:Int)
   ·rw[if_pos c2] at H
    have c2b0:=decide_eq_true c2
    clear c2
    by_cases c3:0≤B
    ·rw[if_pos c3] at H
     have c3b0:=decide_eq_true c3
     clear c3
     by_cases c4:B<(l0.length:Int)
     ·rw[if_pos c4] at H
      have c4b0:=decide_eq_true c4
      clear c4
      by_cases c5:(rd l0 B)=0
      ·rw[if_pos c5] at H
       have c5b0:((rd l0 B)==0)=true:=beq_iff_eq.mpr c5
       have c5b1:((rd l0 B) != 0)=false:=bne_eq_false_iff_eq.mpr c5
       clear c5
       have H':=aK H
       clear H
       have J:0≤(B:Int):=of_decide_eq_true (by first|(with_reducible assumption)|assumption)
       have O:B<(l0.length:Int):=of_decide_eq_true (by first|(with_reducible assumption)|assumption)
       obtain⟨γ,X,Z⟩:=Kd.Jb ν.out B J O
       cases X
       replace J:=eq_true J
       replace O:=eq_true O
       go_wp2
       go_roundg k1
       case measure=>have:=af.out;omega
       case rel=>exact⟨(wrap64 (B+1)),qR,H',⟨by have:=af.out;omega⟩,by repeat(first|exact Drawn0.refl _|apply Drawn0.step)⟩
      ·rw[if_neg c5] at H
       have c5b0:((rd l0 B)==0)=false:=beq_eq_false_iff_ne.mpr c5
       have c5b1:((rd l0 B) != 0)=true:=bne_iff_ne.mpr c5
       obtain rfl:=qJ H
       have J:0≤(B:Int):=of_decide_eq_true (by first|(with_reducible assumption)|assumption)
       have O:B<(l0.length:Int):=of_decide_eq_true (by first|(with_reducible assumption)|assumption)
       obtain⟨γ,X,Z⟩:=Kd.Jb ν.out B J O
       cases X
       replace J:=eq_true J
       replace O:=eq_true O
       go_wp2
       go_ret
       exact⟨qR,by repeat(first|exact Drawn0.refl _|apply Drawn0.step)⟩
     ·rw[if_neg c4] at H
      exact absurd H (by simp)
    ·rw[if_neg c3] at H
     exact absurd H (by simp)
   ·rw[if_neg c2] at H
    have c2b0:=decide_eq_false c2
    clear c2
    obtain rfl:=qJ H
    go_wp2
    go_ret
    exact⟨qR,by repeat(first|exact Drawn0.refl _|apply Drawn0.step)⟩
def cmp_isNaN_int.f (B:Int):Option (Bool):=some (B != B)
theorem cmp_isNaN_int.calls (B:Int) (r:Bool) (w:World) (h:cmp_isNaN_int.f B=some r):
 Calls Try.prog 94 #[nI B] w fun e w'=>e = .returned (.bool r)∧Drawn0 w w':=by
 have H:(some (B != B))=some r:=h
 clear h
 obtain rfl:=qJ H
 go_enter Try.func94,Try.ntmps94
 go_wp2
 go_ret
 exact⟨qR,by repeat(first|exact Drawn0.refl _|apply Drawn0.step)⟩
def cmp_Compare_int.f (B:Int) (Z:Int):Option (Int):=(cmp_isNaN_int.f B).bind fun J=>((cmp_isNaN_int.f Z).bind fun γ=>(if J=true then (if γ=true then (some 0) else (some (-1))) else (if γ=true then (some 1) else (if B<Z then (some (-1)) else (if B>Z then (some 1) else (some 0))))))
theorem cmp_Compare_int.calls (B:Int) (Z:Int) (r:Int) (w:World) (h:cmp_Compare_int.f B Z=some r):
 Calls Try.prog 81 #[nI B,nI Z] w fun e w'=>e = .returned (nI r)∧Drawn0 w w':=by
 have H:((cmp_isNaN_int.f B).bind fun J=>((cmp_isNaN_int.f Z).bind fun γ=>(if J=true then (if γ=true then (some 0) else (some (-1))) else (if γ=true then (some 1) else (if B<Z then (some (-1)) else (if B>Z then (some 1) else (some 0)))))))=some r:=h
 clear h
 obtain⟨J,A3,H⟩:=qQ H
 obtain⟨γ,A4,H⟩:=qQ H
 by_cases c5:J=true
 ·subst c5
  rw[if_pos rfl] at H
  by_cases c6:γ=true
  ·subst c6
   rw[if_pos rfl] at H
   obtain rfl:=qJ H
   go_enter Try.func81,Try.ntmps81
   go_wp2_with (first|((with_reducible refine Qf (f:=94) rfl ?_);refine Q0 (some 8) rfl rfl Try.func94 kr rfl #[nI B] rfl (by(try simp only[List.map_toArray,List.map_cons,List.map_nil]);first|done|rfl|(simp only[List.length_drop,List.length_take];rfl)) ?_;(with_reducible refine(cmp_isNaN_int.calls B true _ A3.out).mono ?_);rintro e w' ⟨rfl,⟨nd,rfl⟩⟩;refine⟨_,rfl, ?_⟩)|((with_reducible refine Qf (f:=94) rfl ?_);refine Q0 (some 10) rfl rfl Try.func94 kr rfl #[nI Z] rfl (by(try simp only[List.map_toArray,List.map_cons,List.map_nil]);first|done|rfl|(simp only[List.length_drop,List.length_take];rfl)) ?_;(with_reducible refine(cmp_isNaN_int.calls Z true _ A4.out).mono ?_);rintro e w' ⟨rfl,⟨nd,rfl⟩⟩;refine⟨_,rfl, ?_⟩))
   go_ret
   exact⟨qR,by repeat(first|exact Drawn0.refl _|apply Drawn0.step)⟩
  ·replace c6:=Bool.eq_false_iff.mpr c6
   subst c6
   rw[if_neg nft] at H
   obtain rfl:=qJ H
   go_enter Try.func81,Try.ntmps81
   go_wp2_with (first|((with_reducible refine Qf (f:=94) rfl ?_);refine Q0 (some 8) rfl rfl Try.func94 kr rfl #[nI B] rfl (by(try simp only[List.map_toArray,List.map_cons,List.map_nil]);first|done|rfl|(simp only[List.length_drop,List.length_take];rfl)) ?_;(with_reducible refine(cmp_isNaN_int.calls B true _ A3.out).mono ?_);rintro e w' ⟨rfl,⟨nd,rfl⟩⟩;refine⟨_,rfl, ?_⟩)|((with_reducible refine Qf (f:=94) rfl ?_);refine Q0 (some 10) rfl rfl Try.func94 kr rfl #[nI Z] rfl (by(try simp only[List.map_toArray,List.map_cons,List.map_nil]);first|done|rfl|(simp only[List.length_drop,List.length_take];rfl)) ?_;(with_reducible refine(cmp_isNaN_int.calls Z false _ A4.out).mono ?_);rintro e w' ⟨rfl,⟨nd,rfl⟩⟩;refine⟨_,rfl, ?_⟩))
   go_ret
   exact⟨qR,by repeat(first|exact Drawn0.refl _|apply Drawn0.step)⟩
 ·replace c5:=Bool.eq_false_iff.mpr c5
  subst c5
  rw[if_neg nft] at H
  by_cases c7:γ=true
  ·subst c7
   rw[if_pos rfl] at H
   obtain rfl:=qJ H
   go_enter Try.func81,Try.ntmps81
   go_wp2_with (first|((with_reducible refine Qf (f:=94) rfl ?_);refine Q0 (some 8) rfl rfl Try.func94 kr rfl #[nI B] rfl (by(try simp only[List.map_toArray,List.map_cons,List.map_nil]);first|done|rfl|(simp only[List.length_drop,List.length_take];rfl)) ?_;(with_reducible refine(cmp_isNaN_int.calls B false _ A3.out).mono ?_);rintro e w' ⟨rfl,⟨nd,rfl⟩⟩;refine⟨_,rfl, ?_⟩)|((with_reducible refine Qf (f:=94) rfl ?_);refine Q0 (some 10) rfl rfl Try.func94 kr rfl #[nI Z] rfl (by(try simp only[List.map_toArray,List.map_cons,List.map_nil]);first|done|rfl|(simp only[List.length_drop,List.length_take];rfl)) ?_;(with_reducible refine(cmp_isNaN_int.calls Z true _ A4.out).mono ?_);rintro e w' ⟨rfl,⟨nd,rfl⟩⟩;refine⟨_,rfl, ?_⟩))
   go_ret
   exact⟨qR,by repeat(first|exact Drawn0.refl _|apply Drawn0.step)⟩
  ·replace c7:=Bool.eq_false_iff.mpr c7
   subst c7
   rw[if_neg nft] at H
   by_cases c8:B<Z
   ·rw[if_pos c8] at H
    have c8b0:=decide_eq_true c8
    clear c8
    obtain rfl:=qJ H
    go_enter Try.func81,Try.ntmps81
    go_wp2_with (first|((with_reducible refine Qf (f:=94) rfl ?_);refine Q0 (some 8) rfl rfl Try.func94 kr rfl #[nI B] rfl (by(try simp only[List.map_toArray,List.map_cons,List.map_nil]);first|done|rfl|(simp only[List.length_drop,List.length_take];rfl)) ?_;(with_reducible refine(cmp_isNaN_int.calls B false _ A3.out).mono ?_);rintro e w' ⟨rfl,⟨nd,rfl⟩⟩;refine⟨_,rfl, ?_⟩)|((with_reducible refine Qf (f:=94) rfl ?_);refine Q0 (some 10) rfl rfl Try.func94 kr rfl #[nI Z] rfl (by(try simp only[List.map_toArray,List.map_cons,List.map_nil]);first|done|rfl|(simp only[List.length_drop,List.length_take];rfl)) ?_;(with_reducible refine(cmp_isNaN_int.calls Z false _ A4.out).mono ?_);rintro e w' ⟨rfl,⟨nd,rfl⟩⟩;refine⟨_,rfl, ?_⟩))
    go_ret
    exact⟨qR,by repeat(first|exact Drawn0.refl _|apply Drawn0.step)⟩
   ·rw[if_neg c8] at H
    have c8b0:=decide_eq_false c8
    clear c8
    by_cases c9:B>Z
    ·rw[if_pos c9] at H
     have c9b0:decide (Z<B)=true:=decide_eq_true c9
     clear c9
     obtain rfl:=qJ H
     go_enter Try.func81,Try.ntmps81
     go_wp2_with (first|((with_reducible refine Qf (f:=94) rfl ?_);refine Q0 (some 8) rfl rfl Try.func94 kr rfl #[nI B] rfl (by(try simp only[List.map_toArray,List.map_cons,List.map_nil]);first|done|rfl|(simp only[List.length_drop,List.length_take];rfl)) ?_;(with_reducible refine(cmp_isNaN_int.calls B false _ A3.out).mono ?_);rintro e w' ⟨rfl,⟨nd,rfl⟩⟩;refine⟨_,rfl, ?_⟩)|((with_reducible refine Qf (f:=94) rfl ?_);refine Q0 (some 10) rfl rfl Try.func94 kr rfl #[nI Z] rfl (by(try simp only[List.map_toArray,List.map_cons,List.map_nil]);first|done|rfl|(simp only[List.length_drop,List.length_take];rfl)) ?_;(with_reducible refine(cmp_isNaN_int.calls Z false _ A4.out).mono ?_);rintro e w' ⟨rfl,⟨nd,rfl⟩⟩;refine⟨_,rfl, ?_⟩))
     go_ret
     exact⟨qR,by repeat(first|exact Drawn0.refl _|apply Drawn0.step)⟩
    ·rw[if_neg c9] at H
     have c9b0:decide (Z<B)=false:=decide_eq_false c9
     clear c9
     obtain rfl:=qJ H
     go_enter Try.func81,Try.ntmps81
     go_wp2_with (first|((with_reducible refine Qf (f:=94) rfl ?_);refine Q0 (some 8) rfl rfl Try.func94 kr rfl #[nI B] rfl (by(try simp only[List.map_toArray,List.map_cons,List.map_nil]);first|done|rfl|(simp only[List.length_drop,List.length_take];rfl)) ?_;(with_reducible refine(cmp_isNaN_int.calls B false _ A3.out).mono ?_);rintro e w' ⟨rfl,⟨nd,rfl⟩⟩;refine⟨_,rfl, ?_⟩)|((with_reducible refine Qf (f:=94) rfl ?_);refine Q0 (some 10) rfl rfl Try.func94 kr rfl #[nI Z] rfl (by(try simp only[List.map_toArray,List.map_cons,List.map_nil]);first|done|rfl|(simp only[List.length_drop,List.length_take];rfl)) ?_;(with_reducible refine(cmp_isNaN_int.calls Z false _ A4.out).mono ?_);rintro e w' ⟨rfl,⟨nd,rfl⟩⟩;refine⟨_,rfl, ?_⟩))
     go_ret
     exact⟨qR,by repeat(first|exact Drawn0.refl _|apply Drawn0.step)⟩
def call_halls_1.f (k:Nat) (B:Int) (J:Int) (O:Int) (X:Int) (ζ :Int) (ι :Int):Option (Int):=(cmp_Compare_int.f B X).bind fun θ =>((cmp_Compare_int.f J ζ).bind fun ξ =>((cmp_Or_int.f k (([θ,ξ]:List Int))).bind fun Y=>(some Y)))
def call_halls_1.T1:Bool×List (List Nat×List Nat):=(true,[([],[]),([0],[0]),([],[]),([2],[2]),([1,3],[1,3]),([],[]),([5],[5]),([],[]),([7],[7]),([6,8,4],[6,8]),([4,9],[4,9]),([10,9],[10]),([11,11,0,1,2,3,4,5,6,7,8,9,10,11],[11])])
def call_halls_1.B1:List Nat:=[0,1,0,4,15,0,32,0,128,511,1023,2047,4095]
theorem call_halls_1.K7:rtab .any (opsOf Try.f79 1)=call_halls_1.T1:=by kernel_rfl
theorem call_halls_1.Ji:Zq call_halls_1.T1.2 call_halls_1.B1=true:=by kernel_rfl
theorem call_halls_1.calls (k:Nat) (B:Int) (J:Int) (O:Int) (X:Int) (ζ :Int) (ι :Int) (r:Int) (w:World) (h:call_halls_1.f k B J O X ζ ι = some r):
 Calls Try.prog 79 #[.agg #[nI B,nI J,nI O],.agg #[nI X,nI ζ,nI ι]] w fun e w'=>e = .returned (nI r)∧Below w.heap.size w w':=by
 have cg:=Try.underlying36
 have HB:=aK (Below.refl w.heap.size w)
 have H:((cmp_Compare_int.f B X).bind fun θ =>((cmp_Compare_int.f J ζ).bind fun ξ =>((cmp_Or_int.f k (([θ,ξ]:List Int))).bind fun Y=>(some Y))))=some r:=h
 clear h
 obtain⟨θ,A3,H⟩:=qQ H
 obtain⟨ξ,A4,H⟩:=qQ H
 obtain⟨κ,η⟩:∃ y_:List Int,y_=(([θ,ξ]:List Int)):=⟨_,rfl⟩
 replace H:((cmp_Or_int.f k κ).bind fun Y=>(some Y))=some r:=by first|(rw[η];with_reducible exact H)|(have ag:=(Option.bind_some _ _).symm.trans H;rw[η];with_reducible exact ag)|(have ag:=(Option.bind_some _ _).symm.trans H;with_reducible exact ag)|with_reducible exact H|(rw[η];exact H)|exact H
 have a2:=aK η
 clear η
 obtain⟨Y,A5,H⟩:=qQ H
 obtain rfl:=qJ H
 go_enter Try.func79,Try.ntmps79
 try go_wp2_with (first|((with_reducible refine Qe (N:=2) rfl ?_);refine Zj ?hg (N:=2) ?hd (cs:=#[nI B,nI J,nI O]) (t:=36) ?hr ?_;(case hd=>rfl);(case hg=>rfl);(case hr=>first|(go_simp;done)|(go_simp;rfl));intro ν hg w6 hbox hb;have φ :=aK (Q6 (by repeat(first|(with_reducible first|exact HB.out|apply Qq|apply Qn|apply Qj)|exact HB.out)) hb);have χ :=aK (hbox);have ω :=aK ((by rw[hg];exact(Qm (by repeat(first|(with_reducible first|exact HB.out|apply Qq|apply Qn|apply Qj)|exact HB.out))):w.heap.size ≤ ν));have a6:=aK ((by rw[hg];exact(Qm (by repeat(first|(with_reducible first|exact HB.out|apply Qq|apply Qn|apply Qj)|exact HB.out))):w.heap.size ≤ ν));clear HB;have HB:= φ;have γ:= χ;have bk:= ω;have aj:=a6;clear φ χ ω a6;clear hb hbox hg)|((with_reducible refine Qe (N:=3) rfl ?_);refine Zj ?hg (N:=3) ?hd (cs:=#[nI X,nI ζ,nI ι]) (t:=36) ?hr ?_;(case hd=>rfl);(case hg=>rfl);(case hr=>first|(go_simp;done)|(go_simp;rfl));intro σ hg w7 hbox hb;have φ :=aK (Q1 (g:= ν) (o:=.cells #[nI B,nI J,nI O] 36 (0,0)) (by(with_reducible repeat first|refine Qi ?_ _|refine Qd ?_|refine Qh ?_ _);exact γ.out) hb);have χ :=aK (Q6 (by repeat(first|(with_reducible first|exact HB.out|apply Qq|apply Qn|apply Qj|refine Qz ?_ aj.out)|exact HB.out)) hb);have ω :=aK (hbox);have a6:=aK ((by rw[hg];exact(Qm (by repeat(first|(with_reducible first|exact HB.out|apply Qq|apply Qn|apply Qj|refine Qz ?_ aj.out)|exact HB.out))):w.heap.size≤σ));have ah:=aK ((by rw[hg];exact(Qm (by repeat(first|(with_reducible first|exact HB.out|apply Qq|apply Qn|apply Qj|refine Qz ?_ aj.out)|exact HB.out))):w.heap.size≤σ));have az:=aK ((by rw[hg];exact Nat.ne_of_lt (Xl (g:= ν) (o:=.cells #[nI B,nI J,nI O] 36 (0,0)) (by(with_reducible repeat first|refine Qi ?_ _|refine Qd ?_|refine Qh ?_ _);exact γ.out)): ν ≠ σ));have b1:=aK ((by rw[hg];exact Nat.ne_of_gt (Xl (g:= ν) (o:=.cells #[nI B,nI J,nI O] 36 (0,0)) (by(with_reducible repeat first|refine Qi ?_ _|refine Qd ?_|refine Qh ?_ _);exact γ.out)):σ ≠ ν));clear γ;clear HB;have γ:= φ;have HB:= χ;have ε := ω;have bi:=a6;have b7:=ah;have ρ:=az;have ψ :=b1;clear φ χ ω a6 ah az b1;clear hb hbox hg))
 have φ :=aK (Qd γ.out)
 have χ :=aK (Qd ε.out)
 have ω :=aK (Qj HB.out)
 clear γ
 clear ε
 clear HB
 have γ:= φ
 have ε := χ
 have HB:= ω
 clear φ χ ω
 refine Zg (n:=13) (S:=fun w'=>cI w' ν 0 B∧cI w' ν 1 J∧cI w' ν 2 O∧cI w' σ 0 X∧cI w' σ 1 ζ ∧ cI w' σ 2 ι) (ds:=[]) #[false,false,false,false,false,false,false,false,false,false,false,false,false] kr rfl rfl ⟨(Qa γ.out 0).trans rfl,(Qa γ.out 1).trans rfl,(Qa γ.out 2).trans rfl,(Qa ε.out 0).trans rfl,(Qa ε.out 1).trans rfl,(Qa ε.out 2).trans rfl⟩ (fun hHeld=>?_);refine Zb call_halls_1.K7 call_halls_1.Ji (fun HT_ HW_=>?_)
 generalize w7.drew=w8 at γ ε HB hHeld ⊢
 refine qP 0 (some 5) (qB 13 1) HT_ ?_
 refine qP 2 (some 7) (qB 13 5) HT_ ?_
 refine qP 5 (some 10) (qB 13 37) HT_ ?_
 refine qP 7 (some 12) (qB 13 165) HT_ ?_
 refine qT 1 (some 6) (qB 13 167) HT_ HW_ hHeld ?_
 refine qT 3 (some 8) (qB 13 175) HT_ HW_ hHeld ?_
 refine qT 6 (some 11) (qB 13 239) HT_ HW_ hHeld ?_
 refine qT 8 (some 13) (qB 13 495) HT_ HW_ hHeld ?_
 refine qK 4 (some 9) (qB 13 511) HT_ fun K hK=>?_
 refine Zd Try.func81 kr rfl #[nI B,nI X] (by rfl) rfl rfl (by(try simp only[List.map_toArray,List.map_cons,List.map_nil]);first|done|rfl|(simp only[List.length_drop,List.length_take];rfl)) ?_
 with_reducible refine(cmp_Compare_int.calls B X θ _ A3.out).mono ?_
 rintro e w' ⟨rfl,⟨nd,rfl⟩⟩
 refine⟨_,rfl, ?_⟩
 refine hK.out _ _ ⟨qc γ,qc γ,qc γ,qc ε,qc ε,qc ε⟩ (fun hHeld=>?_)
 clear hK K
 refine qN (some 9) ?_
 refine qK 9 (some 14) (qB 13 1023) HT_ fun K hK=>?_
 refine Zd Try.func81 kr rfl #[nI J,nI ζ] (by rfl) rfl rfl (by(try simp only[List.map_toArray,List.map_cons,List.map_nil]);first|done|rfl|(simp only[List.length_drop,List.length_take];rfl)) ?_
 with_reducible refine(cmp_Compare_int.calls J ζ ξ _ A4.out).mono ?_
 rintro e w' ⟨rfl,⟨nd,rfl⟩⟩
 refine⟨_,rfl, ?_⟩
 refine hK.out _ _ ⟨qc γ,qc γ,qc γ,qc ε,qc ε,qc ε⟩ (fun hHeld=>?_)
 clear hK K
 refine qN (some 14) ?_
 refine qK 10 (some 15) (qB 13 2047) HT_ fun K hK=>?_
 refine Kd.Z7 (Kd.int .i64) _ 3 ?hg (N:=15) ?hd (xs:=([θ,ξ]:List Int)) (inner:=[nI θ,nI ξ]) (ok:=fun _=>True) (okp:=fun _=>True) ?hr ?hp (fun _ hk=>hk) trivial (Below.refl _ _) (Nat.le_refl _) (by simp) ?_;(case hd=>rfl);(case hg=>rfl);(case hr=>first|(go_simp;done)|(go_simp;rfl));(case hp=>exact(Reps.one (show Kd.M (Kd.int .i64) _ _ _ θ [nI θ] from rfl) (Reps.one (show Kd.M (Kd.int .i64) _ _ _ ξ [nI ξ] from rfl) (Reps.none _ _))))
 intro τ w9 Z hb hg_ hnew_
 clear hg_ hnew_
 (first|rw[← a2.out] at Z|(simp only[Int.reduceToNat] at Z;rw[← a2.out] at Z))
 have φ :=aK (Kd.Za Z (Qm (by repeat(first|(with_reducible first|exact HB.out|apply Qq|apply Qn|apply Qj|refine Qz ?_ aj.out|refine Qz ?_ b7.out)|exact HB.out))))
 have χ :=aK (Q1 (g:= ν) (o:=.cells #[nI B,nI J,nI O] 36 (0,0)) (by(with_reducible repeat first|refine Qi ?_ _|refine Qd ?_|refine Qh ?_ _);exact γ.out) hb)
 have ω :=aK (Q1 (g:=σ) (o:=.cells #[nI X,nI ζ,nI ι] 36 (0,0)) (by(with_reducible repeat first|refine Qi ?_ _|refine Qd ?_|refine Qh ?_ _);exact ε.out) hb)
 have a6:=aK (Q6 (by repeat(first|(with_reducible first|exact HB.out|apply Qq|apply Qn|apply Qj|refine Qz ?_ aj.out|refine Qz ?_ b7.out)|exact HB.out)) hb)
 clear γ
 clear ε
 clear HB
 have δ := φ
 have γ:= χ
 have ε := ω
 have HB:=a6
 clear φ χ ω a6
 clear hb Z
 obtain⟨a1,a3,μ⟩:=Kd.Q7 δ.out
 (first|subst μ |(injection μ with a9 ao aa;have ap:=a9.symm;have ar:=aa.symm;clear a9 ao aa;subst ap;subst ar))
 refine hK.out _ _ ⟨qc γ,qc γ,qc γ,qc ε,qc ε,qc ε⟩ (fun hHeld=>?_)
 clear hK K
 refine qN (some 15) ?_
 refine qK 11 (some 16) (qB 13 4095) HT_ fun K hK=>?_
 refine Zd Try.func80 kr rfl #[.slice a1 κ.length a3] (by rfl) rfl rfl (by(try simp only[List.map_toArray,List.map_cons,List.map_nil]);first|done|rfl|(simp only[List.length_drop,List.length_take];rfl)) ?_
 with_reducible refine(cmp_Or_int.calls k _ _ κ Y _ ?side1 ?side2 A5.out).mono ?_
 (case side1=>repeat(first|exact(Kd.Qt δ.out).2.2|(with_reducible refine Kd.Jn ?_ _)|(with_reducible refine Kd.Jm ?_ _)|(with_reducible refine Kd.Ki ?_)))
 (case side2=>exact(Kd.Qt δ.out).2.1)
 rintro e w' ⟨rfl,⟨nd,rfl⟩⟩
 refine⟨_,rfl, ?_⟩
 refine hK.out _ _ ⟨qc γ,qc γ,qc γ,qc ε,qc ε,qc ε⟩ (fun hHeld=>?_)
 clear hK K
 refine qN (some 16) ?_
 refine qP 12 (some 4) (qB 13 8191) HT_ ?_
 refine Zl (Ze HT_.out kr) ?_
 try go_wp2
 go_ret
 exact⟨by first|rfl|(simp[Ql,Qk] <;> rfl)|(simp[*,Ql,Qk] <;> rfl),by repeat(first|(with_reducible first|exact HB.out|apply Qq|apply Qn|apply Qj|refine Qz ?_ aj.out|refine Qz ?_ b7.out)|exact HB.out)⟩
def call_ins_1.f (k:Nat) (B:Int) (J:Int) (X:Int) (ζ :Int):Option (Int):=(cmp_Compare_int.f B X).bind fun ε =>((cmp_Compare_int.f J ζ).bind fun δ =>((cmp_Or_int.f k (([ε,δ]:List Int))).bind fun ν =>(some ν)))
def call_ins_1.T1:Bool×List (List Nat×List Nat):=(true,[([],[]),([0],[0]),([],[]),([2],[2]),([1,3],[1,3]),([],[]),([5],[5]),([],[]),([7],[7]),([6,8,4],[6,8]),([4,9],[4,9]),([10,9],[10]),([11,11,0,1,2,3,4,5,6,7,8,9,10,11],[11])])
def call_ins_1.B1:List Nat:=[0,1,0,4,15,0,32,0,128,511,1023,2047,4095]
theorem call_ins_1.K7:rtab .any (opsOf Try.f83 1)=call_ins_1.T1:=by kernel_rfl
theorem call_ins_1.Ji:Zq call_ins_1.T1.2 call_ins_1.B1=true:=by kernel_rfl
theorem call_ins_1.calls (k:Nat) (B:Int) (J:Int) (X:Int) (ζ :Int) (r:Int) (w:World) (h:call_ins_1.f k B J X ζ = some r):
 Calls Try.prog 83 #[.agg #[nI B,nI J],.agg #[nI X,nI ζ]] w fun e w'=>e = .returned (nI r)∧Below w.heap.size w w':=by
 have d8:=Try.underlying86
 have HB:=aK (Below.refl w.heap.size w)
 have H:((cmp_Compare_int.f B X).bind fun ε =>((cmp_Compare_int.f J ζ).bind fun δ =>((cmp_Or_int.f k (([ε,δ]:List Int))).bind fun ν =>(some ν))))=some r:=h
 clear h
 obtain⟨ε,A3,H⟩:=qQ H
 obtain⟨δ,A4,H⟩:=qQ H
 obtain⟨η,κ⟩:∃ y_:List Int,y_=(([ε,δ]:List Int)):=⟨_,rfl⟩
 replace H:((cmp_Or_int.f k η).bind fun ν =>(some ν))=some r:=by first|(rw[κ];with_reducible exact H)|(have ag:=(Option.bind_some _ _).symm.trans H;rw[κ];with_reducible exact ag)|(have ag:=(Option.bind_some _ _).symm.trans H;with_reducible exact ag)|with_reducible exact H|(rw[κ];exact H)|exact H
 have ψ :=aK κ
 clear κ
 obtain⟨ν,A5,H⟩:=qQ H
 obtain rfl:=qJ H
 go_enter Try.func83,Try.ntmps83
 try go_wp2_with (first|((with_reducible refine Qe (N:=2) rfl ?_);refine Zj ?hg (N:=2) ?hd (cs:=#[nI B,nI J]) (t:=86) ?hr ?_;(case hd=>rfl);(case hg=>rfl);(case hr=>first|(go_simp;done)|(go_simp;rfl));intro Y hg w6 hbox hb;have φ :=aK (Q6 (by repeat(first|(with_reducible first|exact HB.out|apply Qq|apply Qn|apply Qj)|exact HB.out)) hb);have χ :=aK (hbox);have ω :=aK ((by rw[hg];exact(Qm (by repeat(first|(with_reducible first|exact HB.out|apply Qq|apply Qn|apply Qj)|exact HB.out))):w.heap.size≤Y));have a6:=aK ((by rw[hg];exact(Qm (by repeat(first|(with_reducible first|exact HB.out|apply Qq|apply Qn|apply Qj)|exact HB.out))):w.heap.size≤Y));clear HB;have HB:= φ;have O:= χ;have am:= ω;have θ :=a6;clear φ χ ω a6;clear hb hbox hg)|((with_reducible refine Qe (N:=3) rfl ?_);refine Zj ?hg (N:=3) ?hd (cs:=#[nI X,nI ζ]) (t:=86) ?hr ?_;(case hd=>rfl);(case hg=>rfl);(case hr=>first|(go_simp;done)|(go_simp;rfl));intro ι hg w7 hbox hb;have φ :=aK (Q1 (g:=Y) (o:=.cells #[nI B,nI J] 86 (0,0)) (by(with_reducible repeat first|refine Qi ?_ _|refine Qd ?_|refine Qh ?_ _);exact O.out) hb);have χ :=aK (Q6 (by repeat(first|(with_reducible first|exact HB.out|apply Qq|apply Qn|apply Qj|refine Qz ?_ θ.out)|exact HB.out)) hb);have ω :=aK (hbox);have a6:=aK ((by rw[hg];exact(Qm (by repeat(first|(with_reducible first|exact HB.out|apply Qq|apply Qn|apply Qj|refine Qz ?_ θ.out)|exact HB.out))):w.heap.size ≤ ι));have ah:=aK ((by rw[hg];exact(Qm (by repeat(first|(with_reducible first|exact HB.out|apply Qq|apply Qn|apply Qj|refine Qz ?_ θ.out)|exact HB.out))):w.heap.size ≤ ι));have az:=aK ((by rw[hg];exact Nat.ne_of_lt (Xl (g:=Y) (o:=.cells #[nI B,nI J] 86 (0,0)) (by(with_reducible repeat first|refine Qi ?_ _|refine Qd ?_|refine Qh ?_ _);exact O.out)):Y ≠ ι));have b1:=aK ((by rw[hg];exact Nat.ne_of_gt (Xl (g:=Y) (o:=.cells #[nI B,nI J] 86 (0,0)) (by(with_reducible repeat first|refine Qi ?_ _|refine Qd ?_|refine Qh ?_ _);exact O.out)): ι ≠ Y));clear O;clear HB;have O:= φ;have HB:= χ;have γ:= ω;have a0:=a6;have ξ :=ah;have ρ:=az;have σ:=b1;clear φ χ ω a6 ah az b1;clear hb hbox hg))
 have φ :=aK (Qd O.out)
 have χ :=aK (Qd γ.out)
 have ω :=aK (Qj HB.out)
 clear O
 clear γ
 clear HB
 have O:= φ
 have γ:= χ
 have HB:= ω
 clear φ χ ω
 refine Zg (n:=13) (S:=fun w'=>cI w' Y 0 B∧cI w' Y 1 J∧cI w' ι 0 X∧cI w' ι 1 ζ) (ds:=[]) #[false,false,false,false,false,false,false,false,false,false,false,false,false] kr rfl rfl ⟨(Qa O.out 0).trans rfl,(Qa O.out 1).trans rfl,(Qa γ.out 0).trans rfl,(Qa γ.out 1).trans rfl⟩ (fun hHeld=>?_);refine Zb call_ins_1.K7 call_ins_1.Ji (fun HT_ HW_=>?_)
 generalize w7.drew=w8 at O γ HB hHeld ⊢
 refine qP 0 (some 5) (qB 13 1) HT_ ?_
 refine qP 2 (some 7) (qB 13 5) HT_ ?_
 refine qP 5 (some 10) (qB 13 37) HT_ ?_
 refine qP 7 (some 12) (qB 13 165) HT_ ?_
 refine qT 1 (some 6) (qB 13 167) HT_ HW_ hHeld ?_
 refine qT 3 (some 8) (qB 13 175) HT_ HW_ hHeld ?_
 refine qT 6 (some 11) (qB 13 239) HT_ HW_ hHeld ?_
 refine qT 8 (some 13) (qB 13 495) HT_ HW_ hHeld ?_
 refine qK 4 (some 9) (qB 13 511) HT_ fun K hK=>?_
 refine Zd Try.func81 kr rfl #[nI B,nI X] (by rfl) rfl rfl (by(try simp only[List.map_toArray,List.map_cons,List.map_nil]);first|done|rfl|(simp only[List.length_drop,List.length_take];rfl)) ?_
 with_reducible refine(cmp_Compare_int.calls B X ε _ A3.out).mono ?_
 rintro e w' ⟨rfl,⟨nd,rfl⟩⟩
 refine⟨_,rfl, ?_⟩
 refine hK.out _ _ ⟨qc O,qc O,qc γ,qc γ⟩ (fun hHeld=>?_)
 clear hK K
 refine qN (some 9) ?_
 refine qK 9 (some 14) (qB 13 1023) HT_ fun K hK=>?_
 refine Zd Try.func81 kr rfl #[nI J,nI ζ] (by rfl) rfl rfl (by(try simp only[List.map_toArray,List.map_cons,List.map_nil]);first|done|rfl|(simp only[List.length_drop,List.length_take];rfl)) ?_
 with_reducible refine(cmp_Compare_int.calls J ζ δ _ A4.out).mono ?_
 rintro e w' ⟨rfl,⟨nd,rfl⟩⟩
 refine⟨_,rfl, ?_⟩
 refine hK.out _ _ ⟨qc O,qc O,qc γ,qc γ⟩ (fun hHeld=>?_)
 clear hK K
 refine qN (some 14) ?_
 refine qK 10 (some 15) (qB 13 2047) HT_ fun K hK=>?_
 refine Kd.Z7 (Kd.int .i64) _ 3 ?hg (N:=15) ?hd (xs:=([ε,δ]:List Int)) (inner:=[nI ε,nI δ]) (ok:=fun _=>True) (okp:=fun _=>True) ?hr ?hp (fun _ hk=>hk) trivial (Below.refl _ _) (Nat.le_refl _) (by simp) ?_;(case hd=>rfl);(case hg=>rfl);(case hr=>first|(go_simp;done)|(go_simp;rfl));(case hp=>exact(Reps.one (show Kd.M (Kd.int .i64) _ _ _ ε [nI ε] from rfl) (Reps.one (show Kd.M (Kd.int .i64) _ _ _ δ [nI δ] from rfl) (Reps.none _ _))))
 intro aj w9 Z hb hg_ hnew_
 clear hg_ hnew_
 (first|rw[← ψ.out] at Z|(simp only[Int.reduceToNat] at Z;rw[← ψ.out] at Z))
 have φ :=aK (Kd.Za Z (Qm (by repeat(first|(with_reducible first|exact HB.out|apply Qq|apply Qn|apply Qj|refine Qz ?_ θ.out|refine Qz ?_ ξ.out)|exact HB.out))))
 have χ :=aK (Q1 (g:=Y) (o:=.cells #[nI B,nI J] 86 (0,0)) (by(with_reducible repeat first|refine Qi ?_ _|refine Qd ?_|refine Qh ?_ _);exact O.out) hb)
 have ω :=aK (Q1 (g:= ι) (o:=.cells #[nI X,nI ζ] 86 (0,0)) (by(with_reducible repeat first|refine Qi ?_ _|refine Qd ?_|refine Qh ?_ _);exact γ.out) hb)
 have a6:=aK (Q6 (by repeat(first|(with_reducible first|exact HB.out|apply Qq|apply Qn|apply Qj|refine Qz ?_ θ.out|refine Qz ?_ ξ.out)|exact HB.out)) hb)
 clear O
 clear γ
 clear HB
 have τ := φ
 have O:= χ
 have γ:= ω
 have HB:=a6
 clear φ χ ω a6
 clear hb Z
 obtain⟨a1,a3,μ⟩:=Kd.Q7 τ.out
 (first|subst μ |(injection μ with a9 ao aa;have ap:=a9.symm;have ar:=aa.symm;clear a9 ao aa;subst ap;subst ar))
 refine hK.out _ _ ⟨qc O,qc O,qc γ,qc γ⟩ (fun hHeld=>?_)
 clear hK K
 refine qN (some 15) ?_
 refine qK 11 (some 16) (qB 13 4095) HT_ fun K hK=>?_
 refine Zd Try.func80 kr rfl #[.slice a1 η.length a3] (by rfl) rfl rfl (by(try simp only[List.map_toArray,List.map_cons,List.map_nil]);first|done|rfl|(simp only[List.length_drop,List.length_take];rfl)) ?_
 with_reducible refine(cmp_Or_int.calls k _ _ η ν _ ?side1 ?side2 A5.out).mono ?_
 (case side1=>repeat(first|exact(Kd.Qt τ.out).2.2|(with_reducible refine Kd.Jn ?_ _)|(with_reducible refine Kd.Jm ?_ _)|(with_reducible refine Kd.Ki ?_)))
 (case side2=>exact(Kd.Qt τ.out).2.1)
 rintro e w' ⟨rfl,⟨nd,rfl⟩⟩
 refine⟨_,rfl, ?_⟩
 refine hK.out _ _ ⟨qc O,qc O,qc γ,qc γ⟩ (fun hHeld=>?_)
 clear hK K
 refine qN (some 16) ?_
 refine qP 12 (some 4) (qB 13 8191) HT_ ?_
 refine Zl (Ze HT_.out kr) ?_
 try go_wp2
 go_ret
 exact⟨by first|rfl|(simp[Ql,Qk] <;> rfl)|(simp[*,Ql,Qk] <;> rfl),by repeat(first|(with_reducible first|exact HB.out|apply Qq|apply Qn|apply Qj|refine Qz ?_ θ.out|refine Qz ?_ ξ.out)|exact HB.out)⟩
end Go.Proofs.Ytmfffemidlhcpaa.K
namespace Go.Proofs.Ytmfffemidlhcpaa.C
open Go.RowKit Go.Proofs.YtmfffemidlhcpaaW.PrintWords Go.Proofs.YtmfffemidlhcpaaW.PrintLast Go.Proofs.YtmfffemidlhcpaaW.PrintMore
attribute [local go_sem] Z2 Z0 Xb Xa Zt Zs Z1 Zz
def call_within.f (B:Int) (Z:Int) (a2:Int):Option (Bool):=if Z≤B then (some (decide (B≤a2))) else (some false)
theorem call_within.calls (B:Int) (Z:Int) (a2:Int) (r:Bool) (w:World) (h:call_within.f B Z a2=some r):
 Calls Try.prog 44 #[nI B,nI Z,nI a2] w fun e w'=>e = .returned (.bool r)∧Drawn0 w w':=by
 have H:(if Z≤B then (some (decide (B≤a2))) else (some false))=some r:=h
 clear h
 by_cases c4:Z≤B
 ·rw[if_pos c4] at H
  have c4b0:=decide_eq_true c4
  clear c4
  obtain rfl:=qJ H
  go_enter Try.func44,Try.ntmps44
  go_wp2
  go_ret
  exact⟨qR,by repeat(first|exact Drawn0.refl _|apply Drawn0.step)⟩
 ·rw[if_neg c4] at H
  have c4b0:=decide_eq_false c4
  clear c4
  obtain rfl:=qJ H
  go_enter Try.func44,Try.ntmps44
  go_wp2
  go_ret
  exact⟨qR,by repeat(first|exact Drawn0.refl _|apply Drawn0.step)⟩
end Go.Proofs.Ytmfffemidlhcpaa.C
namespace Go.Proofs.Ytmfffemidlhcpaa.C
open Go.RowKit Go.Proofs.YtmfffemidlhcpaaW.PrintWords Go.Proofs.YtmfffemidlhcpaaW.PrintLast Go.Proofs.YtmfffemidlhcpaaW.PrintMore
section
variable {P : Program} {ops : Array Oper} {Q : Exit → Act → World → Prop}
theorem Yk {oi:Oper} {N:Option Tmp} {a:Act} {w:World} {K:Act→World→Prop} {f:FuncId} {fn:Func} {x:Operand} {xs:Array Operand} {ts:Array TypeId} (hf:P.funcs[f]?=some fn) (hname:(fn.name == "runtime.NumGoroutine")=false) (hb:fn.body.isSome=true) (first cap args all:Array Value) (hall:first ++ args++cap=all)
 (hw:Region.wanted oi (yielded ops a.tmps)=true) (hN:oi.dst=N) (hop:oi.op = .call {callee:=.value x,args:=xs,argTypes:=ts}) (hx:a.eval x = .func (.func f) first cap) (hargs:xs.map a.eval=args)
 (h:Calls P f all w fun e w'=>∃ v,e = .returned v∧K (a.put N v) w'):if Region.wanted oi (yielded ops a.tmps)=true then Oper.wp P oi a w K Q else K (a.put N undef) w:=by
 refine Cv f all hw hN ?_ h
 have he:=Ur hf hname hb all w
 unfold execOp
 simp[hop,hx,resolve,Deferred.ofValue,invoke,hargs,hall,he]
end
def tok (a b:Int):Int:=a * 18446744073709551616+(b+9223372036854775808)
def Y4 (t:Int):Int:=t / 18446744073709551616
def Y3 (t:Int):Int:=t % 18446744073709551616-9223372036854775808
theorem K6 (a b:Int) (h: -9223372036854775808≤b∧b≤9223372036854775807):Y4 (tok a b)=a:=by unfold Y4 tok;omega
theorem K5 (a b:Int) (h: -9223372036854775808≤b∧b≤9223372036854775807):Y3 (tok a b)=b:=by unfold Y3 tok;omega
theorem Xd {w W:World} {g:Nat} {t:TypeId} {cs:Array Value} (h:w.heap[g]?=some (.cells cs t (0,0))) (hb:Below w.heap.size w W):W.heap[g]?=some (.cells cs t (0,0)):=Q1 h hb
def Uv (a b:Int):Int:=if a<b then -1 else if a>b then 1 else 0
def Yv (B Z X b1:Int):Int:=if Uv B X≠0 then Uv B X else Uv Z b1
theorem cmp_eq (a b:Int):K.cmp_Compare_int.f a b=some (Uv a b):=by
 unfold K.cmp_Compare_int.f K.cmp_isNaN_int.f Uv
 simp only[Option.bind_some,bne_self_eq_false]
 rw[if_neg (by decide),if_neg (by decide)]
 split
 ·rfl
 ·split <;> rfl
theorem Cp (a b:Int):K.cmp_Or_int.f 5 [a,b]=some (if a≠0 then a else b):=by
 have w1:wrap64 (0+1)=1:=by unfold wrap64;omega
 have w2:wrap64 (1+1)=2:=by unfold wrap64;omega
 have r0:rd [a,b] 0=a:=rfl
 have r1:rd [a,b] 1=b:=rfl
 have l2:(([a,b]:List Int).length:Int)=2:=rfl
 unfold K.cmp_Or_int.f
 rw[l2,K.cmp_Or_int.l0,if_pos (by decide),if_pos (by decide),l2,if_pos (by decide),r0,w1]
 by_cases h:a=0
 ·rw[if_pos h,if_neg (fun g=>g h),K.cmp_Or_int.l0,if_pos (by decide),if_pos (by decide),l2,if_pos (by decide),r1,w2]
  by_cases O:b=0
  ·rw[if_pos O,K.cmp_Or_int.l0,if_neg (by decide),O]
  ·rw[if_neg O]
 ·rw[if_neg h,if_pos h]
def call_halls_1.f (B J O X ζ ι :Int):Option Int:=some (Yv B J X ζ)
def call_ins_1.f (B J X ζ :Int):Option Int:=some (Yv B J X ζ)
theorem call_halls_1.calls (B J O X ζ ι r:Int) (w:World) (h:call_halls_1.f B J O X ζ ι = some r):
 Calls Try.prog 79 #[.agg #[nI B,nI J,nI O],.agg #[nI X,nI ζ,nI ι]] w fun e w'=>e = .returned (nI r)∧Below w.heap.size w w':=by
 refine K.call_halls_1.calls 5 B J O X ζ ι r w ?_
 unfold K.call_halls_1.f
 rw[cmp_eq,cmp_eq]
 simp only[Option.bind_some]
 rw[Cp]
 exact h
theorem call_ins_1.calls (B J X ζ r:Int) (w:World) (h:call_ins_1.f B J X ζ = some r):
 Calls Try.prog 83 #[.agg #[nI B,nI J],.agg #[nI X,nI ζ]] w fun e w'=>e = .returned (nI r)∧Below w.heap.size w w':=by
 refine K.call_ins_1.calls 5 B J X ζ r w ?_
 unfold K.call_ins_1.f
 rw[cmp_eq,cmp_eq]
 simp only[Option.bind_some]
 rw[Cp]
 exact h
def Xz (F C:Int) (B J Y:Int):Bool:=decide ((J=1∨J = -1)∧(0≤B∧B≤wrap64 (F-1))∧(0≤wrap64 (B+J)∧wrap64 (B+J)≤wrap64 (F-1))∧(-1≤Y∧Y≤wrap64 (C-1)))
def Jd (F C:Int) (B J:Int):Bool:=decide ((0≤B∧B≤wrap64 (C-1))∧(0≤J∧J≤wrap64 (F-1)))
theorem Js (a b c:Int) (r:Bool) (h:decide (b≤a∧a≤c)=r):call_within.f a b c=some r:=by
 unfold call_within.f
 subst h
 by_cases h1:b≤a
 ·rw[if_pos h1];simp[h1]
 ·rw[if_neg h1];simp[h1]
theorem Et (F C B J Y:Int):Xz F C B J Y=((J==1||J == -1)&&(decide (0≤B∧B≤wrap64 (F-1))&&(decide (0≤wrap64 (B+J)∧wrap64 (B+J)≤wrap64 (F-1))&&decide (-1≤Y∧Y≤wrap64 (C-1))))):=by
 unfold Xz
 rw[Bool.eq_iff_iff]
 simp[and_assoc]
theorem D8 (F C B J:Int):Jd F C B J=(decide (0≤B∧B≤wrap64 (C-1))&&decide (0≤J∧J≤wrap64 (F-1))):=by
 unfold Jd
 rw[Bool.eq_iff_iff]
 simp[and_assoc]
def call_hall_1.f (B J O Z:Int):Option Bool:=some (Xz (Y4 Z) (Y3 Z) B J O)
def call_inside_1.f (B J Z:Int):Option Bool:=some (Jd (Y4 Z) (Y3 Z) B J)
theorem Vs (F C B J Y:Int) (r:Bool) (w:World) (h:Xz F C B J Y=r) (g:Nat) (hg:w.heap[g]?=some (.cells #[nI F,nI C] 59 (0,0))):
 Calls Try.prog 82 #[.agg #[nI B,nI J,nI Y],.pointer (some ⟨g,0,none⟩)] w fun e w'=>e = .returned (.bool r)∧Below w.heap.size w w':=by
 rw[Et] at h
 have HG:=aK hg
 have HB:=aK (Below.refl w.heap.size w)
 clear hg
 have γ:∃ b,decide (0≤B∧B≤wrap64 (F-1))=b:=⟨_,rfl⟩
 have O:∃ b,decide (0≤wrap64 (B+J)∧wrap64 (B+J)≤wrap64 (F-1))=b:=⟨_,rfl⟩
 have η :∃ b,decide (-1≤Y∧Y≤wrap64 (C-1))=b:=⟨_,rfl⟩
 have θ :∃ b,(J==1)=b:=⟨_,rfl⟩
 have ι :∃ b,(J == -1)=b:=⟨_,rfl⟩
 obtain⟨b1,γ⟩:=γ
 obtain⟨b2,O⟩:=O
 obtain⟨b3,η⟩:= η
 obtain⟨d1,θ⟩:= θ
 obtain⟨X,ι⟩:= ι
 rw[γ,O,η,θ,ι] at h
 have D1:=aK γ
 have D2:=aK O
 have D3:=aK η
 clear γ O η
 cases d1 <;> cases X <;> cases b1 <;> cases b2 <;> cases b3 <;> simp only[Bool.or_false,Bool.false_or,Bool.or_true,Bool.true_or,Bool.and_false,Bool.false_and,Bool.and_true,Bool.true_and] at h <;> subst h <;>
 ·go_enter Try.func82,Try.ntmps82
  go_wp2_with (first|((with_reducible refine Qe (N:=2) rfl ?_);refine Zj ?hg (N:=2) ?hd (cs:=#[nI B,nI J,nI Y]) (t:=36) ?hr ?_;(case hd=>rfl);(case hg=>rfl);(case hr=>first|(go_simp;done)|(go_simp;rfl));intro gb hgb w1 hbox hb;have φ :=aK (Q6 HB.out hb);clear HB;have HB:= φ;clear φ;have hk:=Xd HG.out HB.out;have Z:cI w1 g 0 F:=(Qa hk 0).trans rfl;have δ :cI w1 g 1 C:=(Qa hk 1).trans rfl;have ε :cI w1 gb 0 B:=(Qa hbox 0).trans rfl;have ζ :cI w1 gb 1 J:=(Qa hbox 1).trans rfl;have κ :cI w1 gb 2 Y:=(Qa hbox 2).trans rfl;clear hk hbox hb hgb)|(go_at_call 44;((with_reducible refine(call_within.calls B 0 (wrap64 (F-1)) _ _ (Js _ _ _ _ D1.out)).mono ?_);rintro e w' ⟨rfl,⟨nd,rfl⟩⟩))|(go_at_call 44;((with_reducible refine(call_within.calls (wrap64 (B+J)) 0 (wrap64 (F-1)) _ _ (Js _ _ _ _ D2.out)).mono ?_);rintro e w' ⟨rfl,⟨nd,rfl⟩⟩))|(go_at_call 44;((with_reducible refine(call_within.calls Y (-1) (wrap64 (C-1)) _ _ (Js _ _ _ _ D3.out)).mono ?_);rintro e w' ⟨rfl,⟨nd,rfl⟩⟩)))
  go_ret
  exact⟨rfl,by repeat(first|exact HB.out|apply Qn)⟩
theorem Uq (F C B J:Int) (r:Bool) (w:World) (h:Jd F C B J=r) (g:Nat) (hg:w.heap[g]?=some (.cells #[nI F,nI C] 59 (0,0))):
 Calls Try.prog 84 #[.agg #[nI B,nI J],.pointer (some ⟨g,0,none⟩)] w fun e w'=>e = .returned (.bool r)∧Below w.heap.size w w':=by
 rw[D8] at h
 have HG:=aK hg
 have HB:=aK (Below.refl w.heap.size w)
 clear hg
 have γ:∃ b,decide (0≤B∧B≤wrap64 (C-1))=b:=⟨_,rfl⟩
 have O:∃ b,decide (0≤J∧J≤wrap64 (F-1))=b:=⟨_,rfl⟩
 obtain⟨b1,γ⟩:=γ
 obtain⟨b2,O⟩:=O
 rw[γ,O] at h
 have D1:=aK γ
 have D2:=aK O
 clear γ O
 cases b1 <;> cases b2 <;> simp only[Bool.and_false,Bool.false_and,Bool.and_true,Bool.true_and] at h <;> subst h <;>
 ·go_enter Try.func84,Try.ntmps84
  go_wp2_with (first|((with_reducible refine Qe (N:=2) rfl ?_);refine Zj ?hg (N:=2) ?hd (cs:=#[nI B,nI J]) (t:=86) ?hr ?_;(case hd=>rfl);(case hg=>rfl);(case hr=>first|(go_simp;done)|(go_simp;rfl));intro gb hgb w1 hbox hb;have φ :=aK (Q6 HB.out hb);clear HB;have HB:= φ;clear φ;have hk:=Xd HG.out HB.out;have Z:cI w1 g 0 F:=(Qa hk 0).trans rfl;have δ :cI w1 g 1 C:=(Qa hk 1).trans rfl;have ε :cI w1 gb 0 B:=(Qa hbox 0).trans rfl;have ζ :cI w1 gb 1 J:=(Qa hbox 1).trans rfl;clear hk;clear hbox hb hgb)|(go_at_call 44;((with_reducible refine(call_within.calls B 0 (wrap64 (C-1)) _ _ (Js _ _ _ _ D1.out)).mono ?_);rintro e w' ⟨rfl,⟨nd,rfl⟩⟩))|(go_at_call 44;((with_reducible refine(call_within.calls J 0 (wrap64 (F-1)) _ _ (Js _ _ _ _ D2.out)).mono ?_);rintro e w' ⟨rfl,⟨nd,rfl⟩⟩)))
  go_ret
  exact⟨rfl,by repeat(first|exact HB.out|apply Qn)⟩
theorem call_hall_1.calls (B J O Z:Int) (r:Bool) (w:World) (h:call_hall_1.f B J O Z=some r) (g:Nat) (hg:w.heap[g]?=some (.cells #[nI (Y4 Z),nI (Y3 Z)] 59 (0,0))):
 Calls Try.prog 82 #[.agg #[nI B,nI J,nI O],.pointer (some ⟨g,0,none⟩)] w fun e w'=>e = .returned (.bool r)∧Below w.heap.size w w':=
 Vs _ _ _ _ _ _ _ (Option.some.inj h) g hg
theorem call_inside_1.calls (B J Z:Int) (r:Bool) (w:World) (h:call_inside_1.f B J Z=some r) (g:Nat) (hg:w.heap[g]?=some (.cells #[nI (Y4 Z),nI (Y3 Z)] 59 (0,0))):
 Calls Try.prog 84 #[.agg #[nI B,nI J],.pointer (some ⟨g,0,none⟩)] w fun e w'=>e = .returned (.bool r)∧Below w.heap.size w w':=
 Uq _ _ _ _ _ _ (Option.some.inj h) g hg
def api_Inside_without_1.f (B J Z:Int):Option Bool:=some (Yv (Y4 Z) (Y3 Z) B J==0)
theorem Ko (B J O X:Int) (r:Bool) (w:World) (h:(Yv B J O X==0)=r) (A:Option Addr) (n c:Nat) (gr gx:Nat) (hr:w.heap[gr]?=some (.cells #[.slice A n c,.func (.func 83) #[] #[]] 116 (0,0))) (hx:w.heap[gx]?=some (.cells #[nI B,nI J] 86 (0,0))):
 Calls Try.prog 92 #[.agg #[nI O,nI X],.pointer (some ⟨gr,0,none⟩),.pointer (some ⟨gx,0,none⟩)] w fun e w'=>e = .returned (.bool r)∧Below w.heap.size w w':=by
 have HR:=aK hr
 have HX:=aK hx
 have HB:=aK (Below.refl w.heap.size w)
 clear hr hx
 have hd:∃ z,Yv B J O X=z:=⟨_,rfl⟩
 obtain⟨z,hd⟩:=hd
 rw[hd] at h
 have D1:=aK (show call_ins_1.f B J O X=some z from congrArg some hd)
 clear hd
 cases r <;>
 ·go_enter Try.func92,Try.ntmps92
  go_wp2_with (first|((with_reducible refine Qe (N:=3) rfl ?_);refine Zj ?hg (N:=3) ?hd (cs:=#[nI O,nI X]) (t:=86) ?hr ?_;(case hd=>rfl);(case hg=>rfl);(case hr=>first|(go_simp;done)|(go_simp;rfl));intro gb hgb w1 hbox hb;have φ :=aK (Q6 HB.out hb);clear HB;have HB:= φ;clear φ;have hk:=Xd HR.out HB.out;have hq:=Xd HX.out HB.out;have Z:w1.cell? ⟨gr,0,none⟩=some (.slice A n c):=(Qa hk 0).trans rfl;have δ :w1.cell? ⟨gr,1,none⟩=some (.func (.func 83) #[] #[]):=(Qa hk 1).trans rfl;have Y:cI w1 gx 0 B:=(Qa hq 0).trans rfl;have γ:cI w1 gx 1 J:=(Qa hq 1).trans rfl;have ε :cI w1 gb 0 O:=(Qa hbox 0).trans rfl;have ζ :cI w1 gb 1 X:=(Qa hbox 1).trans rfl;clear hk hq;clear hbox hb hgb)|(go_at_call 83;((with_reducible refine(call_ins_1.calls B J O X z _ D1.out).mono ?_);rintro e w2 ⟨rfl,hb⟩;have φ :=aK (Q6 HB.out hb);clear HB;have HB:= φ;clear φ;clear hb)))
  go_ret
  exact⟨rfl,HB.out⟩
theorem api_Inside_without_1.calls (B J Z:Int) (r:Bool) (w:World) (h:api_Inside_without_1.f B J Z=some r) (A:Option Addr) (n c:Nat) (gr gx:Nat) (z:Int) (hr:w.heap[gr]?=some (.cells #[.slice A n c,.func (.func 83) #[] #[]] 116 (0,0))) (hx:w.heap[gx]?=some (.cells #[nI (Y4 Z),nI (Y3 Z)] 86 (0,0))):
 Calls Try.prog 92 #[.agg #[nI B,nI J],.pointer (some ⟨gr,0,none⟩),.pointer (some ⟨gx,0,none⟩)] w fun e w'=>e = .returned (.bool r)∧Below w.heap.size w w':=
 Ko (Y4 Z) (Y3 Z) B J r w (Option.some.inj h) A n c gr gx hr hx
end Go.Proofs.Ytmfffemidlhcpaa.C
namespace Go.Proofs.Ytmfffemidlhcpaa.C
open Go.RowKit Go.Proofs.YtmfffemidlhcpaaW.PrintWords Go.Proofs.YtmfffemidlhcpaaW.PrintLast Go.Proofs.YtmfffemidlhcpaaW.PrintMore
attribute [local go_sem] Z2 Z0 Xb Xa Zt Zs Z1 Zz
def api_Inside_100.l0:Nat→List (S86)→Int→Int→Int→Option (Int)
 |0,_,_,_,_=>none
 |k+1,B,J,X,Z=>if Z<X then (if 0≤Z then (if Z<(B.length:Int) then ((api_Inside_without_1.f ((Qp B Z).f0) ((Qp B Z).f1) J).bind fun δ =>(if δ = true then (some Z) else (api_Inside_100.l0 k B J X (wrap64 (Z+1))))) else (none)) else (none)) else (some (-1))
def api_Inside_100.f (k:Nat) (l0:List (S86)) (Z:Int):Option (Int):=api_Inside_100.l0 k l0 Z (l0.length:Int) 0
theorem api_Inside_100.calls (k:Nat) (A0:Option Addr) (c0:Nat) (l0:List (S86)) (Z:Int) (r:Int) (w:World) (ε :Kd.C k86 w A0 l0.length l0) (Y:l0.length≤c0) (h:api_Inside_100.f k l0 Z=some r) (Ar_:Option Addr) (nr_ cr_ gr_ gx_:Nat) (zx_:Int) (hgr_:w.heap[gr_]?=some (.cells #[.slice Ar_ nr_ cr_,.func (.func 83) #[] #[]] 116 (0,0))) (hgx_:w.heap[gx_]?=some (.cells #[nI (Y4 Z),nI (Y3 Z)] 86 (0,0))):
 Calls Try.prog 100 #[.slice A0 l0.length c0,.func (.func 92) #[] #[.pointer (some ⟨gr_,0,none⟩),.pointer (some ⟨gx_,0,none⟩)]] w fun e w'=>e = .returned (nI r)∧Below w.heap.size w w':=by
 have HCR:=aK hgr_
 have HCX:=aK hgx_
 clear hgr_ hgx_
 have d8:=Try.underlying86
 have ν :=aK ε
 have ah:=aK Y
 clear ε Y
 have HB:=aK (Below.refl w.heap.size w)
 have H:(api_Inside_100.l0 k l0 Z (l0.length:Int) 0)=some r:=h
 clear h
 have H':=aK H
 clear H
 go_enter Try.func100,Try.ntmps100
 go_wp2
 go_loopg [8] k (fun kq v8 w'=>∃ (B:Int),v8=nI B∧Aside0 (api_Inside_100.l0 kq l0 Z (l0.length:Int) B=some r)∧Aside0 (kq≤k)∧Aside0 (Below w.heap.size w w'))
 case atStart=>exact⟨(0),rfl,H',⟨Nat.le_refl _⟩,HB⟩
 case round=>
  clear H'
  obtain⟨B,rfl,HA,af,HB⟩:=hrel
  cases gk with
  |zero=>exact absurd HA.out (by simp[api_Inside_100.l0])
  |succ k1=>
   have H:=HA.out
   clear HA
   simp only[api_Inside_100.l0] at H
   by_cases c3:B<(l0.length:Int)
   ·rw[if_pos c3] at H
    have c3b0:=decide_eq_true c3
    clear c3
    by_cases c4:0≤B
    ·rw[if_pos c4] at H
     have c4b0:=decide_eq_true c4
     clear c4
     by_cases c5:B<(l0.length:Int)
     ·rw[if_pos c5] at H
      have c5b0:=decide_eq_true c5
      clear c5
      obtain⟨δ,A6,H⟩:=qQ H
      by_cases c7: δ = true
      ·subst c7
       rw[if_pos rfl] at H
       obtain rfl:=qJ H
       have X:0≤(B:Int):=of_decide_eq_true (by assumption)
       have γ:B<(l0.length:Int):=of_decide_eq_true (by assumption)
       obtain⟨η,ζ,J,O⟩:=Xi ν.out B X γ
       cases ζ
       replace J:=sCl HB J
       replace O:=sCl HB O
       replace X:=eq_true X
       replace γ:=eq_true γ
       go_wp2_with (first|(go_at_call 92;((with_reducible refine(api_Inside_without_1.calls ((Qp l0 B).f0) ((Qp l0 B).f1) Z true _ A6.out Ar_ nr_ cr_ gr_ gx_ zx_ (Xd HCR.out (by repeat(first|(with_reducible first|exact HB.out|apply Qq|apply Qn|apply Qj)|exact HB.out|(refine Qz ?_ (Aside0.out (by assumption)))))) (Xd HCX.out (by repeat(first|(with_reducible first|exact HB.out|apply Qq|apply Qn|apply Qj)|exact HB.out|(refine Qz ?_ (Aside0.out (by assumption))))))).mono ?_);rintro e w8 ⟨rfl,hb⟩;have φ :=aK (Q6 HB.out hb);clear HB;have HB:= φ;clear φ;(try clear hb);(try clear a4);(try clear hk);(try clear hi))))
       go_ret
       exact⟨rfl,HB.out⟩
      ·replace c7:=Bool.eq_false_iff.mpr c7
       subst c7
       rw[if_neg nft] at H
       have H':=aK H
       clear H
       have X:0≤(B:Int):=of_decide_eq_true (by assumption)
       have γ:B<(l0.length:Int):=of_decide_eq_true (by assumption)
       obtain⟨η,ζ,J,O⟩:=Xi ν.out B X γ
       cases ζ
       replace J:=sCl HB J
       replace O:=sCl HB O
       replace X:=eq_true X
       replace γ:=eq_true γ
       go_wp2_with (first|(go_at_call 92;((with_reducible refine(api_Inside_without_1.calls ((Qp l0 B).f0) ((Qp l0 B).f1) Z false _ A6.out Ar_ nr_ cr_ gr_ gx_ zx_ (Xd HCR.out (by repeat(first|(with_reducible first|exact HB.out|apply Qq|apply Qn|apply Qj)|exact HB.out|(refine Qz ?_ (Aside0.out (by assumption)))))) (Xd HCX.out (by repeat(first|(with_reducible first|exact HB.out|apply Qq|apply Qn|apply Qj)|exact HB.out|(refine Qz ?_ (Aside0.out (by assumption))))))).mono ?_);rintro e w9 ⟨rfl,hb⟩;have φ :=aK (Q6 HB.out hb);clear HB;have HB:= φ;clear φ;(try clear hb);(try clear a4);(try clear hk);(try clear hi))))
       go_roundg k1
       case measure=>have:=af.out;omega
       case rel=>exact⟨(wrap64 (B+1)),rfl,H',⟨by have:=af.out;omega⟩,HB⟩
     ·rw[if_neg c5] at H
      exact absurd H (by simp)
    ·rw[if_neg c4] at H
     exact absurd H (by simp)
   ·rw[if_neg c3] at H
    have c3b0:=decide_eq_false c3
    clear c3
    obtain rfl:=qJ H
    go_wp2
    go_ret
    exact⟨rfl,HB.out⟩
end Go.Proofs.Ytmfffemidlhcpaa.C
namespace Go.Proofs.Ytmfffemidlhcpaa.C
open Go.RowKit Go.Proofs.YtmfffemidlhcpaaW.PrintWords Go.Proofs.YtmfffemidlhcpaaW.PrintLast Go.Proofs.YtmfffemidlhcpaaW.PrintMore
structure Flat {α:Type} (d:Kd α) (enc:α→List Value):Prop where
 len:∀ x,(enc x).length=d.sz
 one:∀ x,∀ u ∈ enc x,u.oneCell'=true
 M:∀ w base ok x cs,d.M w base ok x cs↔cs=enc x
 K:∀ w x cs,d.K w x cs↔cs=enc x
def Y9 {α:Type} (enc:α→List Value) (xs:List α):List Value:=xs.flatMap enc
section
variable {α : Type} {d : Kd α} {enc : α → List Value}
theorem Vw (x:α) (xs:List α):Y9 enc (x :: xs)=enc x++Y9 enc xs:=rfl
theorem Us (xs ys:List α):Y9 enc (xs++ys)=Y9 enc xs++Y9 enc ys:=List.flatMap_append
theorem Uc (F:Flat d enc) (xs:List α):(Y9 enc xs).length=xs.length * d.sz:=by
 induction xs with
 |nil=>simp[Y9]
 |cons x xs ih=>rw[Vw,List.length_append,F.len,ih,List.length_cons,Nat.add_mul,Nat.one_mul,Nat.add_comm]
theorem L0 (F:Flat d enc) (xs:List α) (m:Nat) (h:m≤xs.length):(Y9 enc xs).take (m * d.sz)=Y9 enc (xs.take m):=by
 have e:Y9 enc xs=Y9 enc (xs.take m)++Y9 enc (xs.drop m):=by rw[← Us,List.take_append_drop]
 have hl:(Y9 enc (xs.take m)).length=m * d.sz:=by rw[Uc F,List.length_take,Nat.min_eq_left h]
 rw[e,← hl,List.take_left']
 rfl
theorem V8 (F:Flat d enc) {R:α→List Value→Prop} (hR:∀ p c,R p c↔c=enc p) (xs:List α):∀ inner,Reps R d.sz xs inner↔inner=Y9 enc xs:=by
 induction xs with
 |nil=>
  intro inner
  constructor
  ·intro h
   have:=h.1
   simp only[List.length_nil,Nat.zero_mul] at this
   exact List.eq_nil_of_length_eq_zero this
  ·rintro rfl
   exact Reps.none _ _
 |cons x xs ih=>
  intro inner
  constructor
  ·intro h
   have h1:=h.2 0 x rfl
   rw[hR,Nat.zero_mul,List.drop_zero] at h1
   have O:=Kd.M2 (m:=1) h
   rw[List.drop_one,List.tail_cons,ih,Nat.one_mul] at O
   rw[Vw,← h1,← O,List.take_append_drop]
  ·rintro rfl
   have h1:Reps R d.sz [x] (enc x):=by
    have:=Reps.snoc (Reps.none R d.sz) ((hR x (enc x)).2 rfl) (F.len x)
    simpa using this
   exact Kd.J8 (ps:=[x]) h1 ((ih _).2 rfl)
theorem U3 (F:Flat d enc) {e:Nat} {w:World} {base:Nat} {ok:Nat→Prop} {v:Value} {xs:List α}:d.R e w base ok v xs↔(∀ k,v.ownBlock=some k→ok k)∧w.ownsRow base e d.sz v xs.length (Y9 enc xs):=by
 constructor
 ·rintro⟨X,inner,ho,hr⟩
  rw[V8 F (fun p c=>F.M _ _ _ p c)] at hr
  subst hr
  exact⟨X,ho⟩
 ·rintro⟨X,ho⟩
  exact⟨X,_,ho,(V8 F (fun p c=>F.M _ _ _ p c) xs _).2 rfl⟩
theorem Le {P:Program} (w:World) (t e ty:TypeId) (z:Value) (ht:P.underlying t=some (.slice e)) (hv:∀ w,(zeroValue e).run P w = .ok z w) (J:∀ u ∈ z.cells.toList,u.oneCell'=true) (b o n c:Nat) (hn:0<n)
 (hc:∀ j,j<n * z.cells.size→(w.cell? ⟨b,o+j,none⟩).isSome=true) (hf:∀ j,j<n * z.cells.size→w.frozen? ⟨b,o+j,none⟩=false):
 ∃ vs,vs.length=n * z.cells.size∧(Builtin.clear_ #[t] ty #[.slice (some ⟨b,o,none⟩) n c]).run P w = .ok (.tuple #[]) (w.setCells b o vs):=by
 refine⟨(Builtin.zeroCells z.cells n).toList,by simp[Builtin.zeroCells], ?_⟩
 have hl:(Builtin.zeroCells z.cells n).toList.length=n * z.cells.size:=by simp[Builtin.zeroCells]
 have h1:∀ v ∈ (Builtin.zeroCells z.cells n).toList,v.oneCell'=true:=by
  intro v hv'
  simp only[Builtin.zeroCells,Array.mem_toList_iff,Array.mem_map,Array.mem_range] at hv'
  obtain⟨i,hi,rfl⟩:=hv'
  have hs:0<z.cells.size:=by
   rcases Nat.eq_zero_or_pos z.cells.size with h|h
   ·rw[h,Nat.mul_zero] at hi;omega
   ·exact h
  have hm:i % z.cells.size<z.cells.size:=Nat.mod_lt _ hs
  rw[getElem!_pos z.cells _ hm]
  exact J _ (by simp)
 have hst:=run_storeCells_cells (P:=P) b o (Builtin.zeroCells z.cells n).toList 0 w (by rw[hl];simpa using hc) (by rw[hl];simpa using hf) h1
 simp only[Nat.add_zero] at hst
 obtain⟨m,rfl⟩:∃ m,n=m+1:=⟨n-1,by omega⟩
 simp[Builtin.clear_,run_underlying ht,hv,hst]
theorem N0 (g j:Nat):(⟨g,0,none⟩:Addr).add j=⟨g,j,none⟩:=by unfold Addr.add;split <;> simp_all
theorem Nc {W:World} {g:Nat} {vs:List Value} {o:Nat}:W.grownBy (W.setCells g o vs) (some g):=by
 obtain⟨B,s2,s3,O⟩:=Jo g vs o W
 exact⟨B,s2,s3,by rw[O];exact Nat.le_refl _,fun k _ hk=>Jy _ _ k (fun he=>hk (by rw[he]))⟩
theorem Ns {P:Program} (F:Flat d enc) {W:World} {base:Nat} {ok:Nat→Prop} {e:Nat} (t ty:TypeId) (ht:P.underlying t=some (.slice e)) (z:Value) (hv:∀ w,(zeroValue e).run P w = .ok z w) (J:∀ u ∈ z.cells.toList,u.oneCell'=true) (hzs:z.cells.size=d.sz)
 (A:Option Addr) (c:Nat) (xs:List α) (HO:d.R e W base ok (.slice A xs.length c) xs) (i:Nat) (hi:i≤xs.length):
 ∃ w1,(Builtin.clear_ #[t] ty #[.slice (if c=i then A else A.map (·.add (i * d.sz))) (xs.length-i) (c-i)]).run P W = .ok (.tuple #[]) w1∧d.R e w1 base ok (.slice A i c) (xs.take i)∧W.grownBy w1 (Value.slice A i c).ownBlock:=by
 obtain⟨X,ho⟩:=(U3 F).1 HO
 have hob:(Value.slice A i c).ownBlock=(Value.slice A xs.length c).ownBlock:=by cases A <;> rfl
 rcases ho.2 with⟨B,O⟩|⟨g,cap,cur,B,hb,hh,hnc,hcm,hcs,htake⟩
 ·injection B with e1 Y e3
  subst e1 e3
  have Z:i=0:=by omega
  subst Z
  refine⟨W, ?_, ?_,World.grownBy.refl W _⟩
  ·rw[O]
   simp[Builtin.clear_,run_underlying ht]
  ·have:xs = []:=List.eq_nil_of_length_eq_zero O
   subst this
   exact Kd.Xy _ _ _ _ _
 ·injection B with e1 Y e3
  subst e1 e3
  have own_i:∀ (w1:World) (cur':Array Value),w1.heap[g]?=some (.cells cur' e (0,0))→cur'.size=cur.size→cur'.toList.take (i * d.sz)=cur.toList.take (i * d.sz)→d.R e w1 base ok (.slice (some ⟨g,0,none⟩) i c) (xs.take i):=by
   intro w1 cur' g1 g2 g3
   rw[U3 F]
   have hl:(xs.take i).length=i:=by rw[List.length_take,Nat.min_eq_left hi]
   refine⟨fun k hk=>X k (by simpa[Value.ownBlock] using hk), ?_⟩
   rw[hl]
   refine⟨by rw[Uc F,hl],.inr ⟨g,c,cur',rfl,hb,g1,by omega,hcm,by rw[g2,hcs], ?_⟩⟩
   have hq:cur.toList.take (i * d.sz)=(cur.toList.take (xs.length * d.sz)).take (i * d.sz):=by
    rw[List.take_take,Nat.min_eq_left (Nat.mul_le_mul_right _ hi)]
   rw[g3,hq,htake,L0 F xs i hi]
  rcases Nat.lt_or_ge i xs.length with hlt|hge
  ·rw[if_neg (by omega)]
   simp only[Option.map_some,N0]
   have hsz:(xs.length-i) * z.cells.size+i * d.sz≤cur.size:=by
    rw[hzs,hcs,← Nat.add_mul]
    exact Nat.mul_le_mul_right _ (by omega)
   obtain⟨vs,hvl,hrun⟩:=Le (P:=P) W t e ty z ht hv J g (i * d.sz) (xs.length-i) (c-i) (by omega)
    (fun j hj=>by rw[cell_of_row W g _ cur e (0,0) hh];simp;omega) (fun j _=>Qg hh _)
   obtain⟨cur',g1,g2,g3⟩:=Jx vs (i * d.sz) W cur hh (by rw[hvl];omega)
   refine⟨_,hrun,own_i _ cur' g1 g2 ?_, ?_⟩
   ·rw[g3,List.append_assoc,List.take_append_of_le_length (by rw[List.length_take];simp;omega),List.take_take,Nat.min_self]
   ·have:(Value.slice (some ⟨g,0,none⟩) i c).ownBlock=some g:=rfl
    rw[this]
    exact Nc
  ·have hie:i=xs.length:=by omega
   refine⟨W, ?_,own_i W cur hh rfl rfl,World.grownBy.refl W _⟩
   rw[hie,Nat.sub_self]
   split <;> simp[Builtin.clear_,run_underlying ht]
theorem W8 {P:Program} {ops:Array Oper} {o:Oper} {rest:List Oper} {a:Act} {Q:Exit→Act→World→Prop} (F:Flat d enc) {W:World} {base:Nat} {ok:Nat→Prop} {e:Nat} (hgd:o.guard=none) (x:Operand) (t:TypeId) (ho:o.op = .call {callee:=.builtin .clear,args:=#[x],argTypes:=#[t]})
 (ht:P.underlying t=some (.slice e)) (z:Value) (hv:∀ w,(zeroValue e).run P w = .ok z w) (J:∀ u ∈ z.cells.toList,u.oneCell'=true) (hzs:z.cells.size=d.sz)
 (A A1:Option Addr) (c c1 X:Nat) (xs:List α) (HO:d.R e W base ok (.slice A xs.length c) xs) (i:Nat) (hi:i≤xs.length) (B:A1=(if c=i then A else A.map (·.add (i * d.sz)))) (O:X=xs.length-i) (ch:c1=c-i) (hx:a.eval x = .slice A1 X c1)
 (h:∀ w1,d.R e w1 base ok (.slice A i c) (xs.take i)→W.grownBy w1 (Value.slice A i c).ownBlock→wpList P ops Q rest (a.put o.dst (.tuple #[])) w1):wpList P ops Q (o :: rest) a W:=by
 subst B O ch
 obtain⟨w1,hr,hR,hg⟩:=Ns F t o.type ht z hv J hzs A c xs HO i hi
 refine Kd.Gv hgd (v:=.tuple #[]) (w1:=w1) ?_ (h w1 hR hg)
 unfold execOp
 simp only[ho,resolve,invoke,builtin,Sem.run_bind,Sem.run_pure,Result.andThen_ok,List.map_toArray,List.map_cons,List.map_nil,hx,hr]
theorem L1 {P:Program} {ops:Array Oper} {o:Oper} {rest:List Oper} {a:Act} {Q:Exit→Act→World→Prop} (F:Flat d enc) {w w0 W:World} {S ok:Nat→Prop} {e:Nat} (hgd:o.guard=none) (x:Operand) (t:TypeId) (ho:o.op = .call {callee:=.builtin .clear,args:=#[x],argTypes:=#[t]})
 (ht:P.underlying t=some (.slice e)) (z:Value) (hv:∀ w,(zeroValue e).run P w = .ok z w) (J:∀ u ∈ z.cells.toList,u.oneCell'=true) (hzs:z.cells.size=d.sz)
 (A A1:Option Addr) (c c1 X:Nat) (xs:List α) (HO:d.R e W w0.heap.size ok (.slice A xs.length c) xs) (i:Nat) (hi:i≤xs.length) (B:A1=(if c=i then A else A.map (·.add (i * d.sz)))) (O:X=xs.length-i) (ch:c1=c-i) (hx:a.eval x = .slice A1 X c1)
 (HB:Below w0.heap.size w0 W) (HK:Kept w W S) (hok:∀ k,ok k→S k∨w.heap.size≤k) (ys:List α) (hys:ys=xs.take i)
 (h:∀ w1,d.R e w1 w0.heap.size ok (.slice A ys.length c) ys→Below w0.heap.size w0 w1→Kept w w1 S→wpList P ops Q rest (a.put o.dst (.tuple #[])) w1):wpList P ops Q (o :: rest) a W:=by
 have hob:(Value.slice A i c).ownBlock=(Value.slice A xs.length c).ownBlock:=by cases A <;> rfl
 have hl:ys.length=i:=by rw[hys,List.length_take,Nat.min_eq_left hi]
 refine W8 F hgd x t ho ht z hv J hzs A A1 c c1 X xs HO i hi B O ch hx ?_
 intro w1 hR hg
 rw[hob] at hg
 refine h w1 (by rw[hl,hys];exact hR) (HB.grown hg HB.size (Y0 ((U3 F).1 HO).2)) (Kept.Vp hg HK (fun k hk=>hok k (HO.1 k hk)))
end
theorem flatI:Flat k86 (fun x=>[nI x.f0,nI x.f1]) where
 len:=fun _=>rfl
 one:=fun x u hu=>by
  simp only[List.mem_cons,List.not_mem_nil,or_false] at hu
  rcases hu with rfl|rfl <;> rfl
 M:=fun w base ok x cs=>⟨Kn,fun h=>by rw[h];exact Up w base ok x⟩
 K:=fun w x cs=>⟨Gi,fun h=>by rw[h];exact Eh w x⟩
theorem zeroI (w:World):(zeroValue 86).run Try.prog w = .ok (.agg #[nI 0,nI 0]) w:=by kernel_rfl
theorem Yl {w W:World} {S:Nat→Prop} {g:Nat} {o:Obj} (h:w.heap[g]?=some o) (hk:Kept w W S) (hn:¬ S g):W.heap[g]?=some o:=(hk.2 g (Xl h) hn).trans h
end Go.Proofs.Ytmfffemidlhcpaa.C
