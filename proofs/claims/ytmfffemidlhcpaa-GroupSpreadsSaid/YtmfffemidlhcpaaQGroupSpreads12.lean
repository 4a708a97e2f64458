/- What this law's functions come to, walked; what that is, in plain Lean. No conditions of its own. -/
import Derived.Test.YtmfffemidlhcpaaQGroupSpreads11
set_option linter.unusedSimpArgs false
set_option linter.unusedVariables false
set_option maxHeartbeats 8000000
set_option maxRecDepth 100000
namespace Go.Proofs.Ytmfffemidlhcpaa.C
open Go.RowKit Go.Proofs.YtmfffemidlhcpaaW.PrintWords Go.Proofs.YtmfffemidlhcpaaW.PrintLast Go.Proofs.YtmfffemidlhcpaaW.PrintMore
attribute [local go_sem] Z2 Z0 Xb Xa Zt Zs Z1 Zz
mutual
def group_Check.j0:Nat→List (S31)→Bool→Int→Int→Int→Int→Int→Int→Int→Int→Int→Int→List (S36)→List (S86)→Option (Int)
 |0,_,_,_,_,_,_,_,_,_,_,_,_,_,_=>none
 |k+1,J,τ,X,Y,Z,γ,δ,ε,ζ,η,θ,ι,κ,μ =>if τ = true then (some 210) else (group_Check.l0 k J J (J.length:Int) 0 X Y Z γ δ ε ζ η θ ι κ μ)
def group_Check.l0:Nat→List (S31)→List (S31)→Int→Int→Int→Int→Int→Int→Int→Int→Int→Int→Int→Int→List (S36)→List (S86)→Option (Int)
 |0,_,_,_,_,_,_,_,_,_,_,_,_,_,_,_,_=>none
 |k+1,J,B,ν,O,X,Y,Z,γ,δ,ε,ζ,η,θ,ι,κ,μ =>if O < ν then (if 0≤O then (if O<(B.length:Int) then ((group_lift.f k X Y Z γ δ ε ζ η θ ι ((Qc B O).f0.f0) ((Qc B O).f0.f1) ((Qc B O).f0.f2) ((Qc B O).f0.f3) ((Qc B O).f0.f4.f0) ((Qc B O).f0.f4.f1) ((Qc B O).f0.f4.f2) ((Qc B O).f1) ((Qc B O).f2) ((Qc B O).f3)).bind fun br=>(if br=true then (group_Check.l0 k J B ν (wrap64 (O+1)) X Y Z γ δ ε ζ η θ ι κ μ) else (some 210))) else (none)) else (none)) else ((group_house.f X Y Z γ δ ε ζ η θ ι J).bind fun ξ =>((call_Check.f k ξ.1 ξ.2 κ μ).bind fun bf=>(some bf)))
end
def group_Check.f (k:Nat) (B:Int) (J:Int) (O:Int) (Y:Int) (Z:Int) (γ:Int) (δ :Int) (ε :Int) (θ :Int) (η :Int) (l1:List (S31)) (σ:List (S36)) (τ :List (S86)):Option (Int):=if (l1.length:Int)<1 then (group_Check.j0 k l1 true B J O Y Z γ δ ε θ η σ τ) else (group_Check.j0 k l1 (decide ((l1.length:Int)>8)) B J O Y Z γ δ ε θ η σ τ)
theorem group_Check.Z6:∀ k,(∀ O X Z B Y y5 y6 y7 y8 y9 γ δ ζ η,LeO (group_Check.j0 k O X Z B Y y5 y6 y7 y8 y9 γ δ ζ η) (group_Check.j0 (k+1) O X Z B Y y5 y6 y7 y8 y9 γ δ ζ η))∧(∀ O X Z B Y y5 y6 y7 y8 y9 γ δ ζ η θ ι,LeO (group_Check.l0 k O X Z B Y y5 y6 y7 y8 y9 γ δ ζ η θ ι) (group_Check.l0 (k+1) O X Z B Y y5 y6 y7 y8 y9 γ δ ζ η θ ι))
 |0=>⟨fun _ _ _ _ _ _ _ _ _ _ _ _ _ _ r h=>by simp[group_Check.j0] at h,fun _ _ _ _ _ _ _ _ _ _ _ _ _ _ _ _ r h=>by simp[group_Check.l0] at h⟩
 |k+1=>by
  obtain⟨J,ε⟩:=group_Check.Z6 k
  refine⟨?_, ?_⟩
  ·intro O X Z B Y y5 y6 y7 y8 y9 γ δ ζ η
   unfold group_Check.j0
   repeat' first|(with_reducible first|apply J|apply ε |apply call_Check.mono|apply group_lift.mono|exact LeO.refl _|exact LeO.none _|refine LeO.ite ?_ ?_|refine LeO.bind ?_ (fun _=>?_))|apply J|apply ε |apply call_Check.mono|apply group_lift.mono|exact LeO.none _|refine LeO.ite ?_ ?_|refine LeO.bind ?_ (fun _=>?_)
  ·intro O X Z B Y y5 y6 y7 y8 y9 γ δ ζ η θ ι
   unfold group_Check.l0
   repeat' first|(with_reducible first|apply J|apply ε |apply call_Check.mono|apply group_lift.mono|exact LeO.refl _|exact LeO.none _|refine LeO.ite ?_ ?_|refine LeO.bind ?_ (fun _=>?_))|apply J|apply ε |apply call_Check.mono|apply group_lift.mono|exact LeO.none _|refine LeO.ite ?_ ?_|refine LeO.bind ?_ (fun _=>?_)
theorem group_Check.mono:∀ B Z a2 a3 O a5 X a7 a8 a9 Y γ δ k,LeO (group_Check.f k B Z a2 a3 O a5 X a7 a8 a9 Y γ δ) (group_Check.f (k+1) B Z a2 a3 O a5 X a7 a8 a9 Y γ δ):=by
 intro B Z a2 a3 O a5 X a7 a8 a9 Y γ δ k
 obtain⟨J,ε⟩:=group_Check.Z6 k
 unfold group_Check.f
 repeat' first|(with_reducible first|apply J|apply ε |apply call_Check.mono|apply group_lift.mono|exact LeO.refl _|exact LeO.none _|refine LeO.ite ?_ ?_|refine LeO.bind ?_ (fun _=>?_))|apply J|apply ε |apply call_Check.mono|apply group_lift.mono|exact LeO.none _|refine LeO.ite ?_ ?_|refine LeO.bind ?_ (fun _=>?_)
theorem group_Check.calls (k:Nat) (B:Int) (J:Int) (O:Int) (Y:Int) (Z:Int) (γ:Int) (δ :Int) (ε :Int) (θ :Int) (η :Int) (A1:Option Addr) (c1:Nat) (l1:List (S31)) (aa:Option Addr) (ab:Nat) (σ:List (S36)) (ac:Option Addr) (ae:Nat) (τ :List (S86)) (r:Int) (w:World) (ct:Kd.C k31 w A1 l1.length l1) (ch:l1.length≤c1) (ao:Kd.C k36 w aa σ.length σ) (ap:σ.length≤ab) (ar:Kd.C k86 w ac τ.length τ) (b5: τ.length≤ae) (h:group_Check.f k B J O Y Z γ δ ε θ η l1 σ τ = some r):
 Calls Try.prog 17 #[.agg #[nI B,nI J,nI O,nI Y,nI Z,nI γ,nI δ,nI ε,nI θ,nI η],.slice A1 l1.length c1,.agg #[.slice aa σ.length ab,.slice ac τ.length ae]] w fun e w'=>e = .returned (nI r)∧Below w.heap.size w w':=by
 have cj:=Try.underlying25
 have d0:=Try.underlying50
 have gl:=Try.underlying31
 have ci:=aK ct
 have da:=aK ch
 clear ct ch
 have bm:=aK ao
 have bn:=aK ap
 clear ao ap
 have bp:=aK ar
 have bq:=aK b5
 clear ar b5
 have HB:=aK (Below.refl w.heap.size w)
 have H:(if (l1.length:Int)<1 then (group_Check.j0 k l1 true B J O Y Z γ δ ε θ η σ τ) else (group_Check.j0 k l1 (decide ((l1.length:Int)>8)) B J O Y Z γ δ ε θ η σ τ))=some r:=h
 clear h
 have af:=aK H
 clear H
 go_enter Try.func17,Try.ntmps17
 go_upto_region 1 with(first|((with_reducible refine Qe (N:=3) rfl ?_);(try(refine Zk (by rfl) ?_;dsimp only));refine qE 3 #[nI B,nI J,nI O,nI Y,nI Z,nI γ,nI δ,nI ε,nI θ,nI η] 25 ?_;intro κ hg w5 hbox hb;have ζ :=aK hbox;have cg:=sGe hg;have cp:=sGe hg;replace HB:=sHb hb;clear hb hbox hg)|((with_reducible refine Qe (N:=5) rfl ?_);(try(refine Zk (by rfl) ?_;dsimp only));refine qE 5 #[.slice aa σ.length ab,.slice ac τ.length ae] 50 ?_;intro b9 hg w6 hbox hb;have ι :=aK hbox;have cr:=sGe hg;have d3:=sGe hg;have an:=sNl ζ hg;have b6:=sNg ζ hg;replace ζ :=sBk ζ hb;replace HB:=sHb hb;clear hb hbox hg))
 (try simp only[Act.put,qS])
 go_cut [16] (fun cf wc=>∃ (kq:Nat) (be:Bool),cf = .bool be∧Aside0 (group_Check.j0 kq l1 be B J O Y Z γ δ ε θ η σ τ = some r)∧Aside0 (kq≤k)∧Aside0 (wc.heap[κ]?=some (.cells #[nI B,nI J,nI O,nI Y,nI Z,nI γ,nI δ,nI ε,nI θ,nI η] 25 (0,0)))∧Aside0 (wc.heap[b9]?=some (.cells #[(.slice aa σ.length ab),(.slice ac τ.length ae)] 50 (0,0)))∧Aside0 (Below w.heap.size w wc))
 case first=>
  have H:=af.out
  clear af
  by_cases c7:(l1.length:Int)<1
  ·rw[if_pos c7] at H
   have c7b0:=decide_eq_true c7
   have c7b1:decide (l1.length<1)=true:=decide_eq_true (by omega)
   clear c7
   (first|rw[c7b0]|(simp only[Zy,Z8];rw[c7b0])|skip)
   have H':=aK H
   clear H
   go_wp2
   go_meet
   case rel=>exact⟨_,(true),rfl,H',⟨by first|omega|exact Nat.le_refl _⟩,ζ,ι,HB⟩
  ·rw[if_neg c7] at H
   have c7b0:=decide_eq_false c7
   have c7b1:decide (l1.length<1)=false:=decide_eq_false (by omega)
   clear c7
   (first|rw[c7b0]|(simp only[Zy,Z8];rw[c7b0])|skip)
   have H':=aK H
   clear H
   go_wp2
   go_meet
   case rel=>exact⟨_,(decide ((l1.length:Int)>8)),rfl,H',⟨by first|omega|exact Nat.le_refl _⟩,ζ,ι,HB⟩
 case rest=>
  clear af
  try clear c1
  obtain⟨kq,be,rfl,HA,d1,ζ,ι,HB⟩:=hcut
  cases kq with
  |zero=>exact absurd HA.out (by simp[group_Check.j0])
  |succ fc=>
   have H:=HA.out
   clear HA
   simp only[group_Check.j0] at H
   by_cases c8:be=true
   ·subst c8
    rw[if_pos rfl] at H
    obtain rfl:=qJ H
    go_wp2
    go_ret
    exact⟨rfl,HB.out⟩
   ·replace c8:=Bool.eq_false_iff.mpr c8
    subst c8
    rw[if_neg nft] at H
    have H':=aK H
    clear H
    go_wp2
    go_loopg [19] fc (fun kq bw w'=>∃ (X:Int),bw=nI X∧Aside0 (group_Check.l0 kq l1 l1 (l1.length:Int) X B J O Y Z γ δ ε θ η σ τ = some r)∧Aside0 (kq≤fc)∧Aside0 (w'.heap[κ]?=some (.cells #[nI B,nI J,nI O,nI Y,nI Z,nI γ,nI δ,nI ε,nI θ,nI η] 25 (0,0)))∧Aside0 (w'.heap[b9]?=some (.cells #[(.slice aa σ.length ab),(.slice ac τ.length ae)] 50 (0,0)))∧Aside0 (Below w.heap.size w w'))
    case atStart=>exact⟨(0),rfl,H',⟨Nat.le_refl _⟩,ζ,ι,HB⟩
    case round=>
     clear H'
     try clear c1
     try clear c8
     obtain⟨X,rfl,HA,b7,ζ,ι,HB⟩:=hrel
     cases gk with
     |zero=>exact absurd HA.out (by simp[group_Check.l0])
     |succ k2=>
      have H:=HA.out
      clear HA
      simp only[group_Check.l0] at H
      by_cases c9:X<(l1.length:Int)
      ·rw[if_pos c9] at H
       have c9b0:=decide_eq_true c9
       clear c9
       by_cases c10:0≤X
       ·rw[if_pos c10] at H
        have c10b0:=decide_eq_true c10
        clear c10
        by_cases a5:X<(l1.length:Int)
        ·rw[if_pos a5] at H
         have c11b0:=decide_eq_true a5
         clear a5
         obtain⟨br,b8,H⟩:=qQ H
         by_cases a2:br=true
         ·subst a2
          rw[if_pos rfl] at H
          have H':=aK H
          clear H
          have ah:0≤(X:Int):=of_decide_eq_true (by assumption)
          have al:X<(l1.length:Int):=of_decide_eq_true (by assumption)
          obtain⟨bz,bu,μ,ν,ξ,ρ,φ,χ,ψ,ω,a0,a1⟩:=Jc ci.out X ah al
          cases bu
          replace μ :=sCl HB μ
          replace ν :=sCl HB ν
          replace ξ :=sCl HB ξ
          replace ρ:=sCl HB ρ
          replace φ :=sCl HB φ
          replace χ :=sCl HB χ
          replace ψ :=sCl HB ψ
          replace ω :=sCl HB ω
          replace a0:=sCl HB a0
          replace a1:=sCl HB a1
          replace ah:=eq_true ah
          replace al:=eq_true al
          go_wp2_with (first|((with_reducible refine Qe (N:=8) rfl ?_);(try(refine Zk (by rfl) ?_;dsimp only));refine qE 8 #[nI 0,nI 0,nI 0,nI 0,nI 0,nI 0,nI 0,nI 0,.bool false,.bool false] 31 ?_;intro bg hg cb hbox hb;have a3:=aK hbox;have cd:=sGe hg;have ce:=sGe hg;have a6:=sNl ζ hg;have a7:=sNg ζ hg;have a8:=sNl ι hg;have a9:=sNg ι hg;replace ζ :=sBk ζ hb;replace ι :=sBk ι hb;replace HB:=sHb hb;clear hb hbox hg;have ge:=a7.out;have gf:=a6.out;have j9:=a9.out;have ja:=a8.out;obtain⟨az,b0,bl,ck,cm,co,dl,ak,bc,bd,b1,b2,ca,dm,ec,eu,ev,cn,ew,ey⟩:=Zi a3.out;have db:=an.out;have dc:=b6.out;obtain⟨ag,ai,b3,ba,bb,cv,d7,dy,dz,gg,aj,am,b4,d8,d9,dd,de,gh,gi,gj⟩:=Zi ζ.out)|((with_reducible refine Qf (f:=28) rfl ?_);refine Q0 (some 25) rfl rfl Try.func28 kr rfl #[.agg #[nI B,nI J,nI O,nI Y,nI Z,nI γ,nI δ,nI ε,nI θ,nI η],.agg #[nI ((Qc l1 X).f0.f0),nI ((Qc l1 X).f0.f1),nI ((Qc l1 X).f0.f2),nI ((Qc l1 X).f0.f3),nI ((Qc l1 X).f0.f4.f0),nI ((Qc l1 X).f0.f4.f1),nI ((Qc l1 X).f0.f4.f2),nI ((Qc l1 X).f1),.bool ((Qc l1 X).f2),.bool ((Qc l1 X).f3)]] rfl qM ?_;(with_reducible refine(group_lift.calls k2 B J O Y Z γ δ ε θ η ((Qc l1 X).f0.f0) ((Qc l1 X).f0.f1) ((Qc l1 X).f0.f2) ((Qc l1 X).f0.f3) ((Qc l1 X).f0.f4.f0) ((Qc l1 X).f0.f4.f1) ((Qc l1 X).f0.f4.f2) ((Qc l1 X).f1) ((Qc l1 X).f2) ((Qc l1 X).f3) true _ b8.out).mono ?_);rintro e dw ⟨rfl,hb⟩;refine⟨_,rfl, ?_⟩;replace ζ :=sBk ζ hb;replace ι :=sBk ι hb;replace a3:=aK (Q1 (g:=bg) (o:=.cells #[nI ((Qc l1 X).f0.f0),nI ((Qc l1 X).f0.f1),nI ((Qc l1 X).f0.f2),nI ((Qc l1 X).f0.f3),nI ((Qc l1 X).f0.f4.f0),nI ((Qc l1 X).f0.f4.f1),nI ((Qc l1 X).f0.f4.f2),nI ((Qc l1 X).f1),.bool ((Qc l1 X).f2),.bool ((Qc l1 X).f3)] 31 (0,0)) (by refine Qo (cs:=#[nI ((Qc l1 X).f0.f0),nI ((Qc l1 X).f0.f1),nI ((Qc l1 X).f0.f2),nI ((Qc l1 X).f0.f3),nI ((Qc l1 X).f0.f4.f0),nI ((Qc l1 X).f0.f4.f1),nI ((Qc l1 X).f0.f4.f2),nI ((Qc l1 X).f1),.bool ((Qc l1 X).f2),.bool false]) ?_ 9 _ rfl;refine Qo (cs:=#[nI ((Qc l1 X).f0.f0),nI ((Qc l1 X).f0.f1),nI ((Qc l1 X).f0.f2),nI ((Qc l1 X).f0.f3),nI ((Qc l1 X).f0.f4.f0),nI ((Qc l1 X).f0.f4.f1),nI ((Qc l1 X).f0.f4.f2),nI ((Qc l1 X).f1),.bool false,.bool false]) ?_ 8 _ rfl;refine Qo (cs:=#[nI ((Qc l1 X).f0.f0),nI ((Qc l1 X).f0.f1),nI ((Qc l1 X).f0.f2),nI ((Qc l1 X).f0.f3),nI ((Qc l1 X).f0.f4.f0),nI ((Qc l1 X).f0.f4.f1),nI ((Qc l1 X).f0.f4.f2),nI 0,.bool false,.bool false]) ?_ 7 _ rfl;refine Qo (cs:=#[nI ((Qc l1 X).f0.f0),nI ((Qc l1 X).f0.f1),nI ((Qc l1 X).f0.f2),nI ((Qc l1 X).f0.f3),nI ((Qc l1 X).f0.f4.f0),nI ((Qc l1 X).f0.f4.f1),nI 0,nI 0,.bool false,.bool false]) ?_ 6 _ rfl;refine Qo (cs:=#[nI ((Qc l1 X).f0.f0),nI ((Qc l1 X).f0.f1),nI ((Qc l1 X).f0.f2),nI ((Qc l1 X).f0.f3),nI ((Qc l1 X).f0.f4.f0),nI 0,nI 0,nI 0,.bool false,.bool false]) ?_ 5 _ rfl;refine Qo (cs:=#[nI ((Qc l1 X).f0.f0),nI ((Qc l1 X).f0.f1),nI ((Qc l1 X).f0.f2),nI ((Qc l1 X).f0.f3),nI 0,nI 0,nI 0,nI 0,.bool false,.bool false]) ?_ 4 _ rfl;refine Qo (cs:=#[nI ((Qc l1 X).f0.f0),nI ((Qc l1 X).f0.f1),nI ((Qc l1 X).f0.f2),nI 0,nI 0,nI 0,nI 0,nI 0,.bool false,.bool false]) ?_ 3 _ rfl;refine Qo (cs:=#[nI ((Qc l1 X).f0.f0),nI ((Qc l1 X).f0.f1),nI 0,nI 0,nI 0,nI 0,nI 0,nI 0,.bool false,.bool false]) ?_ 2 _ rfl;refine Qo (cs:=#[nI ((Qc l1 X).f0.f0),nI 0,nI 0,nI 0,nI 0,nI 0,nI 0,nI 0,.bool false,.bool false]) ?_ 1 _ rfl;refine Qo (cs:=#[nI 0,nI 0,nI 0,nI 0,nI 0,nI 0,nI 0,nI 0,.bool false,.bool false]) ?_ 0 _ rfl;exact a3.out) hb);replace HB:=sHb hb;(try clear hb);(try clear a4);(try clear hk);(try clear hi)))
          go_roundg k2
          case measure=>have:=d1.out;have:=b7.out;omega
          case rel=>exact⟨(wrap64 (X+1)),rfl,H',⟨by have:=d1.out;have:=b7.out;omega⟩,ζ,ι,HB⟩
         ·replace a2:=Bool.eq_false_iff.mpr a2
          subst a2
          rw[if_neg nft] at H
          obtain rfl:=qJ H
          have ah:0≤(X:Int):=of_decide_eq_true (by assumption)
          have al:X<(l1.length:Int):=of_decide_eq_true (by assumption)
          obtain⟨bz,bu,μ,ν,ξ,ρ,φ,χ,ψ,ω,a0,a1⟩:=Jc ci.out X ah al
          cases bu
          replace μ :=sCl HB μ
          replace ν :=sCl HB ν
          replace ξ :=sCl HB ξ
          replace ρ:=sCl HB ρ
          replace φ :=sCl HB φ
          replace χ :=sCl HB χ
          replace ψ :=sCl HB ψ
          replace ω :=sCl HB ω
          replace a0:=sCl HB a0
          replace a1:=sCl HB a1
          replace ah:=eq_true ah
          replace al:=eq_true al
          go_wp2_with (first|((with_reducible refine Qe (N:=8) rfl ?_);(try(refine Zk (by rfl) ?_;dsimp only));refine qE 8 #[nI 0,nI 0,nI 0,nI 0,nI 0,nI 0,nI 0,nI 0,.bool false,.bool false] 31 ?_;intro bg hg bo hbox hb;have a3:=aK hbox;have cd:=sGe hg;have ce:=sGe hg;have a6:=sNl ζ hg;have a7:=sNg ζ hg;have a8:=sNl ι hg;have a9:=sNg ι hg;replace ζ :=sBk ζ hb;replace ι :=sBk ι hb;replace HB:=sHb hb;clear hb hbox hg;have ek:=a7.out;have el:=a6.out;have d2:=a9.out;have dx:=a8.out;obtain⟨au,av,bs,e0,e3,e4,e5,cq,dp,dq,aw,ax,bv,e6,e7,e8,e9,dr,fw,fx⟩:=Zi a3.out;have eo:=an.out;have ep:=b6.out;obtain⟨ay,cu,df,bj,cy,cz,dh,j4,h9,ha,cw,cx,dj,di,ii,ij,ik,j5,he,hh⟩:=Zi ζ.out)|((with_reducible refine Qf (f:=28) rfl ?_);refine Q0 (some 25) rfl rfl Try.func28 kr rfl #[.agg #[nI B,nI J,nI O,nI Y,nI Z,nI γ,nI δ,nI ε,nI θ,nI η],.agg #[nI ((Qc l1 X).f0.f0),nI ((Qc l1 X).f0.f1),nI ((Qc l1 X).f0.f2),nI ((Qc l1 X).f0.f3),nI ((Qc l1 X).f0.f4.f0),nI ((Qc l1 X).f0.f4.f1),nI ((Qc l1 X).f0.f4.f2),nI ((Qc l1 X).f1),.bool ((Qc l1 X).f2),.bool ((Qc l1 X).f3)]] rfl qM ?_;(with_reducible refine(group_lift.calls k2 B J O Y Z γ δ ε θ η ((Qc l1 X).f0.f0) ((Qc l1 X).f0.f1) ((Qc l1 X).f0.f2) ((Qc l1 X).f0.f3) ((Qc l1 X).f0.f4.f0) ((Qc l1 X).f0.f4.f1) ((Qc l1 X).f0.f4.f2) ((Qc l1 X).f1) ((Qc l1 X).f2) ((Qc l1 X).f3) false _ b8.out).mono ?_);rintro e dk ⟨rfl,hb⟩;refine⟨_,rfl, ?_⟩;replace ζ :=sBk ζ hb;replace ι :=sBk ι hb;replace a3:=aK (Q1 (g:=bg) (o:=.cells #[nI ((Qc l1 X).f0.f0),nI ((Qc l1 X).f0.f1),nI ((Qc l1 X).f0.f2),nI ((Qc l1 X).f0.f3),nI ((Qc l1 X).f0.f4.f0),nI ((Qc l1 X).f0.f4.f1),nI ((Qc l1 X).f0.f4.f2),nI ((Qc l1 X).f1),.bool ((Qc l1 X).f2),.bool ((Qc l1 X).f3)] 31 (0,0)) (by refine Qo (cs:=#[nI ((Qc l1 X).f0.f0),nI ((Qc l1 X).f0.f1),nI ((Qc l1 X).f0.f2),nI ((Qc l1 X).f0.f3),nI ((Qc l1 X).f0.f4.f0),nI ((Qc l1 X).f0.f4.f1),nI ((Qc l1 X).f0.f4.f2),nI ((Qc l1 X).f1),.bool ((Qc l1 X).f2),.bool false]) ?_ 9 _ rfl;refine Qo (cs:=#[nI ((Qc l1 X).f0.f0),nI ((Qc l1 X).f0.f1),nI ((Qc l1 X).f0.f2),nI ((Qc l1 X).f0.f3),nI ((Qc l1 X).f0.f4.f0),nI ((Qc l1 X).f0.f4.f1),nI ((Qc l1 X).f0.f4.f2),nI ((Qc l1 X).f1),.bool false,.bool false]) ?_ 8 _ rfl;refine Qo (cs:=#[nI ((Qc l1 X).f0.f0),nI ((Qc l1 X).f0.f1),nI ((Qc l1 X).f0.f2),nI ((Qc l1 X).f0.f3),nI ((Qc l1 X).f0.f4.f0),nI ((Qc l1 X).f0.f4.f1),nI ((Qc l1 X).f0.f4.f2),nI 0,.bool false,.bool false]) ?_ 7 _ rfl;refine Qo (cs:=#[nI ((Qc l1 X).f0.f0),nI ((Qc l1 X).f0.f1),nI ((Qc l1 X).f0.f2),nI ((Qc l1 X).f0.f3),nI ((Qc l1 X).f0.f4.f0),nI ((Qc l1 X).f0.f4.f1),nI 0,nI 0,.bool false,.bool false]) ?_ 6 _ rfl;refine Qo (cs:=#[nI ((Qc l1 X).f0.f0),nI ((Qc l1 X).f0.f1),nI ((Qc l1 X).f0.f2),nI ((Qc l1 X).f0.f3),nI ((Qc l1 X).f0.f4.f0),nI 0,nI 0,nI 0,.bool false,.bool false]) ?_ 5 _ rfl;refine Qo (cs:=#[nI ((Qc l1 X).f0.f0),nI ((Qc l1 X).f0.f1),nI ((Qc l1 X).f0.f2),nI ((Qc l1 X).f0.f3),nI 0,nI 0,nI 0,nI 0,.bool false,.bool false]) ?_ 4 _ rfl;refine Qo (cs:=#[nI ((Qc l1 X).f0.f0),nI ((Qc l1 X).f0.f1),nI ((Qc l1 X).f0.f2),nI 0,nI 0,nI 0,nI 0,nI 0,.bool false,.bool false]) ?_ 3 _ rfl;refine Qo (cs:=#[nI ((Qc l1 X).f0.f0),nI ((Qc l1 X).f0.f1),nI 0,nI 0,nI 0,nI 0,nI 0,nI 0,.bool false,.bool false]) ?_ 2 _ rfl;refine Qo (cs:=#[nI ((Qc l1 X).f0.f0),nI 0,nI 0,nI 0,nI 0,nI 0,nI 0,nI 0,.bool false,.bool false]) ?_ 1 _ rfl;refine Qo (cs:=#[nI 0,nI 0,nI 0,nI 0,nI 0,nI 0,nI 0,nI 0,.bool false,.bool false]) ?_ 0 _ rfl;exact a3.out) hb);replace HB:=sHb hb;(try clear hb);(try clear a4);(try clear hk);(try clear hi)))
          go_ret
          exact⟨rfl,HB.out⟩
        ·rw[if_neg a5] at H
         exact absurd H (by simp)
       ·rw[if_neg c10] at H
        exact absurd H (by simp)
      ·rw[if_neg c9] at H
       have c9b0:=decide_eq_false c9
       clear c9
       obtain⟨⟨bh,bk⟩,ei,H⟩:=qQ H
       replace H:((call_Check.f k2 bh bk σ τ).bind fun bf=>(some bf))=some r:=H
       obtain⟨bf,fl,H⟩:=qQ H
       obtain rfl:=qJ H
       try go_wp2
       replace ζ :=aK (Qd ζ.out)
       replace ι :=aK (Qd ι.out)
       replace HB:=aK (Qj HB.out)
       refine Zg (n:=6) (S:=fun w'=>cI w' κ 0 B∧cI w' κ 1 J∧cI w' κ 2 O∧cI w' κ 3 Y∧cI w' κ 4 Z∧cI w' κ 5 γ∧cI w' κ 6 δ ∧ cI w' κ 7 ε ∧ cI w' κ 8 θ ∧ cI w' κ 9 η ∧ w'.cell? ⟨b9,0,none⟩=some (.slice aa σ.length ab)∧w'.cell? ⟨b9,1,none⟩=some (.slice ac τ.length ae)) (ds:=[]) #[false,false,false,false,false,false] kr rfl rfl ⟨(Qa ζ.out 0).trans rfl,(Qa ζ.out 1).trans rfl,(Qa ζ.out 2).trans rfl,(Qa ζ.out 3).trans rfl,(Qa ζ.out 4).trans rfl,(Qa ζ.out 5).trans rfl,(Qa ζ.out 6).trans rfl,(Qa ζ.out 7).trans rfl,(Qa ζ.out 8).trans rfl,(Qa ζ.out 9).trans rfl,(Qa ι.out 0).trans rfl,(Qa ι.out 1).trans rfl⟩ (fun hHeld=>?_)
       generalize wr.drew=eb at ζ ι HB hHeld ⊢
       refine qV 1 (some 29) (bN 6 2) ?_
       refine qW 0 (some 28) (bN 6 3) hHeld ?_
       refine qW 3 (some 31) (bN 6 11) hHeld ?_
       refine Kp (i:=2) (N:=some 30) (bN 6 15) rfl rfl kr (by decide) (fun K hK=>?_)
       refine Zd Try.func37 kr rfl #[.agg #[nI B,nI J,nI O,nI Y,nI Z,nI γ,nI δ,nI ε,nI θ,nI η],.slice A1 l1.length c1] (by rfl) rfl rfl qM ?_
       with_reducible refine(group_house.calls B J O Y Z γ δ ε θ η _ _ l1 bh bk _ ?side1 ?side2 ei.out).mono ?_
       (case side1=>exact(Kd.Qw ci.out HB.out))
       (case side2=>exact da.out)
       rintro e jz ⟨rfl,hb⟩
       refine⟨_,rfl, ?_⟩
       replace ζ :=sBk ζ hb
       replace ι :=sBk ι hb
       replace HB:=sHb hb
       (try clear hb)
       (try clear a4)
       (try clear hk)
       (try clear hi)
       refine hK.out _ _ ⟨qc ζ,qc ζ,qc ζ,qc ζ,qc ζ,qc ζ,qc ζ,qc ζ,qc ζ,qc ζ,qc ι,qc ι⟩ (fun hHeld=>?_)
       clear hK K
       refine qN (some 30) ?_
       refine Kp (i:=4) (N:=some 32) (bN 6 31) rfl rfl kr (by decide) (fun K hK=>?_)
       refine Zd Try.func40 kr rfl #[.agg #[nI bh,nI bk],.agg #[.slice aa σ.length ab,.slice ac τ.length ae]] (by rfl) rfl rfl qM ?_
       with_reducible refine(call_Check.calls k2 bh bk _ _ σ _ _ τ bf _ ?side1 ?side2 ?side3 ?side4 fl.out).mono ?_
       (case side1=>exact(Kd.Qw bm.out HB.out))
       (case side2=>exact bn.out)
       (case side3=>exact(Kd.Qw bp.out HB.out))
       (case side4=>exact bq.out)
       rintro e bi ⟨rfl,hb⟩
       refine⟨_,rfl, ?_⟩
       replace ζ :=sBk ζ hb
       replace ι :=sBk ι hb
       replace HB:=sHb hb
       (try clear hb)
       (try clear a4)
       (try clear hk)
       (try clear hi)
       refine hK.out _ _ ⟨qc ζ,qc ζ,qc ζ,qc ζ,qc ζ,qc ζ,qc ζ,qc ζ,qc ζ,qc ζ,qc ι,qc ι⟩ (fun hHeld=>?_)
       clear hK K
       refine qN (some 32) ?_
       refine qV 5 (some 6) (bN 6 63) ?_
       refine Zl kr ?_
       try go_wp2
       go_ret
       exact⟨rfl,HB.out⟩
mutual
def call_View.l0:Nat→Int→List (S86)→Int→Int→List (S36)→List (S86)→List Int→Option (List Int×List Int×List Int×Int)
 |0,_,_,_,_,_,_,_=>none
 |k+1,Y,O,γ,X,J,Z,B=>if X<γ then (if 0≤X then (if X<(O.length:Int) then (if ((Qp O X).f0)=Y then (if B.length<17592186044416 then (call_View.l0 k Y O γ (wrap64 (X+1)) J Z (B ++ [(Qp O X).f1])) else (none)) else (call_View.l0 k Y O γ (wrap64 (X+1)) J Z B)) else (none)) else (none)) else (call_View.l1 k Y J (J.length:Int) 0 B ([]:List Int) ([]:List Int))
def call_View.l1:Nat→Int→List (S36)→Int→Int→List Int→List Int→List Int→Option (List Int×List Int×List Int×Int)
 |0,_,_,_,_,_,_,_=>none
 |k+1,Y,Z,γ,X,B,J,O=>if X<γ then (if 0≤X then (if X<(Z.length:Int) then (if ((Qb Z X).f2)=Y then (if ((Qb Z X).f1)>0 then (if J.length<17592186044416 then (call_View.l1 k Y Z γ (wrap64 (X+1)) B (J ++ [(Qb Z X).f0]) O) else (none)) else (if O.length<17592186044416 then (call_View.l1 k Y Z γ (wrap64 (X+1)) B J (O ++ [(Qb Z X).f0])) else (none))) else (call_View.l1 k Y Z γ (wrap64 (X+1)) B J O)) else (none)) else (none)) else (some (B,J,O,0))
end
def call_View.f (k:Nat) (B:Int) (J:Int) (O:List (S36)) (X:List (S86)) (a2:Int):Option (List Int×List Int×List Int×Int):=(call_Check.f k B J O X).bind fun bj=>(if bj=0 then ((call_within.f a2 0 (wrap64 (J-1))).bind fun dq=>(if dq=true then (call_View.l0 k a2 X (X.length:Int) 0 O X ([]:List Int)) else (some (([]:List Int),([]:List Int),([]:List Int),191)))) else (some (([]:List Int),([]:List Int),([]:List Int),bj)))
theorem call_View.Z6:∀ k,(∀ O X Z B Y y5 y6,LeO (call_View.l0 k O X Z B Y y5 y6) (call_View.l0 (k+1) O X Z B Y y5 y6))∧(∀ O X Z B Y y5 y6,LeO (call_View.l1 k O X Z B Y y5 y6) (call_View.l1 (k+1) O X Z B Y y5 y6))
 |0=>⟨fun _ _ _ _ _ _ _ r h=>by simp[call_View.l0] at h,fun _ _ _ _ _ _ _ r h=>by simp[call_View.l1] at h⟩
 |k+1=>by
  obtain⟨J,ε⟩:=call_View.Z6 k
  refine⟨?_, ?_⟩
  ·intro O X Z B Y y5 y6
   unfold call_View.l0
   repeat' first|(with_reducible first|apply J|apply ε |apply call_Check.mono|exact LeO.refl _|exact LeO.none _|refine LeO.ite ?_ ?_|refine LeO.bind ?_ (fun _=>?_))|apply J|apply ε |apply call_Check.mono|exact LeO.none _|refine LeO.ite ?_ ?_|refine LeO.bind ?_ (fun _=>?_)
  ·intro O X Z B Y y5 y6
   unfold call_View.l1
   repeat' first|(with_reducible first|apply J|apply ε |apply call_Check.mono|exact LeO.refl _|exact LeO.none _|refine LeO.ite ?_ ?_|refine LeO.bind ?_ (fun _=>?_))|apply J|apply ε |apply call_Check.mono|exact LeO.none _|refine LeO.ite ?_ ?_|refine LeO.bind ?_ (fun _=>?_)
theorem call_View.mono:∀ B Z a2 a3 O k,LeO (call_View.f k B Z a2 a3 O) (call_View.f (k+1) B Z a2 a3 O):=by
 intro B Z a2 a3 O k
 obtain⟨J,ε⟩:=call_View.Z6 k
 unfold call_View.f
 repeat' first|(with_reducible first|apply J|apply ε |apply call_Check.mono|exact LeO.refl _|exact LeO.none _|refine LeO.ite ?_ ?_|refine LeO.bind ?_ (fun _=>?_))|apply J|apply ε |apply call_Check.mono|exact LeO.none _|refine LeO.ite ?_ ?_|refine LeO.bind ?_ (fun _=>?_)
theorem call_View.calls (k:Nat) (B:Int) (J:Int) (ι :Option Addr) (ζ :Nat) (O:List (S36)) (κ :Option Addr) (η :Nat) (X:List (S86)) (a2:Int) (r1:List Int) (r2:List Int) (r3:List Int) (r4:Int) (w:World) (b4:Kd.C k36 w ι O.length O) (b9:O.length ≤ ζ) (ba:Kd.C k86 w κ X.length X) (bb:X.length ≤ η) (h:call_View.f k B J O X a2=some (r1,r2,r3,r4)):
 Calls Try.prog 24 #[.agg #[nI B,nI J],.agg #[.slice ι O.length ζ,.slice κ X.length η],nI a2] w fun e w'=>∃ b3 d7 de:Value,e = .returned (.tuple #[.agg #[b3,d7,de],nI r4])∧Kd.R (Kd.int .i64) 3 w' w.heap.size (fun k_=>some k_≠(d7:Value).ownBlock∧some k_≠(de:Value).ownBlock) b3 r1∧Kd.R (Kd.int .i64) 3 w' w.heap.size (fun k_=>some k_≠(b3:Value).ownBlock∧some k_≠(de:Value).ownBlock) d7 r2∧Kd.R (Kd.int .i64) 3 w' w.heap.size (fun k_=>some k_≠(b3:Value).ownBlock∧some k_≠(d7:Value).ownBlock) de r3∧Below w.heap.size w w':=by
 have dw:=Try.underlying59
 have d0:=Try.underlying50
 have gq:=Try.underlying34
 have d8:=Try.underlying86
 have cg:=Try.underlying36
 have τ :=aK b4
 have bg:=aK b9
 clear b4 b9
 have a0:=aK ba
 have bh:=aK bb
 clear ba bb
 have HB:=aK (Below.refl w.heap.size w)
 have H:((call_Check.f k B J O X).bind fun bj=>(if bj=0 then ((call_within.f a2 0 (wrap64 (J-1))).bind fun dq=>(if dq=true then (call_View.l0 k a2 X (X.length:Int) 0 O X ([]:List Int)) else (some (([]:List Int),([]:List Int),([]:List Int),191)))) else (some (([]:List Int),([]:List Int),([]:List Int),bj))))=some (r1,r2,r3,r4):=h
 clear h
 obtain⟨bj,A4,H⟩:=qQ H
 by_cases c5:bj=0
 ·rw[if_pos c5] at H
  have c5b0:(bj==0)=true:=beq_iff_eq.mpr c5
  have c5b1:(bj != 0)=false:=bne_eq_false_iff_eq.mpr c5
  clear c5
  obtain⟨dq,A6,H⟩:=qQ H
  by_cases c7:dq=true
  ·subst c7
   rw[if_pos rfl] at H
   have H':=aK H
   clear H
   go_enter Try.func24,Try.ntmps24
   go_wp2_with (first|((with_reducible refine Qe (N:=3) rfl ?_);refine qE 3 #[nI B,nI J] 59 ?_;intro ab hg w8 hbox hb;have Y:=aK hbox;have ea:=sGe hg;have ec:=sGe hg;replace HB:=sHb hb;clear hb hbox hg)|((with_reducible refine Qe (N:=4) rfl ?_);refine qE 4 #[.slice ι O.length ζ,.slice κ X.length η] 50 ?_;intro cj hg w9 hbox hb;have γ:=aK hbox;have ed:=sGe hg;have ee:=sGe hg;have ae:=sNl Y hg;have ah:=sNg Y hg;replace Y:=sBk Y hb;replace HB:=sHb hb;clear hb hbox hg)|((with_reducible refine Qe (N:=6) rfl ?_);refine qE 6 #[.slice none 0 0,.slice none 0 0,.slice none 0 0] 34 ?_;intro ac hg fj hbox hb;have δ :=aK hbox;have ez:=sGe hg;have f7:=sGe hg;have ai:=sNl Y hg;have aj:=sNg Y hg;have a9:=sNl γ hg;have aa:=sNg γ hg;replace Y:=sBk Y hb;replace γ:=sBk γ hb;replace HB:=sHb hb;clear hb hbox hg;have du:=ae.out;have e4:=ah.out;have e0:=ai.out;have e3:=aj.out;obtain⟨ao,bc,ap,be⟩:=qD2 Y.out;have e5:=a9.out;have e6:=aa.out;obtain⟨bf,bp,bu,bw⟩:=qD2 γ.out)|((with_reducible refine Qf (f:=40) rfl ?_);refine Q0 (some 16) rfl rfl Try.func40 kr rfl #[.agg #[nI B,nI J],.agg #[.slice ι O.length ζ,.slice κ X.length η]] rfl qM ?_;(with_reducible refine(call_Check.calls k B J _ _ O _ _ X bj _ ?side1 ?side2 ?side3 ?side4 A4.out).mono ?_);(case side1=>exact(Kd.Qw τ.out HB.out));(case side2=>exact bg.out);(case side3=>exact(Kd.Qw a0.out HB.out));(case side4=>exact bh.out);rintro e cr ⟨rfl,hb⟩;refine⟨_,rfl, ?_⟩;replace Y:=sBk Y hb;replace γ:=sBk γ hb;replace δ :=sBk δ hb;replace HB:=sHb hb;(try clear hb);(try clear a4);(try clear hk);(try clear hi);obtain⟨az,b0,b1,b2⟩:=qD2 Y.out)|((with_reducible refine Qf (f:=44) rfl ?_);refine Q0 (some 25) rfl rfl Try.func44 kr rfl #[nI a2,nI 0,nI (wrap64 (J-1))] rfl qM ?_;(with_reducible refine(call_within.calls a2 0 (wrap64 (J-1)) true _ A6.out).mono ?_);rintro e w' ⟨rfl,⟨nd,rfl⟩⟩;refine⟨_,rfl, ?_⟩;(try(rw[Yu cr];generalize hq_:World.drewN cr _=cr;have φ :Aside0 (cr.heap[ab]?=some (.cells #[nI B,nI J] 59 (0,0))):=⟨by rw[← hq_];exact Y.out⟩;have χ :Aside0 (cr.heap[cj]?=some (.cells #[.slice ι O.length ζ,.slice κ X.length η] 50 (0,0))):=⟨by rw[← hq_];exact γ.out⟩;have ω :Aside0 (cr.heap[ac]?=some (.cells #[.slice none 0 0,.slice none 0 0,.slice none 0 0] 34 (0,0))):=⟨by rw[← hq_];exact δ.out⟩;have a6:Aside0 (Below w.heap.size w cr):=⟨by rw[← hq_];exact HB.out⟩;clear Y γ δ HB hq_;have Y:= φ;have γ:= χ;have δ := ω;have HB:=a6;clear φ χ ω a6));(try(have bl:cI cr ab 0 B:=(Qa Y.out 0).trans rfl));(try(have bz:cI cr ab 1 J:=(Qa Y.out 1).trans rfl));(try(have ca:=Qg Y.out 0));(try(have ch:=Qg Y.out 1)))|((with_reducible refine Qe (N:=9) rfl ?_);refine qE 9 #[.slice none 0 0,.slice none 0 0,.slice none 0 0] 34 ?_;intro dj hg b6 hbox hb;have θ :=aK hbox;have mr:=sGe hg;have ms:=sGe hg;have bk:=sNl Y hg;have bm:=sNg Y hg;have ak:=sNl γ hg;have al:=sNg γ hg;have bn:=sNl δ hg;have bo:=sNg δ hg;replace Y:=sBk Y hb;replace γ:=sBk γ hb;replace δ :=sBk δ hb;replace HB:=sHb hb;clear hb hbox hg;have eu:=bm.out;have ev:=bk.out;have em:=al.out;have en:=ak.out;have ek:=bo.out;have el:=bn.out;obtain⟨ct,cy,dh,cz,d2,di⟩:=qD3 θ.out;obtain⟨au,av,aw,ax⟩:=qD2 γ.out))
   go_loopg [32] k (fun kq mm w'=>∃ (ξ :Int) (σ:List Int) (ρ:Value),mm=nI ξ ∧ Aside0 (call_View.l0 kq a2 X (X.length:Int) ξ O X σ=some (r1,r2,r3,r4))∧Aside0 (kq≤k)∧Aside0 (Kd.R (Kd.int .i64) 3 w' w.heap.size (fun _=>True) ρ σ)∧Aside0 (w'.heap[ab]?=some (.cells #[nI B,nI J] 59 (0,0)))∧Aside0 (w'.heap[cj]?=some (.cells #[(.slice ι O.length ζ),(.slice κ X.length η)] 50 (0,0)))∧Aside0 (w'.heap[ac]?=some (.cells #[(.slice none 0 0),(.slice none 0 0),(.slice none 0 0)] 34 (0,0)))∧Aside0 (w'.heap[dj]?=some (.cells #[ρ,(.slice none 0 0),(.slice none 0 0)] 34 (0,0)))∧Aside0 (Below w.heap.size w w'))
   case atStart=>exact⟨(0),(([]:List Int)),(.slice none 0 0),qR,H',⟨Nat.le_refl _⟩,⟨by first|exact Kd.Xy _ _ _ _ _|exact Kd.Yr _ _ _ _ _|exact Kd.Yo _ _ _ _ _|exact Kd.Yq _ _ _ _ _|exact Kd.Yp _ _ _ _ _⟩,⟨bka Y⟩,⟨bka γ⟩,⟨bka δ⟩,⟨by(with_reducible repeat first|refine Qi ?_ _|refine Qd ?_|refine Qh ?_ _);refine Qo (cs:=#[.slice none 0 0,.slice none 0 0,.slice none 0 0]) ?_ 2 _ rfl;(with_reducible repeat first|refine Qi ?_ _|refine Qd ?_|refine Qh ?_ _);refine Qo (cs:=#[.slice none 0 0,.slice none 0 0,.slice none 0 0]) ?_ 1 _ rfl;(with_reducible repeat first|refine Qi ?_ _|refine Qd ?_|refine Qh ?_ _);refine Qo (cs:=#[.slice none 0 0,.slice none 0 0,.slice none 0 0]) ?_ 0 _ rfl;(with_reducible repeat first|refine Qi ?_ _|refine Qd ?_|refine Qh ?_ _);exact θ.out⟩,⟨bel⟩⟩
   case round=>
    clear H'
    try clear c5b0
    try clear c5b1
    try clear c7
    try clear ao
    try clear bc
    try clear bf
    try clear bp
    try clear az
    try clear b0
    try clear bl
    try clear bz
    try clear ct
    try clear cy
    try clear dh
    try clear au
    try clear av
    try clear ap
    try clear be
    try clear bu
    try clear bw
    try clear b1
    try clear b2
    try clear ca
    try clear ch
    try clear cz
    try clear d2
    try clear di
    try clear aw
    try clear ax
    obtain⟨ξ,σ,ρ,rfl,HA,af,ε,Y,γ,δ,θ,HB⟩:=hrel
    cases gk with
    |zero=>exact absurd HA.out (by simp[call_View.l0])
    |succ k1=>
     have H:=HA.out
     clear HA
     simp only[call_View.l0] at H
     by_cases b8: ξ < (X.length:Int)
     ·rw[if_pos b8] at H
      have c25b0:=decide_eq_true b8
      clear b8
      by_cases ay:0 ≤ ξ
      ·rw[if_pos ay] at H
       have c26b0:=decide_eq_true ay
       clear ay
       by_cases bd: ξ < (X.length:Int)
       ·rw[if_pos bd] at H
        have c27b0:=decide_eq_true bd
        clear bd
        by_cases b5:((Qp X ξ).f0)=a2
        ·rw[if_pos b5] at H
         have c28b0:(((Qp X ξ).f0)==a2)=true:=beq_iff_eq.mpr b5
         have c28b1:(((Qp X ξ).f0) != a2)=false:=bne_eq_false_iff_eq.mpr b5
         clear b5
         by_cases a5:σ.length<17592186044416
         ·rw[if_pos a5] at H
          have il:=aK a5
          clear a5
          obtain⟨dt,dk⟩:∃ y_:List Int,y_=(σ ++ [(Qp X ξ).f1]):=⟨_,rfl⟩
          replace H:(call_View.l0 k1 a2 X (X.length:Int) (wrap64 (ξ + 1)) O X dt)=some (r1,r2,r3,r4):=by first|(rw[dk];with_reducible exact H)|(have ag:=(Option.bind_some _ _).symm.trans H;rw[dk];with_reducible exact ag)|(have ag:=(Option.bind_some _ _).symm.trans H;with_reducible exact ag)|with_reducible exact H|(rw[dk];exact H)|exact H
          have io:=aK dk
          clear dk
          have H':=aK H
          clear H
          have dc:0≤(ξ :Int):=of_decide_eq_true (by assumption)
          have dd: ξ < (X.length:Int):=of_decide_eq_true (by assumption)
          obtain⟨fb,dx,cq,cu⟩:=Xi a0.out ξ dc dd
          cases dx
          replace cq:=sCl HB cq
          replace cu:=sCl HB cu
          replace dc:=eq_true dc
          replace dd:=eq_true dd
          go_wp2_with (first|((with_reducible refine Qe (N:=11) rfl ?_);refine qE 11 #[nI 0,nI 0] 86 ?_;intro fc hg eb hbox hb;have co:=aK hbox;have ip:=sGe hg;have iq:=sGe hg;have cw:=sNl Y hg;have cx:=sNg Y hg;have d3:=sNl γ hg;have d4:=sNg γ hg;have d5:=sNl δ hg;have d6:=sNg δ hg;have d9:=sNl θ hg;have db:=sNg θ hg;replace ε :=sRb ε hb;replace Y:=sBk Y hb;replace γ:=sBk γ hb;replace δ :=sBk δ hb;replace θ :=sBk θ hb;replace HB:=sHb hb;clear hb hbox hg;have he:=cx.out;have ii:=cw.out;have ga:=d4.out;have gb:=d3.out;have gx:=d6.out;have gy:=d5.out;have k8:=db.out;have k9:=d9.out;obtain⟨eo,ep,et,fi⟩:=qD2 co.out;have dv:=bm.out;have e9:=bk.out;have mt:=al.out;have mu:=ak.out;have eh:=bo.out;have gt:=bn.out;obtain⟨df,eg,ew,ey,fy,fz⟩:=qD3 θ.out)|((with_reducible refine Z3 (b:=.append) (xs:=#[.tmp 41,.tmp 44]) rfl ?_);at_builtin;refine Kd.X7 (Kd.int .i64) (w0:=w) w.heap.size rfl (.tmp 41) (.tmp 44) 32 3 (nI 0) 8 rfl Try.underlying32 Kt rfl (by decide) (by omega) ρ σ ((Qp X ξ).f1) [nI ((Qp X ξ).f1)] (fun _=>True) (fun _=>False) rfl (by first|(go_simp;done)|(go_simp;rfl)) ?aP (fun _ hk=>hk.elim) ?aF ?aO ?aB ?aS ?aL ?_;(case aP=>exact rfl);(case aB=>exact bel);(case aF=>exact(fun _ _=>trivial));(case aO=>exact(by(with_reducible repeat first|apply Kd.Qs|apply Kd.Qr|apply Kd.Qu);exact Kd.Qv (Kd.Qx (Kd.Qx (Kd.Q4 ε.out co.out (by decide)) (fun _ hk=>hk.2) (nI ((Qp X ξ).f0))) (fun _ hk=>hk.2) (nI ((Qp X ξ).f1))) (fun _ hk=>trivial)));(case aS=>exact(Qm bel));(case aL=>have:=il.out;omega);intro nl iz ho hb hg hat;rw[← io.out] at ho;have ge:=aK ho;replace Y:=aK (Qy (g:=ab) (o:=.cells #[nI B,nI J] 59 (0,0)) (bka Y) hg (Kd.Zo ε.out Y.out (by decide)));replace γ:=aK (Qy (g:=cj) (o:=.cells #[.slice ι O.length ζ,.slice (some fb) X.length η] 50 (0,0)) (bka γ) hg (Kd.Zo ε.out γ.out (by decide)));replace δ :=aK (Qy (g:=ac) (o:=.cells #[.slice none 0 0,.slice none 0 0,.slice none 0 0] 34 (0,0)) (bka δ) hg (Kd.Zo ε.out δ.out (by decide)));replace θ :=aK (Qy (g:=dj) (o:=.cells #[ρ,.slice none 0 0,.slice none 0 0] 34 (0,0)) (bka θ) hg (Kd.Zo ε.out θ.out (by decide)));replace co:=aK (Qy (g:=fc) (o:=.cells #[nI ((Qp X ξ).f0),nI ((Qp X ξ).f1)] 86 (0,0)) (by(with_reducible repeat first|refine Qi ?_ _|refine Qd ?_|refine Qh ?_ _);refine Qo (cs:=#[nI ((Qp X ξ).f0),nI 0]) ?_ 1 _ rfl;(with_reducible repeat first|refine Qi ?_ _|refine Qd ?_|refine Qh ?_ _);refine Qo (cs:=#[nI 0,nI 0]) ?_ 0 _ rfl;(with_reducible repeat first|refine Qi ?_ _|refine Qd ?_|refine Qh ?_ _);exact co.out) hg (Kd.Zo ε.out co.out (by decide)));replace HB:=aK hb;clear ε;clear ho hb hg hat;obtain⟨gl,h0,ic⟩:=Kd.Q7 ge.out;subst ic;obtain⟨fo,fp,ft,fq,fr,fu⟩:=qD3 θ.out))
          go_roundg k1
          case measure=>have:=af.out;omega
          case rel=>exact⟨(wrap64 (ξ + 1)),(dt),(.slice gl dt.length h0),qR,H',⟨by have:=af.out;omega⟩,⟨by(with_reducible repeat first|apply Kd.Qs|apply Kd.Qr|apply Kd.Qu);exact Kd.Qv (Kd.Qx (Kd.Q4 ge.out θ.out (by decide)) (fun _ hk=>hk.2) _) (fun _ hk=>trivial)⟩,⟨bka Y⟩,⟨bka γ⟩,⟨bka δ⟩,⟨by(with_reducible repeat first|refine Qi ?_ _|refine Qd ?_|refine Qh ?_ _);refine Qo (cs:=#[ρ,.slice none 0 0,.slice none 0 0]) ?_ 0 _ rfl;(with_reducible repeat first|refine Qi ?_ _|refine Qd ?_|refine Qh ?_ _);exact θ.out⟩,⟨bel⟩⟩
         ·rw[if_neg a5] at H
          exact absurd H (by simp)
        ·rw[if_neg b5] at H
         have c28b0:(((Qp X ξ).f0)==a2)=false:=beq_eq_false_iff_ne.mpr b5
         have c28b1:(((Qp X ξ).f0) != a2)=true:=bne_iff_ne.mpr b5
         have H':=aK H
         clear H
         have dc:0≤(ξ :Int):=of_decide_eq_true (by assumption)
         have dd: ξ < (X.length:Int):=of_decide_eq_true (by assumption)
         obtain⟨fb,dx,cq,cu⟩:=Xi a0.out ξ dc dd
         cases dx
         replace cq:=sCl HB cq
         replace cu:=sCl HB cu
         replace dc:=eq_true dc
         replace dd:=eq_true dd
         go_wp2_with (first|((with_reducible refine Qe (N:=11) rfl ?_);refine qE 11 #[nI 0,nI 0] 86 ?_;intro fc hg j3 hbox hb;have co:=aK hbox;have ip:=sGe hg;have iq:=sGe hg;have cw:=sNl Y hg;have cx:=sNg Y hg;have d3:=sNl γ hg;have d4:=sNg γ hg;have d5:=sNl δ hg;have d6:=sNg δ hg;have d9:=sNl θ hg;have db:=sNg θ hg;replace ε :=sRb ε hb;replace Y:=sBk Y hb;replace γ:=sBk γ hb;replace δ :=sBk δ hb;replace θ :=sBk θ hb;replace HB:=sHb hb;clear hb hbox hg;have i1:=cx.out;have i2:=cw.out;have gm:=d4.out;have gn:=d3.out;have gw:=d6.out;have gz:=d5.out;have m3:=db.out;have m4:=d9.out;obtain⟨i5,i6,i7,i9⟩:=qD2 co.out))
         go_roundg k1
         case measure=>have:=af.out;omega
         case rel=>exact⟨(wrap64 (ξ + 1)),(σ),(ρ),qR,H',⟨by have:=af.out;omega⟩,⟨by(with_reducible repeat first|apply Kd.Qs|apply Kd.Qr|apply Kd.Qu);exact Kd.Qv (Kd.Qx (Kd.Qx (Kd.Q4 ε.out co.out (by decide)) (fun _ hk=>hk.2) (nI ((Qp X ξ).f0))) (fun _ hk=>hk.2) (nI ((Qp X ξ).f1))) (fun _ hk=>trivial)⟩,⟨bka Y⟩,⟨bka γ⟩,⟨bka δ⟩,⟨bka θ⟩,⟨bel⟩⟩
       ·rw[if_neg bd] at H
        exact absurd H (by simp)
      ·rw[if_neg ay] at H
       exact absurd H (by simp)
     ·rw[if_neg b8] at H
      have c25b0:=decide_eq_false b8
      clear b8
      have H':=aK H
      clear H
      have gu:=ah.out
      have gv:=ae.out
      have h4:=a9.out
      have h5:=aa.out
      have gg:=ak.out
      have gh:=al.out
      obtain⟨cp,d1,ei,ej⟩:=qD2 γ.out
      go_wp2
      go_loopg [51] k1 (fun kq mo w'=>∃ (Z:Int) (a1:List Int) (a8:List Int) (a3:Value) (a7:Value),mo=nI Z∧Aside0 (call_View.l1 kq a2 O (O.length:Int) Z σ a1 a8=some (r1,r2,r3,r4))∧Aside0 (kq≤k1)∧Aside0 (Kd.R (Kd.int .i64) 3 w' w.heap.size (fun k_=>some k_≠(a3:Value).ownBlock∧some k_≠(a7:Value).ownBlock) ρ σ)∧Aside0 (Kd.R (Kd.int .i64) 3 w' w.heap.size (fun k_=>some k_≠(ρ:Value).ownBlock∧some k_≠(a7:Value).ownBlock) a3 a1)∧Aside0 (Kd.R (Kd.int .i64) 3 w' w.heap.size (fun k_=>some k_≠(ρ:Value).ownBlock∧some k_≠(a3:Value).ownBlock) a7 a8)∧Aside0 (w'.heap[ab]?=some (.cells #[nI B,nI J] 59 (0,0)))∧Aside0 (w'.heap[cj]?=some (.cells #[(.slice ι O.length ζ),(.slice κ X.length η)] 50 (0,0)))∧Aside0 (w'.heap[ac]?=some (.cells #[(.slice none 0 0),(.slice none 0 0),(.slice none 0 0)] 34 (0,0)))∧Aside0 (w'.heap[dj]?=some (.cells #[ρ,a3,a7] 34 (0,0)))∧Aside0 (Below w.heap.size w w'))
      case atStart=>exact⟨(0),(([]:List Int)),(([]:List Int)),(.slice none 0 0),(.slice none 0 0),rfl,H',⟨Nat.le_refl _⟩,⟨by(with_reducible repeat first|apply Kd.Qs|apply Kd.Qr|apply Kd.Qu);exact Kd.Qv ε.out (fun _ hk=>⟨(by simp[Value.ownBlock]),(by simp[Value.ownBlock])⟩)⟩,⟨by first|exact Kd.Xy _ _ _ _ _|exact Kd.Yr _ _ _ _ _|exact Kd.Yo _ _ _ _ _|exact Kd.Yq _ _ _ _ _|exact Kd.Yp _ _ _ _ _⟩,⟨by first|exact Kd.Xy _ _ _ _ _|exact Kd.Yr _ _ _ _ _|exact Kd.Yo _ _ _ _ _|exact Kd.Yq _ _ _ _ _|exact Kd.Yp _ _ _ _ _⟩,Y,γ,δ,θ,HB⟩
      case round=>
       clear H'
       try clear c5b0
       try clear c5b1
       try clear c7
       try clear c25b0
       try clear ao
       try clear bc
       try clear bf
       try clear bp
       try clear az
       try clear b0
       try clear bl
       try clear bz
       try clear ct
       try clear cy
       try clear dh
       try clear au
       try clear av
       try clear cp
       try clear d1
       try clear ap
       try clear be
       try clear bu
       try clear bw
       try clear b1
       try clear b2
       try clear ca
       try clear ch
       try clear cz
       try clear d2
       try clear di
       try clear aw
       try clear ax
       try clear ei
       try clear ej
       obtain⟨Z,a1,a8,a3,a7,rfl,HA,b7,ε,μ,ν,Y,γ,δ,θ,HB⟩:=hrel
       cases gk with
       |zero=>exact absurd HA.out (by simp[call_View.l1])
       |succ k2=>
        have H:=HA.out
        clear HA
        simp only[call_View.l1] at H
        by_cases da:Z<(O.length:Int)
        ·rw[if_pos da] at H
         have c53b0:=decide_eq_true da
         clear da
         by_cases gf:0≤Z
         ·rw[if_pos gf] at H
          have c54b0:=decide_eq_true gf
          clear gf
          by_cases i0:Z<(O.length:Int)
          ·rw[if_pos i0] at H
           have c55b0:=decide_eq_true i0
           clear i0
           by_cases ce:((Qb O Z).f2)=a2
           ·rw[if_pos ce] at H
            have c56b0:(((Qb O Z).f2)==a2)=true:=beq_iff_eq.mpr ce
            have c56b1:(((Qb O Z).f2) != a2)=false:=bne_eq_false_iff_eq.mpr ce
            clear ce
            by_cases cn:((Qb O Z).f1)>0
            ·rw[if_pos cn] at H
             have c57b0:decide (0<((Qb O Z).f1))=true:=decide_eq_true cn
             clear cn
             by_cases bi:a1.length<17592186044416
             ·rw[if_pos bi] at H
              have ir:=aK bi
              clear bi
              obtain⟨dy,dl⟩:∃ y_:List Int,y_=(a1 ++ [(Qb O Z).f0]):=⟨_,rfl⟩
              replace H:(call_View.l1 k2 a2 O (O.length:Int) (wrap64 (Z+1)) σ dy a8)=some (r1,r2,r3,r4):=by first|(rw[dl];with_reducible exact H)|(have ag:=(Option.bind_some _ _).symm.trans H;rw[dl];with_reducible exact ag)|(have ag:=(Option.bind_some _ _).symm.trans H;with_reducible exact ag)|with_reducible exact H|(rw[dl];exact H)|exact H
              have iv:=aK dl
              clear dl
              have H':=aK H
              clear H
              have ck:0≤(Z:Int):=of_decide_eq_true (by assumption)
              have cm:Z<(O.length:Int):=of_decide_eq_true (by assumption)
              obtain⟨dn,dr,am,an,ar⟩:=Z4 τ.out Z ck cm
              cases dr
              replace am:=sCl HB am
              replace an:=sCl HB an
              replace ar:=sCl HB ar
              replace ck:=eq_true ck
              replace cm:=eq_true cm
              go_wp2_with (first|((with_reducible refine Qe (N:=13) rfl ?_);refine qE 13 #[nI 0,nI 0,nI 0] 36 ?_;intro dp hg mq hbox hb;have ψ :=aK hbox;have ie:=sGe hg;have ig:=sGe hg;have bq:=sNl Y hg;have br:=sNg Y hg;have bs:=sNl γ hg;have bv:=sNg γ hg;have cb:=sNl δ hg;have cd:=sNg δ hg;have cf:=sNl θ hg;have ci:=sNg θ hg;replace ε :=sRb ε hb;replace μ :=sRb μ hb;replace ν :=sRb ν hb;replace Y:=sBk Y hb;replace γ:=sBk γ hb;replace δ :=sBk δ hb;replace θ :=sBk θ hb;replace HB:=sHb hb;clear hb hbox hg;have i4:=br.out;have ia:=bq.out;have jm:=bv.out;have jn:=bs.out;have kf:=cd.out;have kg:=cb.out;have ji:=ci.out;have jj:=cf.out;obtain⟨hj,jp,fm,jq,jr,fn⟩:=qD3 ψ.out;have fw:=bm.out;have fx:=bk.out;have k7:=al.out;have ki:=ak.out;have ka:=bo.out;have kb:=bn.out;obtain⟨fv,gi,gj,kt,ku,kv⟩:=qD3 θ.out)|((with_reducible refine Z3 (b:=.append) (xs:=#[.tmp 72,.tmp 75]) rfl ?_);at_builtin;refine Kd.X7 (Kd.int .i64) (w0:=w) w.heap.size rfl (.tmp 72) (.tmp 75) 32 3 (nI 0) 8 rfl Try.underlying32 Kt rfl (by decide) (by omega) a3 a1 ((Qb O Z).f0) [nI ((Qb O Z).f0)] (fun k_=>some k_≠(ρ:Value).ownBlock∧some k_≠(a7:Value).ownBlock) (fun _=>False) rfl (by first|(go_simp;done)|(go_simp;rfl)) ?aP (fun _ hk=>hk.elim) ?aF ?aO ?aB ?aS ?aL ?_;(case aP=>exact rfl);(case aB=>exact bel);(case aF=>exact(fun k_ hk=>⟨Kd.fresh' (Kd.X6 (by(with_reducible repeat first|apply Kd.Qs|apply Kd.Qr|apply Kd.Qu);exact(Kd.Qv (Kd.Qx (Kd.Qx (Kd.Qx (Kd.Q4 ε.out ψ.out (by decide)) (fun _ hk=>hk.2) (nI ((Qb O Z).f0))) (fun _ hk=>hk.2) (nI ((Qb O Z).f1))) (fun _ hk=>hk.2) (nI ((Qb O Z).f2))) (fun _ h_=>h_.1)))) k_ hk,Kd.fresh' (Kd.X6 (by(with_reducible repeat first|apply Kd.Qs|apply Kd.Qr|apply Kd.Qu);exact(Kd.Qv (Kd.Qx (Kd.Qx (Kd.Qx (Kd.Q4 ν.out ψ.out (by decide)) (fun _ hk=>hk.2) (nI ((Qb O Z).f0))) (fun _ hk=>hk.2) (nI ((Qb O Z).f1))) (fun _ hk=>hk.2) (nI ((Qb O Z).f2))) (fun _ h_=>h_.1)))) k_ hk⟩));(case aO=>exact(by(with_reducible repeat first|apply Kd.Qs|apply Kd.Qr|apply Kd.Qu);exact Kd.Qv (Kd.Qx (Kd.Qx (Kd.Qx (Kd.Q4 μ.out ψ.out (by decide)) (fun _ hk=>hk.2) (nI ((Qb O Z).f0))) (fun _ hk=>hk.2) (nI ((Qb O Z).f1))) (fun _ hk=>hk.2) (nI ((Qb O Z).f2))) (fun _ hk=>⟨hk.1.1,hk.1.2⟩)));(case aS=>exact(Qm bel));(case aL=>have:=ir.out;omega);intro nm nv ho hb hg hat;rw[← iv.out] at ho;have ih:=aK ho;replace ε :=aK (Kd.X3 (ok:=(fun k_=>some k_≠(a7:Value).ownBlock)) (by(with_reducible repeat first|apply Kd.Qs|apply Kd.Qr|apply Kd.Qu);exact Kd.Qv (Kd.Qx (Kd.Qx (Kd.Qx (Kd.Q4 ε.out ψ.out (by decide)) (fun _ hk=>hk.2) (nI ((Qb O Z).f0))) (fun _ hk=>hk.2) (nI ((Qb O Z).f1))) (fun _ hk=>hk.2) (nI ((Qb O Z).f2))) (fun _ hk=>⟨hk.1.2,hk.1.1⟩)) hg hat);replace ν :=aK (Kd.X3 (ok:=(fun k_=>some k_≠(ρ:Value).ownBlock)) (by(with_reducible repeat first|apply Kd.Qs|apply Kd.Qr|apply Kd.Qu);exact Kd.Qv (Kd.Qx (Kd.Qx (Kd.Qx (Kd.Q4 ν.out ψ.out (by decide)) (fun _ hk=>hk.2) (nI ((Qb O Z).f0))) (fun _ hk=>hk.2) (nI ((Qb O Z).f1))) (fun _ hk=>hk.2) (nI ((Qb O Z).f2))) (fun _ hk=>⟨hk.1.1,hk.1.2⟩)) hg hat);replace Y:=aK (Qy (g:=ab) (o:=.cells #[nI B,nI J] 59 (0,0)) (bka Y) hg (Kd.Zo μ.out Y.out (by decide)));replace γ:=aK (Qy (g:=cj) (o:=.cells #[.slice (some dn) O.length ζ,.slice κ X.length η] 50 (0,0)) (bka γ) hg (Kd.Zo μ.out γ.out (by decide)));replace δ :=aK (Qy (g:=ac) (o:=.cells #[.slice none 0 0,.slice none 0 0,.slice none 0 0] 34 (0,0)) (bka δ) hg (Kd.Zo μ.out δ.out (by decide)));replace θ :=aK (Qy (g:=dj) (o:=.cells #[ρ,a3,a7] 34 (0,0)) (bka θ) hg (Kd.Zo μ.out θ.out (by decide)));replace ψ :=aK (Qy (g:=dp) (o:=.cells #[nI ((Qb O Z).f0),nI ((Qb O Z).f1),nI ((Qb O Z).f2)] 36 (0,0)) (by(with_reducible repeat first|refine Qi ?_ _|refine Qd ?_|refine Qh ?_ _);refine Qo (cs:=#[nI ((Qb O Z).f0),nI ((Qb O Z).f1),nI 0]) ?_ 2 _ rfl;(with_reducible repeat first|refine Qi ?_ _|refine Qd ?_|refine Qh ?_ _);refine Qo (cs:=#[nI ((Qb O Z).f0),nI 0,nI 0]) ?_ 1 _ rfl;(with_reducible repeat first|refine Qi ?_ _|refine Qd ?_|refine Qh ?_ _);refine Qo (cs:=#[nI 0,nI 0,nI 0]) ?_ 0 _ rfl;(with_reducible repeat first|refine Qi ?_ _|refine Qd ?_|refine Qh ?_ _);exact ψ.out) hg (Kd.Zo μ.out ψ.out (by decide)));replace HB:=aK hb;clear μ;clear ho hb hg hat;obtain⟨jg,jh,jo⟩:=Kd.Q7 ih.out;subst jo;obtain⟨hh,hl,ju,hx,hy,jv⟩:=qD3 θ.out))
              go_roundg k2
              case measure=>have:=af.out;have:=b7.out;omega
              case rel=>exact⟨(wrap64 (Z+1)),(dy),(a8),(.slice jg dy.length jh),(a7),qR,H',⟨by have:=af.out;have:=b7.out;omega⟩,⟨by(with_reducible repeat first|apply Kd.Qs|apply Kd.Qr|apply Kd.Qu);exact Kd.Qv (Kd.Qx (Kd.Q4 ε.out θ.out (by decide)) (fun _ hk=>hk.2) _) (fun _ hk=>⟨hk.1.2,hk.1.1⟩)⟩,⟨by(with_reducible repeat first|apply Kd.Qs|apply Kd.Qr|apply Kd.Qu);exact Kd.Qv (Kd.Qx (Kd.Q4 ih.out θ.out (by decide)) (fun _ hk=>hk.2) _) (fun _ hk=>⟨hk.1.1,hk.1.2⟩)⟩,⟨by(with_reducible repeat first|apply Kd.Qs|apply Kd.Qr|apply Kd.Qu);exact Kd.Qv (Kd.Qx (Kd.Q4 ν.out θ.out (by decide)) (fun _ hk=>hk.2) _) (fun _ hk=>⟨hk.1.1,hk.1.2⟩)⟩,⟨bka Y⟩,⟨bka γ⟩,⟨bka δ⟩,⟨by(with_reducible repeat first|refine Qi ?_ _|refine Qd ?_|refine Qh ?_ _);refine Qo (cs:=#[ρ,a3,a7]) ?_ 1 _ rfl;(with_reducible repeat first|refine Qi ?_ _|refine Qd ?_|refine Qh ?_ _);exact θ.out⟩,⟨bel⟩⟩
             ·rw[if_neg bi] at H
              exact absurd H (by simp)
            ·rw[if_neg cn] at H
             have c57b0:decide (0<((Qb O Z).f1))=false:=decide_eq_false cn
             clear cn
             by_cases ij:a8.length<17592186044416
             ·rw[if_pos ij] at H
              have iw:=aK ij
              clear ij
              obtain⟨dz,dm⟩:∃ y_:List Int,y_=(a8 ++ [(Qb O Z).f0]):=⟨_,rfl⟩
              replace H:(call_View.l1 k2 a2 O (O.length:Int) (wrap64 (Z+1)) σ a1 dz)=some (r1,r2,r3,r4):=by first|(rw[dm];with_reducible exact H)|(have ag:=(Option.bind_some _ _).symm.trans H;rw[dm];with_reducible exact ag)|(have ag:=(Option.bind_some _ _).symm.trans H;with_reducible exact ag)|with_reducible exact H|(rw[dm];exact H)|exact H
              have ix:=aK dm
              clear dm
              have H':=aK H
              clear H
              have ck:0≤(Z:Int):=of_decide_eq_true (by assumption)
              have cm:Z<(O.length:Int):=of_decide_eq_true (by assumption)
              obtain⟨dn,dr,am,an,ar⟩:=Z4 τ.out Z ck cm
              cases dr
              replace am:=sCl HB am
              replace an:=sCl HB an
              replace ar:=sCl HB ar
              replace ck:=eq_true ck
              replace cm:=eq_true cm
              go_wp2_with (first|((with_reducible refine Qe (N:=13) rfl ?_);refine qE 13 #[nI 0,nI 0,nI 0] 36 ?_;intro dp hg qh hbox hb;have ψ :=aK hbox;have ie:=sGe hg;have ig:=sGe hg;have bq:=sNl Y hg;have br:=sNg Y hg;have bs:=sNl γ hg;have bv:=sNg γ hg;have cb:=sNl δ hg;have cd:=sNg δ hg;have cf:=sNl θ hg;have ci:=sNg θ hg;replace ε :=sRb ε hb;replace μ :=sRb μ hb;replace ν :=sRb ν hb;replace Y:=sBk Y hb;replace γ:=sBk γ hb;replace δ :=sBk δ hb;replace θ :=sBk θ hb;replace HB:=sHb hb;clear hb hbox hg;have m1:=br.out;have m2:=bq.out;have l7:=bv.out;have l8:=bs.out;have gp:=cd.out;have hu:=cb.out;have ks:=ci.out;have kx:=cf.out;obtain⟨gr,gs,mw,im,kp,my⟩:=qD3 ψ.out;have jk:=bm.out;have jl:=bk.out;have h9:=al.out;have ha:=ak.out;have kc:=bo.out;have kd:=bn.out;obtain⟨jw,jz,k0,k3,k4,k5⟩:=qD3 θ.out)|((with_reducible refine Z3 (b:=.append) (xs:=#[.tmp 56,.tmp 59]) rfl ?_);at_builtin;refine Kd.X7 (Kd.int .i64) (w0:=w) w.heap.size rfl (.tmp 56) (.tmp 59) 32 3 (nI 0) 8 rfl Try.underlying32 Kt rfl (by decide) (by omega) a7 a8 ((Qb O Z).f0) [nI ((Qb O Z).f0)] (fun k_=>some k_≠(ρ:Value).ownBlock∧some k_≠(a3:Value).ownBlock) (fun _=>False) rfl (by first|(go_simp;done)|(go_simp;rfl)) ?aP (fun _ hk=>hk.elim) ?aF ?aO ?aB ?aS ?aL ?_;(case aP=>exact rfl);(case aB=>exact bel);(case aF=>exact(fun k_ hk=>⟨Kd.fresh' (Kd.X6 (by(with_reducible repeat first|apply Kd.Qs|apply Kd.Qr|apply Kd.Qu);exact(Kd.Qv (Kd.Qx (Kd.Qx (Kd.Qx (Kd.Q4 ε.out ψ.out (by decide)) (fun _ hk=>hk.2) (nI ((Qb O Z).f0))) (fun _ hk=>hk.2) (nI ((Qb O Z).f1))) (fun _ hk=>hk.2) (nI ((Qb O Z).f2))) (fun _ h_=>h_.1)))) k_ hk,Kd.fresh' (Kd.X6 (by(with_reducible repeat first|apply Kd.Qs|apply Kd.Qr|apply Kd.Qu);exact(Kd.Qv (Kd.Qx (Kd.Qx (Kd.Qx (Kd.Q4 μ.out ψ.out (by decide)) (fun _ hk=>hk.2) (nI ((Qb O Z).f0))) (fun _ hk=>hk.2) (nI ((Qb O Z).f1))) (fun _ hk=>hk.2) (nI ((Qb O Z).f2))) (fun _ h_=>h_.1)))) k_ hk⟩));(case aO=>exact(by(with_reducible repeat first|apply Kd.Qs|apply Kd.Qr|apply Kd.Qu);exact Kd.Qv (Kd.Qx (Kd.Qx (Kd.Qx (Kd.Q4 ν.out ψ.out (by decide)) (fun _ hk=>hk.2) (nI ((Qb O Z).f0))) (fun _ hk=>hk.2) (nI ((Qb O Z).f1))) (fun _ hk=>hk.2) (nI ((Qb O Z).f2))) (fun _ hk=>⟨hk.1.1,hk.1.2⟩)));(case aS=>exact(Qm bel));(case aL=>have:=iw.out;omega);intro nn nq ho hb hg hat;rw[← ix.out] at ho;have ik:=aK ho;replace ε :=aK (Kd.X3 (ok:=(fun k_=>some k_≠(a3:Value).ownBlock)) (by(with_reducible repeat first|apply Kd.Qs|apply Kd.Qr|apply Kd.Qu);exact Kd.Qv (Kd.Qx (Kd.Qx (Kd.Qx (Kd.Q4 ε.out ψ.out (by decide)) (fun _ hk=>hk.2) (nI ((Qb O Z).f0))) (fun _ hk=>hk.2) (nI ((Qb O Z).f1))) (fun _ hk=>hk.2) (nI ((Qb O Z).f2))) (fun _ hk=>⟨hk.1.1,hk.1.2⟩)) hg hat);replace μ :=aK (Kd.X3 (ok:=(fun k_=>some k_≠(ρ:Value).ownBlock)) (by(with_reducible repeat first|apply Kd.Qs|apply Kd.Qr|apply Kd.Qu);exact Kd.Qv (Kd.Qx (Kd.Qx (Kd.Qx (Kd.Q4 μ.out ψ.out (by decide)) (fun _ hk=>hk.2) (nI ((Qb O Z).f0))) (fun _ hk=>hk.2) (nI ((Qb O Z).f1))) (fun _ hk=>hk.2) (nI ((Qb O Z).f2))) (fun _ hk=>⟨hk.1.1,hk.1.2⟩)) hg hat);replace Y:=aK (Qy (g:=ab) (o:=.cells #[nI B,nI J] 59 (0,0)) (bka Y) hg (Kd.Zo ν.out Y.out (by decide)));replace γ:=aK (Qy (g:=cj) (o:=.cells #[.slice (some dn) O.length ζ,.slice κ X.length η] 50 (0,0)) (bka γ) hg (Kd.Zo ν.out γ.out (by decide)));replace δ :=aK (Qy (g:=ac) (o:=.cells #[.slice none 0 0,.slice none 0 0,.slice none 0 0] 34 (0,0)) (bka δ) hg (Kd.Zo ν.out δ.out (by decide)));replace θ :=aK (Qy (g:=dj) (o:=.cells #[ρ,a3,a7] 34 (0,0)) (bka θ) hg (Kd.Zo ν.out θ.out (by decide)));replace ψ :=aK (Qy (g:=dp) (o:=.cells #[nI ((Qb O Z).f0),nI ((Qb O Z).f1),nI ((Qb O Z).f2)] 36 (0,0)) (by(with_reducible repeat first|refine Qi ?_ _|refine Qd ?_|refine Qh ?_ _);refine Qo (cs:=#[nI ((Qb O Z).f0),nI ((Qb O Z).f1),nI 0]) ?_ 2 _ rfl;(with_reducible repeat first|refine Qi ?_ _|refine Qd ?_|refine Qh ?_ _);refine Qo (cs:=#[nI ((Qb O Z).f0),nI 0,nI 0]) ?_ 1 _ rfl;(with_reducible repeat first|refine Qi ?_ _|refine Qd ?_|refine Qh ?_ _);refine Qo (cs:=#[nI 0,nI 0,nI 0]) ?_ 0 _ rfl;(with_reducible repeat first|refine Qi ?_ _|refine Qd ?_|refine Qh ?_ _);exact ψ.out) hg (Kd.Zo ν.out ψ.out (by decide)));replace HB:=aK hb;clear ν;clear ho hb hg hat;obtain⟨er,f8,fa⟩:=Kd.Q7 ik.out;subst fa;obtain⟨kh,kj,kk,kz,l2,lb⟩:=qD3 θ.out))
              go_roundg k2
              case measure=>have:=af.out;have:=b7.out;omega
              case rel=>exact⟨(wrap64 (Z+1)),(a1),(dz),(a3),(.slice er dz.length f8),qR,H',⟨by have:=af.out;have:=b7.out;omega⟩,⟨by(with_reducible repeat first|apply Kd.Qs|apply Kd.Qr|apply Kd.Qu);exact Kd.Qv (Kd.Qx (Kd.Q4 ε.out θ.out (by decide)) (fun _ hk=>hk.2) _) (fun _ hk=>⟨hk.1.1,hk.1.2⟩)⟩,⟨by(with_reducible repeat first|apply Kd.Qs|apply Kd.Qr|apply Kd.Qu);exact Kd.Qv (Kd.Qx (Kd.Q4 μ.out θ.out (by decide)) (fun _ hk=>hk.2) _) (fun _ hk=>⟨hk.1.1,hk.1.2⟩)⟩,⟨by(with_reducible repeat first|apply Kd.Qs|apply Kd.Qr|apply Kd.Qu);exact Kd.Qv (Kd.Qx (Kd.Q4 ik.out θ.out (by decide)) (fun _ hk=>hk.2) _) (fun _ hk=>⟨hk.1.1,hk.1.2⟩)⟩,⟨bka Y⟩,⟨bka γ⟩,⟨bka δ⟩,⟨by(with_reducible repeat first|refine Qi ?_ _|refine Qd ?_|refine Qh ?_ _);refine Qo (cs:=#[ρ,a3,a7]) ?_ 2 _ rfl;(with_reducible repeat first|refine Qi ?_ _|refine Qd ?_|refine Qh ?_ _);exact θ.out⟩,⟨bel⟩⟩
             ·rw[if_neg ij] at H
              exact absurd H (by simp)
           ·rw[if_neg ce] at H
            have c56b0:(((Qb O Z).f2)==a2)=false:=beq_eq_false_iff_ne.mpr ce
            have c56b1:(((Qb O Z).f2) != a2)=true:=bne_iff_ne.mpr ce
            have H':=aK H
            clear H
            have ck:0≤(Z:Int):=of_decide_eq_true (by assumption)
            have cm:Z<(O.length:Int):=of_decide_eq_true (by assumption)
            obtain⟨dn,dr,am,an,ar⟩:=Z4 τ.out Z ck cm
            cases dr
            replace am:=sCl HB am
            replace an:=sCl HB an
            replace ar:=sCl HB ar
            replace ck:=eq_true ck
            replace cm:=eq_true cm
            go_wp2_with (first|((with_reducible refine Qe (N:=13) rfl ?_);refine qE 13 #[nI 0,nI 0,nI 0] 36 ?_;intro dp hg nw hbox hb;have ψ :=aK hbox;have ie:=sGe hg;have ig:=sGe hg;have bq:=sNl Y hg;have br:=sNg Y hg;have bs:=sNl γ hg;have bv:=sNg γ hg;have cb:=sNl δ hg;have cd:=sNg δ hg;have cf:=sNl θ hg;have ci:=sNg θ hg;replace ε :=sRb ε hb;replace μ :=sRb μ hb;replace ν :=sRb ν hb;replace Y:=sBk Y hb;replace γ:=sBk γ hb;replace δ :=sBk δ hb;replace θ :=sBk θ hb;replace HB:=sHb hb;clear hb hbox hg;have mz:=br.out;have n0:=bq.out;have n1:=bv.out;have ng:=bs.out;have nh:=cd.out;have ni:=cb.out;have lu:=ci.out;have m5:=cf.out;obtain⟨it,iu,j4,j5,j6,jy⟩:=qD3 ψ.out))
            go_roundg k2
            case measure=>have:=af.out;have:=b7.out;omega
            case rel=>exact⟨(wrap64 (Z+1)),(a1),(a8),(a3),(a7),qR,H',⟨by have:=af.out;have:=b7.out;omega⟩,⟨by(with_reducible repeat first|apply Kd.Qs|apply Kd.Qr|apply Kd.Qu);exact Kd.Qv (Kd.Qx (Kd.Qx (Kd.Qx (Kd.Q4 ε.out ψ.out (by decide)) (fun _ hk=>hk.2) (nI ((Qb O Z).f0))) (fun _ hk=>hk.2) (nI ((Qb O Z).f1))) (fun _ hk=>hk.2) (nI ((Qb O Z).f2))) (fun _ hk=>⟨hk.1.1,hk.1.2⟩)⟩,⟨by(with_reducible repeat first|apply Kd.Qs|apply Kd.Qr|apply Kd.Qu);exact Kd.Qv (Kd.Qx (Kd.Qx (Kd.Qx (Kd.Q4 μ.out ψ.out (by decide)) (fun _ hk=>hk.2) (nI ((Qb O Z).f0))) (fun _ hk=>hk.2) (nI ((Qb O Z).f1))) (fun _ hk=>hk.2) (nI ((Qb O Z).f2))) (fun _ hk=>⟨hk.1.1,hk.1.2⟩)⟩,⟨by(with_reducible repeat first|apply Kd.Qs|apply Kd.Qr|apply Kd.Qu);exact Kd.Qv (Kd.Qx (Kd.Qx (Kd.Qx (Kd.Q4 ν.out ψ.out (by decide)) (fun _ hk=>hk.2) (nI ((Qb O Z).f0))) (fun _ hk=>hk.2) (nI ((Qb O Z).f1))) (fun _ hk=>hk.2) (nI ((Qb O Z).f2))) (fun _ hk=>⟨hk.1.1,hk.1.2⟩)⟩,⟨bka Y⟩,⟨bka γ⟩,⟨bka δ⟩,⟨bka θ⟩,⟨bel⟩⟩
          ·rw[if_neg i0] at H
           exact absurd H (by simp)
         ·rw[if_neg gf] at H
          exact absurd H (by simp)
        ·rw[if_neg da] at H
         have c53b0:=decide_eq_false da
         clear da
         simp only[Option.some.injEq,Prod.mk.injEq] at H
         obtain⟨rfl,rfl,rfl,rfl⟩:=H
         have m6:=bm.out
         have m7:=bk.out
         have nj:=al.out
         have nk:=ak.out
         have lz:=bo.out
         have m0:=bn.out
         obtain⟨mf,mg,mh,mi,mj,ml⟩:=qD3 θ.out
         obtain⟨e7,e8,js⟩:=Kd.Q7 ε.out
         subst js
         have ke:=aj.out
         have kn:=ai.out
         have ko:=aa.out
         have lv:=a9.out
         obtain⟨fk,fl,ll,h7,h8,lm⟩:=qD3 δ.out
         obtain⟨h6,ef,i3⟩:=Kd.Q7 μ.out
         subst i3
         obtain⟨iy,jb,jf⟩:=Kd.Q7 ν.out
         subst jf
         go_wp2
         refine bodyPost_ret (Xe rfl _ _ ac 34 #[.slice e7 σ.length e8,.slice h6 a1.length ef,.slice iy a8.length jb] (0,0) _ rfl (by refine Qo (cs:=#[.slice e7 σ.length e8,.slice h6 a1.length ef,.slice none 0 0]) ?_ 2 _ rfl;refine Qo (cs:=#[.slice e7 σ.length e8,.slice none 0 0,.slice none 0 0]) ?_ 1 _ rfl;refine Qo (cs:=#[.slice none 0 0,.slice none 0 0,.slice none 0 0]) ?_ 0 _ rfl;exact δ.out) Try.underlying34 rfl kr) rfl ?_
         exact⟨_,_,_,by first|rfl|(simp[Ql,Qk] <;> rfl)|(simp[*,Ql,Qk] <;> rfl),by(with_reducible repeat first|apply Kd.Qs|apply Kd.Qr|apply Kd.Qu);exact Kd.Qv (Kd.Qx (Kd.Qx (Kd.Qx (Kd.Q4 ε.out δ.out (by decide)) (fun _ hk=>hk.2) _) (fun _ hk=>hk.2) _) (fun _ hk=>hk.2) _) (fun _ hk=>⟨hk.1.1,hk.1.2⟩),by(with_reducible repeat first|apply Kd.Qs|apply Kd.Qr|apply Kd.Qu);exact Kd.Qv (Kd.Qx (Kd.Qx (Kd.Qx (Kd.Q4 μ.out δ.out (by decide)) (fun _ hk=>hk.2) _) (fun _ hk=>hk.2) _) (fun _ hk=>hk.2) _) (fun _ hk=>⟨hk.1.1,hk.1.2⟩),by(with_reducible repeat first|apply Kd.Qs|apply Kd.Qr|apply Kd.Qu);exact Kd.Qv (Kd.Qx (Kd.Qx (Kd.Qx (Kd.Q4 ν.out δ.out (by decide)) (fun _ hk=>hk.2) _) (fun _ hk=>hk.2) _) (fun _ hk=>hk.2) _) (fun _ hk=>⟨hk.1.1,hk.1.2⟩),bel⟩
  ·replace c7:=Bool.eq_false_iff.mpr c7
   subst c7
   rw[if_neg nft] at H
   simp only[Option.some.injEq,Prod.mk.injEq] at H
   obtain⟨rfl,rfl,rfl,rfl⟩:=H
   go_enter Try.func24,Try.ntmps24
   go_wp2_with (first|((with_reducible refine Qe (N:=3) rfl ?_);refine qE 3 #[nI B,nI J] 59 ?_;intro ab hg no hbox hb;have Y:=aK hbox;have ea:=sGe hg;have ec:=sGe hg;replace HB:=sHb hb;clear hb hbox hg)|((with_reducible refine Qe (N:=4) rfl ?_);refine qE 4 #[.slice ι O.length ζ,.slice κ X.length η] 50 ?_;intro cj hg np hbox hb;have γ:=aK hbox;have ed:=sGe hg;have ee:=sGe hg;have ae:=sNl Y hg;have ah:=sNg Y hg;replace Y:=sBk Y hb;replace HB:=sHb hb;clear hb hbox hg)|((with_reducible refine Qe (N:=6) rfl ?_);refine qE 6 #[.slice none 0 0,.slice none 0 0,.slice none 0 0] 34 ?_;intro ac hg nr hbox hb;have δ :=aK hbox;have ez:=sGe hg;have f7:=sGe hg;have ai:=sNl Y hg;have aj:=sNg Y hg;have a9:=sNl γ hg;have aa:=sNg γ hg;replace Y:=sBk Y hb;replace γ:=sBk γ hb;replace HB:=sHb hb;clear hb hbox hg;have ib:=ae.out;have jc:=ah.out;have ln:=ai.out;have lp:=aj.out;obtain⟨fe,ff,fg,fh⟩:=qD2 Y.out;have jd:=a9.out;have je:=aa.out;obtain⟨jt,jx,k6,kl⟩:=qD2 γ.out)|((with_reducible refine Qf (f:=40) rfl ?_);refine Q0 (some 16) rfl rfl Try.func40 kr rfl #[.agg #[nI B,nI J],.agg #[.slice ι O.length ζ,.slice κ X.length η]] rfl qM ?_;(with_reducible refine(call_Check.calls k B J _ _ O _ _ X bj _ ?side1 ?side2 ?side3 ?side4 A4.out).mono ?_);(case side1=>exact(Kd.Qw τ.out HB.out));(case side2=>exact bg.out);(case side3=>exact(Kd.Qw a0.out HB.out));(case side4=>exact bh.out);rintro e cv ⟨rfl,hb⟩;refine⟨_,rfl, ?_⟩;replace Y:=sBk Y hb;replace γ:=sBk γ hb;replace δ :=sBk δ hb;replace HB:=sHb hb;(try clear hb);(try clear a4);(try clear hk);(try clear hi);obtain⟨km,kw,ky,l9⟩:=qD2 Y.out)|((with_reducible refine Qf (f:=44) rfl ?_);refine Q0 (some 25) rfl rfl Try.func44 kr rfl #[nI a2,nI 0,nI (wrap64 (J-1))] rfl qM ?_;(with_reducible refine(call_within.calls a2 0 (wrap64 (J-1)) false _ A6.out).mono ?_);rintro e w' ⟨rfl,⟨nd,rfl⟩⟩;refine⟨_,rfl, ?_⟩;(try(rw[Yu cv];generalize hq_:World.drewN cv _=cv;have φ :Aside0 (cv.heap[ab]?=some (.cells #[nI B,nI J] 59 (0,0))):=⟨by rw[← hq_];exact Y.out⟩;have χ :Aside0 (cv.heap[cj]?=some (.cells #[.slice ι O.length ζ,.slice κ X.length η] 50 (0,0))):=⟨by rw[← hq_];exact γ.out⟩;have ω :Aside0 (cv.heap[ac]?=some (.cells #[.slice none 0 0,.slice none 0 0,.slice none 0 0] 34 (0,0))):=⟨by rw[← hq_];exact δ.out⟩;have a6:Aside0 (Below w.heap.size w cv):=⟨by rw[← hq_];exact HB.out⟩;clear Y γ δ HB hq_;have Y:= φ;have γ:= χ;have δ := ω;have HB:=a6;clear φ χ ω a6));(try(have j7:cI cv ab 0 B:=(Qa Y.out 0).trans rfl));(try(have j8:cI cv ab 1 J:=(Qa Y.out 1).trans rfl));(try(have j9:=Qg Y.out 0));(try(have ja:=Qg Y.out 1));obtain⟨lq,lr,ls,lw,lx,ly⟩:=qD3 δ.out))
   refine bodyPost_ret (Xe rfl _ _ ac 34 #[.slice none 0 0,.slice none 0 0,.slice none 0 0] (0,0) _ rfl (by refine Qo (cs:=#[.slice none 0 0,.slice none 0 0,.slice none 0 0]) ?_ 2 _ rfl;refine Qo (cs:=#[.slice none 0 0,.slice none 0 0,.slice none 0 0]) ?_ 1 _ rfl;refine Qo (cs:=#[.slice none 0 0,.slice none 0 0,.slice none 0 0]) ?_ 0 _ rfl;exact δ.out) Try.underlying34 rfl kr) rfl ?_
   exact⟨_,_,_,by first|rfl|(simp[Ql,Qk] <;> rfl)|(simp[*,Ql,Qk] <;> rfl),by first|exact Kd.Xy _ _ _ _ _|exact Kd.Yr _ _ _ _ _|exact Kd.Yo _ _ _ _ _|exact Kd.Yq _ _ _ _ _|exact Kd.Yp _ _ _ _ _,by first|exact Kd.Xy _ _ _ _ _|exact Kd.Yr _ _ _ _ _|exact Kd.Yo _ _ _ _ _|exact Kd.Yq _ _ _ _ _|exact Kd.Yp _ _ _ _ _,by first|exact Kd.Xy _ _ _ _ _|exact Kd.Yr _ _ _ _ _|exact Kd.Yo _ _ _ _ _|exact Kd.Yq _ _ _ _ _|exact Kd.Yp _ _ _ _ _,bel⟩
 ·rw[if_neg c5] at H
  have c5b0:(bj==0)=false:=beq_eq_false_iff_ne.mpr c5
  have c5b1:(bj != 0)=true:=bne_iff_ne.mpr c5
  simp only[Option.some.injEq,Prod.mk.injEq] at H
  obtain⟨rfl,rfl,rfl,rfl⟩:=H
  go_enter Try.func24,Try.ntmps24
  go_wp2_with (first|((with_reducible refine Qe (N:=3) rfl ?_);refine qE 3 #[nI B,nI J] 59 ?_;intro ab hg p5 hbox hb;have Y:=aK hbox;have ea:=sGe hg;have ec:=sGe hg;replace HB:=sHb hb;clear hb hbox hg)|((with_reducible refine Qe (N:=4) rfl ?_);refine qE 4 #[.slice ι O.length ζ,.slice κ X.length η] 50 ?_;intro cj hg ns hbox hb;have γ:=aK hbox;have ed:=sGe hg;have ee:=sGe hg;have ae:=sNl Y hg;have ah:=sNg Y hg;replace Y:=sBk Y hb;replace HB:=sHb hb;clear hb hbox hg)|((with_reducible refine Qe (N:=6) rfl ?_);refine qE 6 #[.slice none 0 0,.slice none 0 0,.slice none 0 0] 34 ?_;intro ac hg nt hbox hb;have δ :=aK hbox;have ez:=sGe hg;have f7:=sGe hg;have ai:=sNl Y hg;have aj:=sNg Y hg;have a9:=sNl γ hg;have aa:=sNg γ hg;replace Y:=sBk Y hb;replace γ:=sBk γ hb;replace HB:=sHb hb;clear hb hbox hg;have n2:=ae.out;have n3:=ah.out;have na:=ai.out;have nb:=aj.out;obtain⟨l3,l4,l5,l6⟩:=qD2 Y.out;have nc:=a9.out;have nf:=aa.out;obtain⟨m8,m9,ma,mb⟩:=qD2 γ.out)|((with_reducible refine Qf (f:=40) rfl ?_);refine Q0 (some 16) rfl rfl Try.func40 kr rfl #[.agg #[nI B,nI J],.agg #[.slice ι O.length ζ,.slice κ X.length η]] rfl qM ?_;(with_reducible refine(call_Check.calls k B J _ _ O _ _ X bj _ ?side1 ?side2 ?side3 ?side4 A4.out).mono ?_);(case side1=>exact(Kd.Qw τ.out HB.out));(case side2=>exact bg.out);(case side3=>exact(Kd.Qw a0.out HB.out));(case side4=>exact bh.out);rintro e nu ⟨rfl,hb⟩;refine⟨_,rfl, ?_⟩;replace Y:=sBk Y hb;replace γ:=sBk γ hb;replace δ :=sBk δ hb;replace HB:=sHb hb;(try clear hb);(try clear a4);(try clear hk);(try clear hi);obtain⟨lc,lf,mc,lg,lh,me⟩:=qD3 δ.out))
  refine bodyPost_ret (Xe rfl _ _ ac 34 #[.slice none 0 0,.slice none 0 0,.slice none 0 0] (0,0) _ rfl (by refine Qo (cs:=#[.slice none 0 0,.slice none 0 0,.slice none 0 0]) ?_ 2 _ rfl;refine Qo (cs:=#[.slice none 0 0,.slice none 0 0,.slice none 0 0]) ?_ 1 _ rfl;refine Qo (cs:=#[.slice none 0 0,.slice none 0 0,.slice none 0 0]) ?_ 0 _ rfl;exact δ.out) Try.underlying34 rfl kr) rfl ?_
  exact⟨_,_,_,by first|rfl|(simp[Ql,Qk] <;> rfl)|(simp[*,Ql,Qk] <;> rfl),by first|exact Kd.Xy _ _ _ _ _|exact Kd.Yr _ _ _ _ _|exact Kd.Yo _ _ _ _ _|exact Kd.Yq _ _ _ _ _|exact Kd.Yp _ _ _ _ _,by first|exact Kd.Xy _ _ _ _ _|exact Kd.Yr _ _ _ _ _|exact Kd.Yo _ _ _ _ _|exact Kd.Yq _ _ _ _ _|exact Kd.Yp _ _ _ _ _,by first|exact Kd.Xy _ _ _ _ _|exact Kd.Yr _ _ _ _ _|exact Kd.Yo _ _ _ _ _|exact Kd.Yq _ _ _ _ _|exact Kd.Yp _ _ _ _ _,bel⟩
def group_pick_1.f (k:Nat) (B:Int) (X:Int) (ζ :Int) (ι :Int) (ν :Int) (κ :Int) (ξ :Int) (ρ:Int) (ψ :Int) (a2:Int) (a8:Int) (l2:List (S31)) (μ :List (S36)) (τ :List (S86)) (ab:Int) (ac:Int) (ae:Int):Option (Int):=(group_house.f X ζ ι ν κ ξ ρ ψ a2 a8 l2).bind fun d7=>((call_View.f k d7.1 d7.2 μ τ B).bind fun bn=>(if 0≤B then (if B<(l2.length:Int) then ((group_cost.f k X ζ ι ν κ ξ ρ ψ a2 a8 ((Qc l2 B).f0.f0) ((Qc l2 B).f0.f1) ((Qc l2 B).f0.f2) ((Qc l2 B).f0.f3) ((Qc l2 B).f0.f4.f0) ((Qc l2 B).f0.f4.f1) ((Qc l2 B).f0.f4.f2) ((Qc l2 B).f1) ((Qc l2 B).f2) ((Qc l2 B).f3) bn.1 bn.2.1 bn.2.2.1 ab ac ae).bind fun cd=>(some cd)) else (none)) else (none)))
theorem group_pick_1.mono:∀ B Z a2 a3 O a5 X a7 a8 a9 Y γ δ ζ ε η θ k,LeO (group_pick_1.f k B Z a2 a3 O a5 X a7 a8 a9 Y γ δ ζ ε η θ) (group_pick_1.f (k+1) B Z a2 a3 O a5 X a7 a8 a9 Y γ δ ζ ε η θ):=by
 intro B Z a2 a3 O a5 X a7 a8 a9 Y γ δ ζ ε η θ k
 unfold group_pick_1.f
 repeat' first|(with_reducible first|apply call_View.mono|apply group_cost.mono|exact LeO.refl _|exact LeO.none _|refine LeO.ite ?_ ?_|refine LeO.bind ?_ (fun _=>?_))|apply call_View.mono|apply group_cost.mono|exact LeO.none _|refine LeO.ite ?_ ?_|refine LeO.bind ?_ (fun _=>?_)
def group_pick_1.T1:Bool×List (List Nat×List Nat):=(true,[([],[]),([],[]),([0,1],[0,1]),([],[]),([],[]),([2,3,4,2],[2,3,4]),([5],[5]),([6],[6]),([6],[6]),([],[]),([9,7,5,0,1,2,3,4,5,6,7,9],[7,9]),([8,10,0,1,2,3,4,5,6,7,8,9,10],[8])])
def group_pick_1.B1:List Nat:=[0,0,3,0,0,31,63,127,127,0,767,2047]
theorem group_pick_1.K7:rtab .any (opsOf Try.f58 1)=group_pick_1.T1:=by kernel_rfl
theorem group_pick_1.Ji:Zq group_pick_1.T1.2 group_pick_1.B1=true:=by kernel_rfl
def group_pick_1.T2:Bool×List (List Nat×List Nat):=(true,[([],[]),([],[]),([],[]),([1,2],[1,2]),([3],[3]),([],[]),([],[]),([0,4,5,6],[0,4,5,6]),([7,7,0,1,2,3,4,5,6,7],[7])])
def group_pick_1.B2:List Nat:=[0,0,0,6,14,0,0,127,255]
theorem group_pick_1.C0:rtab .any (opsOf Try.f58 2)=group_pick_1.T2:=by kernel_rfl
theorem group_pick_1.E1:Zq group_pick_1.T2.2 group_pick_1.B2=true:=by kernel_rfl
theorem group_pick_1.calls (k:Nat) (B:Int) (X:Int) (ζ :Int) (ι :Int) (ν :Int) (κ :Int) (ξ :Int) (ρ:Int) (ψ :Int) (a2:Int) (a8:Int) (A2:Option Addr) (c2:Nat) (l2:List (S31)) (a7:Option Addr) (a1:Nat) (μ :List (S36)) (a3:Option Addr) (a5:Nat) (τ :List (S86)) (ab:Int) (ac:Int) (ae:Int) (r:Int) (w:World) (eg:Kd.C k31 w A2 l2.length l2) (dv:l2.length≤c2) (dd:Kd.C k36 w a7 μ.length μ) (de: μ.length≤a1) (dh:Kd.C k86 w a3 τ.length τ) (di: τ.length≤a5) (h:group_pick_1.f k B X ζ ι ν κ ξ ρ ψ a2 a8 l2 μ τ ab ac ae=some r) (δ :Nat) (bj:Nat) (b3:Nat) (bm:Nat) (dw:w.heap[δ]?=some (.cells #[nI X,nI ζ,nI ι,nI ν,nI κ,nI ξ,nI ρ,nI ψ,nI a2,nI a8] 25 (0,0))) (dx:w.heap[bj]?=some (.cells #[.slice A2 l2.length c2] 46 (0,0))) (dy:w.heap[b3]?=some (.cells #[.slice a7 μ.length a1,.slice a3 τ.length a5] 50 (0,0))) (dz:w.heap[bm]?=some (.cells #[nI ab,nI ac,nI ae] 36 (0,0))):
 Calls Try.prog 58 #[nI B,.pointer (some ⟨δ,0,none⟩),.pointer (some ⟨bj,0,none⟩),.pointer (some ⟨b3,0,none⟩),.pointer (some ⟨bm,0,none⟩)] w fun e w'=>e = .returned (nI r)∧Below w.heap.size w w':=by
 have J:=aK dw
 clear dw
 have ε :=aK dx
 clear dx
 have γ:=aK dy
 clear dy
 have η :=aK dz
 clear dz
 have cj:=Try.underlying25
 have d0:=Try.underlying50
 have cg:=Try.underlying36
 have gq:=Try.underlying34
 have gl:=Try.underlying31
 have e4:=aK eg
 have dm:=aK dv
 clear eg dv
 have bk:=aK dd
 have bw:=aK de
 clear dd de
 have bp:=aK dh
 have bz:=aK di
 clear dh di
 have HB:=aK (Below.refl w.heap.size w)
 have H:((group_house.f X ζ ι ν κ ξ ρ ψ a2 a8 l2).bind fun d7=>((call_View.f k d7.1 d7.2 μ τ B).bind fun bn=>(if 0≤B then (if B<(l2.length:Int) then ((group_cost.f k X ζ ι ν κ ξ ρ ψ a2 a8 ((Qc l2 B).f0.f0) ((Qc l2 B).f0.f1) ((Qc l2 B).f0.f2) ((Qc l2 B).f0.f3) ((Qc l2 B).f0.f4.f0) ((Qc l2 B).f0.f4.f1) ((Qc l2 B).f0.f4.f2) ((Qc l2 B).f1) ((Qc l2 B).f2) ((Qc l2 B).f3) bn.1 bn.2.1 bn.2.2.1 ab ac ae).bind fun cd=>(some cd)) else (none)) else (none))))=some r:=h
 clear h
 obtain⟨⟨bv,cb⟩,A6,H⟩:=qQ H
 replace H:((call_View.f k bv cb μ τ B).bind fun bn=>(if 0≤B then (if B<(l2.length:Int) then ((group_cost.f k X ζ ι ν κ ξ ρ ψ a2 a8 ((Qc l2 B).f0.f0) ((Qc l2 B).f0.f1) ((Qc l2 B).f0.f2) ((Qc l2 B).f0.f3) ((Qc l2 B).f0.f4.f0) ((Qc l2 B).f0.f4.f1) ((Qc l2 B).f0.f4.f2) ((Qc l2 B).f1) ((Qc l2 B).f2) ((Qc l2 B).f3) bn.1 bn.2.1 bn.2.2.1 ab ac ae).bind fun cd=>(some cd)) else (none)) else (none)))=some r:=H
 obtain⟨⟨ag,al,am,da⟩,A7,H⟩:=qQ H
 replace H:(if 0≤B then (if B<(l2.length:Int) then ((group_cost.f k X ζ ι ν κ ξ ρ ψ a2 a8 ((Qc l2 B).f0.f0) ((Qc l2 B).f0.f1) ((Qc l2 B).f0.f2) ((Qc l2 B).f0.f3) ((Qc l2 B).f0.f4.f0) ((Qc l2 B).f0.f4.f1) ((Qc l2 B).f0.f4.f2) ((Qc l2 B).f1) ((Qc l2 B).f2) ((Qc l2 B).f3) ag al am ab ac ae).bind fun cd=>(some cd)) else (none)) else (none))=some r:=H
 by_cases c8:0≤B
 ·rw[if_pos c8] at H
  have c8b0:=decide_eq_true c8
  clear c8
  by_cases c9:B<(l2.length:Int)
  ·rw[if_pos c9] at H
   have c9b0:=decide_eq_true c9
   clear c9
   obtain⟨cd,ci,H⟩:=qQ H
   obtain rfl:=qJ H
   go_enter Try.func58,Try.ntmps58
   try go_wp2
   replace J:=aK (Qd J.out)
   replace ε :=aK (Qd ε.out)
   replace γ:=aK (Qd γ.out)
   replace η :=aK (Qd η.out)
   replace HB:=aK (Qj HB.out)
   refine Zg (n:=12) (S:=fun w'=>cI w' δ 0 X∧cI w' δ 1 ζ ∧ cI w' δ 2 ι ∧ cI w' δ 3 ν ∧ cI w' δ 4 κ ∧ cI w' δ 5 ξ ∧ cI w' δ 6 ρ∧cI w' δ 7 ψ ∧ cI w' δ 8 a2∧cI w' δ 9 a8∧w'.cell? ⟨bj,0,none⟩=some (.slice A2 l2.length c2)∧w'.cell? ⟨b3,0,none⟩=some (.slice a7 μ.length a1)∧w'.cell? ⟨b3,1,none⟩=some (.slice a3 τ.length a5)) (ds:=[]) #[false,false,false,false,false,false,false,false,false,false,false,false] kr rfl rfl ⟨(Qa J.out 0).trans rfl,(Qa J.out 1).trans rfl,(Qa J.out 2).trans rfl,(Qa J.out 3).trans rfl,(Qa J.out 4).trans rfl,(Qa J.out 5).trans rfl,(Qa J.out 6).trans rfl,(Qa J.out 7).trans rfl,(Qa J.out 8).trans rfl,(Qa J.out 9).trans rfl,(Qa ε.out 0).trans rfl,(Qa γ.out 0).trans rfl,(Qa γ.out 1).trans rfl⟩ (fun hHeld=>?_);refine Zb group_pick_1.K7 group_pick_1.Ji (fun HT_ HW_=>?_)
   generalize w.drew=fb at J ε γ η HB hHeld ⊢
   refine qP 4 (some 14) (bN 12 16) HT_ ?_
   refine qT 0 (some 10) (bN 12 17) HT_ HW_ hHeld ?_
   refine qT 1 (some 11) (bN 12 19) HT_ HW_ hHeld ?_
   refine qT 3 (some 13) (bN 12 27) HT_ HW_ hHeld ?_
   refine Y1 (σ:=Value×Value×Value×Nat) 2 (bN 12 1023) (fun s_=>[(12,.agg #[nI bv,nI cb]),(15,.tuple #[.agg #[s_.1,s_.2.1,s_.2.2.1],nI da]),(7,.pointer (some ⟨s_.2.2.2,0,none⟩)),(9,.tuple #[.agg #[s_.1,s_.2.1,s_.2.2.1],nI da]),(16,.agg #[s_.1,s_.2.1,s_.2.2.1]),(17,nI da)]) (fun s_ w'=>(cI w' δ 0 X∧cI w' δ 1 ζ ∧ cI w' δ 2 ι ∧ cI w' δ 3 ν ∧ cI w' δ 4 κ ∧ cI w' δ 5 ξ ∧ cI w' δ 6 ρ∧cI w' δ 7 ψ ∧ cI w' δ 8 a2∧cI w' δ 9 a8∧w'.cell? ⟨bj,0,none⟩=some (.slice A2 l2.length c2)∧w'.cell? ⟨b3,0,none⟩=some (.slice a7 μ.length a1)∧w'.cell? ⟨b3,1,none⟩=some (.slice a3 τ.length a5))∧(Kd.R (Kd.int .i64) 3 w' w.heap.size (fun k_=>some k_≠(s_.2.1:Value).ownBlock∧some k_≠(s_.2.2.1:Value).ownBlock) s_.1 ag)∧(Kd.R (Kd.int .i64) 3 w' w.heap.size (fun k_=>some k_≠(s_.1:Value).ownBlock∧some k_≠(s_.2.2.1:Value).ownBlock) s_.2.1 al)∧(Kd.R (Kd.int .i64) 3 w' w.heap.size (fun k_=>some k_≠(s_.1:Value).ownBlock∧some k_≠(s_.2.1:Value).ownBlock) s_.2.2.1 am)∧(w'.heap[δ]?=some (.cells #[nI X,nI ζ,nI ι,nI ν,nI κ,nI ξ,nI ρ,nI ψ,nI a2,nI a8] 25 (0,0)))∧(w'.heap[bj]?=some (.cells #[.slice A2 l2.length c2] 46 (0,0)))∧(w'.heap[b3]?=some (.cells #[.slice a7 μ.length a1,.slice a3 τ.length a5] 50 (0,0)))∧(w'.heap[bm]?=some (.cells #[nI ab,nI ac,nI ae] 36 (0,0)))∧(w'.heap[s_.2.2.2]?=some (.cells #[.slice none 0 0,.slice none 0 0,.slice none 0 0] 34 (0,0)))∧(w.heap.size≤s_.2.2.2)∧(w.heap.size≤s_.2.2.2)∧(δ ≠ s_.2.2.2)∧(s_.2.2.2 ≠ δ)∧(bj≠s_.2.2.2)∧(s_.2.2.2≠bj)∧(b3≠s_.2.2.2)∧(s_.2.2.2≠b3)∧(bm≠s_.2.2.2)∧(s_.2.2.2≠bm)∧(Below w.heap.size w w')) ?_ ?_
   rotate_left
   ·intro hCont
    refine K4 (i:=2) (j:=9) (Ni:=some 12) (Nj:=some 7) (bN 12 31) (bN 12 539) rfl rfl rfl rfl (Yg HT_.out kr) (by decide) (by decide) (fun K hK=>?_) (fun K hK=>?_)
    ·skip
     refine Zd Try.func37 kr rfl #[.agg #[nI X,nI ζ,nI ι,nI ν,nI κ,nI ξ,nI ρ,nI ψ,nI a2,nI a8],.slice A2 l2.length c2] (by rfl) rfl rfl qM ?_
     with_reducible refine(group_house.calls X ζ ι ν κ ξ ρ ψ a2 a8 _ _ l2 bv cb _ ?side1 ?side2 A6.out).mono ?_
     (case side1=>exact(Kd.Qw e4.out HB.out))
     (case side2=>exact dm.out)
     rintro e cr ⟨rfl,hb⟩
     refine⟨_,rfl, ?_⟩
     replace J:=sBk J hb
     replace ε :=sBk ε hb
     replace γ:=sBk γ hb
     replace η :=sBk η hb
     replace HB:=sHb hb
     (try clear hb)
     (try clear a4)
     (try clear hk)
     (try clear hi)
     refine hK.out _ _ ⟨qc J,qc J,qc J,qc J,qc J,qc J,qc J,qc J,qc J,qc J,qc ε,qc γ,qc γ⟩ (fun hHeld=>?_)
     clear hK K
     refine qN (some 12) ?_
     refine K4 (i:=5) (j:=9) (Ni:=some 15) (Nj:=some 7) (bN 12 63) (bN 12 543) rfl rfl rfl rfl (Yg HT_.out kr) (by decide) (by decide) (fun K hK=>?_) (fun K hK=>?_)
     ·skip
      refine Zd Try.func24 kr rfl #[.agg #[nI bv,nI cb],.agg #[.slice a7 μ.length a1,.slice a3 τ.length a5],nI B] (by rfl) rfl rfl qM ?_
      with_reducible refine(call_View.calls k bv cb _ _ μ _ _ τ B ag al am da _ ?side1 ?side2 ?side3 ?side4 A7.out).mono ?_
      (case side1=>exact(Kd.Qw bk.out HB.out))
      (case side2=>exact bw.out)
      (case side3=>exact(Kd.Qw bp.out HB.out))
      (case side4=>exact bz.out)
      rintro e cv ⟨ce,cf,ch,rfl,ai,aj,bg,hb⟩
      refine⟨_,rfl, ?_⟩
      have an:=aK (Kd.Za ai (Qm HB.out))
      have au:=aK (Kd.Za aj (Qm HB.out))
      have av:=aK (Kd.Za bg (Qm HB.out))
      replace J:=sBk J hb
      replace ε :=sBk ε hb
      replace γ:=sBk γ hb
      replace η :=sBk η hb
      replace HB:=sHb hb
      (try clear hb)
      (try clear a4)
      (try clear hk)
      (try clear hi)
      (try clear ai)
      (try clear aj)
      (try clear bg)
      refine hK.out _ _ ⟨qc J,qc J,qc J,qc J,qc J,qc J,qc J,qc J,qc J,qc J,qc ε,qc γ,qc γ⟩ (fun hHeld=>?_)
      clear hK K
      refine qN (some 15) ?_
      refine qP 6 (some 9) (bN 12 127) HT_ ?_
      refine qP 7 (some 16) (bN 12 255) HT_ ?_
      refine qP 8 (some 17) (bN 12 511) HT_ ?_
      refine qK 9 (some 7) (bN 12 1023) HT_ fun K hK=>?_
      refine Xf ?hg (N:=7) ?hd (cs:=#[.slice none 0 0,.slice none 0 0,.slice none 0 0]) (t:=34) ?hr ?_;(case hd=>rfl);(case hg=>rfl);(case hr=>go_simp <;> rfl)
      intro Z hg bf hbox hb
      have Y:=aK hbox
      have bo:=sGe hg
      have bs:=sGe hg
      have O:=sNl J hg
      have aw:=sNg J hg
      have af:=sNl ε hg
      have ax:=sNg ε hg
      have θ :=sNl γ hg
      have ay:=sNg γ hg
      have b0:=sNl η hg
      have b2:=sNg η hg
      replace an:=sRb an hb
      replace au:=sRb au hb
      replace av:=sRb av hb
      replace J:=sBk J hb
      replace ε :=sBk ε hb
      replace γ:=sBk γ hb
      replace η :=sBk η hb
      replace HB:=sHb hb
      clear hb hbox hg
      refine hK.out _ _ ⟨qc J,qc J,qc J,qc J,qc J,qc J,qc J,qc J,qc J,qc J,qc ε,qc γ,qc γ⟩ (fun hHeld=>?_)
      clear hK K
      refine qN (some 7) ?_
      exact Zv (by simp only[Zc,Act.put,qS]) (hCont (ce,cf,ch,Z) _ ⟨hHeld,an.out,au.out,av.out,J.out,ε.out,γ.out,η.out,Y.out,bo.out,bs.out,O.out,aw.out,af.out,ax.out,θ.out,ay.out,b0.out,b2.out,HB.out⟩)
     ·skip
      refine Xf ?hg (N:=7) ?hd (cs:=#[.slice none 0 0,.slice none 0 0,.slice none 0 0]) (t:=34) ?hr ?_;(case hd=>rfl);(case hg=>rfl);(case hr=>go_simp <;> rfl)
      intro Z hg cv hbox hb
      have Y:=aK hbox
      have bo:=sGe hg
      have bs:=sGe hg
      have O:=sNl J hg
      have aw:=sNg J hg
      have af:=sNl ε hg
      have ax:=sNg ε hg
      have θ :=sNl γ hg
      have ay:=sNg γ hg
      have b0:=sNl η hg
      have b2:=sNg η hg
      replace J:=sBk J hb
      replace ε :=sBk ε hb
      replace γ:=sBk γ hb
      replace η :=sBk η hb
      replace HB:=sHb hb
      clear hb hbox hg
      refine hK.out _ _ ⟨qc J,qc J,qc J,qc J,qc J,qc J,qc J,qc J,qc J,qc J,qc ε,qc γ,qc γ⟩ (fun hHeld=>?_)
      clear hK K
      refine qN (some 7) ?_
      refine qK 5 (some 15) (bN 12 575) HT_ fun K hK=>?_
      refine Zd Try.func24 kr rfl #[.agg #[nI bv,nI cb],.agg #[.slice a7 μ.length a1,.slice a3 τ.length a5],nI B] (by rfl) rfl rfl qM ?_
      with_reducible refine(call_View.calls k bv cb _ _ μ _ _ τ B ag al am da _ ?side1 ?side2 ?side3 ?side4 A7.out).mono ?_
      (case side1=>exact(Kd.Qw bk.out HB.out))
      (case side2=>exact bw.out)
      (case side3=>exact(Kd.Qw bp.out HB.out))
      (case side4=>exact bz.out)
      rintro e bf ⟨ce,cf,ch,rfl,ai,aj,bg,hb⟩
      refine⟨_,rfl, ?_⟩
      have an:=aK (Kd.Za ai (Qm HB.out))
      have au:=aK (Kd.Za aj (Qm HB.out))
      have av:=aK (Kd.Za bg (Qm HB.out))
      replace J:=sBk J hb
      replace ε :=sBk ε hb
      replace γ:=sBk γ hb
      replace η :=sBk η hb
      replace Y:=sBk Y hb
      replace HB:=sHb hb
      (try clear hb)
      (try clear a4)
      (try clear hk)
      (try clear hi)
      (try clear ai)
      (try clear aj)
      (try clear bg)
      refine hK.out _ _ ⟨qc J,qc J,qc J,qc J,qc J,qc J,qc J,qc J,qc J,qc J,qc ε,qc γ,qc γ⟩ (fun hHeld=>?_)
      clear hK K
      refine qN (some 15) ?_
      refine qP 6 (some 9) (bN 12 639) HT_ ?_
      refine qP 7 (some 16) (bN 12 767) HT_ ?_
      refine qP 8 (some 17) (bN 12 1023) HT_ ?_
      exact Zv (by simp only[Zc,Act.put,qS]) (hCont (ce,cf,ch,Z) _ ⟨hHeld,an.out,au.out,av.out,J.out,ε.out,γ.out,η.out,Y.out,bo.out,bs.out,O.out,aw.out,af.out,ax.out,θ.out,ay.out,b0.out,b2.out,HB.out⟩)
    ·skip
     refine Xf ?hg (N:=7) ?hd (cs:=#[.slice none 0 0,.slice none 0 0,.slice none 0 0]) (t:=34) ?hr ?_;(case hd=>rfl);(case hg=>rfl);(case hr=>go_simp <;> rfl)
     intro Z hg cr hbox hb
     have Y:=aK hbox
     have bo:=sGe hg
     have bs:=sGe hg
     have O:=sNl J hg
     have aw:=sNg J hg
     have af:=sNl ε hg
     have ax:=sNg ε hg
     have θ :=sNl γ hg
     have ay:=sNg γ hg
     have b0:=sNl η hg
     have b2:=sNg η hg
     replace J:=sBk J hb
     replace ε :=sBk ε hb
     replace γ:=sBk γ hb
     replace η :=sBk η hb
     replace HB:=sHb hb
     clear hb hbox hg
     refine hK.out _ _ ⟨qc J,qc J,qc J,qc J,qc J,qc J,qc J,qc J,qc J,qc J,qc ε,qc γ,qc γ⟩ (fun hHeld=>?_)
     clear hK K
     refine qN (some 7) ?_
     refine qK 2 (some 12) (bN 12 543) HT_ fun K hK=>?_
     refine Zd Try.func37 kr rfl #[.agg #[nI X,nI ζ,nI ι,nI ν,nI κ,nI ξ,nI ρ,nI ψ,nI a2,nI a8],.slice A2 l2.length c2] (by rfl) rfl rfl qM ?_
     with_reducible refine(group_house.calls X ζ ι ν κ ξ ρ ψ a2 a8 _ _ l2 bv cb _ ?side1 ?side2 A6.out).mono ?_
     (case side1=>exact(Kd.Qw e4.out HB.out))
     (case side2=>exact dm.out)
     rintro e cv ⟨rfl,hb⟩
     refine⟨_,rfl, ?_⟩
     replace J:=sBk J hb
     replace ε :=sBk ε hb
     replace γ:=sBk γ hb
     replace η :=sBk η hb
     replace Y:=sBk Y hb
     replace HB:=sHb hb
     (try clear hb)
     (try clear a4)
     (try clear hk)
     (try clear hi)
     refine hK.out _ _ ⟨qc J,qc J,qc J,qc J,qc J,qc J,qc J,qc J,qc J,qc J,qc ε,qc γ,qc γ⟩ (fun hHeld=>?_)
     clear hK K
     refine qN (some 12) ?_
     refine qK 5 (some 15) (bN 12 575) HT_ fun K hK=>?_
     refine Zd Try.func24 kr rfl #[.agg #[nI bv,nI cb],.agg #[.slice a7 μ.length a1,.slice a3 τ.length a5],nI B] (by rfl) rfl rfl qM ?_
     with_reducible refine(call_View.calls k bv cb _ _ μ _ _ τ B ag al am da _ ?side1 ?side2 ?side3 ?side4 A7.out).mono ?_
     (case side1=>exact(Kd.Qw bk.out HB.out))
     (case side2=>exact bw.out)
     (case side3=>exact(Kd.Qw bp.out HB.out))
     (case side4=>exact bz.out)
     rintro e bf ⟨ce,cf,ch,rfl,ai,aj,bg,hb⟩
     refine⟨_,rfl, ?_⟩
     have an:=aK (Kd.Za ai (Qm HB.out))
     have au:=aK (Kd.Za aj (Qm HB.out))
     have av:=aK (Kd.Za bg (Qm HB.out))
     replace J:=sBk J hb
     replace ε :=sBk ε hb
     replace γ:=sBk γ hb
     replace η :=sBk η hb
     replace Y:=sBk Y hb
     replace HB:=sHb hb
     (try clear hb)
     (try clear a4)
     (try clear hk)
     (try clear hi)
     (try clear ai)
     (try clear aj)
     (try clear bg)
     refine hK.out _ _ ⟨qc J,qc J,qc J,qc J,qc J,qc J,qc J,qc J,qc J,qc J,qc ε,qc γ,qc γ⟩ (fun hHeld=>?_)
     clear hK K
     refine qN (some 15) ?_
     refine qP 6 (some 9) (bN 12 639) HT_ ?_
     refine qP 7 (some 16) (bN 12 767) HT_ ?_
     refine qP 8 (some 17) (bN 12 1023) HT_ ?_
     exact Zv (by simp only[Zc,Act.put,qS]) (hCont (ce,cf,ch,Z) _ ⟨hHeld,an.out,au.out,av.out,J.out,ε.out,γ.out,η.out,Y.out,bo.out,bs.out,O.out,aw.out,af.out,ax.out,θ.out,ay.out,b0.out,b2.out,HB.out⟩)
   rintro⟨ce,cf,ch,Z⟩ b6 ⟨hS_,b8,b9,ba,bb,bc,bu,cw,cx,cy,cz,bq,cn,co,d8,eu,e5,e6,e7,e8⟩
   have φ :Aside0 (Kd.R (Kd.int .i64) 3 b6 w.heap.size (fun k_=>some k_≠(cf:Value).ownBlock∧some k_≠(ch:Value).ownBlock) ce ag):=⟨b8⟩
   have χ :Aside0 (Kd.R (Kd.int .i64) 3 b6 w.heap.size (fun k_=>some k_≠(ce:Value).ownBlock∧some k_≠(ch:Value).ownBlock) cf al):=⟨b9⟩
   have ω :Aside0 (Kd.R (Kd.int .i64) 3 b6 w.heap.size (fun k_=>some k_≠(ce:Value).ownBlock∧some k_≠(cf:Value).ownBlock) ch am):=⟨ba⟩
   have a6:Aside0 (b6.heap[δ]?=some (.cells #[nI X,nI ζ,nI ι,nI ν,nI κ,nI ξ,nI ρ,nI ψ,nI a2,nI a8] 25 (0,0))):=⟨bb⟩
   have ah:Aside0 (b6.heap[bj]?=some (.cells #[.slice A2 l2.length c2] 46 (0,0))):=⟨bc⟩
   have az:Aside0 (b6.heap[b3]?=some (.cells #[.slice a7 μ.length a1,.slice a3 τ.length a5] 50 (0,0))):=⟨bu⟩
   have b1:Aside0 (b6.heap[bm]?=some (.cells #[nI ab,nI ac,nI ae] 36 (0,0))):=⟨cw⟩
   have be:Aside0 (b6.heap[Z]?=some (.cells #[.slice none 0 0,.slice none 0 0,.slice none 0 0] 34 (0,0))):=⟨cx⟩
   have bl:Aside0 (w.heap.size≤Z):=⟨cy⟩
   have ca:Aside0 (w.heap.size≤Z):=⟨cz⟩
   have br:Aside0 (δ ≠ Z):=⟨bq⟩
   have cp:Aside0 (Z ≠ δ):=⟨cn⟩
   have cq:Aside0 (bj≠Z):=⟨co⟩
   have d9:Aside0 (Z≠bj):=⟨d8⟩
   have ev:Aside0 (b3≠Z):=⟨eu⟩
   have e9:Aside0 (Z≠b3):=⟨e5⟩
   have ea:Aside0 (bm≠Z):=⟨e6⟩
   have eb:Aside0 (Z≠bm):=⟨e7⟩
   have ec:Aside0 (Below w.heap.size w b6):=⟨e8⟩
   clear J
   clear ε
   clear γ
   clear η
   clear HB
   clear b8 b9 ba bb bc bu cw cx cy cz bq cn co d8 eu e5 e6 e7 e8
   have an:= φ
   have au:= χ
   have av:= ω
   have J:=a6
   have ε :=ah
   have γ:=az
   have η :=b1
   have Y:=be
   have bo:=bl
   have bs:=ca
   have O:=br
   have aw:=cp
   have af:=cq
   have ax:=d9
   have θ :=ev
   have ay:=e9
   have b0:=ea
   have b2:=eb
   have HB:=ec
   clear φ χ ω a6 ah az b1 be bl ca br cp cq d9 ev e9 ea eb ec
   have hHeld:cI b6 δ 0 X∧cI b6 δ 1 ζ ∧ cI b6 δ 2 ι ∧ cI b6 δ 3 ν ∧ cI b6 δ 4 κ ∧ cI b6 δ 5 ξ ∧ cI b6 δ 6 ρ∧cI b6 δ 7 ψ ∧ cI b6 δ 8 a2∧cI b6 δ 9 a8∧b6.cell? ⟨bj,0,none⟩=some (.slice A2 l2.length c2)∧b6.cell? ⟨b3,0,none⟩=some (.slice a7 μ.length a1)∧b6.cell? ⟨b3,1,none⟩=some (.slice a3 τ.length a5):=hS_
   obtain⟨b4,b5,ee⟩:=Kd.Q7 an.out
   (first|subst ee|(injection ee with a9 ao aa;have ap:=a9.symm;have ar:=aa.symm;clear a9 ao aa;subst ap;subst ar))
   obtain⟨bh,bi,ef⟩:=Kd.Q7 au.out
   (first|subst ef|(injection ef with a9 ao aa;have ap:=a9.symm;have ar:=aa.symm;clear a9 ao aa;subst ap;subst ar))
   obtain⟨b7,bd,db⟩:=Kd.Q7 av.out
   (first|subst db|(injection db with a9 ao aa;have ap:=a9.symm;have ar:=aa.symm;clear a9 ao aa;subst ap;subst ar))
   refine Zv (a':=?_) ?_ ?_
   rotate_left
   ·simp only[Zc,Act.put,qS]
    rfl
   refine qK 10 (none) (bN 12 2047) HT_ fun K hK=>?_
   have fo:b6.cell? ⟨Z,0,none⟩=some (.slice none 0 0):=(Qa Y.out 0).trans rfl
   have fl:=Qg Y.out 0
   have ei:=O.out
   have ej:=af.out
   have ek:= θ.out
   have el:=b0.out
   have em:=aw.out
   have en:=ax.out
   have eo:=ay.out
   have ep:=b2.out
   have fp:b6.cell? ⟨Z,1,none⟩=some (.slice none 0 0):=(Qa Y.out 1).trans rfl
   have fm:=Qg Y.out 1
   have er:=O.out
   have et:=af.out
   have ew:= θ.out
   have ey:=b0.out
   have ez:=aw.out
   have f7:=ax.out
   have f8:=ay.out
   have fa:=b2.out
   have fq:b6.cell? ⟨Z,2,none⟩=some (.slice none 0 0):=(Qa Y.out 2).trans rfl
   have fn:=Qg Y.out 2
   have fc:=O.out
   have fe:=af.out
   have ff:= θ.out
   have fg:=b0.out
   have fh:=aw.out
   have fi:=ax.out
   have fj:=ay.out
   have fk:=b2.out
   refine K9 (w1:=?_) (by rfl) rfl ?_ ?_
   rotate_left
   ·go_simp
    rfl
   refine hK.out _ _ ⟨(cF O ((cF O ((cF O (hHeld.1)))))),(cF O ((cF O ((cF O (hHeld.2.1)))))),(cF O ((cF O ((cF O (hHeld.2.2.1)))))),(cF O ((cF O ((cF O (hHeld.2.2.2.1)))))),(cF O ((cF O ((cF O (hHeld.2.2.2.2.1)))))),(cF O ((cF O ((cF O (hHeld.2.2.2.2.2.1)))))),(cF O ((cF O ((cF O (hHeld.2.2.2.2.2.2.1)))))),(cF O ((cF O ((cF O (hHeld.2.2.2.2.2.2.2.1)))))),(cF O ((cF O ((cF O (hHeld.2.2.2.2.2.2.2.2.1)))))),(cF O ((cF O ((cF O (hHeld.2.2.2.2.2.2.2.2.2.1)))))),(cF af ((cF af ((cF af (hHeld.2.2.2.2.2.2.2.2.2.2.1)))))),(cF θ ((cF θ ((cF θ (hHeld.2.2.2.2.2.2.2.2.2.2.2.1)))))),(cF θ ((cF θ ((cF θ (hHeld.2.2.2.2.2.2.2.2.2.2.2.2))))))⟩ (fun hHeld=>?_)
   clear hK K
   refine qP 11 (some 8) (bN 12 4095) HT_ ?_
   refine Zl (Ze HT_.out kr) ?_
   try go_wp2
   have φ :Aside0 (Kd.R (Kd.int .i64) 3 (((b6.setCell ⟨Z,0,none⟩ (.slice b4 ag.length b5)).setCell ⟨Z,1,none⟩ (.slice bh al.length bi)).setCell ⟨Z,2,none⟩ (.slice b7 am.length bd)) w.heap.size (fun k_=>some k_≠(.slice bh al.length bi:Value).ownBlock∧some k_≠(.slice b7 am.length bd:Value).ownBlock) (.slice b4 ag.length b5) ag):=⟨by(with_reducible repeat first|apply Kd.Qs|apply Kd.Qr|apply Kd.Qu);exact Kd.Qv (Kd.Qx (Kd.Qx (Kd.Qx (Kd.Q4 an.out Y.out (by decide)) (fun _ hk=>hk.2) _) (fun _ hk=>hk.2) _) (fun _ hk=>hk.2) _) (fun _ hk=>⟨hk.1.1,hk.1.2⟩)⟩
   have χ :Aside0 (Kd.R (Kd.int .i64) 3 (((b6.setCell ⟨Z,0,none⟩ (.slice b4 ag.length b5)).setCell ⟨Z,1,none⟩ (.slice bh al.length bi)).setCell ⟨Z,2,none⟩ (.slice b7 am.length bd)) w.heap.size (fun k_=>some k_≠(.slice b4 ag.length b5:Value).ownBlock∧some k_≠(.slice b7 am.length bd:Value).ownBlock) (.slice bh al.length bi) al):=⟨by(with_reducible repeat first|apply Kd.Qs|apply Kd.Qr|apply Kd.Qu);exact Kd.Qv (Kd.Qx (Kd.Qx (Kd.Qx (Kd.Q4 au.out Y.out (by decide)) (fun _ hk=>hk.2) _) (fun _ hk=>hk.2) _) (fun _ hk=>hk.2) _) (fun _ hk=>⟨hk.1.1,hk.1.2⟩)⟩
   have ω :Aside0 (Kd.R (Kd.int .i64) 3 (((b6.setCell ⟨Z,0,none⟩ (.slice b4 ag.length b5)).setCell ⟨Z,1,none⟩ (.slice bh al.length bi)).setCell ⟨Z,2,none⟩ (.slice b7 am.length bd)) w.heap.size (fun k_=>some k_≠(.slice b4 ag.length b5:Value).ownBlock∧some k_≠(.slice bh al.length bi:Value).ownBlock) (.slice b7 am.length bd) am):=⟨by(with_reducible repeat first|apply Kd.Qs|apply Kd.Qr|apply Kd.Qu);exact Kd.Qv (Kd.Qx (Kd.Qx (Kd.Qx (Kd.Q4 av.out Y.out (by decide)) (fun _ hk=>hk.2) _) (fun _ hk=>hk.2) _) (fun _ hk=>hk.2) _) (fun _ hk=>⟨hk.1.1,hk.1.2⟩)⟩
   have a6:Aside0 ((((b6.setCell ⟨Z,0,none⟩ (.slice b4 ag.length b5)).setCell ⟨Z,1,none⟩ (.slice bh al.length bi)).setCell ⟨Z,2,none⟩ (.slice b7 am.length bd)).heap[δ]?=some (.cells #[nI X,nI ζ,nI ι,nI ν,nI κ,nI ξ,nI ρ,nI ψ,nI a2,nI a8] 25 (0,0))):=⟨bka J⟩
   have ah:Aside0 ((((b6.setCell ⟨Z,0,none⟩ (.slice b4 ag.length b5)).setCell ⟨Z,1,none⟩ (.slice bh al.length bi)).setCell ⟨Z,2,none⟩ (.slice b7 am.length bd)).heap[bj]?=some (.cells #[.slice A2 l2.length c2] 46 (0,0))):=⟨bka ε⟩
   have az:Aside0 ((((b6.setCell ⟨Z,0,none⟩ (.slice b4 ag.length b5)).setCell ⟨Z,1,none⟩ (.slice bh al.length bi)).setCell ⟨Z,2,none⟩ (.slice b7 am.length bd)).heap[b3]?=some (.cells #[.slice a7 μ.length a1,.slice a3 τ.length a5] 50 (0,0))):=⟨bka γ⟩
   have b1:Aside0 ((((b6.setCell ⟨Z,0,none⟩ (.slice b4 ag.length b5)).setCell ⟨Z,1,none⟩ (.slice bh al.length bi)).setCell ⟨Z,2,none⟩ (.slice b7 am.length bd)).heap[bm]?=some (.cells #[nI ab,nI ac,nI ae] 36 (0,0))):=⟨bka η⟩
   have be:Aside0 ((((b6.setCell ⟨Z,0,none⟩ (.slice b4 ag.length b5)).setCell ⟨Z,1,none⟩ (.slice bh al.length bi)).setCell ⟨Z,2,none⟩ (.slice b7 am.length bd)).heap[Z]?=some (.cells #[.slice b4 ag.length b5,.slice bh al.length bi,.slice b7 am.length bd] 34 (0,0))):=⟨by refine Qo (cs:=#[.slice b4 ag.length b5,.slice bh al.length bi,.slice none 0 0]) ?_ 2 _ rfl;refine Qo (cs:=#[.slice b4 ag.length b5,.slice none 0 0,.slice none 0 0]) ?_ 1 _ rfl;refine Qo (cs:=#[.slice none 0 0,.slice none 0 0,.slice none 0 0]) ?_ 0 _ rfl;exact Y.out⟩
   have bl:Aside0 (Below w.heap.size w (((b6.setCell ⟨Z,0,none⟩ (.slice b4 ag.length b5)).setCell ⟨Z,1,none⟩ (.slice bh al.length bi)).setCell ⟨Z,2,none⟩ (.slice b7 am.length bd))):=⟨bel⟩
   (try clear an)
   (try clear au)
   (try clear av)
   (try clear J)
   (try clear ε)
   (try clear γ)
   (try clear η)
   (try clear Y)
   (try clear HB)
   generalize(((b6.setCell ⟨Z,0,none⟩ (.slice b4 ag.length b5)).setCell ⟨Z,1,none⟩ (.slice bh al.length bi)).setCell ⟨Z,2,none⟩ (.slice b7 am.length bd))=hu at φ χ ω a6 ah az b1 be bl ⊢
   have an:= φ
   have au:= χ
   have av:= ω
   have J:=a6
   have ε :=ah
   have γ:=az
   have η :=b1
   have Y:=be
   have HB:=bl
   clear φ χ ω a6 ah az b1 be bl
   replace an:=aK (Kd.Qu an.out)
   replace au:=aK (Kd.Qu au.out)
   replace av:=aK (Kd.Qu av.out)
   replace J:=aK (Qd J.out)
   replace ε :=aK (Qd ε.out)
   replace γ:=aK (Qd γ.out)
   replace η :=aK (Qd η.out)
   replace Y:=aK (Qd Y.out)
   replace HB:=aK (Qj HB.out)
   have e0:0≤(B:Int):=of_decide_eq_true (by assumption)
   have e3:B<(l2.length:Int):=of_decide_eq_true (by assumption)
   obtain⟨ak,eh,ck,cm,ct,cu,d1,d2,d3,d4,d5,d6⟩:=Jc e4.out B e0 e3
   have dc:=d6
   have df:=d5
   have dj:=d4
   have dl:=d3
   have dn:=d2
   have dp:=d1
   have dq:=cu
   have dr:=ct
   have dt:=cm
   have du:=ck
   cases eh
   replace ck:=sCl HB ck
   replace cm:=sCl HB cm
   replace ct:=sCl HB ct
   replace cu:=sCl HB cu
   replace d1:=sCl HB d1
   replace d2:=sCl HB d2
   replace d3:=sCl HB d3
   replace d4:=sCl HB d4
   replace d5:=sCl HB d5
   replace d6:=sCl HB d6
   replace e0:=eq_true e0
   replace e3:=eq_true e3
   refine Zg (n:=9) (S:=fun w'=>cI w' δ 0 X∧cI w' δ 1 ζ ∧ cI w' δ 2 ι ∧ cI w' δ 3 ν ∧ cI w' δ 4 κ ∧ cI w' δ 5 ξ ∧ cI w' δ 6 ρ∧cI w' δ 7 ψ ∧ cI w' δ 8 a2∧cI w' δ 9 a8∧w'.cell? ⟨bj,0,none⟩=some (.slice (some ak) l2.length c2)∧w'.cell? ⟨Z,0,none⟩=some (.slice b4 ag.length b5)∧w'.cell? ⟨Z,1,none⟩=some (.slice bh al.length bi)∧w'.cell? ⟨Z,2,none⟩=some (.slice b7 am.length bd)∧cI w' bm 0 ab∧cI w' bm 1 ac∧cI w' bm 2 ae∧w'.cell? (ak.add ((B).toNat * 10))=some (nI ((Qc l2 B).f0.f0))∧w'.cell? ⟨(ak.add ((B).toNat * 10)).block,(ak.add ((B).toNat * 10)).off+1,none⟩=some (nI ((Qc l2 B).f0.f1))∧w'.cell? ⟨(ak.add ((B).toNat * 10)).block,(ak.add ((B).toNat * 10)).off+2,none⟩=some (nI ((Qc l2 B).f0.f2))∧w'.cell? ⟨(ak.add ((B).toNat * 10)).block,(ak.add ((B).toNat * 10)).off+3,none⟩=some (nI ((Qc l2 B).f0.f3))∧w'.cell? ⟨(ak.add ((B).toNat * 10)).block,(ak.add ((B).toNat * 10)).off+4,none⟩=some (nI ((Qc l2 B).f0.f4.f0))∧w'.cell? ⟨(ak.add ((B).toNat * 10)).block,(ak.add ((B).toNat * 10)).off+5,none⟩=some (nI ((Qc l2 B).f0.f4.f1))∧w'.cell? ⟨(ak.add ((B).toNat * 10)).block,(ak.add ((B).toNat * 10)).off+6,none⟩=some (nI ((Qc l2 B).f0.f4.f2))∧w'.cell? ⟨(ak.add ((B).toNat * 10)).block,(ak.add ((B).toNat * 10)).off+7,none⟩=some (nI ((Qc l2 B).f1))∧w'.cell? ⟨(ak.add ((B).toNat * 10)).block,(ak.add ((B).toNat * 10)).off+8,none⟩=some (.bool ((Qc l2 B).f2))∧w'.cell? ⟨(ak.add ((B).toNat * 10)).block,(ak.add ((B).toNat * 10)).off+9,none⟩=some (.bool ((Qc l2 B).f3))) (ds:=[]) #[false,false,false,false,false,false,false,false,false] kr rfl rfl ⟨(Qa J.out 0).trans rfl,(Qa J.out 1).trans rfl,(Qa J.out 2).trans rfl,(Qa J.out 3).trans rfl,(Qa J.out 4).trans rfl,(Qa J.out 5).trans rfl,(Qa J.out 6).trans rfl,(Qa J.out 7).trans rfl,(Qa J.out 8).trans rfl,(Qa J.out 9).trans rfl,(Qa ε.out 0).trans rfl,(Qa Y.out 0).trans rfl,(Qa Y.out 1).trans rfl,(Qa Y.out 2).trans rfl,(Qa η.out 0).trans rfl,(Qa η.out 1).trans rfl,(Qa η.out 2).trans rfl,(sCl HB du),(sCl HB dt),(sCl HB dr),(sCl HB dq),(sCl HB dp),(sCl HB dn),(sCl HB dl),(sCl HB dj),(sCl HB df),(sCl HB dc)⟩ (fun hHeld=>?_);refine Zb group_pick_1.C0 group_pick_1.E1 (fun HT_ HW_=>?_)
   generalize hu.drew=dk at an au av J ε γ η Y HB ck cm ct cu d1 d2 d3 d4 d5 d6 hHeld ⊢
   refine qP 2 (some 20) (bN 9 4) HT_ ?_
   refine qT 0 (some 18) (bN 9 5) HT_ HW_ hHeld ?_
   refine qT 1 (some 19) (bN 9 7) HT_ HW_ hHeld ?_
   refine qP 3 (some 21) (bN 9 15) HT_ ?_
   refine qT 4 (some 22) (bN 9 31) HT_ HW_ hHeld ?_
   refine qT 5 (some 23) (bN 9 63) HT_ HW_ hHeld ?_
   refine qT 6 (some 24) (bN 9 127) HT_ HW_ hHeld ?_
   refine qK 7 (some 25) (bN 9 255) HT_ fun K hK=>?_
   refine Zd Try.func31 kr rfl #[.agg #[nI X,nI ζ,nI ι,nI ν,nI κ,nI ξ,nI ρ,nI ψ,nI a2,nI a8],.agg #[nI ((Qc l2 B).f0.f0),nI ((Qc l2 B).f0.f1),nI ((Qc l2 B).f0.f2),nI ((Qc l2 B).f0.f3),nI ((Qc l2 B).f0.f4.f0),nI ((Qc l2 B).f0.f4.f1),nI ((Qc l2 B).f0.f4.f2),nI ((Qc l2 B).f1),.bool ((Qc l2 B).f2),.bool ((Qc l2 B).f3)],.agg #[.slice b4 ag.length b5,.slice bh al.length bi,.slice b7 am.length bd],.agg #[nI ab,nI ac,nI ae]] (by rfl) rfl rfl qM ?_
   with_reducible refine(group_cost.calls k X ζ ι ν κ ξ ρ ψ a2 a8 ((Qc l2 B).f0.f0) ((Qc l2 B).f0.f1) ((Qc l2 B).f0.f2) ((Qc l2 B).f0.f3) ((Qc l2 B).f0.f4.f0) ((Qc l2 B).f0.f4.f1) ((Qc l2 B).f0.f4.f2) ((Qc l2 B).f1) ((Qc l2 B).f2) ((Qc l2 B).f3) _ _ ag _ _ al _ _ am ab ac ae cd _ ?side1 ?side2 ?side3 ?side4 ?side5 ?side6 ci.out).mono ?_
   (case side1=>exact(Kd.Qt an.out).2.2)
   (case side2=>exact(Kd.Qt an.out).2.1)
   (case side3=>exact(Kd.Qt au.out).2.2)
   (case side4=>exact(Kd.Qt au.out).2.1)
   (case side5=>exact(Kd.Qt av.out).2.2)
   (case side6=>exact(Kd.Qt av.out).2.1)
   rintro e ed ⟨rfl,hb⟩
   refine⟨_,rfl, ?_⟩
   replace an:=sRb an hb
   replace au:=sRb au hb
   replace av:=sRb av hb
   replace J:=sBk J hb
   replace ε :=sBk ε hb
   replace γ:=sBk γ hb
   replace η :=sBk η hb
   replace Y:=sBk Y hb
   replace HB:=sHb hb
   (try clear hb)
   (try clear a4)
   (try clear hk)
   (try clear hi)
   refine hK.out _ _ ⟨qc J,qc J,qc J,qc J,qc J,qc J,qc J,qc J,qc J,qc J,qc ε,qc Y,qc Y,qc Y,qc η,qc η,qc η,(sCl HB du),(sCl HB dt),(sCl HB dr),(sCl HB dq),(sCl HB dp),(sCl HB dn),(sCl HB dl),(sCl HB dj),(sCl HB df),(sCl HB dc)⟩ (fun hHeld=>?_)
   clear hK K
   refine qN (some 25) ?_
   refine qP 8 (some 6) (bN 9 511) HT_ ?_
   refine Zl (Ze HT_.out kr) ?_
   try go_wp2
   go_ret
   exact⟨rfl,HB.out⟩
  ·rw[if_neg c9] at H
   exact absurd H (by simp)
 ·rw[if_neg c8] at H
  exact absurd H (by simp)
end Go.Proofs.Ytmfffemidlhcpaa.C
namespace Go.Proofs.Ytmfffemidlhcpaa.Call
open Go.RowKit Go.Proofs.YtmfffemidlhcpaaW.PrintWords Go.Proofs.YtmfffemidlhcpaaW.PrintLast Go.Proofs.YtmfffemidlhcpaaW.PrintMore Go.Proofs.Ytmfffemidlhcpaa.C
def Yf (c:Int) (I:List Ins):List Int:=(I.filter (fun x=>decide (x.f0=c))).map (·.f1)
def Xr (c:Int) (H:List Hall):List Int:=(H.filter (fun x=>decide (x.f2=c∧x.f1>0))).map (·.f0)
def Xs (c:Int) (H:List Hall):List Int:=(H.filter (fun x=>decide (x.f2=c ∧ ¬ x.f1>0))).map (·.f0)
theorem De (c:Int) (H:List Hall) (V:List Int) (hm:H.length<900000000) (j:Nat):∀ (f i:Nat) (U D:List Int),i+j=H.length→j<f→U.length≤i→D.length≤i →
 call_View.l1 f c H (H.length:Int) (i:Int) V U D=some (V,U++Xr c (H.drop i),D++Xs c (H.drop i),0):=by
 induction j with
 |zero=>
  intro f i U D hi hf hU hD
  obtain⟨f,rfl⟩:∃ f',f=f'+1:=⟨f-1,by omega⟩
  unfold call_View.l1
  rw[if_neg (by omega),List.drop_eq_nil_of_le (by omega)]
  simp[Xr,Xs]
 |succ j ih=>
  intro f i U D hi hf hU hD
  obtain⟨f,rfl⟩:∃ f',f=f'+1:=⟨f-1,by omega⟩
  have h1:i<H.length:=by omega
  unfold call_View.l1
  rw[if_pos (by omega),if_pos (by omega),if_pos (by omega),Ya H i h1,show wrap64 ((i:Int)+1)=((i+1:Nat):Int) from by unfold wrap64;omega,List.drop_eq_getElem_cons h1]
  by_cases hc:H[i].f2=c
  ·rw[if_pos hc]
   by_cases hd:H[i].f1>0
   ·rw[if_pos hd,if_pos (by omega),ih f (i+1) _ D (by omega) (by omega) (by simp;omega) (by omega)]
    have e1:Xr c (H[i] :: H.drop (i+1))=H[i].f0 :: Xr c (H.drop (i+1)):=by
     unfold Xr;rw[List.filter_cons_of_pos (by exact decide_eq_true ⟨hc,hd⟩)];rfl
    have Y:Xs c (H[i] :: H.drop (i+1))=Xs c (H.drop (i+1)):=by
     unfold Xs;rw[List.filter_cons_of_neg (by rw[decide_eq_true_eq];exact fun h=>h.2 hd)]
    rw[e1,Y,List.append_assoc]
    rfl
   ·rw[if_neg hd,if_pos (by omega),ih f (i+1) U _ (by omega) (by omega) (by omega) (by simp;omega)]
    have e1:Xr c (H[i] :: H.drop (i+1))=Xr c (H.drop (i+1)):=by
     unfold Xr;rw[List.filter_cons_of_neg (by rw[decide_eq_true_eq];exact fun h=>hd h.2)]
    have Y:Xs c (H[i] :: H.drop (i+1))=H[i].f0 :: Xs c (H.drop (i+1)):=by
     unfold Xs;rw[List.filter_cons_of_pos (by exact decide_eq_true ⟨hc,hd⟩)];rfl
    rw[e1,Y,List.append_assoc D]
    rfl
  ·rw[if_neg hc,ih f (i+1) U D (by omega) (by omega) (by omega) (by omega)]
   have e1:Xr c (H[i] :: H.drop (i+1))=Xr c (H.drop (i+1)):=by
    unfold Xr;rw[List.filter_cons_of_neg (by rw[decide_eq_true_eq];exact fun h=>hc h.1)]
   have Y:Xs c (H[i] :: H.drop (i+1))=Xs c (H.drop (i+1)):=by
    unfold Xs;rw[List.filter_cons_of_neg (by rw[decide_eq_true_eq];exact fun h=>hc h.1)]
   rw[e1,Y]
theorem Df (c:Int) (H:List Hall) (I:List Ins) (J:List Ins) (hm:H.length<900000000) (hI:I.length<900000000) (j:Nat):∀ (f i:Nat) (V:List Int),i+j=I.length→j+H.length+1<f→V.length≤i →
 call_View.l0 f c I (I.length:Int) (i:Int) H J V=some (V++Yf c (I.drop i),Xr c H,Xs c H,0):=by
 induction j with
 |zero=>
  intro f i V hi hf hV
  obtain⟨f,rfl⟩:∃ f',f=f'+1:=⟨f-1,by omega⟩
  unfold call_View.l0
  rw[if_neg (by omega),List.drop_eq_nil_of_le (by omega)]
  have:=De c H V hm H.length f 0 [] [] (by omega) (by omega) (by simp) (by simp)
  rw[List.drop_zero] at this
  simpa[Yf] using this
 |succ j ih=>
  intro f i V hi hf hV
  obtain⟨f,rfl⟩:∃ f',f=f'+1:=⟨f-1,by omega⟩
  have h1:i<I.length:=by omega
  unfold call_View.l0
  rw[if_pos (by omega),if_pos (by omega),if_pos (by omega),Jp I i h1,show wrap64 ((i:Int)+1)=((i+1:Nat):Int) from by unfold wrap64;omega,List.drop_eq_getElem_cons h1]
  by_cases hc:I[i].f0=c
  ·rw[if_pos hc,if_pos (by omega),ih f (i+1) _ (by omega) (by omega) (by simp;omega)]
   have e1:Yf c (I[i] :: I.drop (i+1))=I[i].f1 :: Yf c (I.drop (i+1)):=by
    unfold Yf;rw[List.filter_cons_of_pos (by exact decide_eq_true hc)];rfl
   rw[e1,List.append_assoc]
   rfl
  ·rw[if_neg hc,ih f (i+1) V (by omega) (by omega) (by omega)]
   have e1:Yf c (I[i] :: I.drop (i+1))=Yf c (I.drop (i+1)):=by
    unfold Yf;rw[List.filter_cons_of_neg (by rw[decide_eq_true_eq];exact hc)]
   rw[e1]
theorem L6 (k:Nat) (F C:Int) (H:List Hall) (I:List Ins) (c:Int) (hH:H.length<900000000) (hI:I.length<900000000) (hC:i64 C) (hk:H.length+I.length+3<k):
 call_View.f k F C H I c=some (if okB F C H I=true then (if 0≤c∧c≤C-1 then (Yf c I,Xr c H,Xs c H,0) else ([],[],[],191)) else ([],[],[],190)):=by
 unfold call_View.f
 obtain⟨k,rfl⟩:∃ k',k=k'+1:=⟨k-1,by omega⟩
 rw[Ja k F C H I hH hI hC,Xm]
 cases hok:okB F C H I
 ·simp
 ·obtain⟨hF,B,_⟩:=Yi.1 hok
  rw[U8 C (by omega)]
  have:=Df c H I I hH hI I.length (k+1) 0 [] (by omega) (by omega) (by simp)
  rw[List.drop_zero] at this
  rw[show((0:Nat):Int)=0 from rfl] at this
  simp only[Option.bind_some,if_true,decide_eq_true_eq]
  by_cases hc:0≤c∧c≤C-1
  ·rw[if_pos hc,if_pos hc,this]
   rfl
  ·rw[if_neg hc,if_neg hc]
theorem Ll (c:Int) (H:List Hall) (I:List Ins) (V:List Int) (hm:H.length<100000000) (hd:∀ x ∈ H,x.f1=1∨x.f1 = -1) (j:Nat):∀ (f i:Nat) (U D:List Int),i+j=H.length→2 * j<f→U.length≤i→D.length≤i →
 newelref19_View.l1 f c (i:Int) H I V U D=some (V,U++Xr c (H.drop i),D++Xs c (H.drop i)):=by
 induction j with
 |zero=>
  intro f i U D hi hf hU hD
  obtain⟨f,rfl⟩:∃ m,f=m+1:=⟨f-1,by omega⟩
  simp only[newelref19_View.l1]
  rw[if_neg (by omega),List.drop_of_length_le (by omega)]
  simp[Xr,Xs]
 |succ j ih=>
  intro f i U D hi hf hU hD
  obtain⟨f,rfl⟩:∃ m,f=m+2:=⟨f-2,by omega⟩
  have ha:i<H.length:=by omega
  have hy:=hd _ (List.getElem_mem ha)
  have ei:wrap64 ((i:Int)+1)=((i+1:Nat):Int):=by unfold wrap64;omega
  have B:=fun U D h1 O=>ih f (i+1) U D (by omega) (by omega) h1 O
  have step:newelref19_View.l1 (f+2) c (i:Int) H I V U D=if (i:Int)<(H.length:Int) then (if 0≤(i:Int) then (if ((Qb H (i:Int)).f2)=c then (newelref19_View.j2 (f+1) c (i:Int) (((Qb H (i:Int)).f1)==1) H I V U D ((Qb H (i:Int)).f0) ((Qb H (i:Int)).f1) ((Qb H (i:Int)).f2)) else (newelref19_View.j2 (f+1) c (i:Int) false H I V U D ((Qb H (i:Int)).f0) ((Qb H (i:Int)).f1) ((Qb H (i:Int)).f2))) else (none)) else (some (V,U,D)):=by
   conv=>lhs;unfold newelref19_View.l1
  rw[step,if_pos (by omega),if_pos (by omega),Ya H i ha,List.drop_eq_getElem_cons ha]
  generalize H[i]=y at *
  unfold Xr Xs
  by_cases X:y.f2=c
  ·rw[if_pos X]
   rcases hy with h1|h1
   ·rw[List.filter_cons_of_pos (by simp[X,h1]),List.filter_cons_of_neg (by simp[h1]),h1]
    simp only[newelref19_View.j2,beq_self_eq_true,if_true]
    rw[if_pos (by omega)]
    simp only[Option.bind_some]
    rw[if_pos X,if_neg (by decide),ei,B _ _ (by simp;omega) (by omega)]
    simp[Xr,Xs]
   ·rw[List.filter_cons_of_neg (by simp[h1]),List.filter_cons_of_pos (by simp[X,h1]),h1]
    have e:((-1:Int)==1)=false:=by decide
    simp only[newelref19_View.j2,e,Bool.false_eq_true,if_false,eq_self,if_true]
    rw[if_pos X,if_pos (by omega),ei,B _ _ (by omega) (by simp;omega)]
    simp[Xr,Xs]
  ·rw[if_neg X,List.filter_cons_of_neg (by simp[X]),List.filter_cons_of_neg (by simp[X])]
   simp only[newelref19_View.j2,Bool.false_eq_true,if_false]
   rw[if_neg X,ei,B _ _ (by omega) (by omega)]
   rfl
theorem Lm (c:Int) (H:List Hall) (I:List Ins) (hm:H.length<100000000) (hI:I.length<100000000) (hd:∀ x ∈ H,x.f1=1∨x.f1 = -1) (j:Nat):∀ (f i:Nat) (V:List Int),i+j=I.length→j+2 * H.length+1<f→V.length≤i →
 newelref19_View.l0 f c (i:Int) H I V=some (V++Yf c (I.drop i),Xr c H,Xs c H):=by
 induction j with
 |zero=>
  intro f i V hi hf hV
  obtain⟨f,rfl⟩:∃ m,f=m+1:=⟨f-1,by omega⟩
  have h1:=Ll c H I V hm hd H.length f 0 [] [] (by omega) (by omega) (by simp) (by simp)
  simp only[List.drop_zero,List.nil_append] at h1
  simp only[newelref19_View.l0]
  rw[if_neg (by omega),List.drop_of_length_le (by omega)]
  refine h1.trans ?_
  simp[Yf]
 |succ j ih=>
  intro f i V hi hf hV
  obtain⟨f,rfl⟩:∃ m,f=m+1:=⟨f-1,by omega⟩
  have ha:i<I.length:=by omega
  have ei:wrap64 ((i:Int)+1)=((i+1:Nat):Int):=by unfold wrap64;omega
  simp only[newelref19_View.l0]
  rw[if_pos (by omega),if_pos (by omega),Jp I i ha,List.drop_eq_getElem_cons ha]
  generalize I[i]=y at *
  unfold Yf
  by_cases X:y.f0=c
  ·rw[if_pos X,if_pos (by omega),ei,ih f (i+1) _ (by omega) (by omega) (by simp;omega),List.filter_cons_of_pos (by simp[X])]
   simp[Yf]
  ·rw[if_neg X,ei,ih f (i+1) _ (by omega) (by omega) (by omega),List.filter_cons_of_neg (by simp[X])]
   rfl
theorem Ln {F C:Int} {H:List Hall} {I:List Ins} (hok:okB F C H I=true) (c:Int) (k:Nat) (hm:H.length<100000000) (hI:I.length<100000000) (hk:I.length+2 * H.length+1<k):newelref19_View.f k H I c=some (Yf c I,Xr c H,Xs c H):=by
 obtain⟨hF,hC,⟨h1,_⟩,_⟩:=Yi.1 hok
 unfold newelref19_View.f
 have:=Lm c H I hm hI (fun x hx=>((Kb hF hC).1 (h1 x hx)).1) I.length k 0 [] (by omega) hk (by simp)
 simpa using this
theorem Lz (H:List Hall) (I:List Ins):newelref19_Few.f H I=some false∨(newelref19_Few.f H I=some true∧H.length≤130∧I.length≤520):=by
 unfold newelref19_Few.f
 by_cases h1:(H.length:Int)≤130
 ·rw[if_pos h1]
  by_cases O:(I.length:Int)≤520
  ·exact .inr ⟨by rw[decide_eq_true O],by omega,by omega⟩
  ·exact .inl (by rw[decide_eq_false O])
 ·rw[if_neg h1];exact .inl rfl
theorem Uk (fl dir car:Int) (H:List Hall) (I J:List Ins) (hm:H.length≤100000000) (j:Nat):∀ (f i:Nat) (acc:List Hall),i+j=H.length→j<f→acc.length≤i→newelref19_Give.l0 f (i:Int) H I fl dir car acc J=some (acc++Gb ⟨fl,dir,car⟩ (H.drop i),J):=by
 induction j with
 |zero=>
  intro f i acc hi hf ha
  obtain⟨f,rfl⟩:∃ m,f=m+1:=⟨f-1,by omega⟩
  simp only[newelref19_Give.l0]
  rw[if_neg (by omega),List.drop_of_length_le (by omega)]
  simp[Gb]
 |succ j ih=>
  intro f i acc hi hf ha
  obtain⟨f,rfl⟩:∃ m,f=m+1:=⟨f-1,by omega⟩
  have hlt:i<H.length:=by omega
  have ei:wrap64 ((i:Int)+1)=((i+1:Nat):Int):=by unfold wrap64;omega
  have B:=fun(z:Hall)=>ih f (i+1) (acc ++ [z]) (by omega) (by omega) (by simp;omega)
  simp only[newelref19_Give.l0]
  rw[if_pos (by omega),if_pos (by omega),Ya H i hlt,ei,List.drop_eq_getElem_cons hlt]
  generalize H[i]=y at *
  have hs:Gb ⟨fl,dir,car⟩ (y :: H.drop (i+1))=(if y.f0=fl∧y.f1=dir then (⟨fl,dir,car⟩:Hall) else y) :: Gb ⟨fl,dir,car⟩ (H.drop (i+1)):=rfl
  rw[hs]
  by_cases X:y.f0=fl
  ·rw[if_pos X]
   by_cases h1:y.f1=dir
   ·rw[if_pos h1,if_pos (by omega),B,if_pos ⟨X,h1⟩,X,h1,List.append_assoc]
    rfl
   ·rw[if_neg h1,if_pos (by omega),B,if_neg (fun q=>h1 q.2),List.append_assoc]
    rfl
  ·rw[if_neg X,if_pos (by omega),B,if_neg (fun q=>X q.1),List.append_assoc]
   rfl
theorem Vm (k:Nat) (H:List Hall) (I:List Ins) (fl dir car:Int) (hm:H.length≤100000000) (hk:H.length<k):newelref19_Give.f k H I fl dir car=some (Gb ⟨fl,dir,car⟩ H,I):=by
 unfold newelref19_Give.f
 have:=Uk fl dir car H I I hm H.length k 0 [] (by omega) hk (by simp)
 simpa using this
end Go.Proofs.Ytmfffemidlhcpaa.Call
