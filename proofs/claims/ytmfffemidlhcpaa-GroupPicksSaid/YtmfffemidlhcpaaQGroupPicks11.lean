/- Texts of this claim, one behind the other: what the law's functions come to, walked (printed by a program, with the words that the print uses), and what that is, in plain Lean. No conditions of their own. -/
import Derived.Test.YtmfffemidlhcpaaQGroupPicks10
namespace Go.Proofs.Ytmfffemidlhcpaa.C
open Go.RowKit Go.Proofs.YtmfffemidlhcpaaW.PrintWords Go.Proofs.YtmfffemidlhcpaaW.PrintLast Go.Proofs.YtmfffemidlhcpaaW.PrintMore
attribute [local go_sem] Z0 Zy Z6 Z5 Zr Zq Zz Zx
set_option linter.unusedVariables false
set_option linter.unusedSimpArgs false
mutual
def group_Check.j0:Nat→List (S31)→Bool→Int→Int→Int→Int→Int→Int→Int→Int→Int→Int→List (S36)→List (S86)→Option (Int)
 |0,_,_,_,_,_,_,_,_,_,_,_,_,_,_=>none
 |k+1,J,τ,X,Y,Z,γ,δ,ε,ζ,η,θ,ι,κ,μ =>if τ = true then (some 210) else (group_Check.l0 k J J (J.length:Int) 0 X Y Z γ δ ε ζ η θ ι κ μ)
def group_Check.l0:Nat→List (S31)→List (S31)→Int→Int→Int→Int→Int→Int→Int→Int→Int→Int→Int→Int→List (S36)→List (S86)→Option (Int)
 |0,_,_,_,_,_,_,_,_,_,_,_,_,_,_,_,_=>none
 |k+1,J,B,ν,O,X,Y,Z,γ,δ,ε,ζ,η,θ,ι,κ,μ =>if O < ν then (if 0≤O then (if O<(B.length:Int) then ((group_lift.f k X Y Z γ δ ε ζ η θ ι ((Qb B O).f0.f0) ((Qb B O).f0.f1) ((Qb B O).f0.f2) ((Qb B O).f0.f3) ((Qb B O).f0.f4.f0) ((Qb B O).f0.f4.f1) ((Qb B O).f0.f4.f2) ((Qb B O).f1) ((Qb B O).f2) ((Qb B O).f3)).bind fun bu=>(if bu=true then (group_Check.l0 k J B ν (wrap64 (O+1)) X Y Z γ δ ε ζ η θ ι κ μ) else (some 210))) else (none)) else (none)) else ((group_house.f X Y Z γ δ ε ζ η θ ι J).bind fun ξ =>((call_Check.f k ξ.1 ξ.2 κ μ).bind fun bi=>(some bi)))
end
def group_Check.f (k:Nat) (B:Int) (J:Int) (O:Int) (X:Int) (Y:Int) (Z:Int) (γ:Int) (ζ :Int) (θ :Int) (η :Int) (l1:List (S31)) (φ :List (S36)) (χ :List (S86)):Option (Int):=if (l1.length:Int)<1 then (group_Check.j0 k l1 true B J O X Y Z γ ζ θ η φ χ) else (group_Check.j0 k l1 (decide ((l1.length:Int)>8)) B J O X Y Z γ ζ θ η φ χ)
theorem group_Check.Zu:∀ k,(∀ O Y Z B X y5 y6 y7 y8 y9 γ δ ζ η,LeO (group_Check.j0 k O Y Z B X y5 y6 y7 y8 y9 γ δ ζ η) (group_Check.j0 (k+1) O Y Z B X y5 y6 y7 y8 y9 γ δ ζ η))∧(∀ O Y Z B X y5 y6 y7 y8 y9 γ δ ζ η θ ι,LeO (group_Check.l0 k O Y Z B X y5 y6 y7 y8 y9 γ δ ζ η θ ι) (group_Check.l0 (k+1) O Y Z B X y5 y6 y7 y8 y9 γ δ ζ η θ ι))
 |0=>⟨fun _ _ _ _ _ _ _ _ _ _ _ _ _ _ r h=>by simp[group_Check.j0] at h,fun _ _ _ _ _ _ _ _ _ _ _ _ _ _ _ _ r h=>by simp[group_Check.l0] at h⟩
 |k+1=>by
  obtain⟨J,ε⟩:=group_Check.Zu k
  refine⟨?_, ?_⟩
  ·intro O Y Z B X y5 y6 y7 y8 y9 γ δ ζ η
   unfold group_Check.j0
   repeat' first|(with_reducible first|apply J|apply ε |apply call_Check.mono|apply group_lift.mono|exact LeO.refl _|exact LeO.none _|refine LeO.ite ?_ ?_|refine LeO.bind ?_ (fun _=>?_))|apply J|apply ε |apply call_Check.mono|apply group_lift.mono|exact LeO.none _|refine LeO.ite ?_ ?_|refine LeO.bind ?_ (fun _=>?_)
  ·intro O Y Z B X y5 y6 y7 y8 y9 γ δ ζ η θ ι
   unfold group_Check.l0
   repeat' first|(with_reducible first|apply J|apply ε |apply call_Check.mono|apply group_lift.mono|exact LeO.refl _|exact LeO.none _|refine LeO.ite ?_ ?_|refine LeO.bind ?_ (fun _=>?_))|apply J|apply ε |apply call_Check.mono|apply group_lift.mono|exact LeO.none _|refine LeO.ite ?_ ?_|refine LeO.bind ?_ (fun _=>?_)
theorem group_Check.mono:∀ B X a2 a3 O a5 Y a7 a8 a9 Z γ δ k,LeO (group_Check.f k B X a2 a3 O a5 Y a7 a8 a9 Z γ δ) (group_Check.f (k+1) B X a2 a3 O a5 Y a7 a8 a9 Z γ δ):=by
 intro B X a2 a3 O a5 Y a7 a8 a9 Z γ δ k
 obtain⟨J,ε⟩:=group_Check.Zu k
 unfold group_Check.f
 repeat' first|(with_reducible first|apply J|apply ε |apply call_Check.mono|apply group_lift.mono|exact LeO.refl _|exact LeO.none _|refine LeO.ite ?_ ?_|refine LeO.bind ?_ (fun _=>?_))|apply J|apply ε |apply call_Check.mono|apply group_lift.mono|exact LeO.none _|refine LeO.ite ?_ ?_|refine LeO.bind ?_ (fun _=>?_)
set_option maxHeartbeats 8000000 in
set_option maxRecDepth 100000 in
theorem group_Check.calls (k:Nat) (B:Int) (J:Int) (O:Int) (X:Int) (Y:Int) (Z:Int) (γ:Int) (ζ :Int) (θ :Int) (η :Int) (A1:Option Addr) (c1:Nat) (l1:List (S31)) (aa:Option Addr) (ab:Nat) (φ :List (S36)) (ac:Option Addr) (ae:Nat) (χ :List (S86)) (r:Int) (w:World) (cw:Kd.C k31 w A1 l1.length l1) (cr:l1.length≤c1) (aw:Kd.C k36 w aa φ.length φ) (ax: φ.length≤ab) (b3:Kd.C k86 w ac χ.length χ) (b4: χ.length≤ae) (h:group_Check.f k B J O X Y Z γ ζ θ η l1 φ χ = some r):
 Calls Try.prog 17 #[.agg #[.int .i64 B,.int .i64 J,.int .i64 O,.int .i64 X,.int .i64 Y,.int .i64 Z,.int .i64 γ,.int .i64 ζ,.int .i64 θ,.int .i64 η],.slice A1 l1.length c1,.agg #[.slice aa φ.length ab,.slice ac χ.length ae]] w fun e w'=>e = .returned (.int .i64 r)∧Below w.heap.size w w':=by
 have cg:=Try.underlying25
 have dc:=Try.underlying50
 have er:=Try.underlying31
 have ci:=aK cw
 have dj:=aK cr
 clear cw cr
 have cm:=aK aw
 have cn:=aK ax
 clear aw ax
 have co:=aK b3
 have cp:=aK b4
 clear b3 b4
 have HB:=aK (Below.refl w.heap.size w)
 have H:(if (l1.length:Int)<1 then (group_Check.j0 k l1 true B J O X Y Z γ ζ θ η φ χ) else (group_Check.j0 k l1 (decide ((l1.length:Int)>8)) B J O X Y Z γ ζ θ η φ χ))=some r:=h
 clear h
 have al:=aK H
 clear H
 go_enter Try.func17,Try.ntmps17
 go_upto_region 1 with(first|((with_reducible refine Qe (N:=3) rfl ?_);(try(refine Zs (by rfl) ?_;dsimp only));refine qE 3 #[.int .i64 B,.int .i64 J,.int .i64 O,.int .i64 X,.int .i64 Y,.int .i64 Z,.int .i64 γ,.int .i64 ζ,.int .i64 θ,.int .i64 η] 25 ?_;intro κ hg w5 hbox hb;have ε :=aK hbox;have cy:=sGe hg;have cz:=sGe hg;replace HB:=sHb hb;clear hb hbox hg)|((with_reducible refine Qe (N:=5) rfl ?_);(try(refine Zs (by rfl) ?_;dsimp only));refine qE 5 #[.slice aa φ.length ab,.slice ac χ.length ae] 50 ?_;intro bd hg w6 hbox hb;have ι :=aK hbox;have d0:=sGe hg;have dt:=sGe hg;have bb:=sNl ε hg;have bc:=sNg ε hg;replace ε :=sBk ε hb;replace HB:=sHb hb;clear hb hbox hg))
 (try simp only[Act.put,qS])
 go_cut [16] (fun cx wc=>∃ (kq:Nat) (bf:Bool),cx = .bool bf∧Aside0 (group_Check.j0 kq l1 bf B J O X Y Z γ ζ θ η φ χ = some r)∧Aside0 (kq≤k)∧Aside0 (wc.heap[κ]?=some (.cells #[.int .i64 B,.int .i64 J,.int .i64 O,.int .i64 X,.int .i64 Y,.int .i64 Z,.int .i64 γ,.int .i64 ζ,.int .i64 θ,.int .i64 η] 25 (0,0)))∧Aside0 (wc.heap[bd]?=some (.cells #[(.slice aa φ.length ab),(.slice ac χ.length ae)] 50 (0,0)))∧Aside0 (Below w.heap.size w wc))
 case first=>
  have H:=al.out
  clear al
  by_cases c7:(l1.length:Int)<1
  ·rw[if_pos c7] at H
   have c7b0:=decide_eq_true c7
   have c7b1:decide (l1.length<1)=true:=decide_eq_true (by omega)
   clear c7
   (first|rw[c7b0]|(simp only[Za,Zb];rw[c7b0])|skip)
   have H':=aK H
   clear H
   go_wp2
   go_meet
   case rel=>exact⟨_,(true),rfl,H',⟨by first|omega|exact Nat.le_refl _⟩,ε,ι,HB⟩
  ·rw[if_neg c7] at H
   have c7b0:=decide_eq_false c7
   have c7b1:decide (l1.length<1)=false:=decide_eq_false (by omega)
   clear c7
   (first|rw[c7b0]|(simp only[Za,Zb];rw[c7b0])|skip)
   have H':=aK H
   clear H
   go_wp2
   go_meet
   case rel=>exact⟨_,(decide ((l1.length:Int)>8)),rfl,H',⟨by first|omega|exact Nat.le_refl _⟩,ε,ι,HB⟩
 case rest=>
  clear al
  try clear c1
  obtain⟨kq,bf,rfl,HA,du,ε,ι,HB⟩:=hcut
  cases kq with
  |zero=>exact absurd HA.out (by simp[group_Check.j0])
  |succ ff=>
   have H:=HA.out
   clear HA
   simp only[group_Check.j0] at H
   by_cases c8:bf=true
   ·subst c8
    rw[if_pos rfl] at H
    obtain rfl:=Option.some.inj H
    go_wp2
    go_ret
    exact⟨rfl,HB.out⟩
   ·replace c8:=Bool.eq_false_iff.mpr c8
    subst c8
    rw[if_neg nft] at H
    have H':=aK H
    clear H
    go_wp2
    go_loopg [19] ff (fun kq bw w'=>∃ (δ :Int),bw = .int .i64 δ ∧ Aside0 (group_Check.l0 kq l1 l1 (l1.length:Int) δ B J O X Y Z γ ζ θ η φ χ = some r)∧Aside0 (kq≤ff)∧Aside0 (w'.heap[κ]?=some (.cells #[.int .i64 B,.int .i64 J,.int .i64 O,.int .i64 X,.int .i64 Y,.int .i64 Z,.int .i64 γ,.int .i64 ζ,.int .i64 θ,.int .i64 η] 25 (0,0)))∧Aside0 (w'.heap[bd]?=some (.cells #[(.slice aa φ.length ab),(.slice ac χ.length ae)] 50 (0,0)))∧Aside0 (Below w.heap.size w w'))
    case atStart=>exact⟨(0),rfl,H',⟨Nat.le_refl _⟩,ε,ι,HB⟩
    case round=>
     clear H'
     try clear c1
     try clear c8
     obtain⟨δ,rfl,HA,bn,ε,ι,HB⟩:=hrel
     cases gk with
     |zero=>exact absurd HA.out (by simp[group_Check.l0])
     |succ k2=>
      have H:=HA.out
      clear HA
      simp only[group_Check.l0] at H
      by_cases c9: δ < (l1.length:Int)
      ·rw[if_pos c9] at H
       have c9b0:=decide_eq_true c9
       clear c9
       by_cases c10:0 ≤ δ
       ·rw[if_pos c10] at H
        have c10b0:=decide_eq_true c10
        clear c10
        by_cases a6: δ < (l1.length:Int)
        ·rw[if_pos a6] at H
         have c11b0:=decide_eq_true a6
         clear a6
         obtain⟨bu,b7,H⟩:=qO H
         have b6:=aK b7
         clear b7
         by_cases ψ :bu=true
         ·subst ψ
          rw[if_pos rfl] at H
          have H':=aK H
          clear H
          have ao:0≤(δ :Int):=of_decide_eq_true (by assumption)
          have ba: δ < (l1.length:Int):=of_decide_eq_true (by assumption)
          obtain⟨ca,bv,μ,ν,ξ,ρ,σ,τ,ω,a0,a1,a2⟩:=Yy ci.out δ ao ba
          cases bv
          replace μ :=sCl HB μ
          replace ν :=sCl HB ν
          replace ξ :=sCl HB ξ
          replace ρ:=sCl HB ρ
          replace σ:=sCl HB σ
          replace τ :=sCl HB τ
          replace ω :=sCl HB ω
          replace a0:=sCl HB a0
          replace a1:=sCl HB a1
          replace a2:=sCl HB a2
          replace ao:=eq_true ao
          replace ba:=eq_true ba
          go_wp2_with (first|((with_reducible refine Qe (N:=8) rfl ?_);(try(refine Zs (by rfl) ?_;dsimp only));refine qE 8 #[.int .i64 0,.int .i64 0,.int .i64 0,.int .i64 0,.int .i64 0,.int .i64 0,.int .i64 0,.int .i64 0,.bool false,.bool false] 31 ?_;intro bj hg bz hbox hb;have a3:=aK hbox;have cb:=sGe hg;have ch:=sGe hg;have a5:=sNl ε hg;have a8:=sNg ε hg;have a9:=sNl ι hg;have af:=sNg ι hg;replace ε :=sBk ε hb;replace ι :=sBk ι hb;replace HB:=sHb hb;clear hb hbox hg;have gt:=a8.out;have gu:=a5.out;have ee:=af.out;have ep:=a9.out;obtain⟨ap,ar,bg,bl,bm,bp,bq,an,dq,dw,au,av,bh,br,dm,dn,dp,dz,e0,e3⟩:=Zg a3.out;have d5:=bb.out;have d6:=bc.out;obtain⟨ag,ah,b5,cq,ct,cu,cv,d8,d9,da,ai,aj,b8,d1,d2,d3,d7,db,dr,dv⟩:=Zg ε.out)|((with_reducible refine Qf (f:=28) rfl ?_);refine Qt (some 25) rfl rfl Try.func28 kr rfl #[.agg #[.int .i64 B,.int .i64 J,.int .i64 O,.int .i64 X,.int .i64 Y,.int .i64 Z,.int .i64 γ,.int .i64 ζ,.int .i64 θ,.int .i64 η],.agg #[.int .i64 ((Qb l1 δ).f0.f0),.int .i64 ((Qb l1 δ).f0.f1),.int .i64 ((Qb l1 δ).f0.f2),.int .i64 ((Qb l1 δ).f0.f3),.int .i64 ((Qb l1 δ).f0.f4.f0),.int .i64 ((Qb l1 δ).f0.f4.f1),.int .i64 ((Qb l1 δ).f0.f4.f2),.int .i64 ((Qb l1 δ).f1),.bool ((Qb l1 δ).f2),.bool ((Qb l1 δ).f3)]] rfl qM ?_;(with_reducible refine(group_lift.calls k2 B J O X Y Z γ ζ θ η ((Qb l1 δ).f0.f0) ((Qb l1 δ).f0.f1) ((Qb l1 δ).f0.f2) ((Qb l1 δ).f0.f3) ((Qb l1 δ).f0.f4.f0) ((Qb l1 δ).f0.f4.f1) ((Qb l1 δ).f0.f4.f2) ((Qb l1 δ).f1) ((Qb l1 δ).f2) ((Qb l1 δ).f3) true _ b6.out).mono ?_);rintro e dx ⟨rfl,hb⟩;refine⟨_,rfl, ?_⟩;replace ε :=sBk ε hb;replace ι :=sBk ι hb;replace a3:=aK (Qz (g:=bj) (o:=.cells #[.int .i64 ((Qb l1 δ).f0.f0),.int .i64 ((Qb l1 δ).f0.f1),.int .i64 ((Qb l1 δ).f0.f2),.int .i64 ((Qb l1 δ).f0.f3),.int .i64 ((Qb l1 δ).f0.f4.f0),.int .i64 ((Qb l1 δ).f0.f4.f1),.int .i64 ((Qb l1 δ).f0.f4.f2),.int .i64 ((Qb l1 δ).f1),.bool ((Qb l1 δ).f2),.bool ((Qb l1 δ).f3)] 31 (0,0)) (by refine Qq (cs:=#[.int .i64 ((Qb l1 δ).f0.f0),.int .i64 ((Qb l1 δ).f0.f1),.int .i64 ((Qb l1 δ).f0.f2),.int .i64 ((Qb l1 δ).f0.f3),.int .i64 ((Qb l1 δ).f0.f4.f0),.int .i64 ((Qb l1 δ).f0.f4.f1),.int .i64 ((Qb l1 δ).f0.f4.f2),.int .i64 ((Qb l1 δ).f1),.bool ((Qb l1 δ).f2),.bool false]) ?_ 9 _ rfl;refine Qq (cs:=#[.int .i64 ((Qb l1 δ).f0.f0),.int .i64 ((Qb l1 δ).f0.f1),.int .i64 ((Qb l1 δ).f0.f2),.int .i64 ((Qb l1 δ).f0.f3),.int .i64 ((Qb l1 δ).f0.f4.f0),.int .i64 ((Qb l1 δ).f0.f4.f1),.int .i64 ((Qb l1 δ).f0.f4.f2),.int .i64 ((Qb l1 δ).f1),.bool false,.bool false]) ?_ 8 _ rfl;refine Qq (cs:=#[.int .i64 ((Qb l1 δ).f0.f0),.int .i64 ((Qb l1 δ).f0.f1),.int .i64 ((Qb l1 δ).f0.f2),.int .i64 ((Qb l1 δ).f0.f3),.int .i64 ((Qb l1 δ).f0.f4.f0),.int .i64 ((Qb l1 δ).f0.f4.f1),.int .i64 ((Qb l1 δ).f0.f4.f2),.int .i64 0,.bool false,.bool false]) ?_ 7 _ rfl;refine Qq (cs:=#[.int .i64 ((Qb l1 δ).f0.f0),.int .i64 ((Qb l1 δ).f0.f1),.int .i64 ((Qb l1 δ).f0.f2),.int .i64 ((Qb l1 δ).f0.f3),.int .i64 ((Qb l1 δ).f0.f4.f0),.int .i64 ((Qb l1 δ).f0.f4.f1),.int .i64 0,.int .i64 0,.bool false,.bool false]) ?_ 6 _ rfl;refine Qq (cs:=#[.int .i64 ((Qb l1 δ).f0.f0),.int .i64 ((Qb l1 δ).f0.f1),.int .i64 ((Qb l1 δ).f0.f2),.int .i64 ((Qb l1 δ).f0.f3),.int .i64 ((Qb l1 δ).f0.f4.f0),.int .i64 0,.int .i64 0,.int .i64 0,.bool false,.bool false]) ?_ 5 _ rfl;refine Qq (cs:=#[.int .i64 ((Qb l1 δ).f0.f0),.int .i64 ((Qb l1 δ).f0.f1),.int .i64 ((Qb l1 δ).f0.f2),.int .i64 ((Qb l1 δ).f0.f3),.int .i64 0,.int .i64 0,.int .i64 0,.int .i64 0,.bool false,.bool false]) ?_ 4 _ rfl;refine Qq (cs:=#[.int .i64 ((Qb l1 δ).f0.f0),.int .i64 ((Qb l1 δ).f0.f1),.int .i64 ((Qb l1 δ).f0.f2),.int .i64 0,.int .i64 0,.int .i64 0,.int .i64 0,.int .i64 0,.bool false,.bool false]) ?_ 3 _ rfl;refine Qq (cs:=#[.int .i64 ((Qb l1 δ).f0.f0),.int .i64 ((Qb l1 δ).f0.f1),.int .i64 0,.int .i64 0,.int .i64 0,.int .i64 0,.int .i64 0,.int .i64 0,.bool false,.bool false]) ?_ 2 _ rfl;refine Qq (cs:=#[.int .i64 ((Qb l1 δ).f0.f0),.int .i64 0,.int .i64 0,.int .i64 0,.int .i64 0,.int .i64 0,.int .i64 0,.int .i64 0,.bool false,.bool false]) ?_ 1 _ rfl;refine Qq (cs:=#[.int .i64 0,.int .i64 0,.int .i64 0,.int .i64 0,.int .i64 0,.int .i64 0,.int .i64 0,.int .i64 0,.bool false,.bool false]) ?_ 0 _ rfl;exact a3.out) hb);replace HB:=sHb hb;(try clear hb);(try clear a4);(try clear hk);(try clear hi)))
          go_roundg k2
          case measure=>have:=du.out;have:=bn.out;omega
          case rel=>exact⟨(wrap64 (δ + 1)),rfl,H',⟨by have:=du.out;have:=bn.out;omega⟩,ε,ι,HB⟩
         ·replace ψ :=Bool.eq_false_iff.mpr ψ
          subst ψ
          rw[if_neg nft] at H
          obtain rfl:=Option.some.inj H
          have ao:0≤(δ :Int):=of_decide_eq_true (by assumption)
          have ba: δ < (l1.length:Int):=of_decide_eq_true (by assumption)
          obtain⟨ca,bv,μ,ν,ξ,ρ,σ,τ,ω,a0,a1,a2⟩:=Yy ci.out δ ao ba
          cases bv
          replace μ :=sCl HB μ
          replace ν :=sCl HB ν
          replace ξ :=sCl HB ξ
          replace ρ:=sCl HB ρ
          replace σ:=sCl HB σ
          replace τ :=sCl HB τ
          replace ω :=sCl HB ω
          replace a0:=sCl HB a0
          replace a1:=sCl HB a1
          replace a2:=sCl HB a2
          replace ao:=eq_true ao
          replace ba:=eq_true ba
          go_wp2_with (first|((with_reducible refine Qe (N:=8) rfl ?_);(try(refine Zs (by rfl) ?_;dsimp only));refine qE 8 #[.int .i64 0,.int .i64 0,.int .i64 0,.int .i64 0,.int .i64 0,.int .i64 0,.int .i64 0,.int .i64 0,.bool false,.bool false] 31 ?_;intro bj hg b2 hbox hb;have a3:=aK hbox;have cb:=sGe hg;have ch:=sGe hg;have a5:=sNl ε hg;have a8:=sNg ε hg;have a9:=sNl ι hg;have af:=sNg ι hg;replace ε :=sBk ε hb;replace ι :=sBk ι hb;replace HB:=sHb hb;clear hb hbox hg;have el:=a8.out;have em:=a5.out;have dl:=af.out;have dy:=a9.out;obtain⟨ay,az,cd,fi,fj,fk,fl,gf,h0,h4,b0,b1,ce,fm,fn,fo,fp,h5,h6,h7⟩:=Zg a3.out;have en:=bb.out;have eo:=bc.out;obtain⟨b9,cf,dd,de,df,dh,ew,j4,jl,jz,cj,ck,dk,ey,i9,ia,ib,j5,k0,k1⟩:=Zg ε.out)|((with_reducible refine Qf (f:=28) rfl ?_);refine Qt (some 25) rfl rfl Try.func28 kr rfl #[.agg #[.int .i64 B,.int .i64 J,.int .i64 O,.int .i64 X,.int .i64 Y,.int .i64 Z,.int .i64 γ,.int .i64 ζ,.int .i64 θ,.int .i64 η],.agg #[.int .i64 ((Qb l1 δ).f0.f0),.int .i64 ((Qb l1 δ).f0.f1),.int .i64 ((Qb l1 δ).f0.f2),.int .i64 ((Qb l1 δ).f0.f3),.int .i64 ((Qb l1 δ).f0.f4.f0),.int .i64 ((Qb l1 δ).f0.f4.f1),.int .i64 ((Qb l1 δ).f0.f4.f2),.int .i64 ((Qb l1 δ).f1),.bool ((Qb l1 δ).f2),.bool ((Qb l1 δ).f3)]] rfl qM ?_;(with_reducible refine(group_lift.calls k2 B J O X Y Z γ ζ θ η ((Qb l1 δ).f0.f0) ((Qb l1 δ).f0.f1) ((Qb l1 δ).f0.f2) ((Qb l1 δ).f0.f3) ((Qb l1 δ).f0.f4.f0) ((Qb l1 δ).f0.f4.f1) ((Qb l1 δ).f0.f4.f2) ((Qb l1 δ).f1) ((Qb l1 δ).f2) ((Qb l1 δ).f3) false _ b6.out).mono ?_);rintro e di ⟨rfl,hb⟩;refine⟨_,rfl, ?_⟩;replace ε :=sBk ε hb;replace ι :=sBk ι hb;replace a3:=aK (Qz (g:=bj) (o:=.cells #[.int .i64 ((Qb l1 δ).f0.f0),.int .i64 ((Qb l1 δ).f0.f1),.int .i64 ((Qb l1 δ).f0.f2),.int .i64 ((Qb l1 δ).f0.f3),.int .i64 ((Qb l1 δ).f0.f4.f0),.int .i64 ((Qb l1 δ).f0.f4.f1),.int .i64 ((Qb l1 δ).f0.f4.f2),.int .i64 ((Qb l1 δ).f1),.bool ((Qb l1 δ).f2),.bool ((Qb l1 δ).f3)] 31 (0,0)) (by refine Qq (cs:=#[.int .i64 ((Qb l1 δ).f0.f0),.int .i64 ((Qb l1 δ).f0.f1),.int .i64 ((Qb l1 δ).f0.f2),.int .i64 ((Qb l1 δ).f0.f3),.int .i64 ((Qb l1 δ).f0.f4.f0),.int .i64 ((Qb l1 δ).f0.f4.f1),.int .i64 ((Qb l1 δ).f0.f4.f2),.int .i64 ((Qb l1 δ).f1),.bool ((Qb l1 δ).f2),.bool false]) ?_ 9 _ rfl;refine Qq (cs:=#[.int .i64 ((Qb l1 δ).f0.f0),.int .i64 ((Qb l1 δ).f0.f1),.int .i64 ((Qb l1 δ).f0.f2),.int .i64 ((Qb l1 δ).f0.f3),.int .i64 ((Qb l1 δ).f0.f4.f0),.int .i64 ((Qb l1 δ).f0.f4.f1),.int .i64 ((Qb l1 δ).f0.f4.f2),.int .i64 ((Qb l1 δ).f1),.bool false,.bool false]) ?_ 8 _ rfl;refine Qq (cs:=#[.int .i64 ((Qb l1 δ).f0.f0),.int .i64 ((Qb l1 δ).f0.f1),.int .i64 ((Qb l1 δ).f0.f2),.int .i64 ((Qb l1 δ).f0.f3),.int .i64 ((Qb l1 δ).f0.f4.f0),.int .i64 ((Qb l1 δ).f0.f4.f1),.int .i64 ((Qb l1 δ).f0.f4.f2),.int .i64 0,.bool false,.bool false]) ?_ 7 _ rfl;refine Qq (cs:=#[.int .i64 ((Qb l1 δ).f0.f0),.int .i64 ((Qb l1 δ).f0.f1),.int .i64 ((Qb l1 δ).f0.f2),.int .i64 ((Qb l1 δ).f0.f3),.int .i64 ((Qb l1 δ).f0.f4.f0),.int .i64 ((Qb l1 δ).f0.f4.f1),.int .i64 0,.int .i64 0,.bool false,.bool false]) ?_ 6 _ rfl;refine Qq (cs:=#[.int .i64 ((Qb l1 δ).f0.f0),.int .i64 ((Qb l1 δ).f0.f1),.int .i64 ((Qb l1 δ).f0.f2),.int .i64 ((Qb l1 δ).f0.f3),.int .i64 ((Qb l1 δ).f0.f4.f0),.int .i64 0,.int .i64 0,.int .i64 0,.bool false,.bool false]) ?_ 5 _ rfl;refine Qq (cs:=#[.int .i64 ((Qb l1 δ).f0.f0),.int .i64 ((Qb l1 δ).f0.f1),.int .i64 ((Qb l1 δ).f0.f2),.int .i64 ((Qb l1 δ).f0.f3),.int .i64 0,.int .i64 0,.int .i64 0,.int .i64 0,.bool false,.bool false]) ?_ 4 _ rfl;refine Qq (cs:=#[.int .i64 ((Qb l1 δ).f0.f0),.int .i64 ((Qb l1 δ).f0.f1),.int .i64 ((Qb l1 δ).f0.f2),.int .i64 0,.int .i64 0,.int .i64 0,.int .i64 0,.int .i64 0,.bool false,.bool false]) ?_ 3 _ rfl;refine Qq (cs:=#[.int .i64 ((Qb l1 δ).f0.f0),.int .i64 ((Qb l1 δ).f0.f1),.int .i64 0,.int .i64 0,.int .i64 0,.int .i64 0,.int .i64 0,.int .i64 0,.bool false,.bool false]) ?_ 2 _ rfl;refine Qq (cs:=#[.int .i64 ((Qb l1 δ).f0.f0),.int .i64 0,.int .i64 0,.int .i64 0,.int .i64 0,.int .i64 0,.int .i64 0,.int .i64 0,.bool false,.bool false]) ?_ 1 _ rfl;refine Qq (cs:=#[.int .i64 0,.int .i64 0,.int .i64 0,.int .i64 0,.int .i64 0,.int .i64 0,.int .i64 0,.int .i64 0,.bool false,.bool false]) ?_ 0 _ rfl;exact a3.out) hb);replace HB:=sHb hb;(try clear hb);(try clear a4);(try clear hk);(try clear hi)))
          go_ret
          exact⟨rfl,HB.out⟩
        ·rw[if_neg a6] at H
         exact absurd H (by simp)
       ·rw[if_neg c10] at H
        exact absurd H (by simp)
      ·rw[if_neg c9] at H
       have c9b0:=decide_eq_false c9
       clear c9
       obtain⟨⟨bk,bo⟩,a7,H⟩:=qO H
       replace H:((call_Check.f k2 bk bo φ χ).bind fun bi=>(some bi))=some r:=H
       have e5:=aK a7
       clear a7
       obtain⟨bi,bs,H⟩:=qO H
       have d4:=aK bs
       clear bs
       obtain rfl:=Option.some.inj H
       try go_wp2
       replace ε :=aK (Qd ε.out)
       replace ι :=aK (Qd ι.out)
       replace HB:=aK (Qg HB.out)
       refine Ze (n:=6) (S:=fun w'=>w'.cell? ⟨κ,0,none⟩=some (.int .i64 B)∧w'.cell? ⟨κ,1,none⟩=some (.int .i64 J)∧w'.cell? ⟨κ,2,none⟩=some (.int .i64 O)∧w'.cell? ⟨κ,3,none⟩=some (.int .i64 X)∧w'.cell? ⟨κ,4,none⟩=some (.int .i64 Y)∧w'.cell? ⟨κ,5,none⟩=some (.int .i64 Z)∧w'.cell? ⟨κ,6,none⟩=some (.int .i64 γ)∧w'.cell? ⟨κ,7,none⟩=some (.int .i64 ζ)∧w'.cell? ⟨κ,8,none⟩=some (.int .i64 θ)∧w'.cell? ⟨κ,9,none⟩=some (.int .i64 η)∧w'.cell? ⟨bd,0,none⟩=some (.slice aa φ.length ab)∧w'.cell? ⟨bd,1,none⟩=some (.slice ac χ.length ae)) (ds:=[]) #[false,false,false,false,false,false] kr rfl rfl ⟨(Qa ε.out 0).trans rfl,(Qa ε.out 1).trans rfl,(Qa ε.out 2).trans rfl,(Qa ε.out 3).trans rfl,(Qa ε.out 4).trans rfl,(Qa ε.out 5).trans rfl,(Qa ε.out 6).trans rfl,(Qa ε.out 7).trans rfl,(Qa ε.out 8).trans rfl,(Qa ε.out 9).trans rfl,(Qa ι.out 0).trans rfl,(Qa ι.out 1).trans rfl⟩ (fun hHeld=>?_)
       generalize wr.drew=e8 at ε ι HB hHeld ⊢
       refine Xe (i:=1) (N:=some 29) (v:=?_) (a':=?_) (bN 6 2) rfl rfl kr (fun _ _ _ h=>h) (Or.inl ⟨by rfl, ?_⟩) ?_ ?_
       rotate_left
       ·intro w'
        go_simp
        with_reducible rfl
       rotate_left
       ·simp only[Act.put,qS,Za,Zb]
        rfl
       refine X2 (i:=0) (N:=some 28) (v:=?_) (a':=?_) (bN 6 3) rfl rfl kr (fun _ _ _ h=>h) (Or.inl ⟨by rfl, ?_⟩) hHeld ?_ ?_
       rotate_left
       ·rintro w' ⟨s0,s1,s2,s3,s4,s5,s6,s7,s8,s9,ak,am⟩
        go_simp
        with_reducible rfl
       rotate_left
       ·simp only[Act.put,qS,Za,Zb]
        rfl
       refine X2 (i:=3) (N:=some 31) (v:=?_) (a':=?_) (bN 6 11) rfl rfl kr (fun _ _ _ h=>h) (Or.inl ⟨by rfl, ?_⟩) hHeld ?_ ?_
       rotate_left
       ·rintro w' ⟨s0,s1,s2,s3,s4,s5,s6,s7,s8,s9,ak,am⟩
        go_simp
        with_reducible rfl
       rotate_left
       ·simp only[Act.put,qS,Za,Zb]
        rfl
       refine Zf (i:=2) (N:=some 30) (bN 6 15) rfl rfl kr (by decide) (fun K hK=>?_)
       refine Zd Try.func37 kr rfl #[.agg #[.int .i64 B,.int .i64 J,.int .i64 O,.int .i64 X,.int .i64 Y,.int .i64 Z,.int .i64 γ,.int .i64 ζ,.int .i64 θ,.int .i64 η],.slice A1 l1.length c1] (by rfl) rfl rfl qM ?_
       with_reducible refine(group_house.calls B J O X Y Z γ ζ θ η _ _ l1 bk bo _ ?side1 ?side2 e5.out).mono ?_
       (case side1=>exact(Kd.Qs ci.out HB.out))
       (case side2=>exact dj.out)
       rintro e k3 ⟨rfl,hb⟩
       refine⟨_,rfl, ?_⟩
       replace ε :=sBk ε hb
       replace ι :=sBk ι hb
       replace HB:=sHb hb
       (try clear hb)
       (try clear a4)
       (try clear hk)
       (try clear hi)
       refine hK.out _ _ ⟨qc ε,qc ε,qc ε,qc ε,qc ε,qc ε,qc ε,qc ε,qc ε,qc ε,qc ι,qc ι⟩ (fun hHeld=>?_)
       clear hK K
       refine qN (some 30) ?_
       refine Zf (i:=4) (N:=some 32) (bN 6 31) rfl rfl kr (by decide) (fun K hK=>?_)
       refine Zd Try.func40 kr rfl #[.agg #[.int .i64 bk,.int .i64 bo],.agg #[.slice aa φ.length ab,.slice ac χ.length ae]] (by rfl) rfl rfl qM ?_
       with_reducible refine(call_Check.calls k2 bk bo _ _ φ _ _ χ bi _ ?side1 ?side2 ?side3 ?side4 d4.out).mono ?_
       (case side1=>exact(Kd.Qs cm.out HB.out))
       (case side2=>exact cn.out)
       (case side3=>exact(Kd.Qs co.out HB.out))
       (case side4=>exact cp.out)
       rintro e hh ⟨rfl,hb⟩
       refine⟨_,rfl, ?_⟩
       replace ε :=sBk ε hb
       replace ι :=sBk ι hb
       replace HB:=sHb hb
       (try clear hb)
       (try clear a4)
       (try clear hk)
       (try clear hi)
       refine hK.out _ _ ⟨qc ε,qc ε,qc ε,qc ε,qc ε,qc ε,qc ε,qc ε,qc ε,qc ε,qc ι,qc ι⟩ (fun hHeld=>?_)
       clear hK K
       refine qN (some 32) ?_
       refine Xe (i:=5) (N:=some 6) (v:=?_) (a':=?_) (bN 6 63) rfl rfl kr (fun _ _ _ h=>h) (Or.inl ⟨by rfl, ?_⟩) ?_ ?_
       rotate_left
       ·intro w'
        go_simp
        with_reducible rfl
       rotate_left
       ·simp only[Act.put,qS,Za,Zb]
        rfl
       refine Zi kr ?_
       try go_wp2
       go_ret
       exact⟨rfl,HB.out⟩
mutual
def call_View.l0:Nat→Int→List (S86)→Int→Int→List (S36)→List (S86)→List Int→Option (List Int×List Int×List Int×Int)
 |0,_,_,_,_,_,_,_=>none
 |k+1,X,O,γ,Y,J,Z,B=>if Y<γ then (if 0≤Y then (if Y<(O.length:Int) then (if ((Qp O Y).f0)=X then (if B.length<17592186044416 then (call_View.l0 k X O γ (wrap64 (Y+1)) J Z (B ++ [(Qp O Y).f1])) else (none)) else (call_View.l0 k X O γ (wrap64 (Y+1)) J Z B)) else (none)) else (none)) else (call_View.l1 k X J (J.length:Int) 0 B ([]:List Int) ([]:List Int))
def call_View.l1:Nat→Int→List (S36)→Int→Int→List Int→List Int→List Int→Option (List Int×List Int×List Int×Int)
 |0,_,_,_,_,_,_,_=>none
 |k+1,X,Z,γ,Y,B,J,O=>if Y<γ then (if 0≤Y then (if Y<(Z.length:Int) then (if ((Qc Z Y).f2)=X then (if ((Qc Z Y).f1)>0 then (if J.length<17592186044416 then (call_View.l1 k X Z γ (wrap64 (Y+1)) B (J ++ [(Qc Z Y).f0]) O) else (none)) else (if O.length<17592186044416 then (call_View.l1 k X Z γ (wrap64 (Y+1)) B J (O ++ [(Qc Z Y).f0])) else (none))) else (call_View.l1 k X Z γ (wrap64 (Y+1)) B J O)) else (none)) else (none)) else (some (B,J,O,0))
end
def call_View.f (k:Nat) (B:Int) (J:Int) (O:List (S36)) (X:List (S86)) (a2:Int):Option (List Int×List Int×List Int×Int):=(call_Check.f k B J O X).bind fun bo=>(if bo=0 then ((call_within.f a2 0 (wrap64 (J-1))).bind fun dm=>(if dm=true then (call_View.l0 k a2 X (X.length:Int) 0 O X ([]:List Int)) else (some (([]:List Int),([]:List Int),([]:List Int),191)))) else (some (([]:List Int),([]:List Int),([]:List Int),bo)))
theorem call_View.Zu:∀ k,(∀ O Y Z B X y5 y6,LeO (call_View.l0 k O Y Z B X y5 y6) (call_View.l0 (k+1) O Y Z B X y5 y6))∧(∀ O Y Z B X y5 y6,LeO (call_View.l1 k O Y Z B X y5 y6) (call_View.l1 (k+1) O Y Z B X y5 y6))
 |0=>⟨fun _ _ _ _ _ _ _ r h=>by simp[call_View.l0] at h,fun _ _ _ _ _ _ _ r h=>by simp[call_View.l1] at h⟩
 |k+1=>by
  obtain⟨J,ε⟩:=call_View.Zu k
  refine⟨?_, ?_⟩
  ·intro O Y Z B X y5 y6
   unfold call_View.l0
   repeat' first|(with_reducible first|apply J|apply ε |apply call_Check.mono|exact LeO.refl _|exact LeO.none _|refine LeO.ite ?_ ?_|refine LeO.bind ?_ (fun _=>?_))|apply J|apply ε |apply call_Check.mono|exact LeO.none _|refine LeO.ite ?_ ?_|refine LeO.bind ?_ (fun _=>?_)
  ·intro O Y Z B X y5 y6
   unfold call_View.l1
   repeat' first|(with_reducible first|apply J|apply ε |apply call_Check.mono|exact LeO.refl _|exact LeO.none _|refine LeO.ite ?_ ?_|refine LeO.bind ?_ (fun _=>?_))|apply J|apply ε |apply call_Check.mono|exact LeO.none _|refine LeO.ite ?_ ?_|refine LeO.bind ?_ (fun _=>?_)
theorem call_View.mono:∀ B X a2 a3 O k,LeO (call_View.f k B X a2 a3 O) (call_View.f (k+1) B X a2 a3 O):=by
 intro B X a2 a3 O k
 obtain⟨J,ε⟩:=call_View.Zu k
 unfold call_View.f
 repeat' first|(with_reducible first|apply J|apply ε |apply call_Check.mono|exact LeO.refl _|exact LeO.none _|refine LeO.ite ?_ ?_|refine LeO.bind ?_ (fun _=>?_))|apply J|apply ε |apply call_Check.mono|exact LeO.none _|refine LeO.ite ?_ ?_|refine LeO.bind ?_ (fun _=>?_)
set_option maxHeartbeats 8000000 in
set_option maxRecDepth 100000 in
theorem call_View.calls (k:Nat) (B:Int) (J:Int) (ι :Option Addr) (η :Nat) (O:List (S36)) (κ :Option Addr) (θ :Nat) (X:List (S86)) (a2:Int) (r1:List Int) (r2:List Int) (r3:List Int) (r4:Int) (w:World) (ag:Kd.C k36 w ι O.length O) (ai:O.length ≤ η) (an:Kd.C k86 w κ X.length X) (b2:X.length ≤ θ) (h:call_View.f k B J O X a2=some (r1,r2,r3,r4)):
 Calls Try.prog 24 #[.agg #[.int .i64 B,.int .i64 J],.agg #[.slice ι O.length η,.slice κ X.length θ],.int .i64 a2] w fun e w'=>∃ b8 dv d7:Value,e = .returned (.tuple #[.agg #[b8,dv,d7],.int .i64 r4])∧Kd.R (Kd.int .i64) 3 w' w.heap.size (fun k_=>some k_≠(dv:Value).ownBlock∧some k_≠(d7:Value).ownBlock) b8 r1∧Kd.R (Kd.int .i64) 3 w' w.heap.size (fun k_=>some k_≠(b8:Value).ownBlock∧some k_≠(d7:Value).ownBlock) dv r2∧Kd.R (Kd.int .i64) 3 w' w.heap.size (fun k_=>some k_≠(b8:Value).ownBlock∧some k_≠(dv:Value).ownBlock) d7 r3∧Below w.heap.size w w':=by
 have dw:=Try.underlying59
 have dc:=Try.underlying50
 have e9:=Try.underlying34
 have cu:=Try.underlying86
 have ch:=Try.underlying36
 have a0:=aK ag
 have b3:=aK ai
 clear ag ai
 have a1:=aK an
 have b4:=aK b2
 clear an b2
 have HB:=aK (Below.refl w.heap.size w)
 have H:((call_Check.f k B J O X).bind fun bo=>(if bo=0 then ((call_within.f a2 0 (wrap64 (J-1))).bind fun dm=>(if dm=true then (call_View.l0 k a2 X (X.length:Int) 0 O X ([]:List Int)) else (some (([]:List Int),([]:List Int),([]:List Int),191)))) else (some (([]:List Int),([]:List Int),([]:List Int),bo))))=some (r1,r2,r3,r4):=h
 clear h
 obtain⟨bo,ab,H⟩:=qO H
 have A4:=aK ab
 clear ab
 by_cases c5:bo=0
 ·rw[if_pos c5] at H
  have c5b0:(bo==0)=true:=beq_iff_eq.mpr c5
  have c5b1:(bo != 0)=false:=bne_eq_false_iff_eq.mpr c5
  clear c5
  obtain⟨dm,ao,H⟩:=qO H
  have A6:=aK ao
  clear ao
  by_cases c7:dm=true
  ·subst c7
   rw[if_pos rfl] at H
   have H':=aK H
   clear H
   go_enter Try.func24,Try.ntmps24
   go_wp2_with (first|((with_reducible refine Qe (N:=3) rfl ?_);refine qE 3 #[.int .i64 B,.int .i64 J] 59 ?_;intro ac hg w8 hbox hb;have Y:=aK hbox;have e5:=sGe hg;have e6:=sGe hg;replace HB:=sHb hb;clear hb hbox hg)|((with_reducible refine Qe (N:=4) rfl ?_);refine qE 4 #[.slice ι O.length η,.slice κ X.length θ] 50 ?_;intro ck hg w9 hbox hb;have γ:=aK hbox;have ee:=sGe hg;have ep:=sGe hg;have ah:=sNl Y hg;have aj:=sNg Y hg;replace Y:=sBk Y hb;replace HB:=sHb hb;clear hb hbox hg)|((with_reducible refine Qe (N:=6) rfl ?_);refine qE 6 #[.slice none 0 0,.slice none 0 0,.slice none 0 0] 34 ?_;intro ae hg fj hbox hb;have δ :=aK hbox;have f8:=sGe hg;have fa:=sGe hg;have ak:=sNl Y hg;have aw:=sNg Y hg;have a8:=sNl γ hg;have a9:=sNg γ hg;replace Y:=sBk Y hb;replace γ:=sBk γ hb;replace HB:=sHb hb;clear hb hbox hg;have et:=ah.out;have fi:=aj.out;have ev:=ak.out;have f7:=aw.out;obtain⟨af,bd,ba,bf⟩:=qD2 Y.out;have ej:=a8.out;have ek:=a9.out;obtain⟨bu,bv,ci,cm⟩:=qD2 γ.out)|((with_reducible refine Qf (f:=40) rfl ?_);refine Qt (some 16) rfl rfl Try.func40 kr rfl #[.agg #[.int .i64 B,.int .i64 J],.agg #[.slice ι O.length η,.slice κ X.length θ]] rfl qM ?_;(with_reducible refine(call_Check.calls k B J _ _ O _ _ X bo _ ?side1 ?side2 ?side3 ?side4 A4.out).mono ?_);(case side1=>exact(Kd.Qs a0.out HB.out));(case side2=>exact b3.out);(case side3=>exact(Kd.Qs a1.out HB.out));(case side4=>exact b4.out);rintro e cx ⟨rfl,hb⟩;refine⟨_,rfl, ?_⟩;replace Y:=sBk Y hb;replace γ:=sBk γ hb;replace δ :=sBk δ hb;replace HB:=sHb hb;(try clear hb);(try clear a4);(try clear hk);(try clear hi);obtain⟨ap,ar,au,av⟩:=qD2 Y.out)|((with_reducible refine Qf (f:=44) rfl ?_);refine Qt (some 25) rfl rfl Try.func44 kr rfl #[.int .i64 a2,.int .i64 0,.int .i64 (wrap64 (J-1))] rfl qM ?_;(with_reducible refine(call_within.calls a2 0 (wrap64 (J-1)) true _ A6.out).mono ?_);rintro e w' ⟨rfl,⟨nd,rfl⟩⟩;refine⟨_,rfl, ?_⟩;(try(rw[Yw cx];generalize hq_:World.drewN cx _=cx;have ρ:Aside0 (cx.heap[ac]?=some (.cells #[.int .i64 B,.int .i64 J] 59 (0,0))):=⟨by rw[← hq_];exact Y.out⟩;have τ :Aside0 (cx.heap[ck]?=some (.cells #[.slice ι O.length η,.slice κ X.length θ] 50 (0,0))):=⟨by rw[← hq_];exact γ.out⟩;have ω :Aside0 (cx.heap[ae]?=some (.cells #[.slice none 0 0,.slice none 0 0,.slice none 0 0] 34 (0,0))):=⟨by rw[← hq_];exact δ.out⟩;have a3:Aside0 (Below w.heap.size w cx):=⟨by rw[← hq_];exact HB.out⟩;clear Y γ δ HB hq_;have Y:=ρ;have γ:= τ;have δ := ω;have HB:=a3;clear ρ τ ω a3));(try(have bg:cx.cell? ⟨ac,0,none⟩=some (.int .i64 B):=(Qa Y.out 0).trans rfl));(try(have bh:cx.cell? ⟨ac,1,none⟩=some (.int .i64 J):=(Qa Y.out 1).trans rfl));(try(have bi:=Qh Y.out 0));(try(have bj:=Qh Y.out 1)))|((with_reducible refine Qe (N:=9) rfl ?_);refine qE 9 #[.slice none 0 0,.slice none 0 0,.slice none 0 0] 34 ?_;intro d8 hg b5 hbox hb;have ζ :=aK hbox;have mo:=sGe hg;have mq:=sGe hg;have bp:=sNl Y hg;have bq:=sNg Y hg;have ax:=sNl γ hg;have b6:=sNg γ hg;have br:=sNl δ hg;have bs:=sNg δ hg;replace Y:=sBk Y hb;replace γ:=sBk γ hb;replace δ :=sBk δ hb;replace HB:=sHb hb;clear hb hbox hg;have ea:=bq.out;have eu:=bp.out;have gz:=b6.out;have hu:=ax.out;have el:=bs.out;have em:=br.out;obtain⟨bb,de,df,dh,dj,dl⟩:=qD3 ζ.out;obtain⟨ay,az,b0,b1⟩:=qD2 γ.out))
   go_loopg [32] k (fun kq mj w'=>∃ (ξ :Int) (φ :List Int) (σ:Value),mj = .int .i64 ξ ∧ Aside0 (call_View.l0 kq a2 X (X.length:Int) ξ O X φ = some (r1,r2,r3,r4))∧Aside0 (kq≤k)∧Aside0 (Kd.R (Kd.int .i64) 3 w' w.heap.size (fun _=>True) σ φ)∧Aside0 (w'.heap[ac]?=some (.cells #[.int .i64 B,.int .i64 J] 59 (0,0)))∧Aside0 (w'.heap[ck]?=some (.cells #[(.slice ι O.length η),(.slice κ X.length θ)] 50 (0,0)))∧Aside0 (w'.heap[ae]?=some (.cells #[(.slice none 0 0),(.slice none 0 0),(.slice none 0 0)] 34 (0,0)))∧Aside0 (w'.heap[d8]?=some (.cells #[σ,(.slice none 0 0),(.slice none 0 0)] 34 (0,0)))∧Aside0 (Below w.heap.size w w'))
   case atStart=>exact⟨(0),(([]:List Int)),(.slice none 0 0),qR,H',⟨Nat.le_refl _⟩,⟨by first|exact Kd.Xu _ _ _ _ _|exact Kd.Yg _ _ _ _ _|exact Kd.Yd _ _ _ _ _|exact Kd.Yf _ _ _ _ _|exact Kd.Ye _ _ _ _ _⟩,⟨bka Y⟩,⟨bka γ⟩,⟨bka δ⟩,⟨by(with_reducible repeat first|refine Qm ?_ _|refine Qd ?_|refine Ql ?_ _);refine Qq (cs:=#[.slice none 0 0,.slice none 0 0,.slice none 0 0]) ?_ 2 _ rfl;(with_reducible repeat first|refine Qm ?_ _|refine Qd ?_|refine Ql ?_ _);refine Qq (cs:=#[.slice none 0 0,.slice none 0 0,.slice none 0 0]) ?_ 1 _ rfl;(with_reducible repeat first|refine Qm ?_ _|refine Qd ?_|refine Ql ?_ _);refine Qq (cs:=#[.slice none 0 0,.slice none 0 0,.slice none 0 0]) ?_ 0 _ rfl;(with_reducible repeat first|refine Qm ?_ _|refine Qd ?_|refine Ql ?_ _);exact ζ.out⟩,⟨bel⟩⟩
   case round=>
    clear H'
    try clear c5b0
    try clear c5b1
    try clear c7
    try clear af
    try clear bd
    try clear bu
    try clear bv
    try clear ap
    try clear ar
    try clear bg
    try clear bh
    try clear bb
    try clear de
    try clear df
    try clear ay
    try clear az
    try clear ba
    try clear bf
    try clear ci
    try clear cm
    try clear au
    try clear av
    try clear bi
    try clear bj
    try clear dh
    try clear dj
    try clear dl
    try clear b0
    try clear b1
    obtain⟨ξ,φ,σ,rfl,HA,am,ε,Y,γ,δ,ζ,HB⟩:=hrel
    cases gk with
    |zero=>exact absurd HA.out (by simp[call_View.l0])
    |succ k1=>
     have H:=HA.out
     clear HA
     simp only[call_View.l0] at H
     by_cases b9: ξ < (X.length:Int)
     ·rw[if_pos b9] at H
      have c25b0:=decide_eq_true b9
      clear b9
      by_cases b7:0 ≤ ξ
      ·rw[if_pos b7] at H
       have c26b0:=decide_eq_true b7
       clear b7
       by_cases cg: ξ < (X.length:Int)
       ·rw[if_pos cg] at H
        have c27b0:=decide_eq_true cg
        clear cg
        by_cases bc:((Qp X ξ).f0)=a2
        ·rw[if_pos bc] at H
         have c28b0:(((Qp X ξ).f0)==a2)=true:=beq_iff_eq.mpr bc
         have c28b1:(((Qp X ξ).f0) != a2)=false:=bne_eq_false_iff_eq.mpr bc
         clear bc
         by_cases aa: φ.length<17592186044416
         ·rw[if_pos aa] at H
          have i3:=aK aa
          clear aa
          obtain⟨dx,d9⟩:∃ y_:List Int,y_=(φ ++ [(Qp X ξ).f1]):=⟨_,rfl⟩
          replace H:(call_View.l0 k1 a2 X (X.length:Int) (wrap64 (ξ + 1)) O X dx)=some (r1,r2,r3,r4):=by first|(rw[d9];with_reducible exact H)|(have al:=(Option.bind_some _ _).symm.trans H;rw[d9];with_reducible exact al)|(have al:=(Option.bind_some _ _).symm.trans H;with_reducible exact al)|with_reducible exact H|(rw[d9];exact H)|exact H
          have i4:=aK d9
          clear d9
          have H':=aK H
          clear H
          have d5:0≤(ξ :Int):=of_decide_eq_true (by assumption)
          have d6: ξ < (X.length:Int):=of_decide_eq_true (by assumption)
          obtain⟨fc,dy,cq,ct⟩:=Xk a1.out ξ d5 d6
          cases dy
          replace cq:=sCl HB cq
          replace ct:=sCl HB ct
          replace d5:=eq_true d5
          replace d6:=eq_true d6
          go_wp2_with (first|((with_reducible refine Qe (N:=11) rfl ?_);refine qE 11 #[.int .i64 0,.int .i64 0] 86 ?_;intro ff hg e8 hbox hb;have cp:=aK hbox;have i5:=sGe hg;have i6:=sGe hg;have cw:=sNl Y hg;have cy:=sNg Y hg;have cz:=sNl γ hg;have d0:=sNg γ hg;have d1:=sNl δ hg;have d2:=sNg δ hg;have d3:=sNl ζ hg;have d4:=sNg ζ hg;replace ε :=sRb ε hb;replace Y:=sBk Y hb;replace γ:=sBk γ hb;replace δ :=sBk δ hb;replace ζ :=sBk ζ hb;replace HB:=sHb hb;clear hb hbox hg;have gb:=cy.out;have ge:=cw.out;have dr:=d0.out;have ez:=cz.out;have i9:=d2.out;have ia:=d1.out;have jx:=d4.out;have jy:=d3.out;obtain⟨gm,gn,gp,gq⟩:=qD2 cp.out;have fn:=bq.out;have fo:=bp.out;have mr:=b6.out;have ms:=ax.out;have he:=bs.out;have im:=br.out;obtain⟨en,eo,fm,gr,gs,il⟩:=qD3 ζ.out)|((with_reducible refine Z3 (b:=.append) (xs:=#[.tmp 41,.tmp 44]) rfl ?_);at_builtin;refine Kd.Yo (Kd.int .i64) (w0:=w) w.heap.size rfl (.tmp 41) (.tmp 44) 32 3 (.int .i64 0) 8 rfl Try.underlying32 Kf rfl (by decide) (by omega) σ φ ((Qp X ξ).f1) [.int .i64 ((Qp X ξ).f1)] (fun _=>True) (fun _=>False) rfl (by first|(go_simp;done)|(go_simp;rfl)) ?aP (fun _ hk=>hk.elim) ?aF ?aO ?aB ?aS ?aL ?_;(case aP=>exact rfl);(case aB=>exact bel);(case aF=>exact(fun _ _=>trivial));(case aO=>exact(by(with_reducible repeat first|apply Kd.Qv|apply Kd.Qu|apply Kd.Qy);exact Kd.Q1 (Kd.Qx (Kd.Qx (Kd.Q4 ε.out cp.out (by decide)) (fun _ hk=>hk.2) (.int .i64 ((Qp X ξ).f0))) (fun _ hk=>hk.2) (.int .i64 ((Qp X ξ).f1))) (fun _ hk=>trivial)));(case aS=>exact(Qn bel));(case aL=>have:=i3.out;omega);intro nm kp ho hb hg hat;rw[← i4.out] at ho;have fg:=aK ho;replace Y:=aK (Q0 (g:=ac) (o:=.cells #[.int .i64 B,.int .i64 J] 59 (0,0)) (bka Y) hg (Kd.Zo ε.out Y.out (by decide)));replace γ:=aK (Q0 (g:=ck) (o:=.cells #[.slice ι O.length η,.slice (some fc) X.length θ] 50 (0,0)) (bka γ) hg (Kd.Zo ε.out γ.out (by decide)));replace δ :=aK (Q0 (g:=ae) (o:=.cells #[.slice none 0 0,.slice none 0 0,.slice none 0 0] 34 (0,0)) (bka δ) hg (Kd.Zo ε.out δ.out (by decide)));replace ζ :=aK (Q0 (g:=d8) (o:=.cells #[σ,.slice none 0 0,.slice none 0 0] 34 (0,0)) (bka ζ) hg (Kd.Zo ε.out ζ.out (by decide)));replace cp:=aK (Q0 (g:=ff) (o:=.cells #[.int .i64 ((Qp X ξ).f0),.int .i64 ((Qp X ξ).f1)] 86 (0,0)) (by(with_reducible repeat first|refine Qm ?_ _|refine Qd ?_|refine Ql ?_ _);refine Qq (cs:=#[.int .i64 ((Qp X ξ).f0),.int .i64 0]) ?_ 1 _ rfl;(with_reducible repeat first|refine Qm ?_ _|refine Qd ?_|refine Ql ?_ _);refine Qq (cs:=#[.int .i64 0,.int .i64 0]) ?_ 0 _ rfl;(with_reducible repeat first|refine Qm ?_ _|refine Qd ?_|refine Ql ?_ _);exact cp.out) hg (Kd.Zo ε.out cp.out (by decide)));replace HB:=aK hb;clear ε;clear ho hb hg hat;obtain⟨jo,jp,jq⟩:=Kd.Q7 fg.out;subst jq;obtain⟨ft,fu,fv,fw,fx,fy⟩:=qD3 ζ.out))
          go_roundg k1
          case measure=>have:=am.out;omega
          case rel=>exact⟨(wrap64 (ξ + 1)),(dx),(.slice jo dx.length jp),qR,H',⟨by have:=am.out;omega⟩,⟨by(with_reducible repeat first|apply Kd.Qv|apply Kd.Qu|apply Kd.Qy);exact Kd.Q1 (Kd.Qx (Kd.Q4 fg.out ζ.out (by decide)) (fun _ hk=>hk.2) _) (fun _ hk=>trivial)⟩,⟨bka Y⟩,⟨bka γ⟩,⟨bka δ⟩,⟨by(with_reducible repeat first|refine Qm ?_ _|refine Qd ?_|refine Ql ?_ _);refine Qq (cs:=#[σ,.slice none 0 0,.slice none 0 0]) ?_ 0 _ rfl;(with_reducible repeat first|refine Qm ?_ _|refine Qd ?_|refine Ql ?_ _);exact ζ.out⟩,⟨bel⟩⟩
         ·rw[if_neg aa] at H
          exact absurd H (by simp)
        ·rw[if_neg bc] at H
         have c28b0:(((Qp X ξ).f0)==a2)=false:=beq_eq_false_iff_ne.mpr bc
         have c28b1:(((Qp X ξ).f0) != a2)=true:=bne_iff_ne.mpr bc
         have H':=aK H
         clear H
         have d5:0≤(ξ :Int):=of_decide_eq_true (by assumption)
         have d6: ξ < (X.length:Int):=of_decide_eq_true (by assumption)
         obtain⟨fc,dy,cq,ct⟩:=Xk a1.out ξ d5 d6
         cases dy
         replace cq:=sCl HB cq
         replace ct:=sCl HB ct
         replace d5:=eq_true d5
         replace d6:=eq_true d6
         go_wp2_with (first|((with_reducible refine Qe (N:=11) rfl ?_);refine qE 11 #[.int .i64 0,.int .i64 0] 86 ?_;intro ff hg ko hbox hb;have cp:=aK hbox;have i5:=sGe hg;have i6:=sGe hg;have cw:=sNl Y hg;have cy:=sNg Y hg;have cz:=sNl γ hg;have d0:=sNg γ hg;have d1:=sNl δ hg;have d2:=sNg δ hg;have d3:=sNl ζ hg;have d4:=sNg ζ hg;replace ε :=sRb ε hb;replace Y:=sBk Y hb;replace γ:=sBk γ hb;replace δ :=sBk δ hb;replace ζ :=sBk ζ hb;replace HB:=sHb hb;clear hb hbox hg;have k9:=cy.out;have ka:=cw.out;have gx:=d0.out;have gy:=cz.out;have k0:=d2.out;have k3:=d1.out;have lq:=d4.out;have lr:=d3.out;obtain⟨hh,hj,hl,i2⟩:=qD2 cp.out))
         go_roundg k1
         case measure=>have:=am.out;omega
         case rel=>exact⟨(wrap64 (ξ + 1)),(φ),(σ),qR,H',⟨by have:=am.out;omega⟩,⟨by(with_reducible repeat first|apply Kd.Qv|apply Kd.Qu|apply Kd.Qy);exact Kd.Q1 (Kd.Qx (Kd.Qx (Kd.Q4 ε.out cp.out (by decide)) (fun _ hk=>hk.2) (.int .i64 ((Qp X ξ).f0))) (fun _ hk=>hk.2) (.int .i64 ((Qp X ξ).f1))) (fun _ hk=>trivial)⟩,⟨bka Y⟩,⟨bka γ⟩,⟨bka δ⟩,⟨bka ζ⟩,⟨bel⟩⟩
       ·rw[if_neg cg] at H
        exact absurd H (by simp)
      ·rw[if_neg b7] at H
       exact absurd H (by simp)
     ·rw[if_neg b9] at H
      have c25b0:=decide_eq_false b9
      clear b9
      have H':=aK H
      clear H
      have l2:=aj.out
      have l3:=ah.out
      have fh:=a8.out
      have ga:=a9.out
      have ib:=ax.out
      have ik:=b6.out
      obtain⟨ef,eg,eh,ei⟩:=qD2 γ.out
      go_wp2
      go_loopg [51] k1 (fun kq ml w'=>∃ (Z:Int) (ψ :List Int) (a7:List Int) (a5:Value) (a6:Value),ml = .int .i64 Z∧Aside0 (call_View.l1 kq a2 O (O.length:Int) Z φ ψ a7=some (r1,r2,r3,r4))∧Aside0 (kq≤k1)∧Aside0 (Kd.R (Kd.int .i64) 3 w' w.heap.size (fun k_=>some k_≠(a5:Value).ownBlock∧some k_≠(a6:Value).ownBlock) σ φ)∧Aside0 (Kd.R (Kd.int .i64) 3 w' w.heap.size (fun k_=>some k_≠(σ:Value).ownBlock∧some k_≠(a6:Value).ownBlock) a5 ψ)∧Aside0 (Kd.R (Kd.int .i64) 3 w' w.heap.size (fun k_=>some k_≠(σ:Value).ownBlock∧some k_≠(a5:Value).ownBlock) a6 a7)∧Aside0 (w'.heap[ac]?=some (.cells #[.int .i64 B,.int .i64 J] 59 (0,0)))∧Aside0 (w'.heap[ck]?=some (.cells #[(.slice ι O.length η),(.slice κ X.length θ)] 50 (0,0)))∧Aside0 (w'.heap[ae]?=some (.cells #[(.slice none 0 0),(.slice none 0 0),(.slice none 0 0)] 34 (0,0)))∧Aside0 (w'.heap[d8]?=some (.cells #[σ,a5,a6] 34 (0,0)))∧Aside0 (Below w.heap.size w w'))
      case atStart=>exact⟨(0),(([]:List Int)),(([]:List Int)),(.slice none 0 0),(.slice none 0 0),rfl,H',⟨Nat.le_refl _⟩,⟨by(with_reducible repeat first|apply Kd.Qv|apply Kd.Qu|apply Kd.Qy);exact Kd.Q1 ε.out (fun _ hk=>⟨(by simp[Value.ownBlock]),(by simp[Value.ownBlock])⟩)⟩,⟨by first|exact Kd.Xu _ _ _ _ _|exact Kd.Yg _ _ _ _ _|exact Kd.Yd _ _ _ _ _|exact Kd.Yf _ _ _ _ _|exact Kd.Ye _ _ _ _ _⟩,⟨by first|exact Kd.Xu _ _ _ _ _|exact Kd.Yg _ _ _ _ _|exact Kd.Yd _ _ _ _ _|exact Kd.Yf _ _ _ _ _|exact Kd.Ye _ _ _ _ _⟩,Y,γ,δ,ζ,HB⟩
      case round=>
       clear H'
       try clear c5b0
       try clear c5b1
       try clear c7
       try clear c25b0
       try clear af
       try clear bd
       try clear bu
       try clear bv
       try clear ap
       try clear ar
       try clear bg
       try clear bh
       try clear bb
       try clear de
       try clear df
       try clear ay
       try clear az
       try clear ef
       try clear eg
       try clear ba
       try clear bf
       try clear ci
       try clear cm
       try clear au
       try clear av
       try clear bi
       try clear bj
       try clear dh
       try clear dj
       try clear dl
       try clear b0
       try clear b1
       try clear eh
       try clear ei
       obtain⟨Z,ψ,a7,a5,a6,rfl,HA,bn,ε,μ,ν,Y,γ,δ,ζ,HB⟩:=hrel
       cases gk with
       |zero=>exact absurd HA.out (by simp[call_View.l1])
       |succ k2=>
        have H:=HA.out
        clear HA
        simp only[call_View.l1] at H
        by_cases dq:Z<(O.length:Int)
        ·rw[if_pos dq] at H
         have c53b0:=decide_eq_true dq
         clear dq
         by_cases fk:0≤Z
         ·rw[if_pos fk] at H
          have c54b0:=decide_eq_true fk
          clear fk
          by_cases fl:Z<(O.length:Int)
          ·rw[if_pos fl] at H
           have c55b0:=decide_eq_true fl
           clear fl
           by_cases dn:((Qc O Z).f2)=a2
           ·rw[if_pos dn] at H
            have c56b0:(((Qc O Z).f2)==a2)=true:=beq_iff_eq.mpr dn
            have c56b1:(((Qc O Z).f2) != a2)=false:=bne_eq_false_iff_eq.mpr dn
            clear dn
            by_cases cr:((Qc O Z).f1)>0
            ·rw[if_pos cr] at H
             have c57b0:decide (0<((Qc O Z).f1))=true:=decide_eq_true cr
             clear cr
             by_cases di: ψ.length<17592186044416
             ·rw[if_pos di] at H
              have i7:=aK di
              clear di
              obtain⟨dz,da⟩:∃ y_:List Int,y_=(ψ ++ [(Qc O Z).f0]):=⟨_,rfl⟩
              replace H:(call_View.l1 k2 a2 O (O.length:Int) (wrap64 (Z+1)) φ dz a7)=some (r1,r2,r3,r4):=by first|(rw[da];with_reducible exact H)|(have al:=(Option.bind_some _ _).symm.trans H;rw[da];with_reducible exact al)|(have al:=(Option.bind_some _ _).symm.trans H;with_reducible exact al)|with_reducible exact H|(rw[da];exact H)|exact H
              have ic:=aK da
              clear da
              have H':=aK H
              clear H
              have cn:0≤(Z:Int):=of_decide_eq_true (by assumption)
              have co:Z<(O.length:Int):=of_decide_eq_true (by assumption)
              obtain⟨dd,dp,bk,bl,bm⟩:=Xc a0.out Z cn co
              cases dp
              replace bk:=sCl HB bk
              replace bl:=sCl HB bl
              replace bm:=sCl HB bm
              replace cn:=eq_true cn
              replace co:=eq_true co
              go_wp2_with (first|((with_reducible refine Qe (N:=13) rfl ?_);refine qE 13 #[.int .i64 0,.int .i64 0,.int .i64 0] 36 ?_;intro dk hg mm hbox hb;have χ :=aK hbox;have gg:=sGe hg;have gh:=sGe hg;have bw:=sNl Y hg;have bz:=sNg Y hg;have ca:=sNl γ hg;have cb:=sNg γ hg;have cd:=sNl δ hg;have ce:=sNg δ hg;have cf:=sNl ζ hg;have cj:=sNg ζ hg;replace ε :=sRb ε hb;replace μ :=sRb μ hb;replace ν :=sRb ν hb;replace Y:=sBk Y hb;replace γ:=sBk γ hb;replace δ :=sBk δ hb;replace ζ :=sBk ζ hb;replace HB:=sHb hb;clear hb hbox hg;have i0:=bz.out;have i1:=bw.out;have lb:=cb.out;have lc:=ca.out;have o5:=ce.out;have o6:=cd.out;have lf:=cj.out;have lg:=cf.out;obtain⟨h8,h9,fp,ha,ii,fq⟩:=qD3 χ.out;have ew:=bq.out;have ey:=bp.out;have js:=b6.out;have jt:=ax.out;have kw:=bs.out;have kx:=br.out;obtain⟨fr,fz,gf,gi,gj,h0⟩:=qD3 ζ.out)|((with_reducible refine Z3 (b:=.append) (xs:=#[.tmp 72,.tmp 75]) rfl ?_);at_builtin;refine Kd.Yo (Kd.int .i64) (w0:=w) w.heap.size rfl (.tmp 72) (.tmp 75) 32 3 (.int .i64 0) 8 rfl Try.underlying32 Kf rfl (by decide) (by omega) a5 ψ ((Qc O Z).f0) [.int .i64 ((Qc O Z).f0)] (fun k_=>some k_≠(σ:Value).ownBlock∧some k_≠(a6:Value).ownBlock) (fun _=>False) rfl (by first|(go_simp;done)|(go_simp;rfl)) ?aP (fun _ hk=>hk.elim) ?aF ?aO ?aB ?aS ?aL ?_;(case aP=>exact rfl);(case aB=>exact bel);(case aF=>exact(fun k_ hk=>⟨Kd.fresh' (Kd.J0 (by(with_reducible repeat first|apply Kd.Qv|apply Kd.Qu|apply Kd.Qy);exact(Kd.Q1 (Kd.Qx (Kd.Qx (Kd.Qx (Kd.Q4 ε.out χ.out (by decide)) (fun _ hk=>hk.2) (.int .i64 ((Qc O Z).f0))) (fun _ hk=>hk.2) (.int .i64 ((Qc O Z).f1))) (fun _ hk=>hk.2) (.int .i64 ((Qc O Z).f2))) (fun _ h_=>h_.1)))) k_ hk,Kd.fresh' (Kd.J0 (by(with_reducible repeat first|apply Kd.Qv|apply Kd.Qu|apply Kd.Qy);exact(Kd.Q1 (Kd.Qx (Kd.Qx (Kd.Qx (Kd.Q4 ν.out χ.out (by decide)) (fun _ hk=>hk.2) (.int .i64 ((Qc O Z).f0))) (fun _ hk=>hk.2) (.int .i64 ((Qc O Z).f1))) (fun _ hk=>hk.2) (.int .i64 ((Qc O Z).f2))) (fun _ h_=>h_.1)))) k_ hk⟩));(case aO=>exact(by(with_reducible repeat first|apply Kd.Qv|apply Kd.Qu|apply Kd.Qy);exact Kd.Q1 (Kd.Qx (Kd.Qx (Kd.Qx (Kd.Q4 μ.out χ.out (by decide)) (fun _ hk=>hk.2) (.int .i64 ((Qc O Z).f0))) (fun _ hk=>hk.2) (.int .i64 ((Qc O Z).f1))) (fun _ hk=>hk.2) (.int .i64 ((Qc O Z).f2))) (fun _ hk=>⟨hk.1.1,hk.1.2⟩)));(case aS=>exact(Qn bel));(case aL=>have:=i7.out;omega);intro nn nv ho hb hg hat;rw[← ic.out] at ho;have gl:=aK ho;replace ε :=aK (Kd.Xv (ok:=(fun k_=>some k_≠(a6:Value).ownBlock)) (by(with_reducible repeat first|apply Kd.Qv|apply Kd.Qu|apply Kd.Qy);exact Kd.Q1 (Kd.Qx (Kd.Qx (Kd.Qx (Kd.Q4 ε.out χ.out (by decide)) (fun _ hk=>hk.2) (.int .i64 ((Qc O Z).f0))) (fun _ hk=>hk.2) (.int .i64 ((Qc O Z).f1))) (fun _ hk=>hk.2) (.int .i64 ((Qc O Z).f2))) (fun _ hk=>⟨hk.1.2,hk.1.1⟩)) hg hat);replace ν :=aK (Kd.Xv (ok:=(fun k_=>some k_≠(σ:Value).ownBlock)) (by(with_reducible repeat first|apply Kd.Qv|apply Kd.Qu|apply Kd.Qy);exact Kd.Q1 (Kd.Qx (Kd.Qx (Kd.Qx (Kd.Q4 ν.out χ.out (by decide)) (fun _ hk=>hk.2) (.int .i64 ((Qc O Z).f0))) (fun _ hk=>hk.2) (.int .i64 ((Qc O Z).f1))) (fun _ hk=>hk.2) (.int .i64 ((Qc O Z).f2))) (fun _ hk=>⟨hk.1.1,hk.1.2⟩)) hg hat);replace Y:=aK (Q0 (g:=ac) (o:=.cells #[.int .i64 B,.int .i64 J] 59 (0,0)) (bka Y) hg (Kd.Zo μ.out Y.out (by decide)));replace γ:=aK (Q0 (g:=ck) (o:=.cells #[.slice (some dd) O.length η,.slice κ X.length θ] 50 (0,0)) (bka γ) hg (Kd.Zo μ.out γ.out (by decide)));replace δ :=aK (Q0 (g:=ae) (o:=.cells #[.slice none 0 0,.slice none 0 0,.slice none 0 0] 34 (0,0)) (bka δ) hg (Kd.Zo μ.out δ.out (by decide)));replace ζ :=aK (Q0 (g:=d8) (o:=.cells #[σ,a5,a6] 34 (0,0)) (bka ζ) hg (Kd.Zo μ.out ζ.out (by decide)));replace χ :=aK (Q0 (g:=dk) (o:=.cells #[.int .i64 ((Qc O Z).f0),.int .i64 ((Qc O Z).f1),.int .i64 ((Qc O Z).f2)] 36 (0,0)) (by(with_reducible repeat first|refine Qm ?_ _|refine Qd ?_|refine Ql ?_ _);refine Qq (cs:=#[.int .i64 ((Qc O Z).f0),.int .i64 ((Qc O Z).f1),.int .i64 0]) ?_ 2 _ rfl;(with_reducible repeat first|refine Qm ?_ _|refine Qd ?_|refine Ql ?_ _);refine Qq (cs:=#[.int .i64 ((Qc O Z).f0),.int .i64 0,.int .i64 0]) ?_ 1 _ rfl;(with_reducible repeat first|refine Qm ?_ _|refine Qd ?_|refine Ql ?_ _);refine Qq (cs:=#[.int .i64 0,.int .i64 0,.int .i64 0]) ?_ 0 _ rfl;(with_reducible repeat first|refine Qm ?_ _|refine Qd ?_|refine Ql ?_ _);exact χ.out) hg (Kd.Zo μ.out χ.out (by decide)));replace HB:=aK hb;clear μ;clear ho hb hg hat;obtain⟨jv,jw,jz⟩:=Kd.Q7 gl.out;subst jz;obtain⟨j9,ja,jb,jc,jd,je⟩:=qD3 ζ.out))
              go_roundg k2
              case measure=>have:=am.out;have:=bn.out;omega
              case rel=>exact⟨(wrap64 (Z+1)),(dz),(a7),(.slice jv dz.length jw),(a6),qR,H',⟨by have:=am.out;have:=bn.out;omega⟩,⟨by(with_reducible repeat first|apply Kd.Qv|apply Kd.Qu|apply Kd.Qy);exact Kd.Q1 (Kd.Qx (Kd.Q4 ε.out ζ.out (by decide)) (fun _ hk=>hk.2) _) (fun _ hk=>⟨hk.1.2,hk.1.1⟩)⟩,⟨by(with_reducible repeat first|apply Kd.Qv|apply Kd.Qu|apply Kd.Qy);exact Kd.Q1 (Kd.Qx (Kd.Q4 gl.out ζ.out (by decide)) (fun _ hk=>hk.2) _) (fun _ hk=>⟨hk.1.1,hk.1.2⟩)⟩,⟨by(with_reducible repeat first|apply Kd.Qv|apply Kd.Qu|apply Kd.Qy);exact Kd.Q1 (Kd.Qx (Kd.Q4 ν.out ζ.out (by decide)) (fun _ hk=>hk.2) _) (fun _ hk=>⟨hk.1.1,hk.1.2⟩)⟩,⟨bka Y⟩,⟨bka γ⟩,⟨bka δ⟩,⟨by(with_reducible repeat first|refine Qm ?_ _|refine Qd ?_|refine Ql ?_ _);refine Qq (cs:=#[σ,a5,a6]) ?_ 1 _ rfl;(with_reducible repeat first|refine Qm ?_ _|refine Qd ?_|refine Ql ?_ _);exact ζ.out⟩,⟨bel⟩⟩
             ·rw[if_neg di] at H
              exact absurd H (by simp)
            ·rw[if_neg cr] at H
             have c57b0:decide (0<((Qc O Z).f1))=false:=decide_eq_false cr
             clear cr
             by_cases gt:a7.length<17592186044416
             ·rw[if_pos gt] at H
              have iz:=aK gt
              clear gt
              obtain⟨e0,db⟩:∃ y_:List Int,y_=(a7 ++ [(Qc O Z).f0]):=⟨_,rfl⟩
              replace H:(call_View.l1 k2 a2 O (O.length:Int) (wrap64 (Z+1)) φ ψ e0)=some (r1,r2,r3,r4):=by first|(rw[db];with_reducible exact H)|(have al:=(Option.bind_some _ _).symm.trans H;rw[db];with_reducible exact al)|(have al:=(Option.bind_some _ _).symm.trans H;with_reducible exact al)|with_reducible exact H|(rw[db];exact H)|exact H
              have j4:=aK db
              clear db
              have H':=aK H
              clear H
              have cn:0≤(Z:Int):=of_decide_eq_true (by assumption)
              have co:Z<(O.length:Int):=of_decide_eq_true (by assumption)
              obtain⟨dd,dp,bk,bl,bm⟩:=Xc a0.out Z cn co
              cases dp
              replace bk:=sCl HB bk
              replace bl:=sCl HB bl
              replace bm:=sCl HB bm
              replace cn:=eq_true cn
              replace co:=eq_true co
              go_wp2_with (first|((with_reducible refine Qe (N:=13) rfl ?_);refine qE 13 #[.int .i64 0,.int .i64 0,.int .i64 0] 36 ?_;intro dk hg qn hbox hb;have χ :=aK hbox;have gg:=sGe hg;have gh:=sGe hg;have bw:=sNl Y hg;have bz:=sNg Y hg;have ca:=sNl γ hg;have cb:=sNg γ hg;have cd:=sNl δ hg;have ce:=sNg δ hg;have cf:=sNl ζ hg;have cj:=sNg ζ hg;replace ε :=sRb ε hb;replace μ :=sRb μ hb;replace ν :=sRb ν hb;replace Y:=sBk Y hb;replace γ:=sBk γ hb;replace δ :=sBk δ hb;replace ζ :=sBk ζ hb;replace HB:=sHb hb;clear hb hbox hg;have o7:=bz.out;have o8:=bw.out;have mf:=cb.out;have mg:=ca.out;have fb:=ce.out;have fe:=cd.out;have hx:=cj.out;have hy:=cf.out;obtain⟨lv,lw,lx,m7,m8,m9⟩:=qD3 χ.out;have ls:=bq.out;have lu:=bp.out;have l8:=b6.out;have l9:=ax.out;have ll:=bs.out;have lm:=br.out;obtain⟨jf,jg,jh,ji,jj,jk⟩:=qD3 ζ.out)|((with_reducible refine Z3 (b:=.append) (xs:=#[.tmp 56,.tmp 59]) rfl ?_);at_builtin;refine Kd.Yo (Kd.int .i64) (w0:=w) w.heap.size rfl (.tmp 56) (.tmp 59) 32 3 (.int .i64 0) 8 rfl Try.underlying32 Kf rfl (by decide) (by omega) a6 a7 ((Qc O Z).f0) [.int .i64 ((Qc O Z).f0)] (fun k_=>some k_≠(σ:Value).ownBlock∧some k_≠(a5:Value).ownBlock) (fun _=>False) rfl (by first|(go_simp;done)|(go_simp;rfl)) ?aP (fun _ hk=>hk.elim) ?aF ?aO ?aB ?aS ?aL ?_;(case aP=>exact rfl);(case aB=>exact bel);(case aF=>exact(fun k_ hk=>⟨Kd.fresh' (Kd.J0 (by(with_reducible repeat first|apply Kd.Qv|apply Kd.Qu|apply Kd.Qy);exact(Kd.Q1 (Kd.Qx (Kd.Qx (Kd.Qx (Kd.Q4 ε.out χ.out (by decide)) (fun _ hk=>hk.2) (.int .i64 ((Qc O Z).f0))) (fun _ hk=>hk.2) (.int .i64 ((Qc O Z).f1))) (fun _ hk=>hk.2) (.int .i64 ((Qc O Z).f2))) (fun _ h_=>h_.1)))) k_ hk,Kd.fresh' (Kd.J0 (by(with_reducible repeat first|apply Kd.Qv|apply Kd.Qu|apply Kd.Qy);exact(Kd.Q1 (Kd.Qx (Kd.Qx (Kd.Qx (Kd.Q4 μ.out χ.out (by decide)) (fun _ hk=>hk.2) (.int .i64 ((Qc O Z).f0))) (fun _ hk=>hk.2) (.int .i64 ((Qc O Z).f1))) (fun _ hk=>hk.2) (.int .i64 ((Qc O Z).f2))) (fun _ h_=>h_.1)))) k_ hk⟩));(case aO=>exact(by(with_reducible repeat first|apply Kd.Qv|apply Kd.Qu|apply Kd.Qy);exact Kd.Q1 (Kd.Qx (Kd.Qx (Kd.Qx (Kd.Q4 ν.out χ.out (by decide)) (fun _ hk=>hk.2) (.int .i64 ((Qc O Z).f0))) (fun _ hk=>hk.2) (.int .i64 ((Qc O Z).f1))) (fun _ hk=>hk.2) (.int .i64 ((Qc O Z).f2))) (fun _ hk=>⟨hk.1.1,hk.1.2⟩)));(case aS=>exact(Qn bel));(case aL=>have:=iz.out;omega);intro no ni ho hb hg hat;rw[← j4.out] at ho;have gu:=aK ho;replace ε :=aK (Kd.Xv (ok:=(fun k_=>some k_≠(a5:Value).ownBlock)) (by(with_reducible repeat first|apply Kd.Qv|apply Kd.Qu|apply Kd.Qy);exact Kd.Q1 (Kd.Qx (Kd.Qx (Kd.Qx (Kd.Q4 ε.out χ.out (by decide)) (fun _ hk=>hk.2) (.int .i64 ((Qc O Z).f0))) (fun _ hk=>hk.2) (.int .i64 ((Qc O Z).f1))) (fun _ hk=>hk.2) (.int .i64 ((Qc O Z).f2))) (fun _ hk=>⟨hk.1.1,hk.1.2⟩)) hg hat);replace μ :=aK (Kd.Xv (ok:=(fun k_=>some k_≠(σ:Value).ownBlock)) (by(with_reducible repeat first|apply Kd.Qv|apply Kd.Qu|apply Kd.Qy);exact Kd.Q1 (Kd.Qx (Kd.Qx (Kd.Qx (Kd.Q4 μ.out χ.out (by decide)) (fun _ hk=>hk.2) (.int .i64 ((Qc O Z).f0))) (fun _ hk=>hk.2) (.int .i64 ((Qc O Z).f1))) (fun _ hk=>hk.2) (.int .i64 ((Qc O Z).f2))) (fun _ hk=>⟨hk.1.1,hk.1.2⟩)) hg hat);replace Y:=aK (Q0 (g:=ac) (o:=.cells #[.int .i64 B,.int .i64 J] 59 (0,0)) (bka Y) hg (Kd.Zo ν.out Y.out (by decide)));replace γ:=aK (Q0 (g:=ck) (o:=.cells #[.slice (some dd) O.length η,.slice κ X.length θ] 50 (0,0)) (bka γ) hg (Kd.Zo ν.out γ.out (by decide)));replace δ :=aK (Q0 (g:=ae) (o:=.cells #[.slice none 0 0,.slice none 0 0,.slice none 0 0] 34 (0,0)) (bka δ) hg (Kd.Zo ν.out δ.out (by decide)));replace ζ :=aK (Q0 (g:=d8) (o:=.cells #[σ,a5,a6] 34 (0,0)) (bka ζ) hg (Kd.Zo ν.out ζ.out (by decide)));replace χ :=aK (Q0 (g:=dk) (o:=.cells #[.int .i64 ((Qc O Z).f0),.int .i64 ((Qc O Z).f1),.int .i64 ((Qc O Z).f2)] 36 (0,0)) (by(with_reducible repeat first|refine Qm ?_ _|refine Qd ?_|refine Ql ?_ _);refine Qq (cs:=#[.int .i64 ((Qc O Z).f0),.int .i64 ((Qc O Z).f1),.int .i64 0]) ?_ 2 _ rfl;(with_reducible repeat first|refine Qm ?_ _|refine Qd ?_|refine Ql ?_ _);refine Qq (cs:=#[.int .i64 ((Qc O Z).f0),.int .i64 0,.int .i64 0]) ?_ 1 _ rfl;(with_reducible repeat first|refine Qm ?_ _|refine Qd ?_|refine Ql ?_ _);refine Qq (cs:=#[.int .i64 0,.int .i64 0,.int .i64 0]) ?_ 0 _ rfl;(with_reducible repeat first|refine Qm ?_ _|refine Qd ?_|refine Ql ?_ _);exact χ.out) hg (Kd.Zo ν.out χ.out (by decide)));replace HB:=aK hb;clear ν;clear ho hb hg hat;obtain⟨dt,du,e7⟩:=Kd.Q7 gu.out;subst e7;obtain⟨h4,h5,h6,h7,ie,ig⟩:=qD3 ζ.out))
              go_roundg k2
              case measure=>have:=am.out;have:=bn.out;omega
              case rel=>exact⟨(wrap64 (Z+1)),(ψ),(e0),(a5),(.slice dt e0.length du),qR,H',⟨by have:=am.out;have:=bn.out;omega⟩,⟨by(with_reducible repeat first|apply Kd.Qv|apply Kd.Qu|apply Kd.Qy);exact Kd.Q1 (Kd.Qx (Kd.Q4 ε.out ζ.out (by decide)) (fun _ hk=>hk.2) _) (fun _ hk=>⟨hk.1.1,hk.1.2⟩)⟩,⟨by(with_reducible repeat first|apply Kd.Qv|apply Kd.Qu|apply Kd.Qy);exact Kd.Q1 (Kd.Qx (Kd.Q4 μ.out ζ.out (by decide)) (fun _ hk=>hk.2) _) (fun _ hk=>⟨hk.1.1,hk.1.2⟩)⟩,⟨by(with_reducible repeat first|apply Kd.Qv|apply Kd.Qu|apply Kd.Qy);exact Kd.Q1 (Kd.Qx (Kd.Q4 gu.out ζ.out (by decide)) (fun _ hk=>hk.2) _) (fun _ hk=>⟨hk.1.1,hk.1.2⟩)⟩,⟨bka Y⟩,⟨bka γ⟩,⟨bka δ⟩,⟨by(with_reducible repeat first|refine Qm ?_ _|refine Qd ?_|refine Ql ?_ _);refine Qq (cs:=#[σ,a5,a6]) ?_ 2 _ rfl;(with_reducible repeat first|refine Qm ?_ _|refine Qd ?_|refine Ql ?_ _);exact ζ.out⟩,⟨bel⟩⟩
             ·rw[if_neg gt] at H
              exact absurd H (by simp)
           ·rw[if_neg dn] at H
            have c56b0:(((Qc O Z).f2)==a2)=false:=beq_eq_false_iff_ne.mpr dn
            have c56b1:(((Qc O Z).f2) != a2)=true:=bne_iff_ne.mpr dn
            have H':=aK H
            clear H
            have cn:0≤(Z:Int):=of_decide_eq_true (by assumption)
            have co:Z<(O.length:Int):=of_decide_eq_true (by assumption)
            obtain⟨dd,dp,bk,bl,bm⟩:=Xc a0.out Z cn co
            cases dp
            replace bk:=sCl HB bk
            replace bl:=sCl HB bl
            replace bm:=sCl HB bm
            replace cn:=eq_true cn
            replace co:=eq_true co
            go_wp2_with (first|((with_reducible refine Qe (N:=13) rfl ?_);refine qE 13 #[.int .i64 0,.int .i64 0,.int .i64 0] 36 ?_;intro dk hg nw hbox hb;have χ :=aK hbox;have gg:=sGe hg;have gh:=sGe hg;have bw:=sNl Y hg;have bz:=sNg Y hg;have ca:=sNl γ hg;have cb:=sNg γ hg;have cd:=sNl δ hg;have ce:=sNg δ hg;have cf:=sNl ζ hg;have cj:=sNg ζ hg;replace ε :=sRb ε hb;replace μ :=sRb μ hb;replace ν :=sRb ν hb;replace Y:=sBk Y hb;replace γ:=sBk γ hb;replace δ :=sBk δ hb;replace ζ :=sBk ζ hb;replace HB:=sHb hb;clear hb hbox hg;have mt:=bz.out;have n2:=bw.out;have n3:=cb.out;have na:=ca.out;have nb:=ce.out;have nc:=cd.out;have ju:=cj.out;have k4:=cf.out;obtain⟨m1,m2,m3,m4,m5,m6⟩:=qD3 χ.out))
            go_roundg k2
            case measure=>have:=am.out;have:=bn.out;omega
            case rel=>exact⟨(wrap64 (Z+1)),(ψ),(a7),(a5),(a6),qR,H',⟨by have:=am.out;have:=bn.out;omega⟩,⟨by(with_reducible repeat first|apply Kd.Qv|apply Kd.Qu|apply Kd.Qy);exact Kd.Q1 (Kd.Qx (Kd.Qx (Kd.Qx (Kd.Q4 ε.out χ.out (by decide)) (fun _ hk=>hk.2) (.int .i64 ((Qc O Z).f0))) (fun _ hk=>hk.2) (.int .i64 ((Qc O Z).f1))) (fun _ hk=>hk.2) (.int .i64 ((Qc O Z).f2))) (fun _ hk=>⟨hk.1.1,hk.1.2⟩)⟩,⟨by(with_reducible repeat first|apply Kd.Qv|apply Kd.Qu|apply Kd.Qy);exact Kd.Q1 (Kd.Qx (Kd.Qx (Kd.Qx (Kd.Q4 μ.out χ.out (by decide)) (fun _ hk=>hk.2) (.int .i64 ((Qc O Z).f0))) (fun _ hk=>hk.2) (.int .i64 ((Qc O Z).f1))) (fun _ hk=>hk.2) (.int .i64 ((Qc O Z).f2))) (fun _ hk=>⟨hk.1.1,hk.1.2⟩)⟩,⟨by(with_reducible repeat first|apply Kd.Qv|apply Kd.Qu|apply Kd.Qy);exact Kd.Q1 (Kd.Qx (Kd.Qx (Kd.Qx (Kd.Q4 ν.out χ.out (by decide)) (fun _ hk=>hk.2) (.int .i64 ((Qc O Z).f0))) (fun _ hk=>hk.2) (.int .i64 ((Qc O Z).f1))) (fun _ hk=>hk.2) (.int .i64 ((Qc O Z).f2))) (fun _ hk=>⟨hk.1.1,hk.1.2⟩)⟩,⟨bka Y⟩,⟨bka γ⟩,⟨bka δ⟩,⟨bka ζ⟩,⟨bel⟩⟩
          ·rw[if_neg fl] at H
           exact absurd H (by simp)
         ·rw[if_neg fk] at H
          exact absurd H (by simp)
        ·rw[if_neg dq] at H
         have c53b0:=decide_eq_false dq
         clear dq
         simp only[Option.some.injEq,Prod.mk.injEq] at H
         obtain⟨rfl,rfl,rfl,rfl⟩:=H
         have k5:=bq.out
         have k7:=bp.out
         have nf:=b6.out
         have ng:=ax.out
         have ln:=bs.out
         have lp:=br.out
         obtain⟨ma,mb,mc,me,mh,mi⟩:=qD3 ζ.out
         obtain⟨e3,e4,k6⟩:=Kd.Q7 ε.out
         subst k6
         have nh:=aw.out
         have nj:=ak.out
         have nk:=a9.out
         have nl:=a8.out
         obtain⟨ih,ij,io,ip,iv,iw⟩:=qD3 δ.out
         obtain⟨gv,gw,j5⟩:=Kd.Q7 μ.out
         subst j5
         obtain⟨jl,jm,jn⟩:=Kd.Q7 ν.out
         subst jn
         go_wp2
         refine bodyPost_ret (Z9 rfl _ _ ae 34 #[.slice e3 φ.length e4,.slice gv ψ.length gw,.slice jl a7.length jm] (0,0) _ rfl (by refine Qq (cs:=#[.slice e3 φ.length e4,.slice gv ψ.length gw,.slice none 0 0]) ?_ 2 _ rfl;refine Qq (cs:=#[.slice e3 φ.length e4,.slice none 0 0,.slice none 0 0]) ?_ 1 _ rfl;refine Qq (cs:=#[.slice none 0 0,.slice none 0 0,.slice none 0 0]) ?_ 0 _ rfl;exact δ.out) Try.underlying34 rfl kr) rfl ?_
         exact⟨_,_,_,by first|rfl|(simp[Qk,Qj] <;> rfl)|(simp[*,Qk,Qj] <;> rfl),by(with_reducible repeat first|apply Kd.Qv|apply Kd.Qu|apply Kd.Qy);exact Kd.Q1 (Kd.Qx (Kd.Qx (Kd.Qx (Kd.Q4 ε.out δ.out (by decide)) (fun _ hk=>hk.2) _) (fun _ hk=>hk.2) _) (fun _ hk=>hk.2) _) (fun _ hk=>⟨hk.1.1,hk.1.2⟩),by(with_reducible repeat first|apply Kd.Qv|apply Kd.Qu|apply Kd.Qy);exact Kd.Q1 (Kd.Qx (Kd.Qx (Kd.Qx (Kd.Q4 μ.out δ.out (by decide)) (fun _ hk=>hk.2) _) (fun _ hk=>hk.2) _) (fun _ hk=>hk.2) _) (fun _ hk=>⟨hk.1.1,hk.1.2⟩),by(with_reducible repeat first|apply Kd.Qv|apply Kd.Qu|apply Kd.Qy);exact Kd.Q1 (Kd.Qx (Kd.Qx (Kd.Qx (Kd.Q4 ν.out δ.out (by decide)) (fun _ hk=>hk.2) _) (fun _ hk=>hk.2) _) (fun _ hk=>hk.2) _) (fun _ hk=>⟨hk.1.1,hk.1.2⟩),bel⟩
  ·replace c7:=Bool.eq_false_iff.mpr c7
   subst c7
   rw[if_neg nft] at H
   simp only[Option.some.injEq,Prod.mk.injEq] at H
   obtain⟨rfl,rfl,rfl,rfl⟩:=H
   go_enter Try.func24,Try.ntmps24
   go_wp2_with (first|((with_reducible refine Qe (N:=3) rfl ?_);refine qE 3 #[.int .i64 B,.int .i64 J] 59 ?_;intro ac hg np hbox hb;have Y:=aK hbox;have e5:=sGe hg;have e6:=sGe hg;replace HB:=sHb hb;clear hb hbox hg)|((with_reducible refine Qe (N:=4) rfl ?_);refine qE 4 #[.slice ι O.length η,.slice κ X.length θ] 50 ?_;intro ck hg nq hbox hb;have γ:=aK hbox;have ee:=sGe hg;have ep:=sGe hg;have ah:=sNl Y hg;have aj:=sNg Y hg;replace Y:=sBk Y hb;replace HB:=sHb hb;clear hb hbox hg)|((with_reducible refine Qe (N:=6) rfl ?_);refine qE 6 #[.slice none 0 0,.slice none 0 0,.slice none 0 0] 34 ?_;intro ae hg nr hbox hb;have δ :=aK hbox;have f8:=sGe hg;have fa:=sGe hg;have ak:=sNl Y hg;have aw:=sNg Y hg;have a8:=sNl γ hg;have a9:=sNg γ hg;replace Y:=sBk Y hb;replace γ:=sBk γ hb;replace HB:=sHb hb;clear hb hbox hg;have ix:=ah.out;have iy:=aj.out;have j6:=ak.out;have j7:=aw.out;obtain⟨eb,ec,ed,er⟩:=qD2 Y.out;have j8:=a8.out;have jr:=a9.out;obtain⟨k8,kb,kc,kd⟩:=qD2 γ.out)|((with_reducible refine Qf (f:=40) rfl ?_);refine Qt (some 16) rfl rfl Try.func40 kr rfl #[.agg #[.int .i64 B,.int .i64 J],.agg #[.slice ι O.length η,.slice κ X.length θ]] rfl qM ?_;(with_reducible refine(call_Check.calls k B J _ _ O _ _ X bo _ ?side1 ?side2 ?side3 ?side4 A4.out).mono ?_);(case side1=>exact(Kd.Qs a0.out HB.out));(case side2=>exact b3.out);(case side3=>exact(Kd.Qs a1.out HB.out));(case side4=>exact b4.out);rintro e cv ⟨rfl,hb⟩;refine⟨_,rfl, ?_⟩;replace Y:=sBk Y hb;replace γ:=sBk γ hb;replace δ :=sBk δ hb;replace HB:=sHb hb;(try clear hb);(try clear a4);(try clear hk);(try clear hi);obtain⟨kf,kn,ks,kt⟩:=qD2 Y.out)|((with_reducible refine Qf (f:=44) rfl ?_);refine Qt (some 25) rfl rfl Try.func44 kr rfl #[.int .i64 a2,.int .i64 0,.int .i64 (wrap64 (J-1))] rfl qM ?_;(with_reducible refine(call_within.calls a2 0 (wrap64 (J-1)) false _ A6.out).mono ?_);rintro e w' ⟨rfl,⟨nd,rfl⟩⟩;refine⟨_,rfl, ?_⟩;(try(rw[Yw cv];generalize hq_:World.drewN cv _=cv;have ρ:Aside0 (cv.heap[ac]?=some (.cells #[.int .i64 B,.int .i64 J] 59 (0,0))):=⟨by rw[← hq_];exact Y.out⟩;have τ :Aside0 (cv.heap[ck]?=some (.cells #[.slice ι O.length η,.slice κ X.length θ] 50 (0,0))):=⟨by rw[← hq_];exact γ.out⟩;have ω :Aside0 (cv.heap[ae]?=some (.cells #[.slice none 0 0,.slice none 0 0,.slice none 0 0] 34 (0,0))):=⟨by rw[← hq_];exact δ.out⟩;have a3:Aside0 (Below w.heap.size w cv):=⟨by rw[← hq_];exact HB.out⟩;clear Y γ δ HB hq_;have Y:=ρ;have γ:= τ;have δ := ω;have HB:=a3;clear ρ τ ω a3));(try(have iq:cv.cell? ⟨ac,0,none⟩=some (.int .i64 B):=(Qa Y.out 0).trans rfl));(try(have ir:cv.cell? ⟨ac,1,none⟩=some (.int .i64 J):=(Qa Y.out 1).trans rfl));(try(have it:=Qh Y.out 0));(try(have iu:=Qh Y.out 1));obtain⟨ku,kv,ky,kz,l4,l5⟩:=qD3 δ.out))
   refine bodyPost_ret (Z9 rfl _ _ ae 34 #[.slice none 0 0,.slice none 0 0,.slice none 0 0] (0,0) _ rfl (by refine Qq (cs:=#[.slice none 0 0,.slice none 0 0,.slice none 0 0]) ?_ 2 _ rfl;refine Qq (cs:=#[.slice none 0 0,.slice none 0 0,.slice none 0 0]) ?_ 1 _ rfl;refine Qq (cs:=#[.slice none 0 0,.slice none 0 0,.slice none 0 0]) ?_ 0 _ rfl;exact δ.out) Try.underlying34 rfl kr) rfl ?_
   exact⟨_,_,_,by first|rfl|(simp[Qk,Qj] <;> rfl)|(simp[*,Qk,Qj] <;> rfl),by first|exact Kd.Xu _ _ _ _ _|exact Kd.Yg _ _ _ _ _|exact Kd.Yd _ _ _ _ _|exact Kd.Yf _ _ _ _ _|exact Kd.Ye _ _ _ _ _,by first|exact Kd.Xu _ _ _ _ _|exact Kd.Yg _ _ _ _ _|exact Kd.Yd _ _ _ _ _|exact Kd.Yf _ _ _ _ _|exact Kd.Ye _ _ _ _ _,by first|exact Kd.Xu _ _ _ _ _|exact Kd.Yg _ _ _ _ _|exact Kd.Yd _ _ _ _ _|exact Kd.Yf _ _ _ _ _|exact Kd.Ye _ _ _ _ _,bel⟩
 ·rw[if_neg c5] at H
  have c5b0:(bo==0)=false:=beq_eq_false_iff_ne.mpr c5
  have c5b1:(bo != 0)=true:=bne_iff_ne.mpr c5
  simp only[Option.some.injEq,Prod.mk.injEq] at H
  obtain⟨rfl,rfl,rfl,rfl⟩:=H
  go_enter Try.func24,Try.ntmps24
  go_wp2_with (first|((with_reducible refine Qe (N:=3) rfl ?_);refine qE 3 #[.int .i64 B,.int .i64 J] 59 ?_;intro ac hg ou hbox hb;have Y:=aK hbox;have e5:=sGe hg;have e6:=sGe hg;replace HB:=sHb hb;clear hb hbox hg)|((with_reducible refine Qe (N:=4) rfl ?_);refine qE 4 #[.slice ι O.length η,.slice κ X.length θ] 50 ?_;intro ck hg ns hbox hb;have γ:=aK hbox;have ee:=sGe hg;have ep:=sGe hg;have ah:=sNl Y hg;have aj:=sNg Y hg;replace Y:=sBk Y hb;replace HB:=sHb hb;clear hb hbox hg)|((with_reducible refine Qe (N:=6) rfl ?_);refine qE 6 #[.slice none 0 0,.slice none 0 0,.slice none 0 0] 34 ?_;intro ae hg nt hbox hb;have δ :=aK hbox;have f8:=sGe hg;have fa:=sGe hg;have ak:=sNl Y hg;have aw:=sNg Y hg;have a8:=sNl γ hg;have a9:=sNg γ hg;replace Y:=sBk Y hb;replace γ:=sBk γ hb;replace HB:=sHb hb;clear hb hbox hg;have mu:=ah.out;have mw:=aj.out;have my:=ak.out;have mz:=aw.out;obtain⟨ke,kg,kh,ki⟩:=qD2 Y.out;have n0:=a8.out;have n1:=a9.out;obtain⟨l6,l7,lh,ly⟩:=qD2 γ.out)|((with_reducible refine Qf (f:=40) rfl ?_);refine Qt (some 16) rfl rfl Try.func40 kr rfl #[.agg #[.int .i64 B,.int .i64 J],.agg #[.slice ι O.length η,.slice κ X.length θ]] rfl qM ?_;(with_reducible refine(call_Check.calls k B J _ _ O _ _ X bo _ ?side1 ?side2 ?side3 ?side4 A4.out).mono ?_);(case side1=>exact(Kd.Qs a0.out HB.out));(case side2=>exact b3.out);(case side3=>exact(Kd.Qs a1.out HB.out));(case side4=>exact b4.out);rintro e nu ⟨rfl,hb⟩;refine⟨_,rfl, ?_⟩;replace Y:=sBk Y hb;replace γ:=sBk γ hb;replace δ :=sBk δ hb;replace HB:=sHb hb;(try clear hb);(try clear a4);(try clear hk);(try clear hi);obtain⟨kj,kk,lz,kl,km,m0⟩:=qD3 δ.out))
  refine bodyPost_ret (Z9 rfl _ _ ae 34 #[.slice none 0 0,.slice none 0 0,.slice none 0 0] (0,0) _ rfl (by refine Qq (cs:=#[.slice none 0 0,.slice none 0 0,.slice none 0 0]) ?_ 2 _ rfl;refine Qq (cs:=#[.slice none 0 0,.slice none 0 0,.slice none 0 0]) ?_ 1 _ rfl;refine Qq (cs:=#[.slice none 0 0,.slice none 0 0,.slice none 0 0]) ?_ 0 _ rfl;exact δ.out) Try.underlying34 rfl kr) rfl ?_
  exact⟨_,_,_,by first|rfl|(simp[Qk,Qj] <;> rfl)|(simp[*,Qk,Qj] <;> rfl),by first|exact Kd.Xu _ _ _ _ _|exact Kd.Yg _ _ _ _ _|exact Kd.Yd _ _ _ _ _|exact Kd.Yf _ _ _ _ _|exact Kd.Ye _ _ _ _ _,by first|exact Kd.Xu _ _ _ _ _|exact Kd.Yg _ _ _ _ _|exact Kd.Yd _ _ _ _ _|exact Kd.Yf _ _ _ _ _|exact Kd.Ye _ _ _ _ _,by first|exact Kd.Xu _ _ _ _ _|exact Kd.Yg _ _ _ _ _|exact Kd.Yd _ _ _ _ _|exact Kd.Yf _ _ _ _ _|exact Kd.Ye _ _ _ _ _,bel⟩
def group_pick_1.f (k:Nat) (B:Int) (δ :Int) (ε :Int) (ι :Int) (μ :Int) (κ :Int) (ν :Int) (ξ :Int) (ψ :Int) (a1:Int) (a2:Int) (l2:List (S31)) (χ :List (S36)) (φ :List (S86)) (a9:Int) (aa:Int) (ab:Int):Option (Int):=(group_house.f δ ε ι μ κ ν ξ ψ a1 a2 l2).bind fun d8=>((call_View.f k d8.1 d8.2 χ φ B).bind fun bm=>(if 0≤B then (if B<(l2.length:Int) then ((group_cost.f k δ ε ι μ κ ν ξ ψ a1 a2 ((Qb l2 B).f0.f0) ((Qb l2 B).f0.f1) ((Qb l2 B).f0.f2) ((Qb l2 B).f0.f3) ((Qb l2 B).f0.f4.f0) ((Qb l2 B).f0.f4.f1) ((Qb l2 B).f0.f4.f2) ((Qb l2 B).f1) ((Qb l2 B).f2) ((Qb l2 B).f3) bm.1 bm.2.1 bm.2.2.1 a9 aa ab).bind fun bs=>(some bs)) else (none)) else (none)))
theorem group_pick_1.mono:∀ B X a2 a3 O a5 Y a7 a8 a9 Z γ δ ζ ε η θ k,LeO (group_pick_1.f k B X a2 a3 O a5 Y a7 a8 a9 Z γ δ ζ ε η θ) (group_pick_1.f (k+1) B X a2 a3 O a5 Y a7 a8 a9 Z γ δ ζ ε η θ):=by
 intro B X a2 a3 O a5 Y a7 a8 a9 Z γ δ ζ ε η θ k
 unfold group_pick_1.f
 repeat' first|(with_reducible first|apply call_View.mono|apply group_cost.mono|exact LeO.refl _|exact LeO.none _|refine LeO.ite ?_ ?_|refine LeO.bind ?_ (fun _=>?_))|apply call_View.mono|apply group_cost.mono|exact LeO.none _|refine LeO.ite ?_ ?_|refine LeO.bind ?_ (fun _=>?_)
def group_pick_1.T1:Bool×List (List Nat×List Nat):=(true,[([],[]),([],[]),([0,1],[0,1]),([],[]),([],[]),([2,3,4,2],[2,3,4]),([5],[5]),([6],[6]),([6],[6]),([],[]),([9,7,5,0,1,2,3,4,5,6,7,9],[7,9]),([8,10,0,1,2,3,4,5,6,7,8,9,10],[8])])
def group_pick_1.B1:List Nat:=[0,0,3,0,0,31,63,127,127,0,767,2047]
theorem group_pick_1.Kr:rtab .any (opsOf Try.f58 1)=group_pick_1.T1:=by kernel_rfl
theorem group_pick_1.Y6:Zk group_pick_1.T1.2 group_pick_1.B1=true:=by kernel_rfl
def group_pick_1.T2:Bool×List (List Nat×List Nat):=(true,[([],[]),([],[]),([],[]),([1,2],[1,2]),([3],[3]),([],[]),([],[]),([0,4,5,6],[0,4,5,6]),([7,7,0,1,2,3,4,5,6,7],[7])])
def group_pick_1.B2:List Nat:=[0,0,0,6,14,0,0,127,255]
theorem group_pick_1.D7:rtab .any (opsOf Try.f58 2)=group_pick_1.T2:=by kernel_rfl
theorem group_pick_1.Ea:Zk group_pick_1.T2.2 group_pick_1.B2=true:=by kernel_rfl
set_option maxHeartbeats 8000000 in
set_option maxRecDepth 100000 in
theorem group_pick_1.calls (k:Nat) (B:Int) (δ :Int) (ε :Int) (ι :Int) (μ :Int) (κ :Int) (ν :Int) (ξ :Int) (ψ :Int) (a1:Int) (a2:Int) (A2:Option Addr) (c2:Nat) (l2:List (S31)) (a5:Option Addr) (a6:Nat) (χ :List (S36)) (a7:Option Addr) (a8:Nat) (φ :List (S86)) (a9:Int) (aa:Int) (ab:Int) (r:Int) (w:World) (ek:Kd.C k31 w A2 l2.length l2) (e0:l2.length≤c2) (d7:Kd.C k36 w a5 χ.length χ) (de: χ.length≤a6) (df:Kd.C k86 w a7 φ.length φ) (dh: φ.length≤a8) (h:group_pick_1.f k B δ ε ι μ κ ν ξ ψ a1 a2 l2 χ φ a9 aa ab=some r) (Z:Nat) (bj:Nat) (b6:Nat) (bl:Nat) (e3:w.heap[Z]?=some (.cells #[.int .i64 δ,.int .i64 ε,.int .i64 ι,.int .i64 μ,.int .i64 κ,.int .i64 ν,.int .i64 ξ,.int .i64 ψ,.int .i64 a1,.int .i64 a2] 25 (0,0))) (e4:w.heap[bj]?=some (.cells #[.slice A2 l2.length c2] 46 (0,0))) (e5:w.heap[b6]?=some (.cells #[.slice a5 χ.length a6,.slice a7 φ.length a8] 50 (0,0))) (e6:w.heap[bl]?=some (.cells #[.int .i64 a9,.int .i64 aa,.int .i64 ab] 36 (0,0))):
 Calls Try.prog 58 #[.int .i64 B,.pointer (some ⟨Z,0,none⟩),.pointer (some ⟨bj,0,none⟩),.pointer (some ⟨b6,0,none⟩),.pointer (some ⟨bl,0,none⟩)] w fun e w'=>e = .returned (.int .i64 r)∧Below w.heap.size w w':=by
 have J:=aK e3
 clear e3
 have γ:=aK e4
 clear e4
 have Y:=aK e5
 clear e5
 have ζ :=aK e6
 clear e6
 have cg:=Try.underlying25
 have dc:=Try.underlying50
 have ch:=Try.underlying36
 have e9:=Try.underlying34
 have er:=Try.underlying31
 have ea:=aK ek
 have dm:=aK e0
 clear ek e0
 have bk:=aK d7
 have bu:=aK de
 clear d7 de
 have bo:=aK df
 have bv:=aK dh
 clear df dh
 have HB:=aK (Below.refl w.heap.size w)
 have H:((group_house.f δ ε ι μ κ ν ξ ψ a1 a2 l2).bind fun d8=>((call_View.f k d8.1 d8.2 χ φ B).bind fun bm=>(if 0≤B then (if B<(l2.length:Int) then ((group_cost.f k δ ε ι μ κ ν ξ ψ a1 a2 ((Qb l2 B).f0.f0) ((Qb l2 B).f0.f1) ((Qb l2 B).f0.f2) ((Qb l2 B).f0.f3) ((Qb l2 B).f0.f4.f0) ((Qb l2 B).f0.f4.f1) ((Qb l2 B).f0.f4.f2) ((Qb l2 B).f1) ((Qb l2 B).f2) ((Qb l2 B).f3) bm.1 bm.2.1 bm.2.2.1 a9 aa ab).bind fun bs=>(some bs)) else (none)) else (none))))=some r:=h
 clear h
 obtain⟨⟨bp,bq⟩,ao,H⟩:=qO H
 replace H:((call_View.f k bp bq χ φ B).bind fun bm=>(if 0≤B then (if B<(l2.length:Int) then ((group_cost.f k δ ε ι μ κ ν ξ ψ a1 a2 ((Qb l2 B).f0.f0) ((Qb l2 B).f0.f1) ((Qb l2 B).f0.f2) ((Qb l2 B).f0.f3) ((Qb l2 B).f0.f4.f0) ((Qb l2 B).f0.f4.f1) ((Qb l2 B).f0.f4.f2) ((Qb l2 B).f1) ((Qb l2 B).f2) ((Qb l2 B).f3) bm.1 bm.2.1 bm.2.2.1 a9 aa ab).bind fun bs=>(some bs)) else (none)) else (none)))=some r:=H
 have A6:=aK ao
 clear ao
 obtain⟨⟨ai,ae,ag,ca⟩,cr,H⟩:=qO H
 replace H:(if 0≤B then (if B<(l2.length:Int) then ((group_cost.f k δ ε ι μ κ ν ξ ψ a1 a2 ((Qb l2 B).f0.f0) ((Qb l2 B).f0.f1) ((Qb l2 B).f0.f2) ((Qb l2 B).f0.f3) ((Qb l2 B).f0.f4.f0) ((Qb l2 B).f0.f4.f1) ((Qb l2 B).f0.f4.f2) ((Qb l2 B).f1) ((Qb l2 B).f2) ((Qb l2 B).f3) ai ae ag a9 aa ab).bind fun bs=>(some bs)) else (none)) else (none))=some r:=H
 have A7:=aK cr
 clear cr
 by_cases c8:0≤B
 ·rw[if_pos c8] at H
  have c8b0:=decide_eq_true c8
  clear c8
  by_cases c9:B<(l2.length:Int)
  ·rw[if_pos c9] at H
   have c9b0:=decide_eq_true c9
   clear c9
   obtain⟨bs,cd,H⟩:=qO H
   have bn:=aK cd
   clear cd
   obtain rfl:=Option.some.inj H
   go_enter Try.func58,Try.ntmps58
   try go_wp2
   replace J:=aK (Qd J.out)
   replace γ:=aK (Qd γ.out)
   replace Y:=aK (Qd Y.out)
   replace ζ :=aK (Qd ζ.out)
   replace HB:=aK (Qg HB.out)
   refine Ze (n:=12) (S:=fun w'=>w'.cell? ⟨Z,0,none⟩=some (.int .i64 δ)∧w'.cell? ⟨Z,1,none⟩=some (.int .i64 ε)∧w'.cell? ⟨Z,2,none⟩=some (.int .i64 ι)∧w'.cell? ⟨Z,3,none⟩=some (.int .i64 μ)∧w'.cell? ⟨Z,4,none⟩=some (.int .i64 κ)∧w'.cell? ⟨Z,5,none⟩=some (.int .i64 ν)∧w'.cell? ⟨Z,6,none⟩=some (.int .i64 ξ)∧w'.cell? ⟨Z,7,none⟩=some (.int .i64 ψ)∧w'.cell? ⟨Z,8,none⟩=some (.int .i64 a1)∧w'.cell? ⟨Z,9,none⟩=some (.int .i64 a2)∧w'.cell? ⟨bj,0,none⟩=some (.slice A2 l2.length c2)∧w'.cell? ⟨b6,0,none⟩=some (.slice a5 χ.length a6)∧w'.cell? ⟨b6,1,none⟩=some (.slice a7 φ.length a8)) (ds:=[]) #[false,false,false,false,false,false,false,false,false,false,false,false] kr rfl rfl ⟨(Qa J.out 0).trans rfl,(Qa J.out 1).trans rfl,(Qa J.out 2).trans rfl,(Qa J.out 3).trans rfl,(Qa J.out 4).trans rfl,(Qa J.out 5).trans rfl,(Qa J.out 6).trans rfl,(Qa J.out 7).trans rfl,(Qa J.out 8).trans rfl,(Qa J.out 9).trans rfl,(Qa γ.out 0).trans rfl,(Qa Y.out 0).trans rfl,(Qa Y.out 1).trans rfl⟩ (fun hHeld=>?_);refine Q5 group_pick_1.Kr group_pick_1.Y6 (fun HT_ HW_=>?_)
   generalize w.drew=ez at J γ Y ζ HB hHeld ⊢
   refine qP 4 (some 14) (bN 12 16) HT_ ?_
   refine qT 0 (some 10) (bN 12 17) HT_ HW_ hHeld ?_
   refine qT 1 (some 11) (bN 12 19) HT_ HW_ hHeld ?_
   refine qT 3 (some 13) (bN 12 27) HT_ HW_ hHeld ?_
   refine Yu (σ:=Value×Value×Value×Nat) 2 (bN 12 1023) (fun s_=>[(12,.agg #[.int .i64 bp,.int .i64 bq]),(15,.tuple #[.agg #[s_.1,s_.2.1,s_.2.2.1],.int .i64 ca]),(7,.pointer (some ⟨s_.2.2.2,0,none⟩)),(9,.tuple #[.agg #[s_.1,s_.2.1,s_.2.2.1],.int .i64 ca]),(16,.agg #[s_.1,s_.2.1,s_.2.2.1]),(17,.int .i64 ca)]) (fun s_ w'=>(w'.cell? ⟨Z,0,none⟩=some (.int .i64 δ)∧w'.cell? ⟨Z,1,none⟩=some (.int .i64 ε)∧w'.cell? ⟨Z,2,none⟩=some (.int .i64 ι)∧w'.cell? ⟨Z,3,none⟩=some (.int .i64 μ)∧w'.cell? ⟨Z,4,none⟩=some (.int .i64 κ)∧w'.cell? ⟨Z,5,none⟩=some (.int .i64 ν)∧w'.cell? ⟨Z,6,none⟩=some (.int .i64 ξ)∧w'.cell? ⟨Z,7,none⟩=some (.int .i64 ψ)∧w'.cell? ⟨Z,8,none⟩=some (.int .i64 a1)∧w'.cell? ⟨Z,9,none⟩=some (.int .i64 a2)∧w'.cell? ⟨bj,0,none⟩=some (.slice A2 l2.length c2)∧w'.cell? ⟨b6,0,none⟩=some (.slice a5 χ.length a6)∧w'.cell? ⟨b6,1,none⟩=some (.slice a7 φ.length a8))∧(Kd.R (Kd.int .i64) 3 w' w.heap.size (fun k_=>some k_≠(s_.2.1:Value).ownBlock∧some k_≠(s_.2.2.1:Value).ownBlock) s_.1 ai)∧(Kd.R (Kd.int .i64) 3 w' w.heap.size (fun k_=>some k_≠(s_.1:Value).ownBlock∧some k_≠(s_.2.2.1:Value).ownBlock) s_.2.1 ae)∧(Kd.R (Kd.int .i64) 3 w' w.heap.size (fun k_=>some k_≠(s_.1:Value).ownBlock∧some k_≠(s_.2.1:Value).ownBlock) s_.2.2.1 ag)∧(w'.heap[Z]?=some (.cells #[.int .i64 δ,.int .i64 ε,.int .i64 ι,.int .i64 μ,.int .i64 κ,.int .i64 ν,.int .i64 ξ,.int .i64 ψ,.int .i64 a1,.int .i64 a2] 25 (0,0)))∧(w'.heap[bj]?=some (.cells #[.slice A2 l2.length c2] 46 (0,0)))∧(w'.heap[b6]?=some (.cells #[.slice a5 χ.length a6,.slice a7 φ.length a8] 50 (0,0)))∧(w'.heap[bl]?=some (.cells #[.int .i64 a9,.int .i64 aa,.int .i64 ab] 36 (0,0)))∧(w'.heap[s_.2.2.2]?=some (.cells #[.slice none 0 0,.slice none 0 0,.slice none 0 0] 34 (0,0)))∧(w.heap.size≤s_.2.2.2)∧(w.heap.size≤s_.2.2.2)∧(Z≠s_.2.2.2)∧(s_.2.2.2≠Z)∧(bj≠s_.2.2.2)∧(s_.2.2.2≠bj)∧(b6≠s_.2.2.2)∧(s_.2.2.2≠b6)∧(bl≠s_.2.2.2)∧(s_.2.2.2≠bl)∧(Below w.heap.size w w')) ?_ ?_
   rotate_left
   ·intro hCont
    refine Vo (i:=2) (j:=9) (Ni:=some 12) (Nj:=some 7) (bN 12 31) (bN 12 539) rfl rfl rfl rfl (Y9 HT_.out kr) (by decide) (by decide) (fun K hK=>?_) (fun K hK=>?_)
    ·skip
     refine Zd Try.func37 kr rfl #[.agg #[.int .i64 δ,.int .i64 ε,.int .i64 ι,.int .i64 μ,.int .i64 κ,.int .i64 ν,.int .i64 ξ,.int .i64 ψ,.int .i64 a1,.int .i64 a2],.slice A2 l2.length c2] (by rfl) rfl rfl qM ?_
     with_reducible refine(group_house.calls δ ε ι μ κ ν ξ ψ a1 a2 _ _ l2 bp bq _ ?side1 ?side2 A6.out).mono ?_
     (case side1=>exact(Kd.Qs ea.out HB.out))
     (case side2=>exact dm.out)
     rintro e cx ⟨rfl,hb⟩
     refine⟨_,rfl, ?_⟩
     replace J:=sBk J hb
     replace γ:=sBk γ hb
     replace Y:=sBk Y hb
     replace ζ :=sBk ζ hb
     replace HB:=sHb hb
     (try clear hb)
     (try clear a4)
     (try clear hk)
     (try clear hi)
     refine hK.out _ _ ⟨qc J,qc J,qc J,qc J,qc J,qc J,qc J,qc J,qc J,qc J,qc γ,qc Y,qc Y⟩ (fun hHeld=>?_)
     clear hK K
     refine qN (some 12) ?_
     refine Vo (i:=5) (j:=9) (Ni:=some 15) (Nj:=some 7) (bN 12 63) (bN 12 543) rfl rfl rfl rfl (Y9 HT_.out kr) (by decide) (by decide) (fun K hK=>?_) (fun K hK=>?_)
     ·skip
      refine Zd Try.func24 kr rfl #[.agg #[.int .i64 bp,.int .i64 bq],.agg #[.slice a5 χ.length a6,.slice a7 φ.length a8],.int .i64 B] (by rfl) rfl rfl qM ?_
      with_reducible refine(call_View.calls k bp bq _ _ χ _ _ φ B ai ae ag ca _ ?side1 ?side2 ?side3 ?side4 A7.out).mono ?_
      (case side1=>exact(Kd.Qs bk.out HB.out))
      (case side2=>exact bu.out)
      (case side3=>exact(Kd.Qs bo.out HB.out))
      (case side4=>exact bv.out)
      rintro e d1 ⟨cb,bw,bz,rfl,af,ah,ba,hb⟩
      refine⟨_,rfl, ?_⟩
      have ac:=aK (Kd.Q8 af (Qn HB.out))
      have ap:=aK (Kd.Q8 ah (Qn HB.out))
      have ar:=aK (Kd.Q8 ba (Qn HB.out))
      replace J:=sBk J hb
      replace γ:=sBk γ hb
      replace Y:=sBk Y hb
      replace ζ :=sBk ζ hb
      replace HB:=sHb hb
      (try clear hb)
      (try clear a4)
      (try clear hk)
      (try clear hi)
      (try clear af)
      (try clear ah)
      (try clear ba)
      refine hK.out _ _ ⟨qc J,qc J,qc J,qc J,qc J,qc J,qc J,qc J,qc J,qc J,qc γ,qc Y,qc Y⟩ (fun hHeld=>?_)
      clear hK K
      refine qN (some 15) ?_
      refine qP 6 (some 9) (bN 12 127) HT_ ?_
      refine qP 7 (some 16) (bN 12 255) HT_ ?_
      refine qP 8 (some 17) (bN 12 511) HT_ ?_
      refine Zf (i:=9) (N:=some 7) (bN 12 1023) rfl rfl (Q3 HT_.out kr) (by decide) (fun K hK=>?_)
      refine X0 ?hg (N:=7) ?hd (cs:=#[.slice none 0 0,.slice none 0 0,.slice none 0 0]) (t:=34) ?hr ?_;(case hd=>rfl);(case hg=>rfl);(case hr=>go_simp <;> rfl)
      intro O hg ft hbox hb
      have η :=aK hbox
      have ce:=sGe hg
      have ci:=sGe hg
      have X:=sNl J hg
      have au:=sNg J hg
      have al:=sNl γ hg
      have av:=sNg γ hg
      have θ :=sNl Y hg
      have az:=sNg Y hg
      have b0:=sNl ζ hg
      have b2:=sNg ζ hg
      replace ac:=sRb ac hb
      replace ap:=sRb ap hb
      replace ar:=sRb ar hb
      replace J:=sBk J hb
      replace γ:=sBk γ hb
      replace Y:=sBk Y hb
      replace ζ :=sBk ζ hb
      replace HB:=sHb hb
      clear hb hbox hg
      refine hK.out _ _ ⟨qc J,qc J,qc J,qc J,qc J,qc J,qc J,qc J,qc J,qc J,qc γ,qc Y,qc Y⟩ (fun hHeld=>?_)
      clear hK K
      refine qN (some 7) ?_
      exact Zw (by simp only[Q9,Act.put,qS]) (hCont (cb,bw,bz,O) _ ⟨hHeld,ac.out,ap.out,ar.out,J.out,γ.out,Y.out,ζ.out,η.out,ce.out,ci.out,X.out,au.out,al.out,av.out,θ.out,az.out,b0.out,b2.out,HB.out⟩)
     ·skip
      refine X0 ?hg (N:=7) ?hd (cs:=#[.slice none 0 0,.slice none 0 0,.slice none 0 0]) (t:=34) ?hr ?_;(case hd=>rfl);(case hg=>rfl);(case hr=>go_simp <;> rfl)
      intro O hg d1 hbox hb
      have η :=aK hbox
      have ce:=sGe hg
      have ci:=sGe hg
      have X:=sNl J hg
      have au:=sNg J hg
      have al:=sNl γ hg
      have av:=sNg γ hg
      have θ :=sNl Y hg
      have az:=sNg Y hg
      have b0:=sNl ζ hg
      have b2:=sNg ζ hg
      replace J:=sBk J hb
      replace γ:=sBk γ hb
      replace Y:=sBk Y hb
      replace ζ :=sBk ζ hb
      replace HB:=sHb hb
      clear hb hbox hg
      refine hK.out _ _ ⟨qc J,qc J,qc J,qc J,qc J,qc J,qc J,qc J,qc J,qc J,qc γ,qc Y,qc Y⟩ (fun hHeld=>?_)
      clear hK K
      refine qN (some 7) ?_
      refine Zf (i:=5) (N:=some 15) (bN 12 575) rfl rfl (Q3 HT_.out kr) (by decide) (fun K hK=>?_)
      refine Zd Try.func24 kr rfl #[.agg #[.int .i64 bp,.int .i64 bq],.agg #[.slice a5 χ.length a6,.slice a7 φ.length a8],.int .i64 B] (by rfl) rfl rfl qM ?_
      with_reducible refine(call_View.calls k bp bq _ _ χ _ _ φ B ai ae ag ca _ ?side1 ?side2 ?side3 ?side4 A7.out).mono ?_
      (case side1=>exact(Kd.Qs bk.out HB.out))
      (case side2=>exact bu.out)
      (case side3=>exact(Kd.Qs bo.out HB.out))
      (case side4=>exact bv.out)
      rintro e ft ⟨cb,bw,bz,rfl,af,ah,ba,hb⟩
      refine⟨_,rfl, ?_⟩
      have ac:=aK (Kd.Q8 af (Qn HB.out))
      have ap:=aK (Kd.Q8 ah (Qn HB.out))
      have ar:=aK (Kd.Q8 ba (Qn HB.out))
      replace J:=sBk J hb
      replace γ:=sBk γ hb
      replace Y:=sBk Y hb
      replace ζ :=sBk ζ hb
      replace η :=sBk η hb
      replace HB:=sHb hb
      (try clear hb)
      (try clear a4)
      (try clear hk)
      (try clear hi)
      (try clear af)
      (try clear ah)
      (try clear ba)
      refine hK.out _ _ ⟨qc J,qc J,qc J,qc J,qc J,qc J,qc J,qc J,qc J,qc J,qc γ,qc Y,qc Y⟩ (fun hHeld=>?_)
      clear hK K
      refine qN (some 15) ?_
      refine qP 6 (some 9) (bN 12 639) HT_ ?_
      refine qP 7 (some 16) (bN 12 767) HT_ ?_
      refine qP 8 (some 17) (bN 12 1023) HT_ ?_
      exact Zw (by simp only[Q9,Act.put,qS]) (hCont (cb,bw,bz,O) _ ⟨hHeld,ac.out,ap.out,ar.out,J.out,γ.out,Y.out,ζ.out,η.out,ce.out,ci.out,X.out,au.out,al.out,av.out,θ.out,az.out,b0.out,b2.out,HB.out⟩)
    ·skip
     refine X0 ?hg (N:=7) ?hd (cs:=#[.slice none 0 0,.slice none 0 0,.slice none 0 0]) (t:=34) ?hr ?_;(case hd=>rfl);(case hg=>rfl);(case hr=>go_simp <;> rfl)
     intro O hg cx hbox hb
     have η :=aK hbox
     have ce:=sGe hg
     have ci:=sGe hg
     have X:=sNl J hg
     have au:=sNg J hg
     have al:=sNl γ hg
     have av:=sNg γ hg
     have θ :=sNl Y hg
     have az:=sNg Y hg
     have b0:=sNl ζ hg
     have b2:=sNg ζ hg
     replace J:=sBk J hb
     replace γ:=sBk γ hb
     replace Y:=sBk Y hb
     replace ζ :=sBk ζ hb
     replace HB:=sHb hb
     clear hb hbox hg
     refine hK.out _ _ ⟨qc J,qc J,qc J,qc J,qc J,qc J,qc J,qc J,qc J,qc J,qc γ,qc Y,qc Y⟩ (fun hHeld=>?_)
     clear hK K
     refine qN (some 7) ?_
     refine Zf (i:=2) (N:=some 12) (bN 12 543) rfl rfl (Q3 HT_.out kr) (by decide) (fun K hK=>?_)
     refine Zd Try.func37 kr rfl #[.agg #[.int .i64 δ,.int .i64 ε,.int .i64 ι,.int .i64 μ,.int .i64 κ,.int .i64 ν,.int .i64 ξ,.int .i64 ψ,.int .i64 a1,.int .i64 a2],.slice A2 l2.length c2] (by rfl) rfl rfl qM ?_
     with_reducible refine(group_house.calls δ ε ι μ κ ν ξ ψ a1 a2 _ _ l2 bp bq _ ?side1 ?side2 A6.out).mono ?_
     (case side1=>exact(Kd.Qs ea.out HB.out))
     (case side2=>exact dm.out)
     rintro e d1 ⟨rfl,hb⟩
     refine⟨_,rfl, ?_⟩
     replace J:=sBk J hb
     replace γ:=sBk γ hb
     replace Y:=sBk Y hb
     replace ζ :=sBk ζ hb
     replace η :=sBk η hb
     replace HB:=sHb hb
     (try clear hb)
     (try clear a4)
     (try clear hk)
     (try clear hi)
     refine hK.out _ _ ⟨qc J,qc J,qc J,qc J,qc J,qc J,qc J,qc J,qc J,qc J,qc γ,qc Y,qc Y⟩ (fun hHeld=>?_)
     clear hK K
     refine qN (some 12) ?_
     refine Zf (i:=5) (N:=some 15) (bN 12 575) rfl rfl (Q3 HT_.out kr) (by decide) (fun K hK=>?_)
     refine Zd Try.func24 kr rfl #[.agg #[.int .i64 bp,.int .i64 bq],.agg #[.slice a5 χ.length a6,.slice a7 φ.length a8],.int .i64 B] (by rfl) rfl rfl qM ?_
     with_reducible refine(call_View.calls k bp bq _ _ χ _ _ φ B ai ae ag ca _ ?side1 ?side2 ?side3 ?side4 A7.out).mono ?_
     (case side1=>exact(Kd.Qs bk.out HB.out))
     (case side2=>exact bu.out)
     (case side3=>exact(Kd.Qs bo.out HB.out))
     (case side4=>exact bv.out)
     rintro e ft ⟨cb,bw,bz,rfl,af,ah,ba,hb⟩
     refine⟨_,rfl, ?_⟩
     have ac:=aK (Kd.Q8 af (Qn HB.out))
     have ap:=aK (Kd.Q8 ah (Qn HB.out))
     have ar:=aK (Kd.Q8 ba (Qn HB.out))
     replace J:=sBk J hb
     replace γ:=sBk γ hb
     replace Y:=sBk Y hb
     replace ζ :=sBk ζ hb
     replace η :=sBk η hb
     replace HB:=sHb hb
     (try clear hb)
     (try clear a4)
     (try clear hk)
     (try clear hi)
     (try clear af)
     (try clear ah)
     (try clear ba)
     refine hK.out _ _ ⟨qc J,qc J,qc J,qc J,qc J,qc J,qc J,qc J,qc J,qc J,qc γ,qc Y,qc Y⟩ (fun hHeld=>?_)
     clear hK K
     refine qN (some 15) ?_
     refine qP 6 (some 9) (bN 12 639) HT_ ?_
     refine qP 7 (some 16) (bN 12 767) HT_ ?_
     refine qP 8 (some 17) (bN 12 1023) HT_ ?_
     exact Zw (by simp only[Q9,Act.put,qS]) (hCont (cb,bw,bz,O) _ ⟨hHeld,ac.out,ap.out,ar.out,J.out,γ.out,Y.out,ζ.out,η.out,ce.out,ci.out,X.out,au.out,al.out,av.out,θ.out,az.out,b0.out,b2.out,HB.out⟩)
   rintro⟨cb,bw,bz,O⟩ b5 ⟨hS_,bd,bf,bg,bh,bi,cf,d9,da,db,dk,cj,ck,cm,d2,et,eb,ec,ed,ee⟩
   have ρ:Aside0 (Kd.R (Kd.int .i64) 3 b5 w.heap.size (fun k_=>some k_≠(bw:Value).ownBlock∧some k_≠(bz:Value).ownBlock) cb ai):=⟨bd⟩
   have τ :Aside0 (Kd.R (Kd.int .i64) 3 b5 w.heap.size (fun k_=>some k_≠(cb:Value).ownBlock∧some k_≠(bz:Value).ownBlock) bw ae):=⟨bf⟩
   have ω :Aside0 (Kd.R (Kd.int .i64) 3 b5 w.heap.size (fun k_=>some k_≠(cb:Value).ownBlock∧some k_≠(bw:Value).ownBlock) bz ag):=⟨bg⟩
   have a3:Aside0 (b5.heap[Z]?=some (.cells #[.int .i64 δ,.int .i64 ε,.int .i64 ι,.int .i64 μ,.int .i64 κ,.int .i64 ν,.int .i64 ξ,.int .i64 ψ,.int .i64 a1,.int .i64 a2] 25 (0,0))):=⟨bh⟩
   have an:Aside0 (b5.heap[bj]?=some (.cells #[.slice A2 l2.length c2] 46 (0,0))):=⟨bi⟩
   have b1:Aside0 (b5.heap[b6]?=some (.cells #[.slice a5 χ.length a6,.slice a7 φ.length a8] 50 (0,0))):=⟨cf⟩
   have b7:Aside0 (b5.heap[bl]?=some (.cells #[.int .i64 a9,.int .i64 aa,.int .i64 ab] 36 (0,0))):=⟨d9⟩
   have br:Aside0 (b5.heap[O]?=some (.cells #[.slice none 0 0,.slice none 0 0,.slice none 0 0] 34 (0,0))):=⟨da⟩
   have ct:Aside0 (w.heap.size≤O):=⟨db⟩
   have dl:Aside0 (w.heap.size≤O):=⟨dk⟩
   have cn:Aside0 (Z≠O):=⟨cj⟩
   have co:Aside0 (O≠Z):=⟨ck⟩
   have cp:Aside0 (bj≠O):=⟨cm⟩
   have d3:Aside0 (O≠bj):=⟨d2⟩
   have ew:Aside0 (b6≠O):=⟨et⟩
   have ef:Aside0 (O≠b6):=⟨eb⟩
   have eg:Aside0 (bl≠O):=⟨ec⟩
   have eh:Aside0 (O≠bl):=⟨ed⟩
   have ei:Aside0 (Below w.heap.size w b5):=⟨ee⟩
   clear J
   clear γ
   clear Y
   clear ζ
   clear HB
   clear bd bf bg bh bi cf d9 da db dk cj ck cm d2 et eb ec ed ee
   have ac:=ρ
   have ap:= τ
   have ar:= ω
   have J:=a3
   have γ:=an
   have Y:=b1
   have ζ :=b7
   have η :=br
   have ce:=ct
   have ci:=dl
   have X:=cn
   have au:=co
   have al:=cp
   have av:=d3
   have θ :=ew
   have az:=ef
   have b0:=eg
   have b2:=eh
   have HB:=ei
   clear ρ τ ω a3 an b1 b7 br ct dl cn co cp d3 ew ef eg eh ei
   have hHeld:b5.cell? ⟨Z,0,none⟩=some (.int .i64 δ)∧b5.cell? ⟨Z,1,none⟩=some (.int .i64 ε)∧b5.cell? ⟨Z,2,none⟩=some (.int .i64 ι)∧b5.cell? ⟨Z,3,none⟩=some (.int .i64 μ)∧b5.cell? ⟨Z,4,none⟩=some (.int .i64 κ)∧b5.cell? ⟨Z,5,none⟩=some (.int .i64 ν)∧b5.cell? ⟨Z,6,none⟩=some (.int .i64 ξ)∧b5.cell? ⟨Z,7,none⟩=some (.int .i64 ψ)∧b5.cell? ⟨Z,8,none⟩=some (.int .i64 a1)∧b5.cell? ⟨Z,9,none⟩=some (.int .i64 a2)∧b5.cell? ⟨bj,0,none⟩=some (.slice A2 l2.length c2)∧b5.cell? ⟨b6,0,none⟩=some (.slice a5 χ.length a6)∧b5.cell? ⟨b6,1,none⟩=some (.slice a7 φ.length a8):=hS_
   obtain⟨b3,b4,dj⟩:=Kd.Q7 ac.out
   (first|subst dj|(injection dj with aj aw ak;have ax:=aj.symm;have ay:=ak.symm;clear aj aw ak;subst ax;subst ay))
   obtain⟨bb,bc,ej⟩:=Kd.Q7 ap.out
   (first|subst ej|(injection ej with aj aw ak;have ax:=aj.symm;have ay:=ak.symm;clear aj aw ak;subst ax;subst ay))
   obtain⟨b8,b9,dd⟩:=Kd.Q7 ar.out
   (first|subst dd|(injection dd with aj aw ak;have ax:=aj.symm;have ay:=ak.symm;clear aj aw ak;subst ax;subst ay))
   refine Zw (a':=?_) ?_ ?_
   rotate_left
   ·simp only[Q9,Act.put,qS]
    rfl
   refine Zf (i:=10) (N:=none) (bN 12 2047) rfl rfl (Q3 HT_.out kr) (by decide) (fun K hK=>?_)
   have fv:b5.cell? ⟨O,0,none⟩=some (.slice none 0 0):=(Qa η.out 0).trans rfl
   have fq:=Qh η.out 0
   have em:=X.out
   have en:=al.out
   have eo:= θ.out
   have ep:=b0.out
   have eu:=au.out
   have ev:=av.out
   have ey:=az.out
   have f7:=b2.out
   have fw:b5.cell? ⟨O,1,none⟩=some (.slice none 0 0):=(Qa η.out 1).trans rfl
   have fr:=Qh η.out 1
   have f8:=X.out
   have fa:=al.out
   have fb:= θ.out
   have fc:=b0.out
   have fe:=au.out
   have ff:=av.out
   have fg:=az.out
   have fh:=b2.out
   have fx:b5.cell? ⟨O,2,none⟩=some (.slice none 0 0):=(Qa η.out 2).trans rfl
   have fu:=Qh η.out 2
   have fi:=X.out
   have fj:=al.out
   have fk:= θ.out
   have fl:=b0.out
   have fm:=au.out
   have fn:=av.out
   have fo:=az.out
   have fp:=b2.out
   refine Gx (w1:=?_) (by rfl) rfl ?_ ?_
   rotate_left
   ·go_simp
    rfl
   refine hK.out _ _ ⟨((cell_far (p:=⟨O,_,none⟩) X.out _).trans (((cell_far (p:=⟨O,_,none⟩) X.out _).trans (((cell_far (p:=⟨O,_,none⟩) X.out _).trans (hHeld.1)))))),((cell_far (p:=⟨O,_,none⟩) X.out _).trans (((cell_far (p:=⟨O,_,none⟩) X.out _).trans (((cell_far (p:=⟨O,_,none⟩) X.out _).trans (hHeld.2.1)))))),((cell_far (p:=⟨O,_,none⟩) X.out _).trans (((cell_far (p:=⟨O,_,none⟩) X.out _).trans (((cell_far (p:=⟨O,_,none⟩) X.out _).trans (hHeld.2.2.1)))))),((cell_far (p:=⟨O,_,none⟩) X.out _).trans (((cell_far (p:=⟨O,_,none⟩) X.out _).trans (((cell_far (p:=⟨O,_,none⟩) X.out _).trans (hHeld.2.2.2.1)))))),((cell_far (p:=⟨O,_,none⟩) X.out _).trans (((cell_far (p:=⟨O,_,none⟩) X.out _).trans (((cell_far (p:=⟨O,_,none⟩) X.out _).trans (hHeld.2.2.2.2.1)))))),((cell_far (p:=⟨O,_,none⟩) X.out _).trans (((cell_far (p:=⟨O,_,none⟩) X.out _).trans (((cell_far (p:=⟨O,_,none⟩) X.out _).trans (hHeld.2.2.2.2.2.1)))))),((cell_far (p:=⟨O,_,none⟩) X.out _).trans (((cell_far (p:=⟨O,_,none⟩) X.out _).trans (((cell_far (p:=⟨O,_,none⟩) X.out _).trans (hHeld.2.2.2.2.2.2.1)))))),((cell_far (p:=⟨O,_,none⟩) X.out _).trans (((cell_far (p:=⟨O,_,none⟩) X.out _).trans (((cell_far (p:=⟨O,_,none⟩) X.out _).trans (hHeld.2.2.2.2.2.2.2.1)))))),((cell_far (p:=⟨O,_,none⟩) X.out _).trans (((cell_far (p:=⟨O,_,none⟩) X.out _).trans (((cell_far (p:=⟨O,_,none⟩) X.out _).trans (hHeld.2.2.2.2.2.2.2.2.1)))))),((cell_far (p:=⟨O,_,none⟩) X.out _).trans (((cell_far (p:=⟨O,_,none⟩) X.out _).trans (((cell_far (p:=⟨O,_,none⟩) X.out _).trans (hHeld.2.2.2.2.2.2.2.2.2.1)))))),((cell_far (p:=⟨O,_,none⟩) al.out _).trans (((cell_far (p:=⟨O,_,none⟩) al.out _).trans (((cell_far (p:=⟨O,_,none⟩) al.out _).trans (hHeld.2.2.2.2.2.2.2.2.2.2.1)))))),((cell_far (p:=⟨O,_,none⟩) θ.out _).trans (((cell_far (p:=⟨O,_,none⟩) θ.out _).trans (((cell_far (p:=⟨O,_,none⟩) θ.out _).trans (hHeld.2.2.2.2.2.2.2.2.2.2.2.1)))))),((cell_far (p:=⟨O,_,none⟩) θ.out _).trans (((cell_far (p:=⟨O,_,none⟩) θ.out _).trans (((cell_far (p:=⟨O,_,none⟩) θ.out _).trans (hHeld.2.2.2.2.2.2.2.2.2.2.2.2))))))⟩ (fun hHeld=>?_)
   clear hK K
   refine qP 11 (some 8) (bN 12 4095) HT_ ?_
   refine Zi (Zc HT_.out kr) ?_
   try go_wp2
   have ρ:Aside0 (Kd.R (Kd.int .i64) 3 (((b5.setCell ⟨O,0,none⟩ (.slice b3 ai.length b4)).setCell ⟨O,1,none⟩ (.slice bb ae.length bc)).setCell ⟨O,2,none⟩ (.slice b8 ag.length b9)) w.heap.size (fun k_=>some k_≠(.slice bb ae.length bc:Value).ownBlock∧some k_≠(.slice b8 ag.length b9:Value).ownBlock) (.slice b3 ai.length b4) ai):=⟨by(with_reducible repeat first|apply Kd.Qv|apply Kd.Qu|apply Kd.Qy);exact Kd.Q1 (Kd.Qx (Kd.Qx (Kd.Qx (Kd.Q4 ac.out η.out (by decide)) (fun _ hk=>hk.2) _) (fun _ hk=>hk.2) _) (fun _ hk=>hk.2) _) (fun _ hk=>⟨hk.1.1,hk.1.2⟩)⟩
   have τ :Aside0 (Kd.R (Kd.int .i64) 3 (((b5.setCell ⟨O,0,none⟩ (.slice b3 ai.length b4)).setCell ⟨O,1,none⟩ (.slice bb ae.length bc)).setCell ⟨O,2,none⟩ (.slice b8 ag.length b9)) w.heap.size (fun k_=>some k_≠(.slice b3 ai.length b4:Value).ownBlock∧some k_≠(.slice b8 ag.length b9:Value).ownBlock) (.slice bb ae.length bc) ae):=⟨by(with_reducible repeat first|apply Kd.Qv|apply Kd.Qu|apply Kd.Qy);exact Kd.Q1 (Kd.Qx (Kd.Qx (Kd.Qx (Kd.Q4 ap.out η.out (by decide)) (fun _ hk=>hk.2) _) (fun _ hk=>hk.2) _) (fun _ hk=>hk.2) _) (fun _ hk=>⟨hk.1.1,hk.1.2⟩)⟩
   have ω :Aside0 (Kd.R (Kd.int .i64) 3 (((b5.setCell ⟨O,0,none⟩ (.slice b3 ai.length b4)).setCell ⟨O,1,none⟩ (.slice bb ae.length bc)).setCell ⟨O,2,none⟩ (.slice b8 ag.length b9)) w.heap.size (fun k_=>some k_≠(.slice b3 ai.length b4:Value).ownBlock∧some k_≠(.slice bb ae.length bc:Value).ownBlock) (.slice b8 ag.length b9) ag):=⟨by(with_reducible repeat first|apply Kd.Qv|apply Kd.Qu|apply Kd.Qy);exact Kd.Q1 (Kd.Qx (Kd.Qx (Kd.Qx (Kd.Q4 ar.out η.out (by decide)) (fun _ hk=>hk.2) _) (fun _ hk=>hk.2) _) (fun _ hk=>hk.2) _) (fun _ hk=>⟨hk.1.1,hk.1.2⟩)⟩
   have a3:Aside0 ((((b5.setCell ⟨O,0,none⟩ (.slice b3 ai.length b4)).setCell ⟨O,1,none⟩ (.slice bb ae.length bc)).setCell ⟨O,2,none⟩ (.slice b8 ag.length b9)).heap[Z]?=some (.cells #[.int .i64 δ,.int .i64 ε,.int .i64 ι,.int .i64 μ,.int .i64 κ,.int .i64 ν,.int .i64 ξ,.int .i64 ψ,.int .i64 a1,.int .i64 a2] 25 (0,0))):=⟨bka J⟩
   have an:Aside0 ((((b5.setCell ⟨O,0,none⟩ (.slice b3 ai.length b4)).setCell ⟨O,1,none⟩ (.slice bb ae.length bc)).setCell ⟨O,2,none⟩ (.slice b8 ag.length b9)).heap[bj]?=some (.cells #[.slice A2 l2.length c2] 46 (0,0))):=⟨bka γ⟩
   have b1:Aside0 ((((b5.setCell ⟨O,0,none⟩ (.slice b3 ai.length b4)).setCell ⟨O,1,none⟩ (.slice bb ae.length bc)).setCell ⟨O,2,none⟩ (.slice b8 ag.length b9)).heap[b6]?=some (.cells #[.slice a5 χ.length a6,.slice a7 φ.length a8] 50 (0,0))):=⟨bka Y⟩
   have b7:Aside0 ((((b5.setCell ⟨O,0,none⟩ (.slice b3 ai.length b4)).setCell ⟨O,1,none⟩ (.slice bb ae.length bc)).setCell ⟨O,2,none⟩ (.slice b8 ag.length b9)).heap[bl]?=some (.cells #[.int .i64 a9,.int .i64 aa,.int .i64 ab] 36 (0,0))):=⟨bka ζ⟩
   have br:Aside0 ((((b5.setCell ⟨O,0,none⟩ (.slice b3 ai.length b4)).setCell ⟨O,1,none⟩ (.slice bb ae.length bc)).setCell ⟨O,2,none⟩ (.slice b8 ag.length b9)).heap[O]?=some (.cells #[.slice b3 ai.length b4,.slice bb ae.length bc,.slice b8 ag.length b9] 34 (0,0))):=⟨by refine Qq (cs:=#[.slice b3 ai.length b4,.slice bb ae.length bc,.slice none 0 0]) ?_ 2 _ rfl;refine Qq (cs:=#[.slice b3 ai.length b4,.slice none 0 0,.slice none 0 0]) ?_ 1 _ rfl;refine Qq (cs:=#[.slice none 0 0,.slice none 0 0,.slice none 0 0]) ?_ 0 _ rfl;exact η.out⟩
   have ct:Aside0 (Below w.heap.size w (((b5.setCell ⟨O,0,none⟩ (.slice b3 ai.length b4)).setCell ⟨O,1,none⟩ (.slice bb ae.length bc)).setCell ⟨O,2,none⟩ (.slice b8 ag.length b9))):=⟨bel⟩
   (try clear ac)
   (try clear ap)
   (try clear ar)
   (try clear J)
   (try clear γ)
   (try clear Y)
   (try clear ζ)
   (try clear η)
   (try clear HB)
   generalize(((b5.setCell ⟨O,0,none⟩ (.slice b3 ai.length b4)).setCell ⟨O,1,none⟩ (.slice bb ae.length bc)).setCell ⟨O,2,none⟩ (.slice b8 ag.length b9))=ij at ρ τ ω a3 an b1 b7 br ct ⊢
   have ac:=ρ
   have ap:= τ
   have ar:= ω
   have J:=a3
   have γ:=an
   have Y:=b1
   have ζ :=b7
   have η :=br
   have HB:=ct
   clear ρ τ ω a3 an b1 b7 br ct
   replace ac:=aK (Kd.Qy ac.out)
   replace ap:=aK (Kd.Qy ap.out)
   replace ar:=aK (Kd.Qy ar.out)
   replace J:=aK (Qd J.out)
   replace γ:=aK (Qd γ.out)
   replace Y:=aK (Qd Y.out)
   replace ζ :=aK (Qd ζ.out)
   replace η :=aK (Qd η.out)
   replace HB:=aK (Qg HB.out)
   have e7:0≤(B:Int):=of_decide_eq_true (by assumption)
   have e8:B<(l2.length:Int):=of_decide_eq_true (by assumption)
   obtain⟨am,el,cq,cu,cv,cw,cy,cz,d0,d4,d5,d6⟩:=Yy ea.out B e7 e8
   have dn:=d6
   have dp:=d5
   have dq:=d4
   have dr:=d0
   have dt:=cz
   have dv:=cy
   have dw:=cw
   have dx:=cv
   have dy:=cu
   have dz:=cq
   cases el
   replace cq:=sCl HB cq
   replace cu:=sCl HB cu
   replace cv:=sCl HB cv
   replace cw:=sCl HB cw
   replace cy:=sCl HB cy
   replace cz:=sCl HB cz
   replace d0:=sCl HB d0
   replace d4:=sCl HB d4
   replace d5:=sCl HB d5
   replace d6:=sCl HB d6
   replace e7:=eq_true e7
   replace e8:=eq_true e8
   refine Ze (n:=9) (S:=fun w'=>w'.cell? ⟨Z,0,none⟩=some (.int .i64 δ)∧w'.cell? ⟨Z,1,none⟩=some (.int .i64 ε)∧w'.cell? ⟨Z,2,none⟩=some (.int .i64 ι)∧w'.cell? ⟨Z,3,none⟩=some (.int .i64 μ)∧w'.cell? ⟨Z,4,none⟩=some (.int .i64 κ)∧w'.cell? ⟨Z,5,none⟩=some (.int .i64 ν)∧w'.cell? ⟨Z,6,none⟩=some (.int .i64 ξ)∧w'.cell? ⟨Z,7,none⟩=some (.int .i64 ψ)∧w'.cell? ⟨Z,8,none⟩=some (.int .i64 a1)∧w'.cell? ⟨Z,9,none⟩=some (.int .i64 a2)∧w'.cell? ⟨bj,0,none⟩=some (.slice (some am) l2.length c2)∧w'.cell? ⟨O,0,none⟩=some (.slice b3 ai.length b4)∧w'.cell? ⟨O,1,none⟩=some (.slice bb ae.length bc)∧w'.cell? ⟨O,2,none⟩=some (.slice b8 ag.length b9)∧w'.cell? ⟨bl,0,none⟩=some (.int .i64 a9)∧w'.cell? ⟨bl,1,none⟩=some (.int .i64 aa)∧w'.cell? ⟨bl,2,none⟩=some (.int .i64 ab)∧w'.cell? (am.add ((B).toNat * 10))=some (.int .i64 ((Qb l2 B).f0.f0))∧w'.cell? ⟨(am.add ((B).toNat * 10)).block,(am.add ((B).toNat * 10)).off+1,none⟩=some (.int .i64 ((Qb l2 B).f0.f1))∧w'.cell? ⟨(am.add ((B).toNat * 10)).block,(am.add ((B).toNat * 10)).off+2,none⟩=some (.int .i64 ((Qb l2 B).f0.f2))∧w'.cell? ⟨(am.add ((B).toNat * 10)).block,(am.add ((B).toNat * 10)).off+3,none⟩=some (.int .i64 ((Qb l2 B).f0.f3))∧w'.cell? ⟨(am.add ((B).toNat * 10)).block,(am.add ((B).toNat * 10)).off+4,none⟩=some (.int .i64 ((Qb l2 B).f0.f4.f0))∧w'.cell? ⟨(am.add ((B).toNat * 10)).block,(am.add ((B).toNat * 10)).off+5,none⟩=some (.int .i64 ((Qb l2 B).f0.f4.f1))∧w'.cell? ⟨(am.add ((B).toNat * 10)).block,(am.add ((B).toNat * 10)).off+6,none⟩=some (.int .i64 ((Qb l2 B).f0.f4.f2))∧w'.cell? ⟨(am.add ((B).toNat * 10)).block,(am.add ((B).toNat * 10)).off+7,none⟩=some (.int .i64 ((Qb l2 B).f1))∧w'.cell? ⟨(am.add ((B).toNat * 10)).block,(am.add ((B).toNat * 10)).off+8,none⟩=some (.bool ((Qb l2 B).f2))∧w'.cell? ⟨(am.add ((B).toNat * 10)).block,(am.add ((B).toNat * 10)).off+9,none⟩=some (.bool ((Qb l2 B).f3))) (ds:=[]) #[false,false,false,false,false,false,false,false,false] kr rfl rfl ⟨(Qa J.out 0).trans rfl,(Qa J.out 1).trans rfl,(Qa J.out 2).trans rfl,(Qa J.out 3).trans rfl,(Qa J.out 4).trans rfl,(Qa J.out 5).trans rfl,(Qa J.out 6).trans rfl,(Qa J.out 7).trans rfl,(Qa J.out 8).trans rfl,(Qa J.out 9).trans rfl,(Qa γ.out 0).trans rfl,(Qa η.out 0).trans rfl,(Qa η.out 1).trans rfl,(Qa η.out 2).trans rfl,(Qa ζ.out 0).trans rfl,(Qa ζ.out 1).trans rfl,(Qa ζ.out 2).trans rfl,(sCl HB dz),(sCl HB dy),(sCl HB dx),(sCl HB dw),(sCl HB dv),(sCl HB dt),(sCl HB dr),(sCl HB dq),(sCl HB dp),(sCl HB dn)⟩ (fun hHeld=>?_);refine Q5 group_pick_1.D7 group_pick_1.Ea (fun HT_ HW_=>?_)
   generalize ij.drew=di at ac ap ar J γ Y ζ η HB cq cu cv cw cy cz d0 d4 d5 d6 hHeld ⊢
   refine qP 2 (some 20) (bN 9 4) HT_ ?_
   refine qT 0 (some 18) (bN 9 5) HT_ HW_ hHeld ?_
   refine qT 1 (some 19) (bN 9 7) HT_ HW_ hHeld ?_
   refine qP 3 (some 21) (bN 9 15) HT_ ?_
   refine qT 4 (some 22) (bN 9 31) HT_ HW_ hHeld ?_
   refine qT 5 (some 23) (bN 9 63) HT_ HW_ hHeld ?_
   refine qT 6 (some 24) (bN 9 127) HT_ HW_ hHeld ?_
   refine Zf (i:=7) (N:=some 25) (bN 9 255) rfl rfl (Q3 HT_.out kr) (by decide) (fun K hK=>?_)
   refine Zd Try.func31 kr rfl #[.agg #[.int .i64 δ,.int .i64 ε,.int .i64 ι,.int .i64 μ,.int .i64 κ,.int .i64 ν,.int .i64 ξ,.int .i64 ψ,.int .i64 a1,.int .i64 a2],.agg #[.int .i64 ((Qb l2 B).f0.f0),.int .i64 ((Qb l2 B).f0.f1),.int .i64 ((Qb l2 B).f0.f2),.int .i64 ((Qb l2 B).f0.f3),.int .i64 ((Qb l2 B).f0.f4.f0),.int .i64 ((Qb l2 B).f0.f4.f1),.int .i64 ((Qb l2 B).f0.f4.f2),.int .i64 ((Qb l2 B).f1),.bool ((Qb l2 B).f2),.bool ((Qb l2 B).f3)],.agg #[.slice b3 ai.length b4,.slice bb ae.length bc,.slice b8 ag.length b9],.agg #[.int .i64 a9,.int .i64 aa,.int .i64 ab]] (by rfl) rfl rfl qM ?_
   with_reducible refine(group_cost.calls k δ ε ι μ κ ν ξ ψ a1 a2 ((Qb l2 B).f0.f0) ((Qb l2 B).f0.f1) ((Qb l2 B).f0.f2) ((Qb l2 B).f0.f3) ((Qb l2 B).f0.f4.f0) ((Qb l2 B).f0.f4.f1) ((Qb l2 B).f0.f4.f2) ((Qb l2 B).f1) ((Qb l2 B).f2) ((Qb l2 B).f3) _ _ ai _ _ ae _ _ ag a9 aa ab bs _ ?side1 ?side2 ?side3 ?side4 ?side5 ?side6 bn.out).mono ?_
   (case side1=>exact(Kd.Qw ac.out).2.2)
   (case side2=>exact(Kd.Qw ac.out).2.1)
   (case side3=>exact(Kd.Qw ap.out).2.2)
   (case side4=>exact(Kd.Qw ap.out).2.1)
   (case side5=>exact(Kd.Qw ar.out).2.2)
   (case side6=>exact(Kd.Qw ar.out).2.1)
   rintro e du ⟨rfl,hb⟩
   refine⟨_,rfl, ?_⟩
   replace ac:=sRb ac hb
   replace ap:=sRb ap hb
   replace ar:=sRb ar hb
   replace J:=sBk J hb
   replace γ:=sBk γ hb
   replace Y:=sBk Y hb
   replace ζ :=sBk ζ hb
   replace η :=sBk η hb
   replace HB:=sHb hb
   (try clear hb)
   (try clear a4)
   (try clear hk)
   (try clear hi)
   refine hK.out _ _ ⟨qc J,qc J,qc J,qc J,qc J,qc J,qc J,qc J,qc J,qc J,qc γ,qc η,qc η,qc η,qc ζ,qc ζ,qc ζ,(sCl HB dz),(sCl HB dy),(sCl HB dx),(sCl HB dw),(sCl HB dv),(sCl HB dt),(sCl HB dr),(sCl HB dq),(sCl HB dp),(sCl HB dn)⟩ (fun hHeld=>?_)
   clear hK K
   refine qN (some 25) ?_
   refine qP 8 (some 6) (bN 9 511) HT_ ?_
   refine Zi (Zc HT_.out kr) ?_
   try go_wp2
   go_ret
   exact⟨rfl,HB.out⟩
  ·rw[if_neg c9] at H
   exact absurd H (by simp)
 ·rw[if_neg c8] at H
  exact absurd H (by simp)
end Go.Proofs.Ytmfffemidlhcpaa.C
namespace Go.Proofs.Ytmfffemidlhcpaa.Call
open Go.RowKit Go.Proofs.YtmfffemidlhcpaaW.PrintWords Go.Proofs.YtmfffemidlhcpaaW.PrintLast Go.Proofs.YtmfffemidlhcpaaW.PrintMore Go.Proofs.Ytmfffemidlhcpaa.C
set_option linter.unusedVariables false
set_option linter.unusedSimpArgs false
def X3 (c:Int) (I:List Ins):List Int:=(I.filter (fun x=>decide (x.f0=c))).map (·.f1)
def Xp (c:Int) (H:List Hall):List Int:=(H.filter (fun x=>decide (x.f2=c∧x.f1>0))).map (·.f0)
def Xq (c:Int) (H:List Hall):List Int:=(H.filter (fun x=>decide (x.f2=c ∧ ¬ x.f1>0))).map (·.f0)
theorem Ek (c:Int) (H:List Hall) (V:List Int) (hm:H.length<900000000) (j:Nat):∀ (f i:Nat) (U D:List Int),i+j=H.length→j<f→U.length≤i→D.length≤i →
 call_View.l1 f c H (H.length:Int) (i:Int) V U D=some (V,U++Xp c (H.drop i),D++Xq c (H.drop i),0):=by
 induction j with
 |zero=>
  intro f i U D hi hf hU hD
  obtain⟨f,rfl⟩:∃ f',f=f'+1:=⟨f-1,by omega⟩
  unfold call_View.l1
  rw[if_neg (by omega),List.drop_eq_nil_of_le (by omega)]
  simp[Xp,Xq]
 |succ j ih=>
  intro f i U D hi hf hU hD
  obtain⟨f,rfl⟩:∃ f',f=f'+1:=⟨f-1,by omega⟩
  have h1:i<H.length:=by omega
  unfold call_View.l1
  rw[if_pos (by omega),if_pos (by omega),if_pos (by omega),Jw H i h1,show wrap64 ((i:Int)+1)=((i+1:Nat):Int) from by unfold wrap64;omega,List.drop_eq_getElem_cons h1]
  by_cases hc:H[i].f2=c
  ·rw[if_pos hc]
   by_cases hd:H[i].f1>0
   ·rw[if_pos hd,if_pos (by omega),ih f (i+1) _ D (by omega) (by omega) (by simp;omega) (by omega)]
    have e1:Xp c (H[i] :: H.drop (i+1))=H[i].f0 :: Xp c (H.drop (i+1)):=by
     unfold Xp;rw[List.filter_cons_of_pos (by exact decide_eq_true ⟨hc,hd⟩)];rfl
    have e2:Xq c (H[i] :: H.drop (i+1))=Xq c (H.drop (i+1)):=by
     unfold Xq;rw[List.filter_cons_of_neg (by rw[decide_eq_true_eq];exact fun h=>h.2 hd)]
    rw[e1,e2,List.append_assoc]
    rfl
   ·rw[if_neg hd,if_pos (by omega),ih f (i+1) U _ (by omega) (by omega) (by omega) (by simp;omega)]
    have e1:Xp c (H[i] :: H.drop (i+1))=Xp c (H.drop (i+1)):=by
     unfold Xp;rw[List.filter_cons_of_neg (by rw[decide_eq_true_eq];exact fun h=>hd h.2)]
    have e2:Xq c (H[i] :: H.drop (i+1))=H[i].f0 :: Xq c (H.drop (i+1)):=by
     unfold Xq;rw[List.filter_cons_of_pos (by exact decide_eq_true ⟨hc,hd⟩)];rfl
    rw[e1,e2,List.append_assoc D]
    rfl
  ·rw[if_neg hc,ih f (i+1) U D (by omega) (by omega) (by omega) (by omega)]
   have e1:Xp c (H[i] :: H.drop (i+1))=Xp c (H.drop (i+1)):=by
    unfold Xp;rw[List.filter_cons_of_neg (by rw[decide_eq_true_eq];exact fun h=>hc h.1)]
   have e2:Xq c (H[i] :: H.drop (i+1))=Xq c (H.drop (i+1)):=by
    unfold Xq;rw[List.filter_cons_of_neg (by rw[decide_eq_true_eq];exact fun h=>hc h.1)]
   rw[e1,e2]
theorem El (c:Int) (H:List Hall) (I:List Ins) (J:List Ins) (hm:H.length<900000000) (hI:I.length<900000000) (j:Nat):∀ (f i:Nat) (V:List Int),i+j=I.length→j+H.length+1<f→V.length≤i →
 call_View.l0 f c I (I.length:Int) (i:Int) H J V=some (V++X3 c (I.drop i),Xp c H,Xq c H,0):=by
 induction j with
 |zero=>
  intro f i V hi hf hV
  obtain⟨f,rfl⟩:∃ f',f=f'+1:=⟨f-1,by omega⟩
  unfold call_View.l0
  rw[if_neg (by omega),List.drop_eq_nil_of_le (by omega)]
  have:=Ek c H V hm H.length f 0 [] [] (by omega) (by omega) (by simp) (by simp)
  rw[List.drop_zero] at this
  simpa[X3] using this
 |succ j ih=>
  intro f i V hi hf hV
  obtain⟨f,rfl⟩:∃ f',f=f'+1:=⟨f-1,by omega⟩
  have h1:i<I.length:=by omega
  unfold call_View.l0
  rw[if_pos (by omega),if_pos (by omega),if_pos (by omega),Jv I i h1,show wrap64 ((i:Int)+1)=((i+1:Nat):Int) from by unfold wrap64;omega,List.drop_eq_getElem_cons h1]
  by_cases hc:I[i].f0=c
  ·rw[if_pos hc,if_pos (by omega),ih f (i+1) _ (by omega) (by omega) (by simp;omega)]
   have e1:X3 c (I[i] :: I.drop (i+1))=I[i].f1 :: X3 c (I.drop (i+1)):=by
    unfold X3;rw[List.filter_cons_of_pos (by exact decide_eq_true hc)];rfl
   rw[e1,List.append_assoc]
   rfl
  ·rw[if_neg hc,ih f (i+1) V (by omega) (by omega) (by omega)]
   have e1:X3 c (I[i] :: I.drop (i+1))=X3 c (I.drop (i+1)):=by
    unfold X3;rw[List.filter_cons_of_neg (by rw[decide_eq_true_eq];exact hc)]
   rw[e1]
theorem Li (k:Nat) (F C:Int) (H:List Hall) (I:List Ins) (c:Int) (hH:H.length<900000000) (hI:I.length<900000000) (hC:i64 C) (hk:H.length+I.length+3<k):
 call_View.f k F C H I c=some (if okB F C H I=true then (if 0≤c∧c≤C-1 then (X3 c I,Xp c H,Xq c H,0) else ([],[],[],191)) else ([],[],[],190)):=by
 unfold call_View.f
 obtain⟨k,rfl⟩:∃ k',k=k'+1:=⟨k-1,by omega⟩
 rw[Ym k F C H I hH hI hC,Xj]
 cases hok:okB F C H I
 ·simp
 ·obtain⟨hF,B,_⟩:=Yl.1 hok
  rw[Uu C (by omega)]
  have:=El c H I I hH hI I.length (k+1) 0 [] (by omega) (by omega) (by simp)
  rw[List.drop_zero] at this
  rw[show((0:Nat):Int)=0 from rfl] at this
  simp only[Option.bind_some,if_true,decide_eq_true_eq]
  by_cases hc:0≤c∧c≤C-1
  ·rw[if_pos hc,if_pos hc,this]
   rfl
  ·rw[if_neg hc,if_neg hc]
theorem Wv (c:Int) (H:List Hall) (I:List Ins) (V:List Int) (hm:H.length<100000000) (hd:∀ x ∈ H,x.f1=1∨x.f1 = -1) (j:Nat):∀ (f i:Nat) (U D:List Int),i+j=H.length→2 * j<f→U.length≤i→D.length≤i →
 newelref19_View.l1 f c (i:Int) H I V U D=some (V,U++Xp c (H.drop i),D++Xq c (H.drop i)):=by
 induction j with
 |zero=>
  intro f i U D hi hf hU hD
  obtain⟨f,rfl⟩:∃ m,f=m+1:=⟨f-1,by omega⟩
  simp only[newelref19_View.l1]
  rw[if_neg (by omega),List.drop_of_length_le (by omega)]
  simp[Xp,Xq]
 |succ j ih=>
  intro f i U D hi hf hU hD
  obtain⟨f,rfl⟩:∃ m,f=m+2:=⟨f-2,by omega⟩
  have ha:i<H.length:=by omega
  have hy:=hd _ (List.getElem_mem ha)
  have ei:wrap64 ((i:Int)+1)=((i+1:Nat):Int):=by unfold wrap64;omega
  have B:=fun U D h1 O=>ih f (i+1) U D (by omega) (by omega) h1 O
  have step:newelref19_View.l1 (f+2) c (i:Int) H I V U D=if (i:Int)<(H.length:Int) then (if 0≤(i:Int) then (if ((Qc H (i:Int)).f2)=c then (newelref19_View.j2 (f+1) c (i:Int) (((Qc H (i:Int)).f1)==1) H I V U D ((Qc H (i:Int)).f0) ((Qc H (i:Int)).f1) ((Qc H (i:Int)).f2)) else (newelref19_View.j2 (f+1) c (i:Int) false H I V U D ((Qc H (i:Int)).f0) ((Qc H (i:Int)).f1) ((Qc H (i:Int)).f2))) else (none)) else (some (V,U,D)):=by
   conv=>lhs;unfold newelref19_View.l1
  rw[step,if_pos (by omega),if_pos (by omega),Jw H i ha,List.drop_eq_getElem_cons ha]
  generalize H[i]=y at *
  unfold Xp Xq
  by_cases Y:y.f2=c
  ·rw[if_pos Y]
   rcases hy with h1|h1
   ·rw[List.filter_cons_of_pos (by simp[Y,h1]),List.filter_cons_of_neg (by simp[h1]),h1]
    simp only[newelref19_View.j2,beq_self_eq_true,if_true]
    rw[if_pos (by omega)]
    simp only[Option.bind_some]
    rw[if_pos Y,if_neg (by decide),ei,B _ _ (by simp;omega) (by omega)]
    simp[Xp,Xq]
   ·rw[List.filter_cons_of_neg (by simp[h1]),List.filter_cons_of_pos (by simp[Y,h1]),h1]
    have e:((-1:Int)==1)=false:=by decide
    simp only[newelref19_View.j2,e,Bool.false_eq_true,if_false,eq_self,if_true]
    rw[if_pos Y,if_pos (by omega),ei,B _ _ (by omega) (by simp;omega)]
    simp[Xp,Xq]
  ·rw[if_neg Y,List.filter_cons_of_neg (by simp[Y]),List.filter_cons_of_neg (by simp[Y])]
   simp only[newelref19_View.j2,Bool.false_eq_true,if_false]
   rw[if_neg Y,ei,B _ _ (by omega) (by omega)]
   rfl
theorem Ww (c:Int) (H:List Hall) (I:List Ins) (hm:H.length<100000000) (hI:I.length<100000000) (hd:∀ x ∈ H,x.f1=1∨x.f1 = -1) (j:Nat):∀ (f i:Nat) (V:List Int),i+j=I.length→j+2 * H.length+1<f→V.length≤i →
 newelref19_View.l0 f c (i:Int) H I V=some (V++X3 c (I.drop i),Xp c H,Xq c H):=by
 induction j with
 |zero=>
  intro f i V hi hf hV
  obtain⟨f,rfl⟩:∃ m,f=m+1:=⟨f-1,by omega⟩
  have h1:=Wv c H I V hm hd H.length f 0 [] [] (by omega) (by omega) (by simp) (by simp)
  simp only[List.drop_zero,List.nil_append] at h1
  simp only[newelref19_View.l0]
  rw[if_neg (by omega),List.drop_of_length_le (by omega)]
  refine h1.trans ?_
  simp[X3]
 |succ j ih=>
  intro f i V hi hf hV
  obtain⟨f,rfl⟩:∃ m,f=m+1:=⟨f-1,by omega⟩
  have ha:i<I.length:=by omega
  have ei:wrap64 ((i:Int)+1)=((i+1:Nat):Int):=by unfold wrap64;omega
  simp only[newelref19_View.l0]
  rw[if_pos (by omega),if_pos (by omega),Jv I i ha,List.drop_eq_getElem_cons ha]
  generalize I[i]=y at *
  unfold X3
  by_cases Y:y.f0=c
  ·rw[if_pos Y,if_pos (by omega),ei,ih f (i+1) _ (by omega) (by omega) (by simp;omega),List.filter_cons_of_pos (by simp[Y])]
   simp[X3]
  ·rw[if_neg Y,ei,ih f (i+1) _ (by omega) (by omega) (by omega),List.filter_cons_of_neg (by simp[Y])]
   rfl
theorem Wx {F C:Int} {H:List Hall} {I:List Ins} (hok:okB F C H I=true) (c:Int) (k:Nat) (hm:H.length<100000000) (hI:I.length<100000000) (hk:I.length+2 * H.length+1<k):newelref19_View.f k H I c=some (X3 c I,Xp c H,Xq c H):=by
 obtain⟨hF,hC,⟨h1,_⟩,_⟩:=Yl.1 hok
 unfold newelref19_View.f
 have:=Ww c H I hm hI (fun x hx=>((G4 hF hC).1 (h1 x hx)).1) I.length k 0 [] (by omega) hk (by simp)
 simpa using this
theorem W6 (H:List Hall) (I:List Ins):newelref19_Few.f H I=some false∨(newelref19_Few.f H I=some true∧H.length≤130∧I.length≤520):=by
 unfold newelref19_Few.f
 by_cases h1:(H.length:Int)≤130
 ·rw[if_pos h1]
  by_cases O:(I.length:Int)≤520
  ·exact .inr ⟨by rw[decide_eq_true O],by omega,by omega⟩
  ·exact .inl (by rw[decide_eq_false O])
 ·rw[if_neg h1];exact .inl rfl
end Go.Proofs.Ytmfffemidlhcpaa.Call
