/- What this law's functions come to, walked; what that is, in plain Lean. No conditions of its own. -/
import Derived.Test.YtmfffemidlhcpaaQGroupSpreads5
set_option linter.unusedSimpArgs false
set_option linter.unusedVariables false
set_option maxHeartbeats 8000000
set_option maxRecDepth 100000
namespace Go.Proofs.Ytmfffemidlhcpaa.C
open Go.RowKit Go.Proofs.YtmfffemidlhcpaaW.PrintWords Go.Proofs.YtmfffemidlhcpaaW.PrintLast Go.Proofs.YtmfffemidlhcpaaW.PrintMore
attribute [local go_sem] Z2 Z0 Xb Xa Zt Zs Z1 Zz
mutual
def newelref21_Check.j0:Nat→List (S31)→Bool→Int→Int→Int→Int→Int→Int→Int→Int→Int→Int→List (S36)→List (S86)→Option (Int)
 |0,_,_,_,_,_,_,_,_,_,_,_,_,_,_=>none
 |k+1,J,B,O,Y,Z,γ,δ,ε,ζ,η,θ,ι,κ,μ =>if B=true then (some 210) else (newelref21_Check.l0 k J 0 O Y Z γ δ ε ζ η θ ι κ μ)
def newelref21_Check.l0:Nat→List (S31)→Int→Int→Int→Int→Int→Int→Int→Int→Int→Int→Int→List (S36)→List (S86)→Option (Int)
 |0,_,_,_,_,_,_,_,_,_,_,_,_,_,_=>none
 |k+1,J,X,O,Y,Z,γ,δ,ε,ζ,η,θ,ι,κ,μ =>if X<(J.length:Int) then (if 0≤X then ((newelref21_Lift.f k O Y Z γ δ ε ζ η θ ι ((Qc J X).f0.f0) ((Qc J X).f0.f1) ((Qc J X).f0.f2) ((Qc J X).f0.f3) ((Qc J X).f0.f4.f0) ((Qc J X).f0.f4.f1) ((Qc J X).f0.f4.f2) ((Qc J X).f1) ((Qc J X).f2) ((Qc J X).f3)).bind fun ay=>(if ay=true then (newelref21_Check.l0 k J (wrap64 (X+1)) O Y Z γ δ ε ζ η θ ι κ μ) else (some 210))) else (none)) else ((newelref21_House.f O Y Z γ δ ε ζ η θ ι J).bind fun B=>((newelref19_May.f k B.1 B.2 κ μ).bind fun ax=>(if ax=true then (some 0) else (some 190))))
end
def newelref21_Check.f (k:Nat) (B:Int) (J:Int) (O:Int) (Y:Int) (Z:Int) (γ:Int) (δ :Int) (ε :Int) (θ :Int) (η :Int) (l1:List (S31)) (σ:List (S36)) (τ :List (S86)):Option (Int):=if (l1.length:Int)<1 then (newelref21_Check.j0 k l1 true B J O Y Z γ δ ε θ η σ τ) else (newelref21_Check.j0 k l1 (decide ((l1.length:Int)>8)) B J O Y Z γ δ ε θ η σ τ)
theorem newelref21_Check.calls (k:Nat) (B:Int) (J:Int) (O:Int) (Y:Int) (Z:Int) (γ:Int) (δ :Int) (ε :Int) (θ :Int) (η :Int) (A1:Option Addr) (c1:Nat) (l1:List (S31)) (aa:Option Addr) (ab:Nat) (σ:List (S36)) (ac:Option Addr) (ae:Nat) (τ :List (S86)) (r:Int) (w:World) (ct:Kd.C k31 w A1 l1.length l1) (ch:l1.length≤c1) (ao:Kd.C k36 w aa σ.length σ) (ap:σ.length≤ab) (ar:Kd.C k86 w ac τ.length τ) (b5: τ.length≤ae) (h:newelref21_Check.f k B J O Y Z γ δ ε θ η l1 σ τ = some r):
 Calls Try.prog 16 #[.agg #[nI B,nI J,nI O,nI Y,nI Z,nI γ,nI δ,nI ε,nI θ,nI η],.slice A1 l1.length c1,.agg #[.slice aa σ.length ab,.slice ac τ.length ae]] w fun e w'=>e = .returned (nI r)∧Below w.heap.size w w':=by
 have cj:=Try.underlying25
 have d0:=Try.underlying50
 have gl:=Try.underlying31
 have ci:=aK ct
 have da:=aK ch
 clear ct ch
 have bm:=aK ao
 have bn:=aK ap
 clear ao ap
 have bp:=aK ar
 have bq:=aK b5
 clear ar b5
 have HB:=aK (Below.refl w.heap.size w)
 have H:(if (l1.length:Int)<1 then (newelref21_Check.j0 k l1 true B J O Y Z γ δ ε θ η σ τ) else (newelref21_Check.j0 k l1 (decide ((l1.length:Int)>8)) B J O Y Z γ δ ε θ η σ τ))=some r:=h
 clear h
 have af:=aK H
 clear H
 go_enter Try.func16,Try.ntmps16
 go_upto_region 1 with(first|((with_reducible refine Qe (N:=3) rfl ?_);(try(refine Zk (by rfl) ?_;dsimp only));refine qE 3 #[nI B,nI J,nI O,nI Y,nI Z,nI γ,nI δ,nI ε,nI θ,nI η] 25 ?_;intro ι hg w5 hbox hb;have ζ :=aK hbox;have b4:=sGe hg;have b6:=sGe hg;replace HB:=sHb hb;clear hb hbox hg)|((with_reducible refine Qe (N:=5) rfl ?_);(try(refine Zk (by rfl) ?_;dsimp only));refine qE 5 #[.slice aa σ.length ab,.slice ac τ.length ae] 50 ?_;intro al hg w6 hbox hb;have κ :=aK hbox;have b8:=sGe hg;have b9:=sGe hg;have b0:=sNl ζ hg;have b1:=sNg ζ hg;replace ζ :=sBk ζ hb;replace HB:=sHb hb;clear hb hbox hg))
 (try simp only[Act.put,qS])
 go_cut [17] (fun bc wc=>∃ (kq:Nat) (aw:Bool),bc = .bool aw∧Aside0 (newelref21_Check.j0 kq l1 aw B J O Y Z γ δ ε θ η σ τ = some r)∧Aside0 (kq≤k)∧Aside0 (wc.heap[ι]?=some (.cells #[nI B,nI J,nI O,nI Y,nI Z,nI γ,nI δ,nI ε,nI θ,nI η] 25 (0,0)))∧Aside0 (wc.heap[al]?=some (.cells #[(.slice aa σ.length ab),(.slice ac τ.length ae)] 50 (0,0)))∧Aside0 (Below w.heap.size w wc))
 case first=>
  have H:=af.out
  clear af
  by_cases c7:(l1.length:Int)<1
  ·rw[if_pos c7] at H
   have c7b0:=decide_eq_true c7
   have c7b1:decide (l1.length<1)=true:=decide_eq_true (by omega)
   clear c7
   (first|rw[c7b0]|(simp only[Zy,Z8];rw[c7b0])|skip)
   have H':=aK H
   clear H
   go_wp2
   go_meet
   case rel=>exact⟨_,(true),rfl,H',⟨by first|omega|exact Nat.le_refl _⟩,ζ,κ,HB⟩
  ·rw[if_neg c7] at H
   have c7b0:=decide_eq_false c7
   have c7b1:decide (l1.length<1)=false:=decide_eq_false (by omega)
   clear c7
   (first|rw[c7b0]|(simp only[Zy,Z8];rw[c7b0])|skip)
   have H':=aK H
   clear H
   go_wp2
   go_meet
   case rel=>exact⟨_,(decide ((l1.length:Int)>8)),rfl,H',⟨by first|omega|exact Nat.le_refl _⟩,ζ,κ,HB⟩
 case rest=>
  clear af
  try clear c1
  obtain⟨kq,aw,rfl,HA,d1,ζ,κ,HB⟩:=hcut
  cases kq with
  |zero=>exact absurd HA.out (by simp[newelref21_Check.j0])
  |succ fc=>
   have H:=HA.out
   clear HA
   simp only[newelref21_Check.j0] at H
   by_cases c8:aw=true
   ·subst c8
    rw[if_pos rfl] at H
    obtain rfl:=qJ H
    go_wp2
    go_ret
    exact⟨rfl,HB.out⟩
   ·replace c8:=Bool.eq_false_iff.mpr c8
    subst c8
    rw[if_neg nft] at H
    have H':=aK H
    clear H
    go_wp2
    go_loopg [7] fc (fun kq v7 w'=>∃ (X:Int),v7=nI X∧Aside0 (newelref21_Check.l0 kq l1 X B J O Y Z γ δ ε θ η σ τ = some r)∧Aside0 (kq≤fc)∧Aside0 (w'.heap[ι]?=some (.cells #[nI B,nI J,nI O,nI Y,nI Z,nI γ,nI δ,nI ε,nI θ,nI η] 25 (0,0)))∧Aside0 (w'.heap[al]?=some (.cells #[(.slice aa σ.length ab),(.slice ac τ.length ae)] 50 (0,0)))∧Aside0 (Below w.heap.size w w'))
    case atStart=>exact⟨(0),rfl,H',⟨Nat.le_refl _⟩,ζ,κ,HB⟩
    case round=>
     clear H'
     try clear c1
     try clear c8
     obtain⟨X,rfl,HA,b7,ζ,κ,HB⟩:=hrel
     cases gk with
     |zero=>exact absurd HA.out (by simp[newelref21_Check.l0])
     |succ k2=>
      have H:=HA.out
      clear HA
      simp only[newelref21_Check.l0] at H
      by_cases c9:X<(l1.length:Int)
      ·rw[if_pos c9] at H
       have c9b0:=decide_eq_true c9
       clear c9
       by_cases c10:0≤X
       ·rw[if_pos c10] at H
        have c10b0:=decide_eq_true c10
        clear c10
        obtain⟨ay,bu,H⟩:=qQ H
        by_cases a3:ay=true
        ·subst a3
         rw[if_pos rfl] at H
         have H':=aK H
         clear H
         try go_wp2
         replace ζ :=aK (Qd ζ.out)
         replace κ :=aK (Qd κ.out)
         replace HB:=aK (Qj HB.out)
         have am:0≤(X:Int):=of_decide_eq_true (by assumption)
         have an:X<(l1.length:Int):=of_decide_eq_true (by assumption)
         obtain⟨μ,az,ν,ξ,ρ,φ,χ,ψ,ω,a0,a1,a2⟩:=Jc ci.out X am an
         have a5:=a2
         have a6:=a1
         have a7:=a0
         have a8:= ω
         have a9:= ψ
         have ag:= χ
         have ah:= φ
         have ai:=ρ
         have aj:= ξ
         have ak:= ν
         cases az
         replace ν :=sCl HB ν
         replace ξ :=sCl HB ξ
         replace ρ:=sCl HB ρ
         replace φ :=sCl HB φ
         replace χ :=sCl HB χ
         replace ψ :=sCl HB ψ
         replace ω :=sCl HB ω
         replace a0:=sCl HB a0
         replace a1:=sCl HB a1
         replace a2:=sCl HB a2
         replace am:=eq_true am
         replace an:=eq_true an
         refine Zg (n:=7) (S:=fun w'=>cI w' ι 0 B∧cI w' ι 1 J∧cI w' ι 2 O∧cI w' ι 3 Y∧cI w' ι 4 Z∧cI w' ι 5 γ∧cI w' ι 6 δ ∧ cI w' ι 7 ε ∧ cI w' ι 8 θ ∧ cI w' ι 9 η ∧ w'.cell? (μ.add ((X).toNat * 10))=some (nI ((Qc l1 X).f0.f0))∧w'.cell? ⟨(μ.add ((X).toNat * 10)).block,(μ.add ((X).toNat * 10)).off+1,none⟩=some (nI ((Qc l1 X).f0.f1))∧w'.cell? ⟨(μ.add ((X).toNat * 10)).block,(μ.add ((X).toNat * 10)).off+2,none⟩=some (nI ((Qc l1 X).f0.f2))∧w'.cell? ⟨(μ.add ((X).toNat * 10)).block,(μ.add ((X).toNat * 10)).off+3,none⟩=some (nI ((Qc l1 X).f0.f3))∧w'.cell? ⟨(μ.add ((X).toNat * 10)).block,(μ.add ((X).toNat * 10)).off+4,none⟩=some (nI ((Qc l1 X).f0.f4.f0))∧w'.cell? ⟨(μ.add ((X).toNat * 10)).block,(μ.add ((X).toNat * 10)).off+5,none⟩=some (nI ((Qc l1 X).f0.f4.f1))∧w'.cell? ⟨(μ.add ((X).toNat * 10)).block,(μ.add ((X).toNat * 10)).off+6,none⟩=some (nI ((Qc l1 X).f0.f4.f2))∧w'.cell? ⟨(μ.add ((X).toNat * 10)).block,(μ.add ((X).toNat * 10)).off+7,none⟩=some (nI ((Qc l1 X).f1))∧w'.cell? ⟨(μ.add ((X).toNat * 10)).block,(μ.add ((X).toNat * 10)).off+8,none⟩=some (.bool ((Qc l1 X).f2))∧w'.cell? ⟨(μ.add ((X).toNat * 10)).block,(μ.add ((X).toNat * 10)).off+9,none⟩=some (.bool ((Qc l1 X).f3))) (ds:=[]) #[false,false,false,false,false,false,false] kr rfl rfl ⟨(Qa ζ.out 0).trans rfl,(Qa ζ.out 1).trans rfl,(Qa ζ.out 2).trans rfl,(Qa ζ.out 3).trans rfl,(Qa ζ.out 4).trans rfl,(Qa ζ.out 5).trans rfl,(Qa ζ.out 6).trans rfl,(Qa ζ.out 7).trans rfl,(Qa ζ.out 8).trans rfl,(Qa ζ.out 9).trans rfl,(sCl HB ak),(sCl HB aj),(sCl HB ai),(sCl HB ah),(sCl HB ag),(sCl HB a9),(sCl HB a8),(sCl HB a7),(sCl HB a6),(sCl HB a5)⟩ (fun hHeld=>?_)
         generalize wr.drew=eh at ζ κ HB ν ξ ρ φ χ ψ ω a0 a1 a2 hHeld ⊢
         refine qV 1 (some 25) (bN 7 2) ?_
         refine qV 2 (some 26) (bN 7 6) ?_
         refine qV 3 (some 27) (bN 7 14) ?_
         refine qW 0 (some 24) (bN 7 15) hHeld ?_
         refine qW 4 (some 28) (bN 7 31) hHeld ?_
         refine Kp (i:=5) (N:=some 29) (bN 7 63) rfl rfl kr (by decide) (fun K hK=>?_)
         refine Zd Try.func32 kr rfl #[.agg #[nI B,nI J,nI O,nI Y,nI Z,nI γ,nI δ,nI ε,nI θ,nI η],.agg #[nI ((Qc l1 X).f0.f0),nI ((Qc l1 X).f0.f1),nI ((Qc l1 X).f0.f2),nI ((Qc l1 X).f0.f3),nI ((Qc l1 X).f0.f4.f0),nI ((Qc l1 X).f0.f4.f1),nI ((Qc l1 X).f0.f4.f2),nI ((Qc l1 X).f1),.bool ((Qc l1 X).f2),.bool ((Qc l1 X).f3)]] (by rfl) rfl rfl qM ?_
         with_reducible refine(newelref21_Lift.calls k2 B J O Y Z γ δ ε θ η ((Qc l1 X).f0.f0) ((Qc l1 X).f0.f1) ((Qc l1 X).f0.f2) ((Qc l1 X).f0.f3) ((Qc l1 X).f0.f4.f0) ((Qc l1 X).f0.f4.f1) ((Qc l1 X).f0.f4.f2) ((Qc l1 X).f1) ((Qc l1 X).f2) ((Qc l1 X).f3) true _ bu.out).mono ?_
         rintro e cb ⟨rfl,hb⟩
         refine⟨_,rfl, ?_⟩
         replace ζ :=sBk ζ hb
         replace κ :=sBk κ hb
         replace HB:=sHb hb
         (try clear hb)
         (try clear a4)
         (try clear hk)
         (try clear hi)
         refine hK.out _ _ ⟨qc ζ,qc ζ,qc ζ,qc ζ,qc ζ,qc ζ,qc ζ,qc ζ,qc ζ,qc ζ,(sCl HB ak),(sCl HB aj),(sCl HB ai),(sCl HB ah),(sCl HB ag),(sCl HB a9),(sCl HB a8),(sCl HB a7),(sCl HB a6),(sCl HB a5)⟩ (fun hHeld=>?_)
         clear hK K
         refine qN (some 29) ?_
         refine qV 6 (some 8) (bN 7 127) ?_
         refine Zl kr ?_
         try go_wp2
         go_roundg k2
         case measure=>have:=d1.out;have:=b7.out;omega
         case rel=>exact⟨(wrap64 (X+1)),rfl,H',⟨by have:=d1.out;have:=b7.out;omega⟩,ζ,κ,HB⟩
        ·replace a3:=Bool.eq_false_iff.mpr a3
         subst a3
         rw[if_neg nft] at H
         obtain rfl:=qJ H
         try go_wp2
         replace ζ :=aK (Qd ζ.out)
         replace κ :=aK (Qd κ.out)
         replace HB:=aK (Qj HB.out)
         have am:0≤(X:Int):=of_decide_eq_true (by assumption)
         have an:X<(l1.length:Int):=of_decide_eq_true (by assumption)
         obtain⟨μ,az,ν,ξ,ρ,φ,χ,ψ,ω,a0,a1,a2⟩:=Jc ci.out X am an
         have a5:=a2
         have a6:=a1
         have a7:=a0
         have a8:= ω
         have a9:= ψ
         have ag:= χ
         have ah:= φ
         have ai:=ρ
         have aj:= ξ
         have ak:= ν
         cases az
         replace ν :=sCl HB ν
         replace ξ :=sCl HB ξ
         replace ρ:=sCl HB ρ
         replace φ :=sCl HB φ
         replace χ :=sCl HB χ
         replace ψ :=sCl HB ψ
         replace ω :=sCl HB ω
         replace a0:=sCl HB a0
         replace a1:=sCl HB a1
         replace a2:=sCl HB a2
         replace am:=eq_true am
         replace an:=eq_true an
         refine Zg (n:=7) (S:=fun w'=>cI w' ι 0 B∧cI w' ι 1 J∧cI w' ι 2 O∧cI w' ι 3 Y∧cI w' ι 4 Z∧cI w' ι 5 γ∧cI w' ι 6 δ ∧ cI w' ι 7 ε ∧ cI w' ι 8 θ ∧ cI w' ι 9 η ∧ w'.cell? (μ.add ((X).toNat * 10))=some (nI ((Qc l1 X).f0.f0))∧w'.cell? ⟨(μ.add ((X).toNat * 10)).block,(μ.add ((X).toNat * 10)).off+1,none⟩=some (nI ((Qc l1 X).f0.f1))∧w'.cell? ⟨(μ.add ((X).toNat * 10)).block,(μ.add ((X).toNat * 10)).off+2,none⟩=some (nI ((Qc l1 X).f0.f2))∧w'.cell? ⟨(μ.add ((X).toNat * 10)).block,(μ.add ((X).toNat * 10)).off+3,none⟩=some (nI ((Qc l1 X).f0.f3))∧w'.cell? ⟨(μ.add ((X).toNat * 10)).block,(μ.add ((X).toNat * 10)).off+4,none⟩=some (nI ((Qc l1 X).f0.f4.f0))∧w'.cell? ⟨(μ.add ((X).toNat * 10)).block,(μ.add ((X).toNat * 10)).off+5,none⟩=some (nI ((Qc l1 X).f0.f4.f1))∧w'.cell? ⟨(μ.add ((X).toNat * 10)).block,(μ.add ((X).toNat * 10)).off+6,none⟩=some (nI ((Qc l1 X).f0.f4.f2))∧w'.cell? ⟨(μ.add ((X).toNat * 10)).block,(μ.add ((X).toNat * 10)).off+7,none⟩=some (nI ((Qc l1 X).f1))∧w'.cell? ⟨(μ.add ((X).toNat * 10)).block,(μ.add ((X).toNat * 10)).off+8,none⟩=some (.bool ((Qc l1 X).f2))∧w'.cell? ⟨(μ.add ((X).toNat * 10)).block,(μ.add ((X).toNat * 10)).off+9,none⟩=some (.bool ((Qc l1 X).f3))) (ds:=[]) #[false,false,false,false,false,false,false] kr rfl rfl ⟨(Qa ζ.out 0).trans rfl,(Qa ζ.out 1).trans rfl,(Qa ζ.out 2).trans rfl,(Qa ζ.out 3).trans rfl,(Qa ζ.out 4).trans rfl,(Qa ζ.out 5).trans rfl,(Qa ζ.out 6).trans rfl,(Qa ζ.out 7).trans rfl,(Qa ζ.out 8).trans rfl,(Qa ζ.out 9).trans rfl,(sCl HB ak),(sCl HB aj),(sCl HB ai),(sCl HB ah),(sCl HB ag),(sCl HB a9),(sCl HB a8),(sCl HB a7),(sCl HB a6),(sCl HB a5)⟩ (fun hHeld=>?_)
         generalize wr.drew=fb at ζ κ HB ν ξ ρ φ χ ψ ω a0 a1 a2 hHeld ⊢
         refine qV 1 (some 25) (bN 7 2) ?_
         refine qV 2 (some 26) (bN 7 6) ?_
         refine qV 3 (some 27) (bN 7 14) ?_
         refine qW 0 (some 24) (bN 7 15) hHeld ?_
         refine qW 4 (some 28) (bN 7 31) hHeld ?_
         refine Kp (i:=5) (N:=some 29) (bN 7 63) rfl rfl kr (by decide) (fun K hK=>?_)
         refine Zd Try.func32 kr rfl #[.agg #[nI B,nI J,nI O,nI Y,nI Z,nI γ,nI δ,nI ε,nI θ,nI η],.agg #[nI ((Qc l1 X).f0.f0),nI ((Qc l1 X).f0.f1),nI ((Qc l1 X).f0.f2),nI ((Qc l1 X).f0.f3),nI ((Qc l1 X).f0.f4.f0),nI ((Qc l1 X).f0.f4.f1),nI ((Qc l1 X).f0.f4.f2),nI ((Qc l1 X).f1),.bool ((Qc l1 X).f2),.bool ((Qc l1 X).f3)]] (by rfl) rfl rfl qM ?_
         with_reducible refine(newelref21_Lift.calls k2 B J O Y Z γ δ ε θ η ((Qc l1 X).f0.f0) ((Qc l1 X).f0.f1) ((Qc l1 X).f0.f2) ((Qc l1 X).f0.f3) ((Qc l1 X).f0.f4.f0) ((Qc l1 X).f0.f4.f1) ((Qc l1 X).f0.f4.f2) ((Qc l1 X).f1) ((Qc l1 X).f2) ((Qc l1 X).f3) false _ bu.out).mono ?_
         rintro e cr ⟨rfl,hb⟩
         refine⟨_,rfl, ?_⟩
         replace ζ :=sBk ζ hb
         replace κ :=sBk κ hb
         replace HB:=sHb hb
         (try clear hb)
         (try clear a4)
         (try clear hk)
         (try clear hi)
         refine hK.out _ _ ⟨qc ζ,qc ζ,qc ζ,qc ζ,qc ζ,qc ζ,qc ζ,qc ζ,qc ζ,qc ζ,(sCl HB ak),(sCl HB aj),(sCl HB ai),(sCl HB ah),(sCl HB ag),(sCl HB a9),(sCl HB a8),(sCl HB a7),(sCl HB a6),(sCl HB a5)⟩ (fun hHeld=>?_)
         clear hK K
         refine qN (some 29) ?_
         refine qV 6 (some 8) (bN 7 127) ?_
         refine Zl kr ?_
         try go_wp2
         go_ret
         exact⟨rfl,HB.out⟩
       ·rw[if_neg c10] at H
        exact absurd H (by simp)
      ·rw[if_neg c9] at H
       have c9b0:=decide_eq_false c9
       clear c9
       obtain⟨⟨au,av⟩,b2,H⟩:=qQ H
       replace H:((newelref19_May.f k2 au av σ τ).bind fun ax=>(if ax=true then (some 0) else (some 190)))=some r:=H
       obtain⟨ax,bd,H⟩:=qQ H
       by_cases b3:ax=true
       ·subst b3
        rw[if_pos rfl] at H
        obtain rfl:=qJ H
        try go_wp2
        replace ζ :=aK (Qd ζ.out)
        replace κ :=aK (Qd κ.out)
        replace HB:=aK (Qj HB.out)
        refine Zg (n:=6) (S:=fun w'=>cI w' ι 0 B∧cI w' ι 1 J∧cI w' ι 2 O∧cI w' ι 3 Y∧cI w' ι 4 Z∧cI w' ι 5 γ∧cI w' ι 6 δ ∧ cI w' ι 7 ε ∧ cI w' ι 8 θ ∧ cI w' ι 9 η ∧ w'.cell? ⟨al,0,none⟩=some (.slice aa σ.length ab)∧w'.cell? ⟨al,1,none⟩=some (.slice ac τ.length ae)) (ds:=[]) #[false,false,false,false,false,false] kr rfl rfl ⟨(Qa ζ.out 0).trans rfl,(Qa ζ.out 1).trans rfl,(Qa ζ.out 2).trans rfl,(Qa ζ.out 3).trans rfl,(Qa ζ.out 4).trans rfl,(Qa ζ.out 5).trans rfl,(Qa ζ.out 6).trans rfl,(Qa ζ.out 7).trans rfl,(Qa ζ.out 8).trans rfl,(Qa ζ.out 9).trans rfl,(Qa κ.out 0).trans rfl,(Qa κ.out 1).trans rfl⟩ (fun hHeld=>?_)
        generalize wr.drew=dw at ζ κ HB hHeld ⊢
        refine qV 1 (some 33) (bN 6 2) ?_
        refine qW 0 (some 32) (bN 6 3) hHeld ?_
        refine qW 3 (some 35) (bN 6 11) hHeld ?_
        refine Kp (i:=2) (N:=some 34) (bN 6 15) rfl rfl kr (by decide) (fun K hK=>?_)
        refine Zd Try.func19 kr rfl #[.agg #[nI B,nI J,nI O,nI Y,nI Z,nI γ,nI δ,nI ε,nI θ,nI η],.slice A1 l1.length c1] (by rfl) rfl rfl qM ?_
        with_reducible refine(newelref21_House.calls B J O Y Z γ δ ε θ η _ _ l1 au av _ ?side1 ?side2 b2.out).mono ?_
        (case side1=>exact(Kd.Qw ci.out HB.out))
        (case side2=>exact da.out)
        rintro e bo ⟨rfl,hb⟩
        refine⟨_,rfl, ?_⟩
        replace ζ :=sBk ζ hb
        replace κ :=sBk κ hb
        replace HB:=sHb hb
        (try clear hb)
        (try clear a4)
        (try clear hk)
        (try clear hi)
        refine hK.out _ _ ⟨qc ζ,qc ζ,qc ζ,qc ζ,qc ζ,qc ζ,qc ζ,qc ζ,qc ζ,qc ζ,qc κ,qc κ⟩ (fun hHeld=>?_)
        clear hK K
        refine qN (some 34) ?_
        refine Kp (i:=4) (N:=some 36) (bN 6 31) rfl rfl kr (by decide) (fun K hK=>?_)
        refine Zd Try.func39 kr rfl #[.agg #[nI au,nI av],.agg #[.slice aa σ.length ab,.slice ac τ.length ae]] (by rfl) rfl rfl qM ?_
        with_reducible refine(newelref19_May.calls k2 au av _ _ σ _ _ τ true _ ?side1 ?side2 ?side3 ?side4 bd.out).mono ?_
        (case side1=>exact(Kd.Qw bm.out HB.out))
        (case side2=>exact bn.out)
        (case side3=>exact(Kd.Qw bp.out HB.out))
        (case side4=>exact bq.out)
        rintro e bj ⟨rfl,hb⟩
        refine⟨_,rfl, ?_⟩
        replace ζ :=sBk ζ hb
        replace κ :=sBk κ hb
        replace HB:=sHb hb
        (try clear hb)
        (try clear a4)
        (try clear hk)
        (try clear hi)
        refine hK.out _ _ ⟨qc ζ,qc ζ,qc ζ,qc ζ,qc ζ,qc ζ,qc ζ,qc ζ,qc ζ,qc ζ,qc κ,qc κ⟩ (fun hHeld=>?_)
        clear hK K
        refine qN (some 36) ?_
        refine qV 5 (some 9) (bN 6 63) ?_
        refine Zl kr ?_
        try go_wp2
        go_ret
        exact⟨rfl,HB.out⟩
       ·replace b3:=Bool.eq_false_iff.mpr b3
        subst b3
        rw[if_neg nft] at H
        obtain rfl:=qJ H
        try go_wp2
        replace ζ :=aK (Qd ζ.out)
        replace κ :=aK (Qd κ.out)
        replace HB:=aK (Qj HB.out)
        refine Zg (n:=6) (S:=fun w'=>cI w' ι 0 B∧cI w' ι 1 J∧cI w' ι 2 O∧cI w' ι 3 Y∧cI w' ι 4 Z∧cI w' ι 5 γ∧cI w' ι 6 δ ∧ cI w' ι 7 ε ∧ cI w' ι 8 θ ∧ cI w' ι 9 η ∧ w'.cell? ⟨al,0,none⟩=some (.slice aa σ.length ab)∧w'.cell? ⟨al,1,none⟩=some (.slice ac τ.length ae)) (ds:=[]) #[false,false,false,false,false,false] kr rfl rfl ⟨(Qa ζ.out 0).trans rfl,(Qa ζ.out 1).trans rfl,(Qa ζ.out 2).trans rfl,(Qa ζ.out 3).trans rfl,(Qa ζ.out 4).trans rfl,(Qa ζ.out 5).trans rfl,(Qa ζ.out 6).trans rfl,(Qa ζ.out 7).trans rfl,(Qa ζ.out 8).trans rfl,(Qa ζ.out 9).trans rfl,(Qa κ.out 0).trans rfl,(Qa κ.out 1).trans rfl⟩ (fun hHeld=>?_)
        generalize wr.drew=bi at ζ κ HB hHeld ⊢
        refine qV 1 (some 33) (bN 6 2) ?_
        refine qW 0 (some 32) (bN 6 3) hHeld ?_
        refine qW 3 (some 35) (bN 6 11) hHeld ?_
        refine Kp (i:=2) (N:=some 34) (bN 6 15) rfl rfl kr (by decide) (fun K hK=>?_)
        refine Zd Try.func19 kr rfl #[.agg #[nI B,nI J,nI O,nI Y,nI Z,nI γ,nI δ,nI ε,nI θ,nI η],.slice A1 l1.length c1] (by rfl) rfl rfl qM ?_
        with_reducible refine(newelref21_House.calls B J O Y Z γ δ ε θ η _ _ l1 au av _ ?side1 ?side2 b2.out).mono ?_
        (case side1=>exact(Kd.Qw ci.out HB.out))
        (case side2=>exact da.out)
        rintro e cm ⟨rfl,hb⟩
        refine⟨_,rfl, ?_⟩
        replace ζ :=sBk ζ hb
        replace κ :=sBk κ hb
        replace HB:=sHb hb
        (try clear hb)
        (try clear a4)
        (try clear hk)
        (try clear hi)
        refine hK.out _ _ ⟨qc ζ,qc ζ,qc ζ,qc ζ,qc ζ,qc ζ,qc ζ,qc ζ,qc ζ,qc ζ,qc κ,qc κ⟩ (fun hHeld=>?_)
        clear hK K
        refine qN (some 34) ?_
        refine Kp (i:=4) (N:=some 36) (bN 6 31) rfl rfl kr (by decide) (fun K hK=>?_)
        refine Zd Try.func39 kr rfl #[.agg #[nI au,nI av],.agg #[.slice aa σ.length ab,.slice ac τ.length ae]] (by rfl) rfl rfl qM ?_
        with_reducible refine(newelref19_May.calls k2 au av _ _ σ _ _ τ false _ ?side1 ?side2 ?side3 ?side4 bd.out).mono ?_
        (case side1=>exact(Kd.Qw bm.out HB.out))
        (case side2=>exact bn.out)
        (case side3=>exact(Kd.Qw bp.out HB.out))
        (case side4=>exact bq.out)
        rintro e dt ⟨rfl,hb⟩
        refine⟨_,rfl, ?_⟩
        replace ζ :=sBk ζ hb
        replace κ :=sBk κ hb
        replace HB:=sHb hb
        (try clear hb)
        (try clear a4)
        (try clear hk)
        (try clear hi)
        refine hK.out _ _ ⟨qc ζ,qc ζ,qc ζ,qc ζ,qc ζ,qc ζ,qc ζ,qc ζ,qc ζ,qc ζ,qc κ,qc κ⟩ (fun hHeld=>?_)
        clear hK K
        refine qN (some 36) ?_
        refine qV 5 (some 9) (bN 6 63) ?_
        refine Zl kr ?_
        try go_wp2
        go_ret
        exact⟨rfl,HB.out⟩
def newelref21_Fault.f (B:Int) (Z:Int):Option (Bool):=if 0≤(IntKind.u64.wrap (Z)) then (some ((Go.bits .and .i64 (shr .i64 B (IntKind.u64.wrap (Z))) 1)==1)) else (none)
theorem newelref21_Fault.calls (B:Int) (Z:Int) (r:Bool) (w:World) (h:newelref21_Fault.f B Z=some r):
 Calls Try.prog 42 #[nI B,nI Z] w fun e w'=>e = .returned (.bool r)∧Drawn0 w w':=by
 have H:(if 0≤(IntKind.u64.wrap (Z)) then (some ((Go.bits .and .i64 (shr .i64 B (IntKind.u64.wrap (Z))) 1)==1)) else (none))=some r:=h
 clear h
 obtain⟨O,J⟩:∃ j_:Int,(IntKind.u64.wrap (Z))=j_:=⟨_,rfl⟩
 replace H:(if 0≤(O) then (some ((Go.bits .and .i64 (shr .i64 B (O)) 1)==1)) else (none))=some r:=by first|(rw[J] at H;exact H)|(simp only[J] at H ⊢;exact H)
 by_cases c4:0≤(O)
 ·rw[if_pos c4] at H
  have c4b0:=eq_true c4
  have c4b1:=decide_eq_true c4
  clear c4
  obtain⟨γ,Y⟩:∃ j_:Int,(shr .i64 B (O))=j_:=⟨_,rfl⟩
  replace H:(some ((Go.bits .and .i64 (γ) 1)==1))=some r:=by first|(rw[Y] at H;exact H)|(simp only[Y] at H ⊢;exact H)
  have ζ :(B / 2 ^ min (O).toNat 64)=γ:=Y
  have hji5z:(O)≤64→(B / 2 ^ (O).toNat)=γ:=Gp Y
  obtain rfl:=qJ H
  go_enter Try.func42,Try.ntmps42
  go_wp2
  go_ret
  exact⟨by first|rfl|(simp;done)|(simp only[← J,← Y] <;> (first|rfl|simp))|(simp[*];done),by repeat(first|exact Drawn0.refl _|apply Drawn0.step)⟩
 ·rw[if_neg c4] at H
  exact absurd H (by simp)
def newelref21_Pick.l0:Nat→List (S31)→Int→Int→Int→Int→Int→Int→Int→Int→Int→Int→Int→Int→Int→Int→List (S36)→List (S86)→Int→Int→Int→Option (Int)
 |0,_,_,_,_,_,_,_,_,_,_,_,_,_,_,_,_,_,_,_,_=>none
 |k+1,J,Y,φ,σ,O,B,X,Z,γ,δ,ε,ζ,η,θ,ι,κ,μ,ν,ξ,ρ=>if O<(J.length:Int) then (if 0≤O then ((newelref19_View.f k κ μ O).bind fun τ =>((newelref21_Cost.f k B X Z γ δ ε ζ η θ ι ((Qc J O).f0.f0) ((Qc J O).f0.f1) ((Qc J O).f0.f2) ((Qc J O).f0.f3) ((Qc J O).f0.f4.f0) ((Qc J O).f0.f4.f1) ((Qc J O).f0.f4.f2) ((Qc J O).f1) ((Qc J O).f2) ((Qc J O).f3) τ.1 τ.2.1 τ.2.2 ν ξ ρ).bind fun b9=>((newelref21_Fault.f Y O).bind fun bq=>(if bq=true then (newelref21_Pick.l0 k J Y φ σ (wrap64 (O+1)) B X Z γ δ ε ζ η θ ι κ μ ν ξ ρ) else (if φ < 0 then (newelref21_Pick.l0 k J Y O b9 (wrap64 (O+1)) B X Z γ δ ε ζ η θ ι κ μ ν ξ ρ) else (if b9<σ then (newelref21_Pick.l0 k J Y O b9 (wrap64 (O+1)) B X Z γ δ ε ζ η θ ι κ μ ν ξ ρ) else (newelref21_Pick.l0 k J Y φ σ (wrap64 (O+1)) B X Z γ δ ε ζ η θ ι κ μ ν ξ ρ))))))) else (none)) else (some φ)
def newelref21_Pick.f (k:Nat) (B:Int) (J:Int) (O:Int) (Y:Int) (Z:Int) (γ:Int) (δ :Int) (ε :Int) (θ :Int) (η :Int) (l1:List (S31)) (a2:Int) (μ :List (S36)) (τ :List (S86)) (ab:Int) (ac:Int) (ae:Int):Option (Int):=newelref21_Pick.l0 k l1 a2 (-1) 0 0 B J O Y Z γ δ ε θ η μ τ ab ac ae
def newelref21_Pick.T6:Bool×List (List Nat×List Nat):=(true,[([],[]),([],[]),([],[]),([1,2],[1,2]),([3],[3]),([],[]),([],[]),([5,6],[5,6]),([],[]),([0,4,7,8,7],[0,4,7,8]),([9,9,0,1,2,3,4,5,6,7,8,9],[9])])
def newelref21_Pick.B6:List Nat:=[0,0,0,6,14,0,0,96,0,511,1023]
theorem newelref21_Pick.V4:rtab .any (opsOf Try.f20 6)=newelref21_Pick.T6:=by kernel_rfl
theorem newelref21_Pick.Kv:Zq newelref21_Pick.T6.2 newelref21_Pick.B6=true:=by kernel_rfl
theorem newelref21_Pick.calls (k:Nat) (B:Int) (J:Int) (O:Int) (Y:Int) (Z:Int) (γ:Int) (δ :Int) (ε :Int) (θ :Int) (η :Int) (A1:Option Addr) (c1:Nat) (l1:List (S31)) (a2:Int) (a7:Option Addr) (a1:Nat) (μ :List (S36)) (a3:Option Addr) (a5:Nat) (τ :List (S86)) (ab:Int) (ac:Int) (ae:Int) (r:Int) (w:World) (ct:Kd.C k31 w A1 l1.length l1) (ch:l1.length≤c1) (dd:Kd.C k36 w a7 μ.length μ) (de: μ.length≤a1) (dh:Kd.C k86 w a3 τ.length τ) (di: τ.length≤a5) (h:newelref21_Pick.f k B J O Y Z γ δ ε θ η l1 a2 μ τ ab ac ae=some r):
 Calls Try.prog 20 #[.agg #[nI B,nI J,nI O,nI Y,nI Z,nI γ,nI δ,nI ε,nI θ,nI η],.slice A1 l1.length c1,nI a2,.agg #[.slice a7 μ.length a1,.slice a3 τ.length a5],.agg #[nI ab,nI ac,nI ae]] w fun e w'=>e = .returned (nI r)∧Below w.heap.size w w':=by
 have cj:=Try.underlying25
 have d0:=Try.underlying50
 have cg:=Try.underlying36
 have gl:=Try.underlying31
 have ci:=aK ct
 have da:=aK ch
 clear ct ch
 have bk:=aK dd
 have bw:=aK de
 clear dd de
 have bp:=aK dh
 have bz:=aK di
 clear dh di
 have HB:=aK (Below.refl w.heap.size w)
 have H:(newelref21_Pick.l0 k l1 a2 (-1) 0 0 B J O Y Z γ δ ε θ η μ τ ab ac ae)=some r:=h
 clear h
 have H':=aK H
 clear H
 go_enter Try.func20,Try.ntmps20
 go_wp2_with (first|((with_reducible refine Qe (N:=5) rfl ?_);refine qE 5 #[nI B,nI J,nI O,nI Y,nI Z,nI γ,nI δ,nI ε,nI θ,nI η] 25 ?_;intro ξ hg w6 hbox hb;have ζ :=aK hbox;have dm:=sGe hg;have dq:=sGe hg;replace HB:=sHb hb;clear hb hbox hg)|((with_reducible refine Qe (N:=8) rfl ?_);refine qE 8 #[.slice a7 μ.length a1,.slice a3 τ.length a5] 50 ?_;intro bh hg w7 hbox hb;have ν :=aK hbox;have dr:=sGe hg;have dt:=sGe hg;have cw:=sNl ζ hg;have cx:=sNg ζ hg;replace ζ :=sBk ζ hb;replace HB:=sHb hb;clear hb hbox hg)|((with_reducible refine Qe (N:=9) rfl ?_);refine qE 9 #[nI ab,nI ac,nI ae] 36 ?_;intro b6 hg w8 hbox hb;have κ :=aK hbox;have dv:=sGe hg;have dx:=sGe hg;have cy:=sNl ζ hg;have cz:=sNg ζ hg;have d1:=sNl ν hg;have d2:=sNg ν hg;replace ζ :=sBk ζ hb;replace ν :=sBk ν hb;replace HB:=sHb hb;clear hb hbox hg))
 go_loopg [11,12,13] k (fun kq dj cd hh w'=>∃ (bl:Int) (au:Int) (X:Int),dj=nI bl∧cd=nI au∧hh=nI X∧Aside0 (newelref21_Pick.l0 kq l1 a2 bl au X B J O Y Z γ δ ε θ η μ τ ab ac ae=some r)∧Aside0 (kq≤k)∧Aside0 (w'.heap[ξ]?=some (.cells #[nI B,nI J,nI O,nI Y,nI Z,nI γ,nI δ,nI ε,nI θ,nI η] 25 (0,0)))∧Aside0 (w'.heap[bh]?=some (.cells #[(.slice a7 μ.length a1),(.slice a3 τ.length a5)] 50 (0,0)))∧Aside0 (w'.heap[b6]?=some (.cells #[nI ab,nI ac,nI ae] 36 (0,0)))∧Aside0 (Below w.heap.size w w'))
 case atStart=>exact⟨((-1)),(0),(0),rfl,rfl,rfl,H',⟨Nat.le_refl _⟩,ζ,ν,κ,HB⟩
 case round=>
  clear H'
  try clear c1
  obtain⟨bl,au,X,rfl,rfl,rfl,HA,af,ζ,ν,κ,HB⟩:=hrel
  cases gk with
  |zero=>exact absurd HA.out (by simp[newelref21_Pick.l0])
  |succ k1=>
   have H:=HA.out
   clear HA
   simp only[newelref21_Pick.l0] at H
   by_cases c9:X<(l1.length:Int)
   ·rw[if_pos c9] at H
    have c9b0:=decide_eq_true c9
    clear c9
    by_cases c10:0≤X
    ·rw[if_pos c10] at H
     have c10b0:=decide_eq_true c10
     clear c10
     obtain⟨⟨bc,be,bf⟩,bu,H⟩:=qQ H
     replace H:((newelref21_Cost.f k1 B J O Y Z γ δ ε θ η ((Qc l1 X).f0.f0) ((Qc l1 X).f0.f1) ((Qc l1 X).f0.f2) ((Qc l1 X).f0.f3) ((Qc l1 X).f0.f4.f0) ((Qc l1 X).f0.f4.f1) ((Qc l1 X).f0.f4.f2) ((Qc l1 X).f1) ((Qc l1 X).f2) ((Qc l1 X).f3) bc be bf ab ac ae).bind fun b9=>((newelref21_Fault.f a2 X).bind fun bq=>(if bq=true then (newelref21_Pick.l0 k1 l1 a2 bl au (wrap64 (X+1)) B J O Y Z γ δ ε θ η μ τ ab ac ae) else (if bl<0 then (newelref21_Pick.l0 k1 l1 a2 X b9 (wrap64 (X+1)) B J O Y Z γ δ ε θ η μ τ ab ac ae) else (if b9<au then (newelref21_Pick.l0 k1 l1 a2 X b9 (wrap64 (X+1)) B J O Y Z γ δ ε θ η μ τ ab ac ae) else (newelref21_Pick.l0 k1 l1 a2 bl au (wrap64 (X+1)) B J O Y Z γ δ ε θ η μ τ ab ac ae))))))=some r:=H
     obtain⟨b9,b8,H⟩:=qQ H
     obtain⟨bq,bn,H⟩:=qQ H
     by_cases σ:bq=true
     ·subst σ
      rw[if_pos rfl] at H
      have H':=aK H
      clear H
      try go_wp2
      replace ζ :=aK (Qd ζ.out)
      replace ν :=aK (Qd ν.out)
      replace κ :=aK (Qd κ.out)
      replace HB:=aK (Qj HB.out)
      have ba:0≤(X:Int):=of_decide_eq_true (by assumption)
      have bb:X<(l1.length:Int):=of_decide_eq_true (by assumption)
      obtain⟨ι,bo,ρ,φ,χ,ψ,ω,a0,a6,a8,ag,ah⟩:=Jc ci.out X ba bb
      have av:=ah
      have aw:=ag
      have ax:=a8
      have ay:=a6
      have az:=a0
      have b0:= ω
      have b1:= ψ
      have b2:= χ
      have b3:= φ
      have b4:=ρ
      cases bo
      replace ρ:=sCl HB ρ
      replace φ :=sCl HB φ
      replace χ :=sCl HB χ
      replace ψ :=sCl HB ψ
      replace ω :=sCl HB ω
      replace a0:=sCl HB a0
      replace a6:=sCl HB a6
      replace a8:=sCl HB a8
      replace ag:=sCl HB ag
      replace ah:=sCl HB ah
      replace ba:=eq_true ba
      replace bb:=eq_true bb
      refine Zg (n:=11) (S:=fun w'=>cI w' ξ 0 B∧cI w' ξ 1 J∧cI w' ξ 2 O∧cI w' ξ 3 Y∧cI w' ξ 4 Z∧cI w' ξ 5 γ∧cI w' ξ 6 δ ∧ cI w' ξ 7 ε ∧ cI w' ξ 8 θ ∧ cI w' ξ 9 η ∧ w'.cell? ⟨bh,0,none⟩=some (.slice a7 μ.length a1)∧w'.cell? ⟨bh,1,none⟩=some (.slice a3 τ.length a5)∧cI w' b6 0 ab∧cI w' b6 1 ac∧cI w' b6 2 ae∧w'.cell? (ι.add ((X).toNat * 10))=some (nI ((Qc l1 X).f0.f0))∧w'.cell? ⟨(ι.add ((X).toNat * 10)).block,(ι.add ((X).toNat * 10)).off+1,none⟩=some (nI ((Qc l1 X).f0.f1))∧w'.cell? ⟨(ι.add ((X).toNat * 10)).block,(ι.add ((X).toNat * 10)).off+2,none⟩=some (nI ((Qc l1 X).f0.f2))∧w'.cell? ⟨(ι.add ((X).toNat * 10)).block,(ι.add ((X).toNat * 10)).off+3,none⟩=some (nI ((Qc l1 X).f0.f3))∧w'.cell? ⟨(ι.add ((X).toNat * 10)).block,(ι.add ((X).toNat * 10)).off+4,none⟩=some (nI ((Qc l1 X).f0.f4.f0))∧w'.cell? ⟨(ι.add ((X).toNat * 10)).block,(ι.add ((X).toNat * 10)).off+5,none⟩=some (nI ((Qc l1 X).f0.f4.f1))∧w'.cell? ⟨(ι.add ((X).toNat * 10)).block,(ι.add ((X).toNat * 10)).off+6,none⟩=some (nI ((Qc l1 X).f0.f4.f2))∧w'.cell? ⟨(ι.add ((X).toNat * 10)).block,(ι.add ((X).toNat * 10)).off+7,none⟩=some (nI ((Qc l1 X).f1))∧w'.cell? ⟨(ι.add ((X).toNat * 10)).block,(ι.add ((X).toNat * 10)).off+8,none⟩=some (.bool ((Qc l1 X).f2))∧w'.cell? ⟨(ι.add ((X).toNat * 10)).block,(ι.add ((X).toNat * 10)).off+9,none⟩=some (.bool ((Qc l1 X).f3))) (ds:=[]) #[false,false,false,false,false,false,false,false,false,false,false] kr rfl rfl ⟨(Qa ζ.out 0).trans rfl,(Qa ζ.out 1).trans rfl,(Qa ζ.out 2).trans rfl,(Qa ζ.out 3).trans rfl,(Qa ζ.out 4).trans rfl,(Qa ζ.out 5).trans rfl,(Qa ζ.out 6).trans rfl,(Qa ζ.out 7).trans rfl,(Qa ζ.out 8).trans rfl,(Qa ζ.out 9).trans rfl,(Qa ν.out 0).trans rfl,(Qa ν.out 1).trans rfl,(Qa κ.out 0).trans rfl,(Qa κ.out 1).trans rfl,(Qa κ.out 2).trans rfl,(sCl HB b4),(sCl HB b3),(sCl HB b2),(sCl HB b1),(sCl HB b0),(sCl HB az),(sCl HB ay),(sCl HB ax),(sCl HB aw),(sCl HB av)⟩ (fun hHeld=>?_);refine Zb newelref21_Pick.V4 newelref21_Pick.Kv (fun HT_ HW_=>?_)
      generalize wr.drew=fb at ζ ν κ HB ρ φ χ ψ ω a0 a6 a8 ag ah hHeld ⊢
      refine qP 1 (some 23) (bN 11 2) HT_ ?_
      refine qP 2 (some 24) (bN 11 6) HT_ ?_
      refine qP 3 (some 25) (bN 11 14) HT_ ?_
      refine qP 6 (some 28) (bN 11 78) HT_ ?_
      refine qT 0 (some 22) (bN 11 79) HT_ HW_ hHeld ?_
      refine qT 4 (some 26) (bN 11 95) HT_ HW_ hHeld ?_
      refine qT 5 (some 27) (bN 11 127) HT_ HW_ hHeld ?_
      refine qT 8 (some 30) (bN 11 383) HT_ HW_ hHeld ?_
      refine qK 7 (some 29) (bN 11 511) HT_ fun K hK=>?_
      refine Zd Try.func41 kr rfl #[.agg #[.slice a7 μ.length a1,.slice a3 τ.length a5],nI X] (by rfl) rfl rfl qM ?_
      with_reducible refine(newelref19_View.calls k1 _ _ μ _ _ τ X bc be bf _ ?side1 ?side2 ?side3 ?side4 bu.out).mono ?_
      (case side1=>exact(Kd.Qw bk.out HB.out))
      (case side2=>exact bw.out)
      (case side3=>exact(Kd.Qw bp.out HB.out))
      (case side4=>exact bz.out)
      rintro e cr ⟨bv,ca,cb,rfl,ai,aj,bg,hb⟩
      refine⟨_,rfl, ?_⟩
      have al:=aK (Kd.Za ai (Qm HB.out))
      have am:=aK (Kd.Za aj (Qm HB.out))
      have an:=aK (Kd.Za bg (Qm HB.out))
      replace ζ :=sBk ζ hb
      replace ν :=sBk ν hb
      replace κ :=sBk κ hb
      replace HB:=sHb hb
      (try clear hb)
      (try clear a4)
      (try clear hk)
      (try clear hi)
      (try clear ai)
      (try clear aj)
      (try clear bg)
      obtain⟨d4,d5,cp⟩:=Kd.Q7 al.out
      (first|subst cp|(injection cp with a9 ao aa;have ap:=a9.symm;have ar:=aa.symm;clear a9 ao aa;subst ap;subst ar))
      obtain⟨du,d3,bm⟩:=Kd.Q7 am.out
      (first|subst bm|(injection bm with a9 ao aa;have ap:=a9.symm;have ar:=aa.symm;clear a9 ao aa;subst ap;subst ar))
      obtain⟨ck,cm,dl⟩:=Kd.Q7 an.out
      (first|subst dl|(injection dl with a9 ao aa;have ap:=a9.symm;have ar:=aa.symm;clear a9 ao aa;subst ap;subst ar))
      refine hK.out _ _ ⟨qc ζ,qc ζ,qc ζ,qc ζ,qc ζ,qc ζ,qc ζ,qc ζ,qc ζ,qc ζ,qc ν,qc ν,qc κ,qc κ,qc κ,(sCl HB b4),(sCl HB b3),(sCl HB b2),(sCl HB b1),(sCl HB b0),(sCl HB az),(sCl HB ay),(sCl HB ax),(sCl HB aw),(sCl HB av)⟩ (fun hHeld=>?_)
      clear hK K
      refine qN (some 29) ?_
      refine qK 9 (some 31) (bN 11 1023) HT_ fun K hK=>?_
      refine Zd Try.func12 kr rfl #[.agg #[nI B,nI J,nI O,nI Y,nI Z,nI γ,nI δ,nI ε,nI θ,nI η],.agg #[nI ((Qc l1 X).f0.f0),nI ((Qc l1 X).f0.f1),nI ((Qc l1 X).f0.f2),nI ((Qc l1 X).f0.f3),nI ((Qc l1 X).f0.f4.f0),nI ((Qc l1 X).f0.f4.f1),nI ((Qc l1 X).f0.f4.f2),nI ((Qc l1 X).f1),.bool ((Qc l1 X).f2),.bool ((Qc l1 X).f3)],.agg #[.slice d4 bc.length d5,.slice du be.length d3,.slice ck bf.length cm],.agg #[nI ab,nI ac,nI ae]] (by rfl) rfl rfl qM ?_
      with_reducible refine(newelref21_Cost.calls k1 B J O Y Z γ δ ε θ η ((Qc l1 X).f0.f0) ((Qc l1 X).f0.f1) ((Qc l1 X).f0.f2) ((Qc l1 X).f0.f3) ((Qc l1 X).f0.f4.f0) ((Qc l1 X).f0.f4.f1) ((Qc l1 X).f0.f4.f2) ((Qc l1 X).f1) ((Qc l1 X).f2) ((Qc l1 X).f3) _ _ bc _ _ be _ _ bf ab ac ae b9 _ ?side1 ?side2 ?side3 ?side4 ?side5 ?side6 b8.out).mono ?_
      (case side1=>exact(Kd.Qt al.out).2.2)
      (case side2=>exact(Kd.Qt al.out).2.1)
      (case side3=>exact(Kd.Qt am.out).2.2)
      (case side4=>exact(Kd.Qt am.out).2.1)
      (case side5=>exact(Kd.Qt an.out).2.2)
      (case side6=>exact(Kd.Qt an.out).2.1)
      rintro e dw ⟨rfl,hb⟩
      refine⟨_,rfl, ?_⟩
      replace al:=sRb al hb
      replace am:=sRb am hb
      replace an:=sRb an hb
      replace ζ :=sBk ζ hb
      replace ν :=sBk ν hb
      replace κ :=sBk κ hb
      replace HB:=sHb hb
      (try clear hb)
      (try clear a4)
      (try clear hk)
      (try clear hi)
      refine hK.out _ _ ⟨qc ζ,qc ζ,qc ζ,qc ζ,qc ζ,qc ζ,qc ζ,qc ζ,qc ζ,qc ζ,qc ν,qc ν,qc κ,qc κ,qc κ,(sCl HB b4),(sCl HB b3),(sCl HB b2),(sCl HB b1),(sCl HB b0),(sCl HB az),(sCl HB ay),(sCl HB ax),(sCl HB aw),(sCl HB av)⟩ (fun hHeld=>?_)
      clear hK K
      refine qN (some 31) ?_
      refine qP 10 (some 14) (bN 11 2047) HT_ ?_
      refine Zl (Ze HT_.out kr) ?_
      try go_wp2_with (first|((with_reducible refine Qf (f:=42) rfl ?_);refine Q0 (some 34) rfl rfl Try.func42 kr rfl #[nI a2,nI X] rfl qM ?_;(with_reducible refine(newelref21_Fault.calls a2 X true _ bn.out).mono ?_);rintro e w' ⟨rfl,⟨nd,rfl⟩⟩;refine⟨_,rfl, ?_⟩))
      go_roundg k1
      case measure=>have:=af.out;omega
      case rel=>exact⟨(bl),(au),(wrap64 (X+1)),qR,qR,qR,H',⟨by have:=af.out;omega⟩,⟨bka ζ⟩,⟨bka ν⟩,⟨bka κ⟩,⟨bel⟩⟩
     ·replace σ:=Bool.eq_false_iff.mpr σ
      subst σ
      rw[if_neg nft] at H
      by_cases ak:bl<0
      ·rw[if_pos ak] at H
       have c21b0:=decide_eq_true ak
       clear ak
       have H':=aK H
       clear H
       try go_wp2
       replace ζ :=aK (Qd ζ.out)
       replace ν :=aK (Qd ν.out)
       replace κ :=aK (Qd κ.out)
       replace HB:=aK (Qj HB.out)
       have ba:0≤(X:Int):=of_decide_eq_true (by assumption)
       have bb:X<(l1.length:Int):=of_decide_eq_true (by assumption)
       obtain⟨ι,bo,ρ,φ,χ,ψ,ω,a0,a6,a8,ag,ah⟩:=Jc ci.out X ba bb
       have av:=ah
       have aw:=ag
       have ax:=a8
       have ay:=a6
       have az:=a0
       have b0:= ω
       have b1:= ψ
       have b2:= χ
       have b3:= φ
       have b4:=ρ
       cases bo
       replace ρ:=sCl HB ρ
       replace φ :=sCl HB φ
       replace χ :=sCl HB χ
       replace ψ :=sCl HB ψ
       replace ω :=sCl HB ω
       replace a0:=sCl HB a0
       replace a6:=sCl HB a6
       replace a8:=sCl HB a8
       replace ag:=sCl HB ag
       replace ah:=sCl HB ah
       replace ba:=eq_true ba
       replace bb:=eq_true bb
       refine Zg (n:=11) (S:=fun w'=>cI w' ξ 0 B∧cI w' ξ 1 J∧cI w' ξ 2 O∧cI w' ξ 3 Y∧cI w' ξ 4 Z∧cI w' ξ 5 γ∧cI w' ξ 6 δ ∧ cI w' ξ 7 ε ∧ cI w' ξ 8 θ ∧ cI w' ξ 9 η ∧ w'.cell? ⟨bh,0,none⟩=some (.slice a7 μ.length a1)∧w'.cell? ⟨bh,1,none⟩=some (.slice a3 τ.length a5)∧cI w' b6 0 ab∧cI w' b6 1 ac∧cI w' b6 2 ae∧w'.cell? (ι.add ((X).toNat * 10))=some (nI ((Qc l1 X).f0.f0))∧w'.cell? ⟨(ι.add ((X).toNat * 10)).block,(ι.add ((X).toNat * 10)).off+1,none⟩=some (nI ((Qc l1 X).f0.f1))∧w'.cell? ⟨(ι.add ((X).toNat * 10)).block,(ι.add ((X).toNat * 10)).off+2,none⟩=some (nI ((Qc l1 X).f0.f2))∧w'.cell? ⟨(ι.add ((X).toNat * 10)).block,(ι.add ((X).toNat * 10)).off+3,none⟩=some (nI ((Qc l1 X).f0.f3))∧w'.cell? ⟨(ι.add ((X).toNat * 10)).block,(ι.add ((X).toNat * 10)).off+4,none⟩=some (nI ((Qc l1 X).f0.f4.f0))∧w'.cell? ⟨(ι.add ((X).toNat * 10)).block,(ι.add ((X).toNat * 10)).off+5,none⟩=some (nI ((Qc l1 X).f0.f4.f1))∧w'.cell? ⟨(ι.add ((X).toNat * 10)).block,(ι.add ((X).toNat * 10)).off+6,none⟩=some (nI ((Qc l1 X).f0.f4.f2))∧w'.cell? ⟨(ι.add ((X).toNat * 10)).block,(ι.add ((X).toNat * 10)).off+7,none⟩=some (nI ((Qc l1 X).f1))∧w'.cell? ⟨(ι.add ((X).toNat * 10)).block,(ι.add ((X).toNat * 10)).off+8,none⟩=some (.bool ((Qc l1 X).f2))∧w'.cell? ⟨(ι.add ((X).toNat * 10)).block,(ι.add ((X).toNat * 10)).off+9,none⟩=some (.bool ((Qc l1 X).f3))) (ds:=[]) #[false,false,false,false,false,false,false,false,false,false,false] kr rfl rfl ⟨(Qa ζ.out 0).trans rfl,(Qa ζ.out 1).trans rfl,(Qa ζ.out 2).trans rfl,(Qa ζ.out 3).trans rfl,(Qa ζ.out 4).trans rfl,(Qa ζ.out 5).trans rfl,(Qa ζ.out 6).trans rfl,(Qa ζ.out 7).trans rfl,(Qa ζ.out 8).trans rfl,(Qa ζ.out 9).trans rfl,(Qa ν.out 0).trans rfl,(Qa ν.out 1).trans rfl,(Qa κ.out 0).trans rfl,(Qa κ.out 1).trans rfl,(Qa κ.out 2).trans rfl,(sCl HB b4),(sCl HB b3),(sCl HB b2),(sCl HB b1),(sCl HB b0),(sCl HB az),(sCl HB ay),(sCl HB ax),(sCl HB aw),(sCl HB av)⟩ (fun hHeld=>?_);refine Zb newelref21_Pick.V4 newelref21_Pick.Kv (fun HT_ HW_=>?_)
       generalize wr.drew=bj at ζ ν κ HB ρ φ χ ψ ω a0 a6 a8 ag ah hHeld ⊢
       refine qP 1 (some 23) (bN 11 2) HT_ ?_
       refine qP 2 (some 24) (bN 11 6) HT_ ?_
       refine qP 3 (some 25) (bN 11 14) HT_ ?_
       refine qP 6 (some 28) (bN 11 78) HT_ ?_
       refine qT 0 (some 22) (bN 11 79) HT_ HW_ hHeld ?_
       refine qT 4 (some 26) (bN 11 95) HT_ HW_ hHeld ?_
       refine qT 5 (some 27) (bN 11 127) HT_ HW_ hHeld ?_
       refine qT 8 (some 30) (bN 11 383) HT_ HW_ hHeld ?_
       refine qK 7 (some 29) (bN 11 511) HT_ fun K hK=>?_
       refine Zd Try.func41 kr rfl #[.agg #[.slice a7 μ.length a1,.slice a3 τ.length a5],nI X] (by rfl) rfl rfl qM ?_
       with_reducible refine(newelref19_View.calls k1 _ _ μ _ _ τ X bc be bf _ ?side1 ?side2 ?side3 ?side4 bu.out).mono ?_
       (case side1=>exact(Kd.Qw bk.out HB.out))
       (case side2=>exact bw.out)
       (case side3=>exact(Kd.Qw bp.out HB.out))
       (case side4=>exact bz.out)
       rintro e bi ⟨bv,ca,cb,rfl,ai,aj,bg,hb⟩
       refine⟨_,rfl, ?_⟩
       have al:=aK (Kd.Za ai (Qm HB.out))
       have am:=aK (Kd.Za aj (Qm HB.out))
       have an:=aK (Kd.Za bg (Qm HB.out))
       replace ζ :=sBk ζ hb
       replace ν :=sBk ν hb
       replace κ :=sBk κ hb
       replace HB:=sHb hb
       (try clear hb)
       (try clear a4)
       (try clear hk)
       (try clear hi)
       (try clear ai)
       (try clear aj)
       (try clear bg)
       obtain⟨b7,bd,db⟩:=Kd.Q7 al.out
       (first|subst db|(injection db with a9 ao aa;have ap:=a9.symm;have ar:=aa.symm;clear a9 ao aa;subst ap;subst ar))
       obtain⟨d6,d7,cq⟩:=Kd.Q7 am.out
       (first|subst cq|(injection cq with a9 ao aa;have ap:=a9.symm;have ar:=aa.symm;clear a9 ao aa;subst ap;subst ar))
       obtain⟨kz,l2,jc⟩:=Kd.Q7 an.out
       (first|subst jc|(injection jc with a9 ao aa;have ap:=a9.symm;have ar:=aa.symm;clear a9 ao aa;subst ap;subst ar))
       refine hK.out _ _ ⟨qc ζ,qc ζ,qc ζ,qc ζ,qc ζ,qc ζ,qc ζ,qc ζ,qc ζ,qc ζ,qc ν,qc ν,qc κ,qc κ,qc κ,(sCl HB b4),(sCl HB b3),(sCl HB b2),(sCl HB b1),(sCl HB b0),(sCl HB az),(sCl HB ay),(sCl HB ax),(sCl HB aw),(sCl HB av)⟩ (fun hHeld=>?_)
       clear hK K
       refine qN (some 29) ?_
       refine qK 9 (some 31) (bN 11 1023) HT_ fun K hK=>?_
       refine Zd Try.func12 kr rfl #[.agg #[nI B,nI J,nI O,nI Y,nI Z,nI γ,nI δ,nI ε,nI θ,nI η],.agg #[nI ((Qc l1 X).f0.f0),nI ((Qc l1 X).f0.f1),nI ((Qc l1 X).f0.f2),nI ((Qc l1 X).f0.f3),nI ((Qc l1 X).f0.f4.f0),nI ((Qc l1 X).f0.f4.f1),nI ((Qc l1 X).f0.f4.f2),nI ((Qc l1 X).f1),.bool ((Qc l1 X).f2),.bool ((Qc l1 X).f3)],.agg #[.slice b7 bc.length bd,.slice d6 be.length d7,.slice kz bf.length l2],.agg #[nI ab,nI ac,nI ae]] (by rfl) rfl rfl qM ?_
       with_reducible refine(newelref21_Cost.calls k1 B J O Y Z γ δ ε θ η ((Qc l1 X).f0.f0) ((Qc l1 X).f0.f1) ((Qc l1 X).f0.f2) ((Qc l1 X).f0.f3) ((Qc l1 X).f0.f4.f0) ((Qc l1 X).f0.f4.f1) ((Qc l1 X).f0.f4.f2) ((Qc l1 X).f1) ((Qc l1 X).f2) ((Qc l1 X).f3) _ _ bc _ _ be _ _ bf ab ac ae b9 _ ?side1 ?side2 ?side3 ?side4 ?side5 ?side6 b8.out).mono ?_
       (case side1=>exact(Kd.Qt al.out).2.2)
       (case side2=>exact(Kd.Qt al.out).2.1)
       (case side3=>exact(Kd.Qt am.out).2.2)
       (case side4=>exact(Kd.Qt am.out).2.1)
       (case side5=>exact(Kd.Qt an.out).2.2)
       (case side6=>exact(Kd.Qt an.out).2.1)
       rintro e dk ⟨rfl,hb⟩
       refine⟨_,rfl, ?_⟩
       replace al:=sRb al hb
       replace am:=sRb am hb
       replace an:=sRb an hb
       replace ζ :=sBk ζ hb
       replace ν :=sBk ν hb
       replace κ :=sBk κ hb
       replace HB:=sHb hb
       (try clear hb)
       (try clear a4)
       (try clear hk)
       (try clear hi)
       refine hK.out _ _ ⟨qc ζ,qc ζ,qc ζ,qc ζ,qc ζ,qc ζ,qc ζ,qc ζ,qc ζ,qc ζ,qc ν,qc ν,qc κ,qc κ,qc κ,(sCl HB b4),(sCl HB b3),(sCl HB b2),(sCl HB b1),(sCl HB b0),(sCl HB az),(sCl HB ay),(sCl HB ax),(sCl HB aw),(sCl HB av)⟩ (fun hHeld=>?_)
       clear hK K
       refine qN (some 31) ?_
       refine qP 10 (some 14) (bN 11 2047) HT_ ?_
       refine Zl (Ze HT_.out kr) ?_
       try go_wp2_with (first|((with_reducible refine Qf (f:=42) rfl ?_);refine Q0 (some 34) rfl rfl Try.func42 kr rfl #[nI a2,nI X] rfl qM ?_;(with_reducible refine(newelref21_Fault.calls a2 X false _ bn.out).mono ?_);rintro e w' ⟨rfl,⟨nd,rfl⟩⟩;refine⟨_,rfl, ?_⟩))
       go_roundg k1
       case measure=>have:=af.out;omega
       case rel=>exact⟨(X),(b9),(wrap64 (X+1)),qR,qR,qR,H',⟨by have:=af.out;omega⟩,⟨bka ζ⟩,⟨bka ν⟩,⟨bka κ⟩,⟨bel⟩⟩
      ·rw[if_neg ak] at H
       have c21b0:=decide_eq_false ak
       clear ak
       by_cases b5:b9<au
       ·rw[if_pos b5] at H
        have c28b0:=decide_eq_true b5
        clear b5
        have H':=aK H
        clear H
        try go_wp2
        replace ζ :=aK (Qd ζ.out)
        replace ν :=aK (Qd ν.out)
        replace κ :=aK (Qd κ.out)
        replace HB:=aK (Qj HB.out)
        have ba:0≤(X:Int):=of_decide_eq_true (by assumption)
        have bb:X<(l1.length:Int):=of_decide_eq_true (by assumption)
        obtain⟨ι,bo,ρ,φ,χ,ψ,ω,a0,a6,a8,ag,ah⟩:=Jc ci.out X ba bb
        have av:=ah
        have aw:=ag
        have ax:=a8
        have ay:=a6
        have az:=a0
        have b0:= ω
        have b1:= ψ
        have b2:= χ
        have b3:= φ
        have b4:=ρ
        cases bo
        replace ρ:=sCl HB ρ
        replace φ :=sCl HB φ
        replace χ :=sCl HB χ
        replace ψ :=sCl HB ψ
        replace ω :=sCl HB ω
        replace a0:=sCl HB a0
        replace a6:=sCl HB a6
        replace a8:=sCl HB a8
        replace ag:=sCl HB ag
        replace ah:=sCl HB ah
        replace ba:=eq_true ba
        replace bb:=eq_true bb
        refine Zg (n:=11) (S:=fun w'=>cI w' ξ 0 B∧cI w' ξ 1 J∧cI w' ξ 2 O∧cI w' ξ 3 Y∧cI w' ξ 4 Z∧cI w' ξ 5 γ∧cI w' ξ 6 δ ∧ cI w' ξ 7 ε ∧ cI w' ξ 8 θ ∧ cI w' ξ 9 η ∧ w'.cell? ⟨bh,0,none⟩=some (.slice a7 μ.length a1)∧w'.cell? ⟨bh,1,none⟩=some (.slice a3 τ.length a5)∧cI w' b6 0 ab∧cI w' b6 1 ac∧cI w' b6 2 ae∧w'.cell? (ι.add ((X).toNat * 10))=some (nI ((Qc l1 X).f0.f0))∧w'.cell? ⟨(ι.add ((X).toNat * 10)).block,(ι.add ((X).toNat * 10)).off+1,none⟩=some (nI ((Qc l1 X).f0.f1))∧w'.cell? ⟨(ι.add ((X).toNat * 10)).block,(ι.add ((X).toNat * 10)).off+2,none⟩=some (nI ((Qc l1 X).f0.f2))∧w'.cell? ⟨(ι.add ((X).toNat * 10)).block,(ι.add ((X).toNat * 10)).off+3,none⟩=some (nI ((Qc l1 X).f0.f3))∧w'.cell? ⟨(ι.add ((X).toNat * 10)).block,(ι.add ((X).toNat * 10)).off+4,none⟩=some (nI ((Qc l1 X).f0.f4.f0))∧w'.cell? ⟨(ι.add ((X).toNat * 10)).block,(ι.add ((X).toNat * 10)).off+5,none⟩=some (nI ((Qc l1 X).f0.f4.f1))∧w'.cell? ⟨(ι.add ((X).toNat * 10)).block,(ι.add ((X).toNat * 10)).off+6,none⟩=some (nI ((Qc l1 X).f0.f4.f2))∧w'.cell? ⟨(ι.add ((X).toNat * 10)).block,(ι.add ((X).toNat * 10)).off+7,none⟩=some (nI ((Qc l1 X).f1))∧w'.cell? ⟨(ι.add ((X).toNat * 10)).block,(ι.add ((X).toNat * 10)).off+8,none⟩=some (.bool ((Qc l1 X).f2))∧w'.cell? ⟨(ι.add ((X).toNat * 10)).block,(ι.add ((X).toNat * 10)).off+9,none⟩=some (.bool ((Qc l1 X).f3))) (ds:=[]) #[false,false,false,false,false,false,false,false,false,false,false] kr rfl rfl ⟨(Qa ζ.out 0).trans rfl,(Qa ζ.out 1).trans rfl,(Qa ζ.out 2).trans rfl,(Qa ζ.out 3).trans rfl,(Qa ζ.out 4).trans rfl,(Qa ζ.out 5).trans rfl,(Qa ζ.out 6).trans rfl,(Qa ζ.out 7).trans rfl,(Qa ζ.out 8).trans rfl,(Qa ζ.out 9).trans rfl,(Qa ν.out 0).trans rfl,(Qa ν.out 1).trans rfl,(Qa κ.out 0).trans rfl,(Qa κ.out 1).trans rfl,(Qa κ.out 2).trans rfl,(sCl HB b4),(sCl HB b3),(sCl HB b2),(sCl HB b1),(sCl HB b0),(sCl HB az),(sCl HB ay),(sCl HB ax),(sCl HB aw),(sCl HB av)⟩ (fun hHeld=>?_);refine Zb newelref21_Pick.V4 newelref21_Pick.Kv (fun HT_ HW_=>?_)
        generalize wr.drew=gi at ζ ν κ HB ρ φ χ ψ ω a0 a6 a8 ag ah hHeld ⊢
        refine qP 1 (some 23) (bN 11 2) HT_ ?_
        refine qP 2 (some 24) (bN 11 6) HT_ ?_
        refine qP 3 (some 25) (bN 11 14) HT_ ?_
        refine qP 6 (some 28) (bN 11 78) HT_ ?_
        refine qT 0 (some 22) (bN 11 79) HT_ HW_ hHeld ?_
        refine qT 4 (some 26) (bN 11 95) HT_ HW_ hHeld ?_
        refine qT 5 (some 27) (bN 11 127) HT_ HW_ hHeld ?_
        refine qT 8 (some 30) (bN 11 383) HT_ HW_ hHeld ?_
        refine qK 7 (some 29) (bN 11 511) HT_ fun K hK=>?_
        refine Zd Try.func41 kr rfl #[.agg #[.slice a7 μ.length a1,.slice a3 τ.length a5],nI X] (by rfl) rfl rfl qM ?_
        with_reducible refine(newelref19_View.calls k1 _ _ μ _ _ τ X bc be bf _ ?side1 ?side2 ?side3 ?side4 bu.out).mono ?_
        (case side1=>exact(Kd.Qw bk.out HB.out))
        (case side2=>exact bw.out)
        (case side3=>exact(Kd.Qw bp.out HB.out))
        (case side4=>exact bz.out)
        rintro e eb ⟨bv,ca,cb,rfl,ai,aj,bg,hb⟩
        refine⟨_,rfl, ?_⟩
        have al:=aK (Kd.Za ai (Qm HB.out))
        have am:=aK (Kd.Za aj (Qm HB.out))
        have an:=aK (Kd.Za bg (Qm HB.out))
        replace ζ :=sBk ζ hb
        replace ν :=sBk ν hb
        replace κ :=sBk κ hb
        replace HB:=sHb hb
        (try clear hb)
        (try clear a4)
        (try clear hk)
        (try clear hi)
        (try clear ai)
        (try clear aj)
        (try clear bg)
        obtain⟨cn,co,br⟩:=Kd.Q7 al.out
        (first|subst br|(injection br with a9 ao aa;have ap:=a9.symm;have ar:=aa.symm;clear a9 ao aa;subst ap;subst ar))
        obtain⟨ce,cf,bs⟩:=Kd.Q7 am.out
        (first|subst bs|(injection bs with a9 ao aa;have ap:=a9.symm;have ar:=aa.symm;clear a9 ao aa;subst ap;subst ar))
        obtain⟨d8,d9,cu⟩:=Kd.Q7 an.out
        (first|subst cu|(injection cu with a9 ao aa;have ap:=a9.symm;have ar:=aa.symm;clear a9 ao aa;subst ap;subst ar))
        refine hK.out _ _ ⟨qc ζ,qc ζ,qc ζ,qc ζ,qc ζ,qc ζ,qc ζ,qc ζ,qc ζ,qc ζ,qc ν,qc ν,qc κ,qc κ,qc κ,(sCl HB b4),(sCl HB b3),(sCl HB b2),(sCl HB b1),(sCl HB b0),(sCl HB az),(sCl HB ay),(sCl HB ax),(sCl HB aw),(sCl HB av)⟩ (fun hHeld=>?_)
        clear hK K
        refine qN (some 29) ?_
        refine qK 9 (some 31) (bN 11 1023) HT_ fun K hK=>?_
        refine Zd Try.func12 kr rfl #[.agg #[nI B,nI J,nI O,nI Y,nI Z,nI γ,nI δ,nI ε,nI θ,nI η],.agg #[nI ((Qc l1 X).f0.f0),nI ((Qc l1 X).f0.f1),nI ((Qc l1 X).f0.f2),nI ((Qc l1 X).f0.f3),nI ((Qc l1 X).f0.f4.f0),nI ((Qc l1 X).f0.f4.f1),nI ((Qc l1 X).f0.f4.f2),nI ((Qc l1 X).f1),.bool ((Qc l1 X).f2),.bool ((Qc l1 X).f3)],.agg #[.slice cn bc.length co,.slice ce be.length cf,.slice d8 bf.length d9],.agg #[nI ab,nI ac,nI ae]] (by rfl) rfl rfl qM ?_
        with_reducible refine(newelref21_Cost.calls k1 B J O Y Z γ δ ε θ η ((Qc l1 X).f0.f0) ((Qc l1 X).f0.f1) ((Qc l1 X).f0.f2) ((Qc l1 X).f0.f3) ((Qc l1 X).f0.f4.f0) ((Qc l1 X).f0.f4.f1) ((Qc l1 X).f0.f4.f2) ((Qc l1 X).f1) ((Qc l1 X).f2) ((Qc l1 X).f3) _ _ bc _ _ be _ _ bf ab ac ae b9 _ ?side1 ?side2 ?side3 ?side4 ?side5 ?side6 b8.out).mono ?_
        (case side1=>exact(Kd.Qt al.out).2.2)
        (case side2=>exact(Kd.Qt al.out).2.1)
        (case side3=>exact(Kd.Qt am.out).2.2)
        (case side4=>exact(Kd.Qt am.out).2.1)
        (case side5=>exact(Kd.Qt an.out).2.2)
        (case side6=>exact(Kd.Qt an.out).2.1)
        rintro e k4 ⟨rfl,hb⟩
        refine⟨_,rfl, ?_⟩
        replace al:=sRb al hb
        replace am:=sRb am hb
        replace an:=sRb an hb
        replace ζ :=sBk ζ hb
        replace ν :=sBk ν hb
        replace κ :=sBk κ hb
        replace HB:=sHb hb
        (try clear hb)
        (try clear a4)
        (try clear hk)
        (try clear hi)
        refine hK.out _ _ ⟨qc ζ,qc ζ,qc ζ,qc ζ,qc ζ,qc ζ,qc ζ,qc ζ,qc ζ,qc ζ,qc ν,qc ν,qc κ,qc κ,qc κ,(sCl HB b4),(sCl HB b3),(sCl HB b2),(sCl HB b1),(sCl HB b0),(sCl HB az),(sCl HB ay),(sCl HB ax),(sCl HB aw),(sCl HB av)⟩ (fun hHeld=>?_)
        clear hK K
        refine qN (some 31) ?_
        refine qP 10 (some 14) (bN 11 2047) HT_ ?_
        refine Zl (Ze HT_.out kr) ?_
        try go_wp2_with (first|((with_reducible refine Qf (f:=42) rfl ?_);refine Q0 (some 34) rfl rfl Try.func42 kr rfl #[nI a2,nI X] rfl qM ?_;(with_reducible refine(newelref21_Fault.calls a2 X false _ bn.out).mono ?_);rintro e w' ⟨rfl,⟨nd,rfl⟩⟩;refine⟨_,rfl, ?_⟩))
        go_roundg k1
        case measure=>have:=af.out;omega
        case rel=>exact⟨(X),(b9),(wrap64 (X+1)),qR,qR,qR,H',⟨by have:=af.out;omega⟩,⟨bka ζ⟩,⟨bka ν⟩,⟨bka κ⟩,⟨bel⟩⟩
       ·rw[if_neg b5] at H
        have c28b0:=decide_eq_false b5
        clear b5
        have H':=aK H
        clear H
        try go_wp2
        replace ζ :=aK (Qd ζ.out)
        replace ν :=aK (Qd ν.out)
        replace κ :=aK (Qd κ.out)
        replace HB:=aK (Qj HB.out)
        have ba:0≤(X:Int):=of_decide_eq_true (by assumption)
        have bb:X<(l1.length:Int):=of_decide_eq_true (by assumption)
        obtain⟨ι,bo,ρ,φ,χ,ψ,ω,a0,a6,a8,ag,ah⟩:=Jc ci.out X ba bb
        have av:=ah
        have aw:=ag
        have ax:=a8
        have ay:=a6
        have az:=a0
        have b0:= ω
        have b1:= ψ
        have b2:= χ
        have b3:= φ
        have b4:=ρ
        cases bo
        replace ρ:=sCl HB ρ
        replace φ :=sCl HB φ
        replace χ :=sCl HB χ
        replace ψ :=sCl HB ψ
        replace ω :=sCl HB ω
        replace a0:=sCl HB a0
        replace a6:=sCl HB a6
        replace a8:=sCl HB a8
        replace ag:=sCl HB ag
        replace ah:=sCl HB ah
        replace ba:=eq_true ba
        replace bb:=eq_true bb
        refine Zg (n:=11) (S:=fun w'=>cI w' ξ 0 B∧cI w' ξ 1 J∧cI w' ξ 2 O∧cI w' ξ 3 Y∧cI w' ξ 4 Z∧cI w' ξ 5 γ∧cI w' ξ 6 δ ∧ cI w' ξ 7 ε ∧ cI w' ξ 8 θ ∧ cI w' ξ 9 η ∧ w'.cell? ⟨bh,0,none⟩=some (.slice a7 μ.length a1)∧w'.cell? ⟨bh,1,none⟩=some (.slice a3 τ.length a5)∧cI w' b6 0 ab∧cI w' b6 1 ac∧cI w' b6 2 ae∧w'.cell? (ι.add ((X).toNat * 10))=some (nI ((Qc l1 X).f0.f0))∧w'.cell? ⟨(ι.add ((X).toNat * 10)).block,(ι.add ((X).toNat * 10)).off+1,none⟩=some (nI ((Qc l1 X).f0.f1))∧w'.cell? ⟨(ι.add ((X).toNat * 10)).block,(ι.add ((X).toNat * 10)).off+2,none⟩=some (nI ((Qc l1 X).f0.f2))∧w'.cell? ⟨(ι.add ((X).toNat * 10)).block,(ι.add ((X).toNat * 10)).off+3,none⟩=some (nI ((Qc l1 X).f0.f3))∧w'.cell? ⟨(ι.add ((X).toNat * 10)).block,(ι.add ((X).toNat * 10)).off+4,none⟩=some (nI ((Qc l1 X).f0.f4.f0))∧w'.cell? ⟨(ι.add ((X).toNat * 10)).block,(ι.add ((X).toNat * 10)).off+5,none⟩=some (nI ((Qc l1 X).f0.f4.f1))∧w'.cell? ⟨(ι.add ((X).toNat * 10)).block,(ι.add ((X).toNat * 10)).off+6,none⟩=some (nI ((Qc l1 X).f0.f4.f2))∧w'.cell? ⟨(ι.add ((X).toNat * 10)).block,(ι.add ((X).toNat * 10)).off+7,none⟩=some (nI ((Qc l1 X).f1))∧w'.cell? ⟨(ι.add ((X).toNat * 10)).block,(ι.add ((X).toNat * 10)).off+8,none⟩=some (.bool ((Qc l1 X).f2))∧w'.cell? ⟨(ι.add ((X).toNat * 10)).block,(ι.add ((X).toNat * 10)).off+9,none⟩=some (.bool ((Qc l1 X).f3))) (ds:=[]) #[false,false,false,false,false,false,false,false,false,false,false] kr rfl rfl ⟨(Qa ζ.out 0).trans rfl,(Qa ζ.out 1).trans rfl,(Qa ζ.out 2).trans rfl,(Qa ζ.out 3).trans rfl,(Qa ζ.out 4).trans rfl,(Qa ζ.out 5).trans rfl,(Qa ζ.out 6).trans rfl,(Qa ζ.out 7).trans rfl,(Qa ζ.out 8).trans rfl,(Qa ζ.out 9).trans rfl,(Qa ν.out 0).trans rfl,(Qa ν.out 1).trans rfl,(Qa κ.out 0).trans rfl,(Qa κ.out 1).trans rfl,(Qa κ.out 2).trans rfl,(sCl HB b4),(sCl HB b3),(sCl HB b2),(sCl HB b1),(sCl HB b0),(sCl HB az),(sCl HB ay),(sCl HB ax),(sCl HB aw),(sCl HB av)⟩ (fun hHeld=>?_);refine Zb newelref21_Pick.V4 newelref21_Pick.Kv (fun HT_ HW_=>?_)
        generalize wr.drew=jv at ζ ν κ HB ρ φ χ ψ ω a0 a6 a8 ag ah hHeld ⊢
        refine qP 1 (some 23) (bN 11 2) HT_ ?_
        refine qP 2 (some 24) (bN 11 6) HT_ ?_
        refine qP 3 (some 25) (bN 11 14) HT_ ?_
        refine qP 6 (some 28) (bN 11 78) HT_ ?_
        refine qT 0 (some 22) (bN 11 79) HT_ HW_ hHeld ?_
        refine qT 4 (some 26) (bN 11 95) HT_ HW_ hHeld ?_
        refine qT 5 (some 27) (bN 11 127) HT_ HW_ hHeld ?_
        refine qT 8 (some 30) (bN 11 383) HT_ HW_ hHeld ?_
        refine qK 7 (some 29) (bN 11 511) HT_ fun K hK=>?_
        refine Zd Try.func41 kr rfl #[.agg #[.slice a7 μ.length a1,.slice a3 τ.length a5],nI X] (by rfl) rfl rfl qM ?_
        with_reducible refine(newelref19_View.calls k1 _ _ μ _ _ τ X bc be bf _ ?side1 ?side2 ?side3 ?side4 bu.out).mono ?_
        (case side1=>exact(Kd.Qw bk.out HB.out))
        (case side2=>exact bw.out)
        (case side3=>exact(Kd.Qw bp.out HB.out))
        (case side4=>exact bz.out)
        rintro e ib ⟨bv,ca,cb,rfl,ai,aj,bg,hb⟩
        refine⟨_,rfl, ?_⟩
        have al:=aK (Kd.Za ai (Qm HB.out))
        have am:=aK (Kd.Za aj (Qm HB.out))
        have an:=aK (Kd.Za bg (Qm HB.out))
        replace ζ :=sBk ζ hb
        replace ν :=sBk ν hb
        replace κ :=sBk κ hb
        replace HB:=sHb hb
        (try clear hb)
        (try clear a4)
        (try clear hk)
        (try clear hi)
        (try clear ai)
        (try clear aj)
        (try clear bg)
        obtain⟨dc,df,cv⟩:=Kd.Q7 al.out
        (first|subst cv|(injection cv with a9 ao aa;have ap:=a9.symm;have ar:=aa.symm;clear a9 ao aa;subst ap;subst ar))
        obtain⟨eh,ei,fc⟩:=Kd.Q7 am.out
        (first|subst fc|(injection fc with a9 ao aa;have ap:=a9.symm;have ar:=aa.symm;clear a9 ao aa;subst ap;subst ar))
        obtain⟨dn,dp,fm⟩:=Kd.Q7 an.out
        (first|subst fm|(injection fm with a9 ao aa;have ap:=a9.symm;have ar:=aa.symm;clear a9 ao aa;subst ap;subst ar))
        refine hK.out _ _ ⟨qc ζ,qc ζ,qc ζ,qc ζ,qc ζ,qc ζ,qc ζ,qc ζ,qc ζ,qc ζ,qc ν,qc ν,qc κ,qc κ,qc κ,(sCl HB b4),(sCl HB b3),(sCl HB b2),(sCl HB b1),(sCl HB b0),(sCl HB az),(sCl HB ay),(sCl HB ax),(sCl HB aw),(sCl HB av)⟩ (fun hHeld=>?_)
        clear hK K
        refine qN (some 29) ?_
        refine qK 9 (some 31) (bN 11 1023) HT_ fun K hK=>?_
        refine Zd Try.func12 kr rfl #[.agg #[nI B,nI J,nI O,nI Y,nI Z,nI γ,nI δ,nI ε,nI θ,nI η],.agg #[nI ((Qc l1 X).f0.f0),nI ((Qc l1 X).f0.f1),nI ((Qc l1 X).f0.f2),nI ((Qc l1 X).f0.f3),nI ((Qc l1 X).f0.f4.f0),nI ((Qc l1 X).f0.f4.f1),nI ((Qc l1 X).f0.f4.f2),nI ((Qc l1 X).f1),.bool ((Qc l1 X).f2),.bool ((Qc l1 X).f3)],.agg #[.slice dc bc.length df,.slice eh be.length ei,.slice dn bf.length dp],.agg #[nI ab,nI ac,nI ae]] (by rfl) rfl rfl qM ?_
        with_reducible refine(newelref21_Cost.calls k1 B J O Y Z γ δ ε θ η ((Qc l1 X).f0.f0) ((Qc l1 X).f0.f1) ((Qc l1 X).f0.f2) ((Qc l1 X).f0.f3) ((Qc l1 X).f0.f4.f0) ((Qc l1 X).f0.f4.f1) ((Qc l1 X).f0.f4.f2) ((Qc l1 X).f1) ((Qc l1 X).f2) ((Qc l1 X).f3) _ _ bc _ _ be _ _ bf ab ac ae b9 _ ?side1 ?side2 ?side3 ?side4 ?side5 ?side6 b8.out).mono ?_
        (case side1=>exact(Kd.Qt al.out).2.2)
        (case side2=>exact(Kd.Qt al.out).2.1)
        (case side3=>exact(Kd.Qt am.out).2.2)
        (case side4=>exact(Kd.Qt am.out).2.1)
        (case side5=>exact(Kd.Qt an.out).2.2)
        (case side6=>exact(Kd.Qt an.out).2.1)
        rintro e iz ⟨rfl,hb⟩
        refine⟨_,rfl, ?_⟩
        replace al:=sRb al hb
        replace am:=sRb am hb
        replace an:=sRb an hb
        replace ζ :=sBk ζ hb
        replace ν :=sBk ν hb
        replace κ :=sBk κ hb
        replace HB:=sHb hb
        (try clear hb)
        (try clear a4)
        (try clear hk)
        (try clear hi)
        refine hK.out _ _ ⟨qc ζ,qc ζ,qc ζ,qc ζ,qc ζ,qc ζ,qc ζ,qc ζ,qc ζ,qc ζ,qc ν,qc ν,qc κ,qc κ,qc κ,(sCl HB b4),(sCl HB b3),(sCl HB b2),(sCl HB b1),(sCl HB b0),(sCl HB az),(sCl HB ay),(sCl HB ax),(sCl HB aw),(sCl HB av)⟩ (fun hHeld=>?_)
        clear hK K
        refine qN (some 31) ?_
        refine qP 10 (some 14) (bN 11 2047) HT_ ?_
        refine Zl (Ze HT_.out kr) ?_
        try go_wp2_with (first|((with_reducible refine Qf (f:=42) rfl ?_);refine Q0 (some 34) rfl rfl Try.func42 kr rfl #[nI a2,nI X] rfl qM ?_;(with_reducible refine(newelref21_Fault.calls a2 X false _ bn.out).mono ?_);rintro e w' ⟨rfl,⟨nd,rfl⟩⟩;refine⟨_,rfl, ?_⟩))
        go_roundg k1
        case measure=>have:=af.out;omega
        case rel=>exact⟨(bl),(au),(wrap64 (X+1)),qR,qR,qR,H',⟨by have:=af.out;omega⟩,⟨bka ζ⟩,⟨bka ν⟩,⟨bka κ⟩,⟨bel⟩⟩
    ·rw[if_neg c10] at H
     exact absurd H (by simp)
   ·rw[if_neg c9] at H
    have c9b0:=decide_eq_false c9
    clear c9
    obtain rfl:=qJ H
    go_wp2
    go_ret
    exact⟨rfl,HB.out⟩
def newelref19_Few.f (B:List (S36)) (J:List (S86)):Option (Bool):=if (B.length:Int)≤130 then (some (decide ((J.length:Int)≤520))) else (some false)
theorem newelref19_Few.calls (ρ:Option Addr) (μ :Nat) (B:List (S36)) (ξ :Option Addr) (ν :Nat) (J:List (S86)) (r:Bool) (w:World) (ak:Kd.C k36 w ρ B.length B) (au:B.length ≤ μ) (aw:Kd.C k86 w ξ J.length J) (ax:J.length ≤ ν) (h:newelref19_Few.f B J=some r):
 Calls Try.prog 36 #[.agg #[.slice ρ B.length μ,.slice ξ J.length ν]] w fun e w'=>e = .returned (.bool r)∧Below w.heap.size w w':=by
 have d0:=Try.underlying50
 have av:=aK ak
 have bl:=aK au
 clear ak au
 have bk:=aK aw
 have d9:=aK ax
 clear aw ax
 have HB:=aK (Below.refl w.heap.size w)
 have H:(if (B.length:Int)≤130 then (some (decide ((J.length:Int)≤520))) else (some false))=some r:=h
 clear h
 by_cases c2:(B.length:Int)≤130
 ·rw[if_pos c2] at H
  have c2b0:=decide_eq_true c2
  have c2b1:decide (B.length≤130)=true:=decide_eq_true (by omega)
  clear c2
  obtain rfl:=qJ H
  go_enter Try.func36,Try.ntmps36
  go_wp2_with (first|((with_reducible refine Qe (N:=1) rfl ?_);(try(refine Zk (by rfl) ?_;dsimp only));refine Zj ?hg (N:=1) ?hd (cs:=#[.slice ρ B.length μ,.slice ξ J.length ν]) (t:=50) ?hr ?_;(case hd=>rfl);(case hg=>rfl);(case hr=>first|(go_simp;done)|(go_simp;rfl));intro O hg w3 hbox hb;have φ :=aK (Q6 (by repeat(first|(with_reducible first|exact HB.out|apply Qq|apply Qn|apply Qj)|exact HB.out)) hb);have χ :=aK (hbox);have ω :=aK ((by rw[hg];exact(Qm (by repeat(first|(with_reducible first|exact HB.out|apply Qq|apply Qn|apply Qj)|exact HB.out))):w.heap.size≤O));have a6:=aK ((by rw[hg];exact(Qm (by repeat(first|(with_reducible first|exact HB.out|apply Qq|apply Qn|apply Qj)|exact HB.out))):w.heap.size≤O));clear HB;have HB:= φ;have X:= χ;have Z:= ω;have Y:=a6;clear φ χ ω a6;clear hb hbox hg;obtain⟨a9,aa,ae,ag⟩:=qD2 X.out))
  go_ret
  exact⟨by first|rfl|(simp[Ql,Qk] <;> rfl)|(simp[*,Ql,Qk] <;> rfl),by repeat(first|(with_reducible first|exact HB.out|apply Qq|apply Qn|apply Qj|refine Qz ?_ Y.out)|exact HB.out)⟩
 ·rw[if_neg c2] at H
  have c2b0:=decide_eq_false c2
  have c2b1:decide (B.length≤130)=false:=decide_eq_false (by omega)
  clear c2
  obtain rfl:=qJ H
  go_enter Try.func36,Try.ntmps36
  go_wp2_with (first|((with_reducible refine Qe (N:=1) rfl ?_);(try(refine Zk (by rfl) ?_;dsimp only));refine Zj ?hg (N:=1) ?hd (cs:=#[.slice ρ B.length μ,.slice ξ J.length ν]) (t:=50) ?hr ?_;(case hd=>rfl);(case hg=>rfl);(case hr=>first|(go_simp;done)|(go_simp;rfl));intro O hg w5 hbox hb;have φ :=aK (Q6 (by repeat(first|(with_reducible first|exact HB.out|apply Qq|apply Qn|apply Qj)|exact HB.out)) hb);have χ :=aK (hbox);have ω :=aK ((by rw[hg];exact(Qm (by repeat(first|(with_reducible first|exact HB.out|apply Qq|apply Qn|apply Qj)|exact HB.out))):w.heap.size≤O));have a6:=aK ((by rw[hg];exact(Qm (by repeat(first|(with_reducible first|exact HB.out|apply Qq|apply Qn|apply Qj)|exact HB.out))):w.heap.size≤O));clear HB;have HB:= φ;have X:= χ;have Z:= ω;have Y:=a6;clear φ χ ω a6;clear hb hbox hg;obtain⟨σ,ψ,a2,ab⟩:=qD2 X.out))
  go_ret
  exact⟨by first|rfl|(simp[Ql,Qk] <;> rfl)|(simp[*,Ql,Qk] <;> rfl),by repeat(first|(with_reducible first|exact HB.out|apply Qq|apply Qn|apply Qj|refine Qz ?_ Y.out)|exact HB.out)⟩
def newellaw21_few.f (B:Int) (J:Int) (O:Int) (Y:Int) (Z:Int) (γ:Int) (δ :Int) (ε :Int) (θ :Int) (η :Int) (κ :List (S31)) (ψ :Int) (μ :List (S36)) (ν :List (S86)):Option (Bool):=if (κ.length:Int)≤10 then ((newelref19_Few.f μ ν).bind fun ι =>(some ι)) else (some false)
theorem newellaw21_few.calls (B:Int) (J:Int) (O:Int) (Y:Int) (Z:Int) (γ:Int) (δ :Int) (ε :Int) (θ :Int) (η :Int) (a0:Option Addr) (a1:Nat) (κ :List (S31)) (ψ :Int) (a2:Option Addr) (a3:Nat) (μ :List (S36)) (a5:Option Addr) (a7:Nat) (ν :List (S86)) (r:Bool) (w:World) (d7:Kd.C k31 w a0 κ.length κ) (d8: κ.length≤a1) (d9:Kd.C k36 w a2 μ.length μ) (da: μ.length≤a3) (db:Kd.C k86 w a5 ν.length ν) (dc: ν.length≤a7) (h:newellaw21_few.f B J O Y Z γ δ ε θ η κ ψ μ ν = some r):
 Calls Try.prog 13 #[.agg #[nI B,nI J,nI O,nI Y,nI Z,nI γ,nI δ,nI ε,nI θ,nI η,.slice a0 κ.length a1,nI ψ,.slice a2 μ.length a3,.slice a5 ν.length a7]] w fun e w'=>e = .returned (.bool r)∧Below w.heap.size w w':=by
 have jc:=Try.underlying52
 have d0:=Try.underlying50
 have b2:=aK d7
 have b3:=aK d8
 clear d7 d8
 have b6:=aK d9
 have b7:=aK da
 clear d9 da
 have bj:=aK db
 have bn:=aK dc
 clear db dc
 have HB:=aK (Below.refl w.heap.size w)
 have H:(if (κ.length:Int)≤10 then ((newelref19_Few.f μ ν).bind fun ι =>(some ι)) else (some false))=some r:=h
 clear h
 by_cases c2:(κ.length:Int)≤10
 ·rw[if_pos c2] at H
  have c2b0:=decide_eq_true c2
  have c2b1:decide (κ.length≤10)=true:=decide_eq_true (by omega)
  clear c2
  obtain⟨ι,A3,H⟩:=qQ H
  obtain rfl:=qJ H
  go_enter Try.func13,Try.ntmps13
  go_wp2_with (first|((with_reducible refine Qe (N:=1) rfl ?_);refine qE 1 #[nI B,nI J,nI O,nI Y,nI Z,nI γ,nI δ,nI ε,nI θ,nI η,.slice a0 κ.length a1,nI ψ,.slice a2 μ.length a3,.slice a5 ν.length a7] 52 ?_;intro ζ hg w4 hbox hb;have X:=aK hbox;have ξ :=sGe hg;have ρ:=sGe hg;replace HB:=sHb hb;clear hb hbox hg;have cg:cI w4 ζ 0 B:=(Qa X.out 0).trans rfl;have cn:cI w4 ζ 1 J:=(Qa X.out 1).trans rfl;have d1:cI w4 ζ 2 O:=(Qa X.out 2).trans rfl;have d2:cI w4 ζ 3 Y:=(Qa X.out 3).trans rfl;have dt:cI w4 ζ 4 Z:=(Qa X.out 4).trans rfl;have dw:cI w4 ζ 5 γ:=(Qa X.out 5).trans rfl;have dy:cI w4 ζ 6 δ :=(Qa X.out 6).trans rfl;have dz:cI w4 ζ 7 ε :=(Qa X.out 7).trans rfl;have au:cI w4 ζ 8 θ :=(Qa X.out 8).trans rfl;have av:cI w4 ζ 9 η :=(Qa X.out 9).trans rfl;have σ:w4.cell? ⟨ζ,10,none⟩=some (.slice a0 κ.length a1):=(Qa X.out 10).trans rfl;have τ :cI w4 ζ 11 ψ :=(Qa X.out 11).trans rfl;have ω :w4.cell? ⟨ζ,12,none⟩=some (.slice a2 μ.length a3):=(Qa X.out 12).trans rfl;have a6:w4.cell? ⟨ζ,13,none⟩=some (.slice a5 ν.length a7):=(Qa X.out 13).trans rfl;have dd:=Qg X.out 0;have de:=Qg X.out 1;have dk:=Qg X.out 2;have e0:=Qg X.out 3;have e3:=Qg X.out 4;have e7:=Qg X.out 5;have e8:=Qg X.out 6;have e9:=Qg X.out 7;have aw:=Qg X.out 8;have ax:=Qg X.out 9;have a8:=Qg X.out 10;have a9:=Qg X.out 11;have aa:=Qg X.out 12;have af:=Qg X.out 13)|(go_at_call 36;(with_reducible refine(newelref19_Few.calls _ _ μ _ _ ν ι _ ?side1 ?side2 ?side3 ?side4 A3.out).mono ?_);(case side1=>exact(Kd.Qw b6.out HB.out));(case side2=>exact b7.out);(case side3=>exact(Kd.Qw bj.out HB.out));(case side4=>exact bn.out);rintro e w6 ⟨rfl,hb⟩;have φ :=aK (Q1 (g:= ζ) (o:=.cells #[nI B,nI J,nI O,nI Y,nI Z,nI γ,nI δ,nI ε,nI θ,nI η,.slice a0 κ.length a1,nI ψ,.slice a2 μ.length a3,.slice a5 ν.length a7] 52 (0,0)) X.out hb);have χ :=aK (Q6 HB.out hb);clear X;clear HB;have X:= φ;have HB:= χ;clear φ χ;(try clear hb);(try clear a4);(try clear hk);(try clear hi)))
  go_ret
  exact⟨rfl,HB.out⟩
 ·rw[if_neg c2] at H
  have c2b0:=decide_eq_false c2
  have c2b1:decide (κ.length≤10)=false:=decide_eq_false (by omega)
  clear c2
  obtain rfl:=qJ H
  go_enter Try.func13,Try.ntmps13
  go_wp2_with (first|((with_reducible refine Qe (N:=1) rfl ?_);refine qE 1 #[nI B,nI J,nI O,nI Y,nI Z,nI γ,nI δ,nI ε,nI θ,nI η,.slice a0 κ.length a1,nI ψ,.slice a2 μ.length a3,.slice a5 ν.length a7] 52 ?_;intro ζ hg w7 hbox hb;have X:=aK hbox;have ξ :=sGe hg;have ρ:=sGe hg;replace HB:=sHb hb;clear hb hbox hg;have ac:cI w7 ζ 0 B:=(Qa X.out 0).trans rfl;have ae:cI w7 ζ 1 J:=(Qa X.out 1).trans rfl;have ab:cI w7 ζ 2 O:=(Qa X.out 2).trans rfl;have ar:cI w7 ζ 3 Y:=(Qa X.out 3).trans rfl;have bi:cI w7 ζ 4 Z:=(Qa X.out 4).trans rfl;have bo:cI w7 ζ 5 γ:=(Qa X.out 5).trans rfl;have bq:cI w7 ζ 6 δ :=(Qa X.out 6).trans rfl;have br:cI w7 ζ 7 ε :=(Qa X.out 7).trans rfl;have bz:cI w7 ζ 8 θ :=(Qa X.out 8).trans rfl;have cb:cI w7 ζ 9 η :=(Qa X.out 9).trans rfl;have ag:w7.cell? ⟨ζ,10,none⟩=some (.slice a0 κ.length a1):=(Qa X.out 10).trans rfl;have ai:cI w7 ζ 11 ψ :=(Qa X.out 11).trans rfl;have aj:w7.cell? ⟨ζ,12,none⟩=some (.slice a2 μ.length a3):=(Qa X.out 12).trans rfl;have ak:w7.cell? ⟨ζ,13,none⟩=some (.slice a5 ν.length a7):=(Qa X.out 13).trans rfl;have ah:=Qg X.out 0;have al:=Qg X.out 1;have b5:=Qg X.out 2;have cd:=Qg X.out 3;have ce:=Qg X.out 4;have cf:=Qg X.out 5;have ch:=Qg X.out 6;have cj:=Qg X.out 7;have cu:=Qg X.out 8;have cw:=Qg X.out 9;have am:=Qg X.out 10;have an:=Qg X.out 11;have ao:=Qg X.out 12;have ap:=Qg X.out 13))
  go_ret
  exact⟨rfl,HB.out⟩
def newelref19_Give.l0:Nat→Int→List (S36)→List (S86)→Int→Int→Int→List (S36)→List (S86)→Option ((List (S36))×(List (S86)))
 |0,_,_,_,_,_,_,_,_=>none
 |k+1,O,B,δ,X,Y,Z,J,γ=>if O<(B.length:Int) then (if 0≤O then (if ((Qb B O).f0)=X then (if ((Qb B O).f1)=Y then (if J.length<5864062014805 then (newelref19_Give.l0 k (wrap64 (O+1)) B δ X Y Z (J ++ [(⟨(Qb B O).f0,(Qb B O).f1,Z⟩:S36)]) γ) else (none)) else (if J.length<5864062014805 then (newelref19_Give.l0 k (wrap64 (O+1)) B δ X Y Z (J ++ [(⟨(Qb B O).f0,(Qb B O).f1,(Qb B O).f2⟩:S36)]) γ) else (none))) else (if J.length<5864062014805 then (newelref19_Give.l0 k (wrap64 (O+1)) B δ X Y Z (J ++ [(⟨(Qb B O).f0,(Qb B O).f1,(Qb B O).f2⟩:S36)]) γ) else (none))) else (none)) else (some (J,γ))
def newelref19_Give.f (k:Nat) (B:List (S36)) (J:List (S86)) (X:Int) (ζ :Int) (ι :Int):Option ((List (S36))×(List (S86))):=newelref19_Give.l0 k 0 B J X ζ ι ([]:List (S36)) J
theorem newelref19_Give.calls (k:Nat) (ρ:Option Addr) (μ :Nat) (B:List (S36)) (a6:Nat→Prop) (ξ :Option Addr) (ν :Nat) (J:List (S86)) (X:Int) (ζ :Int) (ι :Int) (r1:List (S36)) (r2:List (S86)) (w:World) (ak:Kd.C k36 w ρ B.length B) (au:B.length ≤ μ) (cr:Kd.V k86 86 w w.heap.size (fun k_=>a6 k_) (.slice ξ J.length ν) J) (h:newelref19_Give.f k B J X ζ ι = some (r1,r2)):
 Calls Try.prog 43 #[.agg #[.slice ρ B.length μ,.slice ξ J.length ν],.agg #[nI X,nI ζ,nI ι]] w fun e w'=>∃ b3 d7:Value,e = .returned (.agg #[b3,d7])∧Kd.R k36 36 w' w.heap.size (fun k_=>(w.heap.size≤k_)) b3 r1∧Kd.V k86 86 w' w.heap.size (fun k_=>(a6 k_∨w.heap.size≤k_)∧some k_≠(b3:Value).ownBlock) d7 r2∧Below w.heap.size w w':=by
 have d0:=Try.underlying50
 have cg:=Try.underlying36
 have av:=aK ak
 have bl:=aK au
 clear ak au
 have a7:=aK (show Kd.V k86 86 w w.heap.size (fun k_=>(a6 k_∨w.heap.size≤k_)) (.slice ξ J.length ν) J from Kd.Q5 cr (fun k_ hk=>.inl hk))
 have HB:=aK (Below.refl w.heap.size w)
 have H:(newelref19_Give.l0 k 0 B J X ζ ι ([]:List (S36)) J)=some (r1,r2):=h
 clear h
 have H':=aK H
 clear H
 go_enter Try.func43,Try.ntmps43
 go_wp2_with (first|((with_reducible refine Qe (N:=2) rfl ?_);refine qE 2 #[.slice ρ B.length μ,.slice ξ J.length ν] 50 ?_;intro a2 hg w3 hbox hb;have Z:=aK hbox;have el:=sGe hg;have fb:=sGe hg;replace a7:=aK (Kd.Zh (Kd.Zf a7.out a2 (Nat.le_of_eq hg.symm)) hb);replace HB:=sHb hb;clear hb hbox hg)|((with_reducible refine Qe (N:=3) rfl ?_);refine qE 3 #[nI X,nI ζ,nI ι] 36 ?_;intro χ hg w4 hbox hb;have δ :=aK hbox;have gf:=sGe hg;have gi:=sGe hg;have a9:=sNl Z hg;have aa:=sNg Z hg;replace a7:=aK (Kd.Zh (Kd.Zf a7.out χ (Nat.le_of_eq hg.symm)) hb);replace Z:=sBk Z hb;replace HB:=sHb hb;clear hb hbox hg)|((with_reducible refine Qe (N:=4) rfl ?_);refine qE 4 #[.slice none 0 0,.slice none 0 0] 50 ?_;intro a0 hg w5 hbox hb;have η :=aK hbox;have gj:=sGe hg;have gl:=sGe hg;have ai:=sNl Z hg;have aj:=sNg Z hg;have bh:=sNl δ hg;have bk:=sNg δ hg;replace a7:=aK (Kd.Zh (Kd.Zf a7.out a0 (Nat.le_of_eq hg.symm)) hb);replace Z:=sBk Z hb;replace δ :=sBk δ hb;replace HB:=sHb hb;clear hb hbox hg;have dd:=a9.out;have dt:=aa.out;have da:=ai.out;have dk:=aj.out;obtain⟨ac,ae,ah,al⟩:=qD2 Z.out)|((with_reducible refine Qe (N:=5) rfl ?_);refine qE 5 #[.slice none 0 0,.slice none 0 0] 50 ?_;intro φ hg w9 hbox hb;have ε :=aK hbox;have h7:=sGe hg;have h8:=sGe hg;have am:=sNl Z hg;have an:=sNg Z hg;have ar:=sNl δ hg;have aw:=sNg δ hg;have ax:=sNl η hg;have ay:=sNg η hg;replace a7:=aK (Kd.Zh (Kd.Zf a7.out φ (Nat.le_of_eq hg.symm)) hb);replace Z:=sBk Z hb;replace δ :=sBk δ hb;replace η :=sBk η hb;replace HB:=sHb hb;clear hb hbox hg;have cx:=an.out;have dj:=am.out;have du:=aw.out;have e4:=ar.out;have e0:=ay.out;have e3:=ax.out;obtain⟨ao,bc,ap,be⟩:=qD2 ε.out))
 go_loopg [6] k (fun kq v6 w'=>∃ (Y:Int) (τ :List (S36)) (ω :Value),v6=nI Y∧Aside0 (newelref19_Give.l0 kq Y B J X ζ ι τ J=some (r1,r2))∧Aside0 (kq≤k)∧Aside0 (Kd.V k86 86 w' w.heap.size (fun k_=>(a6 k_∨w.heap.size≤k_)∧some k_≠(ω :Value).ownBlock∧k_≠a2∧k_ ≠ χ ∧ k_≠a0∧k_ ≠ φ) (.slice ξ J.length ν) J)∧Aside0 (Kd.R k36 36 w' w.heap.size (fun k_=>(w.heap.size≤k_)∧k_ ≠ χ) ω τ)∧Aside0 (Kd.V k86 86 w' w.heap.size (fun k_=>(a6 k_∨w.heap.size≤k_)∧some k_≠(ω :Value).ownBlock∧k_≠a2∧k_ ≠ χ ∧ k_≠a0∧k_ ≠ φ) (.slice ξ J.length ν) J)∧Aside0 (w'.heap[a2]?=some (.cells #[(.slice ρ B.length μ),(.slice ξ J.length ν)] 50 (0,0)))∧Aside0 (w'.heap[χ]?=some (.cells #[nI X,nI ζ,nI ι] 36 (0,0)))∧Aside0 (w'.heap[a0]?=some (.cells #[(.slice none 0 0),(.slice none 0 0)] 50 (0,0)))∧Aside0 (w'.heap[φ]?=some (.cells #[ω,(.slice ξ J.length ν)] 50 (0,0)))∧Aside0 (Below w.heap.size w w'))
 case atStart=>exact⟨(0),(([]:List (S36))),(.slice none 0 0),qR,H',⟨Nat.le_refl _⟩,⟨by(with_reducible repeat first|apply Kd.Q3|apply Kd.Q2|apply Kd.Q8);exact Kd.Q5 (Kd.fV (Kd.fV (Kd.Q5 a7.out (fun k_ hk=>(⟨hk,hk.2⟩:_∧k_ ≠ φ))))) (fun _ hk=>⟨hk.1.1.1.1.1,⟨(by simp[Value.ownBlock]),⟨hk.1.1.1.1.2,⟨hk.1.1.1.2,⟨hk.1.1.2,hk.1.2⟩⟩⟩⟩⟩)⟩,⟨by first|exact Kd.Xy _ _ _ _ _|exact Kd.Yr _ _ _ _ _|exact Kd.Yo _ _ _ _ _|exact Kd.Yq _ _ _ _ _|exact Kd.Yp _ _ _ _ _⟩,⟨by(with_reducible repeat first|apply Kd.Q3|apply Kd.Q2|apply Kd.Q8);exact Kd.Q5 (Kd.fV (Kd.fV (Kd.Q5 a7.out (fun k_ hk=>(⟨hk,hk.2⟩:_∧k_ ≠ φ))))) (fun _ hk=>⟨hk.1.1.1.1.1,⟨(by simp[Value.ownBlock]),⟨hk.1.1.1.1.2,⟨hk.1.1.1.2,⟨hk.1.1.2,hk.1.2⟩⟩⟩⟩⟩)⟩,⟨bka Z⟩,⟨bka δ⟩,⟨bka η⟩,⟨by(with_reducible repeat first|refine Qi ?_ _|refine Qd ?_|refine Qh ?_ _);refine Qo (cs:=#[.slice none 0 0,.slice none 0 0]) ?_ 1 _ rfl;(with_reducible repeat first|refine Qi ?_ _|refine Qd ?_|refine Qh ?_ _);refine Qo (cs:=#[.slice none 0 0,.slice none 0 0]) ?_ 0 _ rfl;(with_reducible repeat first|refine Qi ?_ _|refine Qd ?_|refine Qh ?_ _);exact ε.out⟩,⟨bel⟩⟩
 case round=>
  clear H'
  try clear ao
  try clear bc
  try clear ac
  try clear ae
  try clear ap
  try clear be
  try clear ah
  try clear al
  obtain⟨Y,τ,ω,rfl,HA,af,κ,O,θ,Z,δ,η,ε,HB⟩:=hrel
  cases gk with
  |zero=>exact absurd HA.out (by simp[newelref19_Give.l0])
  |succ k1=>
   have H:=HA.out
   clear HA
   simp only[newelref19_Give.l0] at H
   by_cases σ:Y<(B.length:Int)
   ·rw[if_pos σ] at H
    have c14b0:=decide_eq_true σ
    clear σ
    by_cases a8:0≤Y
    ·rw[if_pos a8] at H
     have c15b0:=decide_eq_true a8
     clear a8
     by_cases ab:((Qb B Y).f0)=X
     ·rw[if_pos ab] at H
      have c16b0:(((Qb B Y).f0)==X)=true:=beq_iff_eq.mpr ab
      have c16b1:(((Qb B Y).f0) != X)=false:=bne_eq_false_iff_eq.mpr ab
      clear ab
      by_cases ψ :((Qb B Y).f1) = ζ
      ·rw[if_pos ψ] at H
       have c17b0:(((Qb B Y).f1) == ζ)=true:=beq_iff_eq.mpr ψ
       have c17b1:(((Qb B Y).f1) != ζ)=false:=bne_eq_false_iff_eq.mpr ψ
       clear ψ
       by_cases b6: τ.length<5864062014805
       ·rw[if_pos b6] at H
        have ct:=aK b6
        clear b6
        obtain⟨br,bm⟩:∃ y_:List (S36),y_=(τ ++ [(⟨(Qb B Y).f0,(Qb B Y).f1,ι⟩:S36)]):=⟨_,rfl⟩
        replace H:(newelref19_Give.l0 k1 (wrap64 (Y+1)) B J X ζ ι br J)=some (r1,r2):=by first|(rw[bm];with_reducible exact H)|(have ag:=(Option.bind_some _ _).symm.trans H;rw[bm];with_reducible exact ag)|(have ag:=(Option.bind_some _ _).symm.trans H;with_reducible exact ag)|with_reducible exact H|(rw[bm];exact H)|exact H
        have cu:=aK bm
        clear bm
        have H':=aK H
        clear H
        have ca:=a9.out
        have d9:=aa.out
        have eu:=ai.out
        have ev:=aj.out
        have em:=am.out
        have en:=an.out
        obtain⟨az,b0,b1,b2⟩:=qD2 Z.out
        have bf:0≤(Y:Int):=of_decide_eq_true (by assumption)
        have bg:Y<(B.length:Int):=of_decide_eq_true (by assumption)
        obtain⟨bn,bq,a3,a4,a5⟩:=Z4 av.out Y bf bg
        cases bq
        replace a3:=sCl HB a3
        replace a4:=sCl HB a4
        replace a5:=sCl HB a5
        replace bf:=eq_true bf
        replace bg:=eq_true bg
        go_wp2_with (first|((with_reducible refine Qe (N:=7) rfl ?_);refine qE 7 #[nI 0,nI 0,nI 0] 36 ?_;intro γ hg bi hbox hb;have a1:=aK hbox;have bz:=sGe hg;have cb:=sGe hg;have b4:=sNl Z hg;have b5:=sNg Z hg;have b7:=sNl δ hg;have b8:=sNg δ hg;have b9:=sNl η hg;have ba:=sNg η hg;have bb:=sNl ε hg;have bd:=sNg ε hg;replace κ :=aK (Kd.Zh (Kd.Zf (by(with_reducible repeat first|apply Kd.Q3|apply Kd.Q2|apply Kd.Q8);exact κ.out) γ (Nat.le_of_eq hg.symm)) hb);replace O:=aK (Kd.Zn (Kd.Yd (kra O) γ (Nat.le_of_eq hg.symm)) hb);replace θ :=aK (Kd.Zh (Kd.Zf (by(with_reducible repeat first|apply Kd.Q3|apply Kd.Q2|apply Kd.Q8);exact θ.out) γ (Nat.le_of_eq hg.symm)) hb);replace Z:=sBk Z hb;replace δ :=sBk δ hb;replace η :=sBk η hb;replace ε :=sBk ε hb;replace HB:=sHb hb;clear hb hbox hg;have dy:=b5.out;have dz:=b4.out;have eo:=b8.out;have ep:=b7.out;have cw:=ba.out;have gq:=b9.out;have fy:=bd.out;have fz:=bb.out;obtain⟨ew,fk,fl,ey,fm,fn⟩:=qD3 a1.out;have hdd_:∀ a_ b_ c_ d_:Value,((((bi.setCell ⟨γ,0,none⟩ a_).setCell ⟨γ,1,none⟩ b_).setCell ⟨γ,2,none⟩ c_).setCell ⟨γ,2,none⟩ d_).cell? ⟨γ,2,none⟩=some d_:=fun a_ b_ c_ d_=>(by refine(Qa (cs:=#[a_,b_,d_]) (t:=36) ?_ 2).trans rfl;refine Qo (cs:=#[a_,b_,c_]) ?_ 2 _ rfl;refine Qo (cs:=#[a_,b_,nI 0]) ?_ 2 _ rfl;refine Qo (cs:=#[a_,nI 0,nI 0]) ?_ 1 _ rfl;refine Qo (cs:=#[nI 0,nI 0,nI 0]) ?_ 0 _ rfl;exact a1.out);have e7:=bh.out;have e8:=bk.out;have dw:=ar.out;have ea:=aw.out;obtain⟨bj,ck,dl,cn,co,dm⟩:=qD3 δ.out;have ga:=ay.out;have gb:=ax.out;obtain⟨d3,d4,d5,d6⟩:=qD2 ε.out)|((with_reducible refine Z3 (b:=.append) (xs:=#[.tmp 39,.tmp 41]) rfl ?_);at_builtin;refine Kd.X7 k36 (w0:=w) w.heap.size rfl (.tmp 39) (.tmp 41) 47 36 (.agg #[(nI 0),(nI 0),(nI 0)]) 24 rfl Try.underlying47 Y7 rfl (by decide) (by omega) ω τ (⟨(Qb B Y).f0,(Qb B Y).f1,ι⟩:S36) [nI ((Qb B Y).f0),nI ((Qb B Y).f1),nI ι] (fun k_=>(w.heap.size≤k_)∧k_ ≠ χ ∧ k_≠γ) (fun _=>False) rfl (by first|(go_simp;done)|(go_simp;rfl)) ?aP (fun _ hk=>hk.elim) ?aF ?aO ?aB ?aS ?aL ?_;(case aP=>exact Jh _ _ _ (⟨(Qb B Y).f0,(Qb B Y).f1,ι⟩:S36));(case aB=>exact bel);(case aF=>exact(fun k_ hk=>⟨(Nat.le_trans (Qm bel) hk),Kd.Xo (g:= χ) (o:=.cells #[nI X,nI ζ,nI ι] 36 (0,0)) (bka δ) k_ hk,Kd.Xo (g:=γ) (o:=.cells #[nI ((Qb B Y).f0),nI ((Qb B Y).f1),nI ι] 36 (0,0)) (by(with_reducible repeat first|refine Qi ?_ _|refine Qd ?_|refine Qh ?_ _);refine Qo (cs:=#[nI ((Qb B Y).f0),nI ((Qb B Y).f1),nI ((Qb B Y).f2)]) ?_ 2 _ rfl;(with_reducible repeat first|refine Qi ?_ _|refine Qd ?_|refine Qh ?_ _);refine Qo (cs:=#[nI ((Qb B Y).f0),nI ((Qb B Y).f1),nI 0]) ?_ 2 _ rfl;(with_reducible repeat first|refine Qi ?_ _|refine Qd ?_|refine Qh ?_ _);refine Qo (cs:=#[nI ((Qb B Y).f0),nI 0,nI 0]) ?_ 1 _ rfl;(with_reducible repeat first|refine Qi ?_ _|refine Qd ?_|refine Qh ?_ _);refine Qo (cs:=#[nI 0,nI 0,nI 0]) ?_ 0 _ rfl;(with_reducible repeat first|refine Qi ?_ _|refine Qd ?_|refine Qh ?_ _);exact a1.out) k_ hk⟩));(case aO=>exact(by(with_reducible repeat first|apply Kd.Qs|apply Kd.Qr|apply Kd.Qu);exact Kd.Qv (Kd.Qx (Kd.Qx (Kd.Qx (Kd.Qx (Kd.Qv O.out (fun k_ hk=>(⟨hk,hk.2⟩:_∧k_≠γ))) (fun _ hk=>hk.2) (nI ((Qb B Y).f0))) (fun _ hk=>hk.2) (nI ((Qb B Y).f1))) (fun _ hk=>hk.2) (nI ((Qb B Y).f2))) (fun _ hk=>hk.2) (nI ι)) (fun _ hk=>⟨hk.1.1.1,⟨hk.1.1.2,hk.1.2⟩⟩)));(case aS=>exact(Qm bel));(case aL=>have:=ct.out;omega);intro i6 k4 ho hb hg hat;rw[← cu.out] at ho;have cf:=aK ho;replace κ :=aK (Kd.Jv (ok:=(fun k_=>(a6 k_∨w.heap.size≤k_)∧k_≠a2∧k_ ≠ χ ∧ k_≠a0∧k_ ≠ φ ∧ k_≠γ)) (by(with_reducible repeat first|apply Kd.Q3|apply Kd.Q2|apply Kd.Q8);exact Kd.Q5 (Kd.fV (Kd.fV (Kd.fV (Kd.fV (Kd.Q5 κ.out (fun k_ hk=>(⟨hk,hk.2⟩:_∧k_≠γ))))))) (fun _ hk=>⟨⟨hk.1.1.1,⟨hk.1.1.2.2.1,⟨hk.1.1.2.2.2.1,⟨hk.1.1.2.2.2.2.1,⟨hk.1.1.2.2.2.2.2,hk.1.2⟩⟩⟩⟩⟩,hk.1.1.2.1⟩)) hg hat);replace θ :=aK (Kd.Jv (ok:=(fun k_=>(a6 k_∨w.heap.size≤k_)∧k_≠a2∧k_ ≠ χ ∧ k_≠a0∧k_ ≠ φ ∧ k_≠γ)) (by(with_reducible repeat first|apply Kd.Q3|apply Kd.Q2|apply Kd.Q8);exact Kd.Q5 (Kd.fV (Kd.fV (Kd.fV (Kd.fV (Kd.Q5 θ.out (fun k_ hk=>(⟨hk,hk.2⟩:_∧k_≠γ))))))) (fun _ hk=>⟨⟨hk.1.1.1,⟨hk.1.1.2.2.1,⟨hk.1.1.2.2.2.1,⟨hk.1.1.2.2.2.2.1,⟨hk.1.1.2.2.2.2.2,hk.1.2⟩⟩⟩⟩⟩,hk.1.1.2.1⟩)) hg hat);replace Z:=aK (Qy (g:=a2) (o:=.cells #[.slice (some bn) B.length μ,.slice ξ J.length ν] 50 (0,0)) (bka Z) hg (Kd.Zo O.out Z.out (by decide)));replace δ :=aK (Qy (g:= χ) (o:=.cells #[nI X,nI ζ,nI ι] 36 (0,0)) (bka δ) hg (Kd.J4 O.out (fun _ hk=>hk.1.2)));replace η :=aK (Qy (g:=a0) (o:=.cells #[.slice none 0 0,.slice none 0 0] 50 (0,0)) (bka η) hg (Kd.Zo O.out η.out (by decide)));replace ε :=aK (Qy (g:= φ) (o:=.cells #[ω,.slice ξ J.length ν] 50 (0,0)) (bka ε) hg (Kd.Zo O.out ε.out (by decide)));replace a1:=aK (Qy (g:=γ) (o:=.cells #[nI ((Qb B Y).f0),nI ((Qb B Y).f1),nI ι] 36 (0,0)) (by(with_reducible repeat first|refine Qi ?_ _|refine Qd ?_|refine Qh ?_ _);refine Qo (cs:=#[nI ((Qb B Y).f0),nI ((Qb B Y).f1),nI ((Qb B Y).f2)]) ?_ 2 _ rfl;(with_reducible repeat first|refine Qi ?_ _|refine Qd ?_|refine Qh ?_ _);refine Qo (cs:=#[nI ((Qb B Y).f0),nI ((Qb B Y).f1),nI 0]) ?_ 2 _ rfl;(with_reducible repeat first|refine Qi ?_ _|refine Qd ?_|refine Qh ?_ _);refine Qo (cs:=#[nI ((Qb B Y).f0),nI 0,nI 0]) ?_ 1 _ rfl;(with_reducible repeat first|refine Qi ?_ _|refine Qd ?_|refine Qh ?_ _);refine Qo (cs:=#[nI 0,nI 0,nI 0]) ?_ 0 _ rfl;(with_reducible repeat first|refine Qi ?_ _|refine Qd ?_|refine Qh ?_ _);exact a1.out) hg (Kd.J4 O.out (fun _ hk=>hk.2)));replace HB:=aK hb;clear O;clear ho hb hg hat;obtain⟨fp,fq,fc⟩:=Kd.Q7 cf.out;subst fc;obtain⟨dv,ee,ef,eg⟩:=qD2 ε.out))
        go_roundg k1
        case measure=>have:=af.out;omega
        case rel=>exact⟨(wrap64 (Y+1)),(br),(.slice fp br.length fq),qR,H',⟨by have:=af.out;omega⟩,⟨by(with_reducible repeat first|apply Kd.Q3|apply Kd.Q2|apply Kd.Q8);exact Kd.Q5 (Kd.fV (Kd.Q5 κ.out (fun k_ hk=>(⟨hk,hk.1.2.2.2.2.1⟩:_∧k_ ≠ φ)))) (fun _ hk=>⟨hk.1.1.1,⟨hk.1.2,⟨hk.1.1.2.1,⟨hk.1.1.2.2.1,⟨hk.1.1.2.2.2.1,hk.1.1.2.2.2.2.1⟩⟩⟩⟩⟩)⟩,⟨by(with_reducible repeat first|apply Kd.Qs|apply Kd.Qr|apply Kd.Qu);exact Kd.Qv (Kd.Qx (Kd.Q4 cf.out ε.out (by decide)) (fun _ hk=>hk.2) _) (fun _ hk=>⟨hk.1.1,hk.1.2.1⟩)⟩,⟨by(with_reducible repeat first|apply Kd.Q3|apply Kd.Q2|apply Kd.Q8);exact Kd.Q5 (Kd.fV (Kd.Q5 θ.out (fun k_ hk=>(⟨hk,hk.1.2.2.2.2.1⟩:_∧k_ ≠ φ)))) (fun _ hk=>⟨hk.1.1.1,⟨hk.1.2,⟨hk.1.1.2.1,⟨hk.1.1.2.2.1,⟨hk.1.1.2.2.2.1,hk.1.1.2.2.2.2.1⟩⟩⟩⟩⟩)⟩,⟨bka Z⟩,⟨bka δ⟩,⟨bka η⟩,⟨by(with_reducible repeat first|refine Qi ?_ _|refine Qd ?_|refine Qh ?_ _);refine Qo (cs:=#[ω,.slice ξ J.length ν]) ?_ 0 _ rfl;(with_reducible repeat first|refine Qi ?_ _|refine Qd ?_|refine Qh ?_ _);exact ε.out⟩,⟨bel⟩⟩
       ·rw[if_neg b6] at H
        exact absurd H (by simp)
      ·rw[if_neg ψ] at H
       have c17b0:(((Qb B Y).f1) == ζ)=false:=beq_eq_false_iff_ne.mpr ψ
       have c17b1:(((Qb B Y).f1) != ζ)=true:=bne_iff_ne.mpr ψ
       by_cases df: τ.length<5864062014805
       ·rw[if_pos df] at H
        have cv:=aK df
        clear df
        obtain⟨bs,bo⟩:∃ y_:List (S36),y_=(τ ++ [(⟨(Qb B Y).f0,(Qb B Y).f1,(Qb B Y).f2⟩:S36)]):=⟨_,rfl⟩
        replace H:(newelref19_Give.l0 k1 (wrap64 (Y+1)) B J X ζ ι bs J)=some (r1,r2):=by first|(rw[bo];with_reducible exact H)|(have ag:=(Option.bind_some _ _).symm.trans H;rw[bo];with_reducible exact ag)|(have ag:=(Option.bind_some _ _).symm.trans H;with_reducible exact ag)|with_reducible exact H|(rw[bo];exact H)|exact H
        have cy:=aK bo
        clear bo
        have H':=aK H
        clear H
        have eh:=a9.out
        have gt:=aa.out
        have e9:=ai.out
        have iu:=aj.out
        have cz:=am.out
        have fo:=an.out
        obtain⟨dn,dp,dq,dr⟩:=qD2 Z.out
        have bf:0≤(Y:Int):=of_decide_eq_true (by assumption)
        have bg:Y<(B.length:Int):=of_decide_eq_true (by assumption)
        obtain⟨bn,bq,a3,a4,a5⟩:=Z4 av.out Y bf bg
        cases bq
        replace a3:=sCl HB a3
        replace a4:=sCl HB a4
        replace a5:=sCl HB a5
        replace bf:=eq_true bf
        replace bg:=eq_true bg
        go_wp2_with (first|((with_reducible refine Qe (N:=7) rfl ?_);refine qE 7 #[nI 0,nI 0,nI 0] 36 ?_;intro γ hg gy hbox hb;have a1:=aK hbox;have bz:=sGe hg;have cb:=sGe hg;have b4:=sNl Z hg;have b5:=sNg Z hg;have b7:=sNl δ hg;have b8:=sNg δ hg;have b9:=sNl η hg;have ba:=sNg η hg;have bb:=sNl ε hg;have bd:=sNg ε hg;replace κ :=aK (Kd.Zh (Kd.Zf (by(with_reducible repeat first|apply Kd.Q3|apply Kd.Q2|apply Kd.Q8);exact κ.out) γ (Nat.le_of_eq hg.symm)) hb);replace O:=aK (Kd.Zn (Kd.Yd (kra O) γ (Nat.le_of_eq hg.symm)) hb);replace θ :=aK (Kd.Zh (Kd.Zf (by(with_reducible repeat first|apply Kd.Q3|apply Kd.Q2|apply Kd.Q8);exact θ.out) γ (Nat.le_of_eq hg.symm)) hb);replace Z:=sBk Z hb;replace δ :=sBk δ hb;replace η :=sBk η hb;replace ε :=sBk ε hb;replace HB:=sHb hb;clear hb hbox hg;have ez:=b5.out;have f7:=b4.out;have i1:=b8.out;have i2:=b7.out;have gm:=ba.out;have gn:=b9.out;have gw:=bd.out;have gz:=bb.out;obtain⟨fe,ff,fa,fg,fh,gx⟩:=qD3 a1.out;have he:=bh.out;have hj:=bk.out;have gu:=ar.out;have gv:=aw.out;obtain⟨fv,iq,ir,i3,kn,ko⟩:=qD3 δ.out;have gg:=ay.out;have gh:=ax.out;obtain⟨cp,d1,ei,ej⟩:=qD2 ε.out)|((with_reducible refine Z3 (b:=.append) (xs:=#[.tmp 39,.tmp 41]) rfl ?_);at_builtin;refine Kd.X7 k36 (w0:=w) w.heap.size rfl (.tmp 39) (.tmp 41) 47 36 (.agg #[(nI 0),(nI 0),(nI 0)]) 24 rfl Try.underlying47 Y7 rfl (by decide) (by omega) ω τ (⟨(Qb B Y).f0,(Qb B Y).f1,(Qb B Y).f2⟩:S36) [nI ((Qb B Y).f0),nI ((Qb B Y).f1),nI ((Qb B Y).f2)] (fun k_=>(w.heap.size≤k_)∧k_ ≠ χ ∧ k_≠γ) (fun _=>False) rfl (by first|(go_simp;done)|(go_simp;rfl)) ?aP (fun _ hk=>hk.elim) ?aF ?aO ?aB ?aS ?aL ?_;(case aP=>exact Jh _ _ _ (⟨(Qb B Y).f0,(Qb B Y).f1,(Qb B Y).f2⟩:S36));(case aB=>exact bel);(case aF=>exact(fun k_ hk=>⟨(Nat.le_trans (Qm bel) hk),Kd.Xo (g:= χ) (o:=.cells #[nI X,nI ζ,nI ι] 36 (0,0)) (bka δ) k_ hk,Kd.Xo (g:=γ) (o:=.cells #[nI ((Qb B Y).f0),nI ((Qb B Y).f1),nI ((Qb B Y).f2)] 36 (0,0)) (by(with_reducible repeat first|refine Qi ?_ _|refine Qd ?_|refine Qh ?_ _);refine Qo (cs:=#[nI ((Qb B Y).f0),nI ((Qb B Y).f1),nI 0]) ?_ 2 _ rfl;(with_reducible repeat first|refine Qi ?_ _|refine Qd ?_|refine Qh ?_ _);refine Qo (cs:=#[nI ((Qb B Y).f0),nI 0,nI 0]) ?_ 1 _ rfl;(with_reducible repeat first|refine Qi ?_ _|refine Qd ?_|refine Qh ?_ _);refine Qo (cs:=#[nI 0,nI 0,nI 0]) ?_ 0 _ rfl;(with_reducible repeat first|refine Qi ?_ _|refine Qd ?_|refine Qh ?_ _);exact a1.out) k_ hk⟩));(case aO=>exact(by(with_reducible repeat first|apply Kd.Qs|apply Kd.Qr|apply Kd.Qu);exact Kd.Qv (Kd.Qx (Kd.Qx (Kd.Qx (Kd.Qv O.out (fun k_ hk=>(⟨hk,hk.2⟩:_∧k_≠γ))) (fun _ hk=>hk.2) (nI ((Qb B Y).f0))) (fun _ hk=>hk.2) (nI ((Qb B Y).f1))) (fun _ hk=>hk.2) (nI ((Qb B Y).f2))) (fun _ hk=>⟨hk.1.1.1,⟨hk.1.1.2,hk.1.2⟩⟩)));(case aS=>exact(Qm bel));(case aL=>have:=cv.out;omega);intro ii f8 ho hb hg hat;rw[← cy.out] at ho;have ch:=aK ho;replace κ :=aK (Kd.Jv (ok:=(fun k_=>(a6 k_∨w.heap.size≤k_)∧k_≠a2∧k_ ≠ χ ∧ k_≠a0∧k_ ≠ φ ∧ k_≠γ)) (by(with_reducible repeat first|apply Kd.Q3|apply Kd.Q2|apply Kd.Q8);exact Kd.Q5 (Kd.fV (Kd.fV (Kd.fV (Kd.Q5 κ.out (fun k_ hk=>(⟨hk,hk.2⟩:_∧k_≠γ)))))) (fun _ hk=>⟨⟨hk.1.1.1,⟨hk.1.1.2.2.1,⟨hk.1.1.2.2.2.1,⟨hk.1.1.2.2.2.2.1,⟨hk.1.1.2.2.2.2.2,hk.1.2⟩⟩⟩⟩⟩,hk.1.1.2.1⟩)) hg hat);replace θ :=aK (Kd.Jv (ok:=(fun k_=>(a6 k_∨w.heap.size≤k_)∧k_≠a2∧k_ ≠ χ ∧ k_≠a0∧k_ ≠ φ ∧ k_≠γ)) (by(with_reducible repeat first|apply Kd.Q3|apply Kd.Q2|apply Kd.Q8);exact Kd.Q5 (Kd.fV (Kd.fV (Kd.fV (Kd.Q5 θ.out (fun k_ hk=>(⟨hk,hk.2⟩:_∧k_≠γ)))))) (fun _ hk=>⟨⟨hk.1.1.1,⟨hk.1.1.2.2.1,⟨hk.1.1.2.2.2.1,⟨hk.1.1.2.2.2.2.1,⟨hk.1.1.2.2.2.2.2,hk.1.2⟩⟩⟩⟩⟩,hk.1.1.2.1⟩)) hg hat);replace Z:=aK (Qy (g:=a2) (o:=.cells #[.slice (some bn) B.length μ,.slice ξ J.length ν] 50 (0,0)) (bka Z) hg (Kd.Zo O.out Z.out (by decide)));replace δ :=aK (Qy (g:= χ) (o:=.cells #[nI X,nI ζ,nI ι] 36 (0,0)) (bka δ) hg (Kd.J4 O.out (fun _ hk=>hk.1.2)));replace η :=aK (Qy (g:=a0) (o:=.cells #[.slice none 0 0,.slice none 0 0] 50 (0,0)) (bka η) hg (Kd.Zo O.out η.out (by decide)));replace ε :=aK (Qy (g:= φ) (o:=.cells #[ω,.slice ξ J.length ν] 50 (0,0)) (bka ε) hg (Kd.Zo O.out ε.out (by decide)));replace a1:=aK (Qy (g:=γ) (o:=.cells #[nI ((Qb B Y).f0),nI ((Qb B Y).f1),nI ((Qb B Y).f2)] 36 (0,0)) (by(with_reducible repeat first|refine Qi ?_ _|refine Qd ?_|refine Qh ?_ _);refine Qo (cs:=#[nI ((Qb B Y).f0),nI ((Qb B Y).f1),nI 0]) ?_ 2 _ rfl;(with_reducible repeat first|refine Qi ?_ _|refine Qd ?_|refine Qh ?_ _);refine Qo (cs:=#[nI ((Qb B Y).f0),nI 0,nI 0]) ?_ 1 _ rfl;(with_reducible repeat first|refine Qi ?_ _|refine Qd ?_|refine Qh ?_ _);refine Qo (cs:=#[nI 0,nI 0,nI 0]) ?_ 0 _ rfl;(with_reducible repeat first|refine Qi ?_ _|refine Qd ?_|refine Qh ?_ _);exact a1.out) hg (Kd.J4 O.out (fun _ hk=>hk.2)));replace HB:=aK hb;clear O;clear ho hb hg hat;obtain⟨db,dc,de⟩:=Kd.Q7 ch.out;subst de;obtain⟨ia,ib,ic,ie⟩:=qD2 ε.out))
        go_roundg k1
        case measure=>have:=af.out;omega
        case rel=>exact⟨(wrap64 (Y+1)),(bs),(.slice db bs.length dc),qR,H',⟨by have:=af.out;omega⟩,⟨by(with_reducible repeat first|apply Kd.Q3|apply Kd.Q2|apply Kd.Q8);exact Kd.Q5 (Kd.fV (Kd.Q5 κ.out (fun k_ hk=>(⟨hk,hk.1.2.2.2.2.1⟩:_∧k_ ≠ φ)))) (fun _ hk=>⟨hk.1.1.1,⟨hk.1.2,⟨hk.1.1.2.1,⟨hk.1.1.2.2.1,⟨hk.1.1.2.2.2.1,hk.1.1.2.2.2.2.1⟩⟩⟩⟩⟩)⟩,⟨by(with_reducible repeat first|apply Kd.Qs|apply Kd.Qr|apply Kd.Qu);exact Kd.Qv (Kd.Qx (Kd.Q4 ch.out ε.out (by decide)) (fun _ hk=>hk.2) _) (fun _ hk=>⟨hk.1.1,hk.1.2.1⟩)⟩,⟨by(with_reducible repeat first|apply Kd.Q3|apply Kd.Q2|apply Kd.Q8);exact Kd.Q5 (Kd.fV (Kd.Q5 θ.out (fun k_ hk=>(⟨hk,hk.1.2.2.2.2.1⟩:_∧k_ ≠ φ)))) (fun _ hk=>⟨hk.1.1.1,⟨hk.1.2,⟨hk.1.1.2.1,⟨hk.1.1.2.2.1,⟨hk.1.1.2.2.2.1,hk.1.1.2.2.2.2.1⟩⟩⟩⟩⟩)⟩,⟨bka Z⟩,⟨bka δ⟩,⟨bka η⟩,⟨by(with_reducible repeat first|refine Qi ?_ _|refine Qd ?_|refine Qh ?_ _);refine Qo (cs:=#[ω,.slice ξ J.length ν]) ?_ 0 _ rfl;(with_reducible repeat first|refine Qi ?_ _|refine Qd ?_|refine Qh ?_ _);exact ε.out⟩,⟨bel⟩⟩
       ·rw[if_neg df] at H
        exact absurd H (by simp)
     ·rw[if_neg ab] at H
      have c16b0:(((Qb B Y).f0)==X)=false:=beq_eq_false_iff_ne.mpr ab
      have c16b1:(((Qb B Y).f0) != X)=true:=bne_iff_ne.mpr ab
      by_cases ce: τ.length<5864062014805
      ·rw[if_pos ce] at H
       have d2:=aK ce
       clear ce
       obtain⟨bu,bp⟩:∃ y_:List (S36),y_=(τ ++ [(⟨(Qb B Y).f0,(Qb B Y).f1,(Qb B Y).f2⟩:S36)]):=⟨_,rfl⟩
       replace H:(newelref19_Give.l0 k1 (wrap64 (Y+1)) B J X ζ ι bu J)=some (r1,r2):=by first|(rw[bp];with_reducible exact H)|(have ag:=(Option.bind_some _ _).symm.trans H;rw[bp];with_reducible exact ag)|(have ag:=(Option.bind_some _ _).symm.trans H;with_reducible exact ag)|with_reducible exact H|(rw[bp];exact H)|exact H
       have d8:=aK bp
       clear bp
       have H':=aK H
       clear H
       have i4:=a9.out
       have i5:=aa.out
       have er:=ai.out
       have et:=aj.out
       have l5:=am.out
       have l6:=an.out
       obtain⟨h0,h4,h5,h6⟩:=qD2 Z.out
       have bf:0≤(Y:Int):=of_decide_eq_true (by assumption)
       have bg:Y<(B.length:Int):=of_decide_eq_true (by assumption)
       obtain⟨bn,bq,a3,a4,a5⟩:=Z4 av.out Y bf bg
       cases bq
       replace a3:=sCl HB a3
       replace a4:=sCl HB a4
       replace a5:=sCl HB a5
       replace bf:=eq_true bf
       replace bg:=eq_true bg
       go_wp2_with (first|((with_reducible refine Qe (N:=7) rfl ?_);refine qE 7 #[nI 0,nI 0,nI 0] 36 ?_;intro γ hg e5 hbox hb;have a1:=aK hbox;have bz:=sGe hg;have cb:=sGe hg;have b4:=sNl Z hg;have b5:=sNg Z hg;have b7:=sNl δ hg;have b8:=sNg δ hg;have b9:=sNl η hg;have ba:=sNg η hg;have bb:=sNl ε hg;have bd:=sNg ε hg;replace κ :=aK (Kd.Zh (Kd.Zf (by(with_reducible repeat first|apply Kd.Q3|apply Kd.Q2|apply Kd.Q8);exact κ.out) γ (Nat.le_of_eq hg.symm)) hb);replace O:=aK (Kd.Zn (Kd.Yd (kra O) γ (Nat.le_of_eq hg.symm)) hb);replace θ :=aK (Kd.Zh (Kd.Zf (by(with_reducible repeat first|apply Kd.Q3|apply Kd.Q2|apply Kd.Q8);exact θ.out) γ (Nat.le_of_eq hg.symm)) hb);replace Z:=sBk Z hb;replace δ :=sBk δ hb;replace η :=sBk η hb;replace ε :=sBk ε hb;replace HB:=sHb hb;clear hb hbox hg;have kf:=b5.out;have kg:=b4.out;have ji:=b8.out;have jj:=b7.out;have fi:=ba.out;have fj:=b9.out;have fw:=bd.out;have fx:=bb.out;obtain⟨bv,bw,i7,cd,cj,i9⟩:=qD3 a1.out;have ka:=bh.out;have kb:=bk.out;have io:=ar.out;have ip:=aw.out;obtain⟨i0,ig,lu,ih,il,lv⟩:=qD3 δ.out;have lx:=ay.out;have ly:=ax.out;obtain⟨hh,hl,hx,hy⟩:=qD2 ε.out)|((with_reducible refine Z3 (b:=.append) (xs:=#[.tmp 39,.tmp 41]) rfl ?_);at_builtin;refine Kd.X7 k36 (w0:=w) w.heap.size rfl (.tmp 39) (.tmp 41) 47 36 (.agg #[(nI 0),(nI 0),(nI 0)]) 24 rfl Try.underlying47 Y7 rfl (by decide) (by omega) ω τ (⟨(Qb B Y).f0,(Qb B Y).f1,(Qb B Y).f2⟩:S36) [nI ((Qb B Y).f0),nI ((Qb B Y).f1),nI ((Qb B Y).f2)] (fun k_=>(w.heap.size≤k_)∧k_ ≠ χ ∧ k_≠γ) (fun _=>False) rfl (by first|(go_simp;done)|(go_simp;rfl)) ?aP (fun _ hk=>hk.elim) ?aF ?aO ?aB ?aS ?aL ?_;(case aP=>exact Jh _ _ _ (⟨(Qb B Y).f0,(Qb B Y).f1,(Qb B Y).f2⟩:S36));(case aB=>exact bel);(case aF=>exact(fun k_ hk=>⟨(Nat.le_trans (Qm bel) hk),Kd.Xo (g:= χ) (o:=.cells #[nI X,nI ζ,nI ι] 36 (0,0)) (bka δ) k_ hk,Kd.Xo (g:=γ) (o:=.cells #[nI ((Qb B Y).f0),nI ((Qb B Y).f1),nI ((Qb B Y).f2)] 36 (0,0)) (by(with_reducible repeat first|refine Qi ?_ _|refine Qd ?_|refine Qh ?_ _);refine Qo (cs:=#[nI ((Qb B Y).f0),nI ((Qb B Y).f1),nI 0]) ?_ 2 _ rfl;(with_reducible repeat first|refine Qi ?_ _|refine Qd ?_|refine Qh ?_ _);refine Qo (cs:=#[nI ((Qb B Y).f0),nI 0,nI 0]) ?_ 1 _ rfl;(with_reducible repeat first|refine Qi ?_ _|refine Qd ?_|refine Qh ?_ _);refine Qo (cs:=#[nI 0,nI 0,nI 0]) ?_ 0 _ rfl;(with_reducible repeat first|refine Qi ?_ _|refine Qd ?_|refine Qh ?_ _);exact a1.out) k_ hk⟩));(case aO=>exact(by(with_reducible repeat first|apply Kd.Qs|apply Kd.Qr|apply Kd.Qu);exact Kd.Qv (Kd.Qx (Kd.Qx (Kd.Qx (Kd.Qv O.out (fun k_ hk=>(⟨hk,hk.2⟩:_∧k_≠γ))) (fun _ hk=>hk.2) (nI ((Qb B Y).f0))) (fun _ hk=>hk.2) (nI ((Qb B Y).f1))) (fun _ hk=>hk.2) (nI ((Qb B Y).f2))) (fun _ hk=>⟨hk.1.1.1,⟨hk.1.1.2,hk.1.2⟩⟩)));(case aS=>exact(Qm bel));(case aL=>have:=d2.out;omega);intro ij nb ho hb hg hat;rw[← d8.out] at ho;have ci:=aK ho;replace κ :=aK (Kd.Jv (ok:=(fun k_=>(a6 k_∨w.heap.size≤k_)∧k_≠a2∧k_ ≠ χ ∧ k_≠a0∧k_ ≠ φ ∧ k_≠γ)) (by(with_reducible repeat first|apply Kd.Q3|apply Kd.Q2|apply Kd.Q8);exact Kd.Q5 (Kd.fV (Kd.fV (Kd.fV (Kd.Q5 κ.out (fun k_ hk=>(⟨hk,hk.2⟩:_∧k_≠γ)))))) (fun _ hk=>⟨⟨hk.1.1.1,⟨hk.1.1.2.2.1,⟨hk.1.1.2.2.2.1,⟨hk.1.1.2.2.2.2.1,⟨hk.1.1.2.2.2.2.2,hk.1.2⟩⟩⟩⟩⟩,hk.1.1.2.1⟩)) hg hat);replace θ :=aK (Kd.Jv (ok:=(fun k_=>(a6 k_∨w.heap.size≤k_)∧k_≠a2∧k_ ≠ χ ∧ k_≠a0∧k_ ≠ φ ∧ k_≠γ)) (by(with_reducible repeat first|apply Kd.Q3|apply Kd.Q2|apply Kd.Q8);exact Kd.Q5 (Kd.fV (Kd.fV (Kd.fV (Kd.Q5 θ.out (fun k_ hk=>(⟨hk,hk.2⟩:_∧k_≠γ)))))) (fun _ hk=>⟨⟨hk.1.1.1,⟨hk.1.1.2.2.1,⟨hk.1.1.2.2.2.1,⟨hk.1.1.2.2.2.2.1,⟨hk.1.1.2.2.2.2.2,hk.1.2⟩⟩⟩⟩⟩,hk.1.1.2.1⟩)) hg hat);replace Z:=aK (Qy (g:=a2) (o:=.cells #[.slice (some bn) B.length μ,.slice ξ J.length ν] 50 (0,0)) (bka Z) hg (Kd.Zo O.out Z.out (by decide)));replace δ :=aK (Qy (g:= χ) (o:=.cells #[nI X,nI ζ,nI ι] 36 (0,0)) (bka δ) hg (Kd.J4 O.out (fun _ hk=>hk.1.2)));replace η :=aK (Qy (g:=a0) (o:=.cells #[.slice none 0 0,.slice none 0 0] 50 (0,0)) (bka η) hg (Kd.Zo O.out η.out (by decide)));replace ε :=aK (Qy (g:= φ) (o:=.cells #[ω,.slice ξ J.length ν] 50 (0,0)) (bka ε) hg (Kd.Zo O.out ε.out (by decide)));replace a1:=aK (Qy (g:=γ) (o:=.cells #[nI ((Qb B Y).f0),nI ((Qb B Y).f1),nI ((Qb B Y).f2)] 36 (0,0)) (by(with_reducible repeat first|refine Qi ?_ _|refine Qd ?_|refine Qh ?_ _);refine Qo (cs:=#[nI ((Qb B Y).f0),nI ((Qb B Y).f1),nI 0]) ?_ 2 _ rfl;(with_reducible repeat first|refine Qi ?_ _|refine Qd ?_|refine Qh ?_ _);refine Qo (cs:=#[nI ((Qb B Y).f0),nI 0,nI 0]) ?_ 1 _ rfl;(with_reducible repeat first|refine Qi ?_ _|refine Qd ?_|refine Qh ?_ _);refine Qo (cs:=#[nI 0,nI 0,nI 0]) ?_ 0 _ rfl;(with_reducible repeat first|refine Qi ?_ _|refine Qd ?_|refine Qh ?_ _);exact a1.out) hg (Kd.J4 O.out (fun _ hk=>hk.2)));replace HB:=aK hb;clear O;clear ho hb hg hat;obtain⟨ec,ed,ek⟩:=Kd.Q7 ci.out;subst ek;obtain⟨fr,ft,fu,ge⟩:=qD2 ε.out))
       go_roundg k1
       case measure=>have:=af.out;omega
       case rel=>exact⟨(wrap64 (Y+1)),(bu),(.slice ec bu.length ed),qR,H',⟨by have:=af.out;omega⟩,⟨by(with_reducible repeat first|apply Kd.Q3|apply Kd.Q2|apply Kd.Q8);exact Kd.Q5 (Kd.fV (Kd.Q5 κ.out (fun k_ hk=>(⟨hk,hk.1.2.2.2.2.1⟩:_∧k_ ≠ φ)))) (fun _ hk=>⟨hk.1.1.1,⟨hk.1.2,⟨hk.1.1.2.1,⟨hk.1.1.2.2.1,⟨hk.1.1.2.2.2.1,hk.1.1.2.2.2.2.1⟩⟩⟩⟩⟩)⟩,⟨by(with_reducible repeat first|apply Kd.Qs|apply Kd.Qr|apply Kd.Qu);exact Kd.Qv (Kd.Qx (Kd.Q4 ci.out ε.out (by decide)) (fun _ hk=>hk.2) _) (fun _ hk=>⟨hk.1.1,hk.1.2.1⟩)⟩,⟨by(with_reducible repeat first|apply Kd.Q3|apply Kd.Q2|apply Kd.Q8);exact Kd.Q5 (Kd.fV (Kd.Q5 θ.out (fun k_ hk=>(⟨hk,hk.1.2.2.2.2.1⟩:_∧k_ ≠ φ)))) (fun _ hk=>⟨hk.1.1.1,⟨hk.1.2,⟨hk.1.1.2.1,⟨hk.1.1.2.2.1,⟨hk.1.1.2.2.2.1,hk.1.1.2.2.2.2.1⟩⟩⟩⟩⟩)⟩,⟨bka Z⟩,⟨bka δ⟩,⟨bka η⟩,⟨by(with_reducible repeat first|refine Qi ?_ _|refine Qd ?_|refine Qh ?_ _);refine Qo (cs:=#[ω,.slice ξ J.length ν]) ?_ 0 _ rfl;(with_reducible repeat first|refine Qi ?_ _|refine Qd ?_|refine Qh ?_ _);exact ε.out⟩,⟨bel⟩⟩
      ·rw[if_neg ce] at H
       exact absurd H (by simp)
    ·rw[if_neg a8] at H
     exact absurd H (by simp)
   ·rw[if_neg σ] at H
    have c14b0:=decide_eq_false σ
    clear σ
    simp only[Option.some.injEq,Prod.mk.injEq] at H
    obtain⟨rfl,rfl⟩:=H
    have l7:=a9.out
    have l8:=aa.out
    have gp:=ai.out
    have hu:=aj.out
    have ks:=am.out
    have kx:=an.out
    obtain⟨gr,gs,im,kp⟩:=qD2 Z.out
    have jk:=aw.out
    have jl:=ar.out
    have h9:=ay.out
    have ha:=ax.out
    obtain⟨lw,m7,m8,m9⟩:=qD2 ε.out
    obtain⟨cm,cq,dh⟩:=Kd.Q7 O.out
    subst dh
    have o6:=bk.out
    have o7:=bh.out
    obtain⟨di,dx,e6,eb⟩:=qD2 η.out
    go_wp2
    refine bodyPost_ret (results_cell_row rfl _ _ a0 50 #[.slice cm τ.length cq,.slice ξ J.length ν] (0,0) _ rfl (by refine Qo (cs:=#[.slice cm τ.length cq,.slice none 0 0]) ?_ 1 _ rfl;refine Qo (cs:=#[.slice none 0 0,.slice none 0 0]) ?_ 0 _ rfl;exact η.out) Try.underlying50 rfl kr) rfl ?_
    exact⟨_,_,by first|rfl|(simp[Ql,Qk] <;> rfl)|(simp[*,Ql,Qk] <;> rfl),by(with_reducible repeat first|apply Kd.Qs|apply Kd.Qr|apply Kd.Qu);exact Kd.Qv (Kd.Qx (Kd.Qx (Kd.Q4 O.out η.out (by decide)) (fun _ hk=>hk.2) _) (fun _ hk=>hk.2) (.slice ξ J.length ν)) (fun _ hk=>hk.1.1),by(with_reducible repeat first|apply Kd.Q3|apply Kd.Q2|apply Kd.Q8);exact Kd.Q5 (Kd.fV (Kd.fV (Kd.Q5 θ.out (fun k_ hk=>(⟨hk,hk.2.2.2.2.1⟩:_∧k_≠a0))))) (fun _ hk=>⟨hk.1.1,hk.1.2.1⟩),bel⟩
end Go.Proofs.Ytmfffemidlhcpaa.C
