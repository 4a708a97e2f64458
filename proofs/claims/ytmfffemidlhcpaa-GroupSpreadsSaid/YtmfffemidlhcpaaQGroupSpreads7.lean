/- What this law's functions come to, walked; what that is, in plain Lean. No conditions of its own. -/
import Derived.Test.YtmfffemidlhcpaaQGroupSpreads6
set_option linter.unusedSimpArgs false
set_option linter.unusedVariables false
set_option maxHeartbeats 8000000
set_option maxRecDepth 100000
namespace Go.Proofs.Ytmfffemidlhcpaa.C
open Go.RowKit Go.Proofs.YtmfffemidlhcpaaW.PrintWords Go.Proofs.YtmfffemidlhcpaaW.PrintLast Go.Proofs.YtmfffemidlhcpaaW.PrintMore
attribute [local go_sem] Z2 Z0 Xb Xa Zt Zs Z1 Zz
mutual
def newelref21_Spread.l0:Nat→List (S31)→Int→Int→Int→Int→Int→Int→Int→Int→Int→Int→Int→Int→List (S36)→List (S86)→List (S36)→List (S86)→Option ((List (S36))×(List (S86)))
 |0,_,_,_,_,_,_,_,_,_,_,_,_,_,_,_,_,_=>none
 |k+1,J,Y,O,Z,γ,δ,ε,ζ,η,θ,ι,κ,μ,ν,ξ,B,X=>if O<(ν.length:Int) then (if 0≤O then (if ((Qb ν O).f2)≥0 then ((newelref21_Fault.f Y ((Qb ν O).f2)).bind fun gq=>(if gq=true then ((newelref19_Give.f k B X ((Qb ν O).f0) ((Qb ν O).f1) (-1)).bind fun ρ=>(newelref21_Spread.l0 k J Y (wrap64 (O+1)) Z γ δ ε ζ η θ ι κ μ ν ξ ρ.1 ρ.2)) else (newelref21_Spread.l0 k J Y (wrap64 (O+1)) Z γ δ ε ζ η θ ι κ μ ν ξ B X))) else (newelref21_Spread.l0 k J Y (wrap64 (O+1)) Z γ δ ε ζ η θ ι κ μ ν ξ B X)) else (none)) else (newelref21_Spread.l1 k J Y 0 Z γ δ ε ζ η θ ι κ μ B X)
def newelref21_Spread.l1:Nat→List (S31)→Int→Int→Int→Int→Int→Int→Int→Int→Int→Int→Int→Int→List (S36)→List (S86)→Option ((List (S36))×(List (S86)))
 |0,_,_,_,_,_,_,_,_,_,_,_,_,_,_,_=>none
 |k+1,J,Y,O,Z,γ,δ,ε,ζ,η,θ,ι,κ,μ,B,X=>if O<(B.length:Int) then (if 0≤O then (if ((Qb B O).f2)<0 then ((newelref21_Pick.f k Z γ δ ε ζ η θ ι κ μ J Y B X ((Qb B O).f0) ((Qb B O).f1) ((Qb B O).f2)).bind fun ej=>((newelref19_Give.f k B X ((Qb B O).f0) ((Qb B O).f1) ej).bind fun ν =>(newelref21_Spread.l1 k J Y (wrap64 (O+1)) Z γ δ ε ζ η θ ι κ μ ν.1 ν.2))) else (newelref21_Spread.l1 k J Y (wrap64 (O+1)) Z γ δ ε ζ η θ ι κ μ B X)) else (none)) else (some (B,X))
end
def newelref21_Spread.f (k:Nat) (B:Int) (J:Int) (O:Int) (Y:Int) (Z:Int) (γ:Int) (δ :Int) (ε :Int) (θ :Int) (η :Int) (l1:List (S31)) (a2:Int) (μ :List (S36)) (τ :List (S86)):Option ((List (S36))×(List (S86))):=newelref21_Spread.l0 k l1 a2 0 B J O Y Z γ δ ε θ η μ τ μ τ
theorem newelref21_Spread.calls (k:Nat) (B:Int) (J:Int) (O:Int) (Y:Int) (Z:Int) (γ:Int) (δ :Int) (ε :Int) (θ :Int) (η :Int) (A1:Option Addr) (c1:Nat) (l1:List (S31)) (a2:Int) (al:Nat→Prop) (a7:Option Addr) (a1:Nat) (μ :List (S36)) (am:Nat→Prop) (a3:Option Addr) (a5:Nat) (τ :List (S86)) (r1:List (S36)) (r2:List (S86)) (w:World) (ct:Kd.C k31 w A1 l1.length l1) (ch:l1.length≤c1) (j8:Kd.V k36 36 w w.heap.size (fun k_=>al k_) (.slice a7 μ.length a1) μ) (j9:Kd.V k86 86 w w.heap.size (fun k_=>am k_) (.slice a3 τ.length a5) τ) (h:newelref21_Spread.f k B J O Y Z γ δ ε θ η l1 a2 μ τ = some (r1,r2)):
 Calls Try.prog 23 #[.agg #[nI B,nI J,nI O,nI Y,nI Z,nI γ,nI δ,nI ε,nI θ,nI η],.slice A1 l1.length c1,nI a2,.agg #[.slice a7 μ.length a1,.slice a3 τ.length a5]] w fun e w'=>∃ b3 d7:Value,e = .returned (.agg #[b3,d7])∧Kd.V k36 36 w' w.heap.size (fun k_=>((al k_∨am k_)∨w.heap.size≤k_)) b3 r1∧Kd.V k86 86 w' w.heap.size (fun k_=>((al k_∨am k_)∨w.heap.size≤k_)) d7 r2∧Below w.heap.size w w':=by
 have cj:=Try.underlying25
 have d0:=Try.underlying50
 have cg:=Try.underlying36
 have ci:=aK ct
 have da:=aK ch
 clear ct ch
 have b9:=aK (show Kd.V k36 36 w w.heap.size (fun k_=>((al k_∨am k_)∨w.heap.size≤k_)) (.slice a7 μ.length a1) μ from Kd.Q5 j8 (fun k_ hk=>.inl (.inl hk)))
 have ba:=aK (show Kd.V k86 86 w w.heap.size (fun k_=>((al k_∨am k_)∨w.heap.size≤k_)) (.slice a3 τ.length a5) τ from Kd.Q5 j9 (fun k_ hk=>.inl (.inr hk)))
 have HB:=aK (Below.refl w.heap.size w)
 have H:(newelref21_Spread.l0 k l1 a2 0 B J O Y Z γ δ ε θ η μ τ μ τ)=some (r1,r2):=h
 clear h
 have H':=aK H
 clear H
 go_enter Try.func23,Try.ntmps23
 go_wp2_with (first|((with_reducible refine Qe (N:=4) rfl ?_);refine qE 4 #[nI B,nI J,nI O,nI Y,nI Z,nI γ,nI δ,nI ε,nI θ,nI η] 25 ?_;intro ag hg w5 hbox hb;have ξ :=aK hbox;have ni:=sGe hg;have nj:=sGe hg;replace b9:=aK (Kd.Zh (Kd.Zf b9.out ag (Nat.le_of_eq hg.symm)) hb);replace ba:=aK (Kd.Zh (Kd.Zf ba.out ag (Nat.le_of_eq hg.symm)) hb);replace HB:=sHb hb;clear hb hbox hg)|((with_reducible refine Qe (N:=7) rfl ?_);refine qE 7 #[.slice a7 μ.length a1,.slice a3 τ.length a5] 50 ?_;intro ak hg w6 hbox hb;have ρ:=aK hbox;have nk:=sGe hg;have nl:=sGe hg;have b0:=sNl ξ hg;have b2:=sNg ξ hg;replace b9:=aK (Kd.Zh (Kd.Zf b9.out ak (Nat.le_of_eq hg.symm)) hb);replace ba:=aK (Kd.Zh (Kd.Zf ba.out ak (Nat.le_of_eq hg.symm)) hb);replace ξ :=sBk ξ hb;replace HB:=sHb hb;clear hb hbox hg)|((with_reducible refine Qe (N:=8) rfl ?_);refine qE 8 #[.slice none 0 0,.slice none 0 0] 50 ?_;intro ae hg w7 hbox hb;have a8:=aK hbox;have nm:=sGe hg;have nn:=sGe hg;have dr:=sNl ξ hg;have du:=sNg ξ hg;have b4:=sNl ρ hg;have b5:=sNg ρ hg;replace b9:=aK (Kd.Zh (Kd.Zf b9.out ae (Nat.le_of_eq hg.symm)) hb);replace ba:=aK (Kd.Zh (Kd.Zf ba.out ae (Nat.le_of_eq hg.symm)) hb);replace ξ :=sBk ξ hb;replace ρ:=sBk ρ hb;replace HB:=sHb hb;clear hb hbox hg;have ft:=b2.out;have fu:=b0.out;have jp:=b4.out;have jq:=b5.out;obtain⟨bg,bh,bk,bm⟩:=qD2 ρ.out)|((with_reducible refine Qe (N:=9) rfl ?_);refine qE 9 #[.slice none 0 0,.slice none 0 0] 50 ?_;intro aa hg d1 hbox hb;have σ:=aK hbox;have no:=sGe hg;have np:=sGe hg;have bc:=sNl ξ hg;have bo:=sNg ξ hg;have ax:=sNl ρ hg;have ay:=sNg ρ hg;have bs:=sNl a8 hg;have bv:=sNg a8 hg;replace b9:=aK (Kd.Zh (Kd.Zf b9.out aa (Nat.le_of_eq hg.symm)) hb);replace ba:=aK (Kd.Zh (Kd.Zf ba.out aa (Nat.le_of_eq hg.symm)) hb);replace ξ :=sBk ξ hb;replace ρ:=sBk ρ hb;replace a8:=sBk a8 hb;replace HB:=sHb hb;clear hb hbox hg;have e0:=bo.out;have e3:=bc.out;have ga:=ay.out;have gb:=ax.out;have e5:=bv.out;have e6:=bs.out;obtain⟨bf,bp,bu,bw⟩:=qD2 σ.out))
 go_loopg [10] k (fun kq dq w'=>∃ (κ :Int) (ar:List (S36)) (ao:List (S86)) (aw:Value) (av:Value),dq=nI κ ∧ Aside0 (newelref21_Spread.l0 kq l1 a2 κ B J O Y Z γ δ ε θ η μ τ ar ao=some (r1,r2))∧Aside0 (kq≤k)∧Aside0 (Kd.V k36 36 w' w.heap.size (fun k_=>((al k_∨am k_)∨w.heap.size≤k_)∧k_≠ag∧k_≠ak∧k_≠ae∧k_≠aa) (.slice a7 μ.length a1) μ)∧Aside0 (Kd.V k86 86 w' w.heap.size (fun k_=>((al k_∨am k_)∨w.heap.size≤k_)∧k_≠ag∧k_≠ak∧k_≠ae∧k_≠aa) (.slice a3 τ.length a5) τ)∧Aside0 (Kd.V k36 36 w' w.heap.size (fun k_=>((al k_∨am k_)∨w.heap.size≤k_)∧k_≠ag∧k_≠ak∧k_≠ae∧k_≠aa) aw ar)∧Aside0 (Kd.V k86 86 w' w.heap.size (fun k_=>((al k_∨am k_)∨w.heap.size≤k_)∧k_≠ag∧k_≠ak∧k_≠ae∧k_≠aa) av ao)∧Aside0 (w'.heap[ag]?=some (.cells #[nI B,nI J,nI O,nI Y,nI Z,nI γ,nI δ,nI ε,nI θ,nI η] 25 (0,0)))∧Aside0 (w'.heap[ak]?=some (.cells #[(.slice a7 μ.length a1),(.slice a3 τ.length a5)] 50 (0,0)))∧Aside0 (w'.heap[ae]?=some (.cells #[(.slice none 0 0),(.slice none 0 0)] 50 (0,0)))∧Aside0 (w'.heap[aa]?=some (.cells #[aw,av] 50 (0,0)))∧Aside0 (Below w.heap.size w w'))
 case atStart=>exact⟨(0),(μ),(τ),(.slice a7 μ.length a1),(.slice a3 τ.length a5),qR,H',⟨Nat.le_refl _⟩,⟨by(with_reducible repeat first|apply Kd.Q3|apply Kd.Q2|apply Kd.Q8);exact Kd.Q5 (Kd.fV (Kd.fV (Kd.Q5 b9.out (fun k_ hk=>(⟨hk,hk.2⟩:_∧k_≠aa))))) (fun _ hk=>⟨hk.1.1.1.1.1,⟨hk.1.1.1.1.2,⟨hk.1.1.1.2,⟨hk.1.1.2,hk.1.2⟩⟩⟩⟩)⟩,⟨by(with_reducible repeat first|apply Kd.Q3|apply Kd.Q2|apply Kd.Q8);exact Kd.Q5 (Kd.fV (Kd.fV (Kd.Q5 ba.out (fun k_ hk=>(⟨hk,hk.2⟩:_∧k_≠aa))))) (fun _ hk=>⟨hk.1.1.1.1.1,⟨hk.1.1.1.1.2,⟨hk.1.1.1.2,⟨hk.1.1.2,hk.1.2⟩⟩⟩⟩)⟩,⟨by(with_reducible repeat first|apply Kd.Q3|apply Kd.Q2|apply Kd.Q8);exact Kd.Q5 (Kd.fV (Kd.fV (Kd.Q5 b9.out (fun k_ hk=>(⟨hk,hk.2⟩:_∧k_≠aa))))) (fun _ hk=>⟨hk.1.1.1.1.1,⟨hk.1.1.1.1.2,⟨hk.1.1.1.2,⟨hk.1.1.2,hk.1.2⟩⟩⟩⟩)⟩,⟨by(with_reducible repeat first|apply Kd.Q3|apply Kd.Q2|apply Kd.Q8);exact Kd.Q5 (Kd.fV (Kd.fV (Kd.Q5 ba.out (fun k_ hk=>(⟨hk,hk.2⟩:_∧k_≠aa))))) (fun _ hk=>⟨hk.1.1.1.1.1,⟨hk.1.1.1.1.2,⟨hk.1.1.1.2,⟨hk.1.1.2,hk.1.2⟩⟩⟩⟩)⟩,⟨bka ξ⟩,⟨bka ρ⟩,⟨bka a8⟩,⟨by(with_reducible repeat first|refine Qi ?_ _|refine Qd ?_|refine Qh ?_ _);refine Qo (cs:=#[.slice a7 μ.length a1,.slice none 0 0]) ?_ 1 _ rfl;(with_reducible repeat first|refine Qi ?_ _|refine Qd ?_|refine Qh ?_ _);refine Qo (cs:=#[.slice none 0 0,.slice none 0 0]) ?_ 0 _ rfl;(with_reducible repeat first|refine Qi ?_ _|refine Qd ?_|refine Qh ?_ _);exact σ.out⟩,⟨bel⟩⟩
 case round=>
  clear H'
  try clear c1
  try clear bg
  try clear bh
  try clear bf
  try clear bp
  try clear bk
  try clear bm
  try clear bu
  try clear bw
  obtain⟨κ,ar,ao,aw,av,rfl,HA,af,ν,a0,X,ι,ξ,ρ,a8,σ,HB⟩:=hrel
  cases gk with
  |zero=>exact absurd HA.out (by simp[newelref21_Spread.l0])
  |succ k1=>
   have H:=HA.out
   clear HA
   simp only[newelref21_Spread.l0] at H
   by_cases ab: κ < (μ.length:Int)
   ·rw[if_pos ab] at H
    have c16b0:=decide_eq_true ab
    clear ab
    by_cases ψ :0 ≤ κ
    ·rw[if_pos ψ] at H
     have c17b0:=decide_eq_true ψ
     clear ψ
     by_cases b6:((Qb μ κ).f2)≥0
     ·rw[if_pos b6] at H
      have c18b0:decide (0≤((Qb μ κ).f2))=true:=decide_eq_true b6
      clear b6
      obtain⟨gq,gy,H⟩:=qQ H
      by_cases bd:gq=true
      ·subst bd
       rw[if_pos rfl] at H
       obtain⟨⟨em,fn⟩,my,H⟩:=qQ H
       replace H:(newelref21_Spread.l0 k1 l1 a2 (wrap64 (κ + 1)) B J O Y Z γ δ ε θ η μ τ em fn)=some (r1,r2):=H
       have H':=aK H
       clear H
       have ek:=b2.out
       have el:=b0.out
       have d2:=b4.out
       have dx:=b5.out
       have dy:=ax.out
       have dz:=ay.out
       obtain⟨b8,bn,bq,br⟩:=qD2 ρ.out
       have cu:0≤(κ :Int):=of_decide_eq_true (by assumption)
       have cv: κ < (μ.length:Int):=of_decide_eq_true (by assumption)
       obtain⟨cw,en,eu,ev,ew⟩:=Z4 (Kd.Z9 ν.out).2.2 κ cu cv
       cases en
       replace cu:=eq_true cu
       replace cv:=eq_true cv
       go_wp2_with (first|((with_reducible refine Qe (N:=11) rfl ?_);refine qE 11 #[nI 0,nI 0,nI 0] 36 ?_;intro a9 hg hu hbox hb;have au:=aK hbox;have hl:=sGe hg;have hx:=sGe hg;have bz:=sNl ξ hg;have cb:=sNg ξ hg;have cd:=sNl ρ hg;have ce:=sNg ρ hg;have cf:=sNl a8 hg;have cp:=sNg a8 hg;have cq:=sNl σ hg;have cr:=sNg σ hg;replace ν :=aK (Kd.Zh (Kd.Zf (by(with_reducible repeat first|apply Kd.Q3|apply Kd.Q2|apply Kd.Q8);exact ν.out) a9 (Nat.le_of_eq hg.symm)) hb);replace a0:=aK (Kd.Zh (Kd.Zf (by(with_reducible repeat first|apply Kd.Q3|apply Kd.Q2|apply Kd.Q8);exact a0.out) a9 (Nat.le_of_eq hg.symm)) hb);replace X:=aK (Kd.Zh (Kd.Zf (by(with_reducible repeat first|apply Kd.Q3|apply Kd.Q2|apply Kd.Q8);exact X.out) a9 (Nat.le_of_eq hg.symm)) hb);replace ι :=aK (Kd.Zh (Kd.Zf (by(with_reducible repeat first|apply Kd.Q3|apply Kd.Q2|apply Kd.Q8);exact ι.out) a9 (Nat.le_of_eq hg.symm)) hb);replace ξ :=sBk ξ hb;replace ρ:=sBk ρ hb;replace a8:=sBk a8 hb;replace σ:=sBk σ hb;replace HB:=sHb hb;clear hb hbox hg;have fy:=cb.out;have fz:=bz.out;have jw:=ce.out;have jx:=cd.out;have e7:=cp.out;have e8:=cf.out;have dw:=cr.out;have ea:=cq.out;obtain⟨bj,ck,dl,cn,co,dm⟩:=qD3 au.out)|((with_reducible refine Y8 (t:=36) (p:=11) rfl ?_);refine Yy (t:=36) (p:=11) (v:=?vo_w32) (w1:=(((hu.setCell ⟨a9,0,none⟩ (nI ((Qb μ κ).f0))).setCell ⟨a9,1,none⟩ (nI ((Qb μ κ).f1))).setCell ⟨a9,2,none⟩ (nI ((Qb μ κ).f2)))) ?hg ?ho ?hn ?hr ?_;(case ho=>rfl);(case hg=>rfl);(case hn=>rfl);(case hr=>go_simp <;> rfl);intro bi hw;have φ :Aside0 (Kd.V k36 36 bi w.heap.size (fun k_=>((al k_∨am k_)∨w.heap.size≤k_)∧k_≠ag∧k_≠ak∧k_≠ae∧k_≠aa∧k_≠a9) (.slice (some cw) μ.length a1) μ):=⟨(by rw[hw];exact(by(with_reducible repeat first|apply Kd.Q3|apply Kd.Q2|apply Kd.Q8);exact Kd.Q5 (Kd.fV (Kd.fV (Kd.fV (Kd.Q5 ν.out (fun k_ hk=>(⟨hk,hk.2⟩:_∧k_≠a9)))))) (fun _ hk=>⟨hk.1.1.1,⟨hk.1.1.2.1,⟨hk.1.1.2.2.1,⟨hk.1.1.2.2.2.1,⟨hk.1.1.2.2.2.2,hk.1.2⟩⟩⟩⟩⟩)))⟩;have χ :Aside0 (Kd.V k86 86 bi w.heap.size (fun k_=>((al k_∨am k_)∨w.heap.size≤k_)∧k_≠ag∧k_≠ak∧k_≠ae∧k_≠aa∧k_≠a9) (.slice a3 τ.length a5) τ):=⟨(by rw[hw];exact(by(with_reducible repeat first|apply Kd.Q3|apply Kd.Q2|apply Kd.Q8);exact Kd.Q5 (Kd.fV (Kd.fV (Kd.fV (Kd.Q5 a0.out (fun k_ hk=>(⟨hk,hk.2⟩:_∧k_≠a9)))))) (fun _ hk=>⟨hk.1.1.1,⟨hk.1.1.2.1,⟨hk.1.1.2.2.1,⟨hk.1.1.2.2.2.1,⟨hk.1.1.2.2.2.2,hk.1.2⟩⟩⟩⟩⟩)))⟩;have ω :Aside0 (Kd.V k36 36 bi w.heap.size (fun k_=>((al k_∨am k_)∨w.heap.size≤k_)∧k_≠ag∧k_≠ak∧k_≠ae∧k_≠aa∧k_≠a9) aw ar):=⟨(by rw[hw];exact(by(with_reducible repeat first|apply Kd.Q3|apply Kd.Q2|apply Kd.Q8);exact Kd.Q5 (Kd.fV (Kd.fV (Kd.fV (Kd.Q5 X.out (fun k_ hk=>(⟨hk,hk.2⟩:_∧k_≠a9)))))) (fun _ hk=>⟨hk.1.1.1,⟨hk.1.1.2.1,⟨hk.1.1.2.2.1,⟨hk.1.1.2.2.2.1,⟨hk.1.1.2.2.2.2,hk.1.2⟩⟩⟩⟩⟩)))⟩;have a6:Aside0 (Kd.V k86 86 bi w.heap.size (fun k_=>((al k_∨am k_)∨w.heap.size≤k_)∧k_≠ag∧k_≠ak∧k_≠ae∧k_≠aa∧k_≠a9) av ao):=⟨(by rw[hw];exact(by(with_reducible repeat first|apply Kd.Q3|apply Kd.Q2|apply Kd.Q8);exact Kd.Q5 (Kd.fV (Kd.fV (Kd.fV (Kd.Q5 ι.out (fun k_ hk=>(⟨hk,hk.2⟩:_∧k_≠a9)))))) (fun _ hk=>⟨hk.1.1.1,⟨hk.1.1.2.1,⟨hk.1.1.2.2.1,⟨hk.1.1.2.2.2.1,⟨hk.1.1.2.2.2.2,hk.1.2⟩⟩⟩⟩⟩)))⟩;have ah:Aside0 (bi.heap[ag]?=some (.cells #[nI B,nI J,nI O,nI Y,nI Z,nI γ,nI δ,nI ε,nI θ,nI η] 25 (0,0))):=⟨(by rw[hw];exact(bka ξ))⟩;have az:Aside0 (bi.heap[ak]?=some (.cells #[.slice (some cw) μ.length a1,.slice a3 τ.length a5] 50 (0,0))):=⟨(by rw[hw];exact(bka ρ))⟩;have b1:Aside0 (bi.heap[ae]?=some (.cells #[.slice none 0 0,.slice none 0 0] 50 (0,0))):=⟨(by rw[hw];exact(bka a8))⟩;have be:Aside0 (bi.heap[aa]?=some (.cells #[aw,av] 50 (0,0))):=⟨(by rw[hw];exact(bka σ))⟩;have bl:Aside0 (bi.heap[a9]?=some (.cells #[nI ((Qb μ κ).f0),nI ((Qb μ κ).f1),nI ((Qb μ κ).f2)] 36 (0,0))):=⟨(by rw[hw];exact(by(with_reducible repeat first|refine Qi ?_ _|refine Qd ?_|refine Qh ?_ _);refine Qo (cs:=#[nI ((Qb μ κ).f0),nI ((Qb μ κ).f1),nI 0]) ?_ 2 _ rfl;(with_reducible repeat first|refine Qi ?_ _|refine Qd ?_|refine Qh ?_ _);refine Qo (cs:=#[nI ((Qb μ κ).f0),nI 0,nI 0]) ?_ 1 _ rfl;(with_reducible repeat first|refine Qi ?_ _|refine Qd ?_|refine Qh ?_ _);refine Qo (cs:=#[nI 0,nI 0,nI 0]) ?_ 0 _ rfl;(with_reducible repeat first|refine Qi ?_ _|refine Qd ?_|refine Qh ?_ _);exact au.out))⟩;have ca:Aside0 (Below w.heap.size w bi):=⟨(by rw[hw];exact bel)⟩;clear hw;clear ν;clear a0;clear X;clear ι;clear ξ;clear ρ;clear a8;clear σ;clear au;clear HB;have ν := φ;have a0:= χ;have X:= ω;have ι :=a6;have ξ :=ah;have ρ:=az;have a8:=b1;have σ:=be;have au:=bl;have HB:=ca;clear φ χ ω a6 ah az b1 be bl ca;obtain⟨d3,d4,dt,d5,d6,er⟩:=qD3 au.out)|((with_reducible refine Qf (f:=42) rfl ?_);refine Q0 (some 35) rfl rfl Try.func42 kr rfl #[nI a2,nI ((Qb μ κ).f2)] rfl qM ?_;(with_reducible refine(newelref21_Fault.calls a2 ((Qb μ κ).f2) true _ gy.out).mono ?_);rintro e w' ⟨rfl,⟨nd,rfl⟩⟩;refine⟨_,rfl, ?_⟩;(try(rw[Yu bi];generalize hq_:World.drewN bi _=bi;have φ :Aside0 (Kd.V k36 36 bi w.heap.size (fun k_=>((al k_∨am k_)∨w.heap.size≤k_)∧k_≠ag∧k_≠ak∧k_≠ae∧k_≠aa∧k_≠a9) (.slice (some cw) μ.length a1) μ):=⟨by rw[← hq_];exact(by(with_reducible repeat first|apply Kd.Q3|apply Kd.Q2|apply Kd.Q8);exact ν.out)⟩;have χ :Aside0 (Kd.V k86 86 bi w.heap.size (fun k_=>((al k_∨am k_)∨w.heap.size≤k_)∧k_≠ag∧k_≠ak∧k_≠ae∧k_≠aa∧k_≠a9) (.slice a3 τ.length a5) τ):=⟨by rw[← hq_];exact(by(with_reducible repeat first|apply Kd.Q3|apply Kd.Q2|apply Kd.Q8);exact a0.out)⟩;have ω :Aside0 (Kd.V k36 36 bi w.heap.size (fun k_=>((al k_∨am k_)∨w.heap.size≤k_)∧k_≠ag∧k_≠ak∧k_≠ae∧k_≠aa∧k_≠a9) aw ar):=⟨by rw[← hq_];exact(by(with_reducible repeat first|apply Kd.Q3|apply Kd.Q2|apply Kd.Q8);exact X.out)⟩;have a6:Aside0 (Kd.V k86 86 bi w.heap.size (fun k_=>((al k_∨am k_)∨w.heap.size≤k_)∧k_≠ag∧k_≠ak∧k_≠ae∧k_≠aa∧k_≠a9) av ao):=⟨by rw[← hq_];exact(by(with_reducible repeat first|apply Kd.Q3|apply Kd.Q2|apply Kd.Q8);exact ι.out)⟩;have ah:Aside0 (bi.heap[ag]?=some (.cells #[nI B,nI J,nI O,nI Y,nI Z,nI γ,nI δ,nI ε,nI θ,nI η] 25 (0,0))):=⟨by rw[← hq_];exact(bka ξ)⟩;have az:Aside0 (bi.heap[ak]?=some (.cells #[.slice (some cw) μ.length a1,.slice a3 τ.length a5] 50 (0,0))):=⟨by rw[← hq_];exact(bka ρ)⟩;have b1:Aside0 (bi.heap[ae]?=some (.cells #[.slice none 0 0,.slice none 0 0] 50 (0,0))):=⟨by rw[← hq_];exact(bka a8)⟩;have be:Aside0 (bi.heap[aa]?=some (.cells #[aw,av] 50 (0,0))):=⟨by rw[← hq_];exact(bka σ)⟩;have bl:Aside0 (bi.heap[a9]?=some (.cells #[nI ((Qb μ κ).f0),nI ((Qb μ κ).f1),nI ((Qb μ κ).f2)] 36 (0,0))):=⟨by rw[← hq_];exact(bka au)⟩;have ca:Aside0 (Below w.heap.size w bi):=⟨by rw[← hq_];exact bel⟩;clear ν a0 X ι ξ ρ a8 σ au HB hq_;have ν := φ;have a0:= χ;have X:= ω;have ι :=a6;have ξ :=ah;have ρ:=az;have a8:=b1;have σ:=be;have au:=bl;have HB:=ca;clear φ χ ω a6 ah az b1 be bl ca));(try(have cm:cI bi a9 0 ((Qb μ κ).f0):=(Qa au.out 0).trans rfl));(try(have f8:cI bi a9 1 ((Qb μ κ).f1):=(Qa au.out 1).trans rfl));(try(have ge:cI bi a9 2 ((Qb μ κ).f2):=(Qa au.out 2).trans rfl));(try(have ed:=Qg au.out 0));(try(have fa:=Qg au.out 1));(try(have gf:=Qg au.out 2));have ix:=bo.out;have iy:=bc.out;have dv:=bv.out;have e9:=bs.out;obtain⟨gr,gs,gt,hj⟩:=qD2 σ.out;obtain⟨eh,ei,fc⟩:=Kd.Yn X.out;subst fc;obtain⟨dn,dp,fm⟩:=Kd.Yn ι.out;subst fm)|((with_reducible refine Qf (f:=43) rfl ?_);refine Q0 (some 43) rfl rfl Try.func43 kr rfl #[.agg #[.slice eh ar.length ei,.slice dn ao.length dp],.agg #[nI ((Qb μ κ).f0),nI ((Qb μ κ).f1),nI (-1)]] rfl qM ?_;(with_reducible refine(newelref19_Give.calls k1 _ _ ar (fun k_=>(((al k_∨am k_)∨w.heap.size≤k_)∧(k_≠ag∧(k_≠ak∧(k_≠ae∧(k_≠aa∧k_≠a9)))))) _ _ ao ((Qb μ κ).f0) ((Qb μ κ).f1) (-1) em fn _ ?side1 ?side2 ?side3 my.out).mono ?_);(case side1=>repeat(first|exact(Kd.Z9 X.out).2.2|(with_reducible refine Kd.Jn ?_ _)|(with_reducible refine Kd.Jm ?_ _)|(with_reducible refine Kd.Ki ?_)));(case side2=>exact(Kd.Z9 X.out).2.1);(case side3=>exact ι.out);rintro e iz ⟨jv,ns,rfl,ai,aj,hb⟩;refine⟨_,rfl, ?_⟩;have hy:=aK (Kd.Za (Kd.J2 (Kd.E7 (M:=fun k_=>(w.heap.size≤k_)) (Kd.Qv (ok':=fun k_=>True) ai (fun _ hk_=>trivial)) (Qm bel) (fun k_ h_=>h_)) (g:=a9) (o:=.cells #[nI ((Qb μ κ).f0),nI ((Qb μ κ).f1),nI ((Qb μ κ).f2)] 36 (0,0)) (bka au)) (Qm bel));have i5:=aK (Kd.Va (Kd.Q5 (ok':=fun k_=>((al k_∨am k_)∨w.heap.size≤k_)∧some k_≠(jv:Value).ownBlock∧k_≠ag∧k_≠ak∧k_≠ae∧k_≠aa∧k_≠a9) aj (fun k_ hk_=>⟨Or.elim hk_.1 (fun hs_=>hs_.1) (fun hn_=>(.inr (Nat.le_trans (Qm bel) hn_))),hk_.2,Or.elim hk_.1 (fun hs_=>hs_.2.1) (fun hn_=>(Kd.Xo (g:=ag) (o:=.cells #[nI B,nI J,nI O,nI Y,nI Z,nI γ,nI δ,nI ε,nI θ,nI η] 25 (0,0)) (bka ξ) k_ hn_)),Or.elim hk_.1 (fun hs_=>hs_.2.2.1) (fun hn_=>(Kd.Xo (g:=ak) (o:=.cells #[.slice (some cw) μ.length a1,.slice a3 τ.length a5] 50 (0,0)) (bka ρ) k_ hn_)),Or.elim hk_.1 (fun hs_=>hs_.2.2.2.1) (fun hn_=>(Kd.Xo (g:=ae) (o:=.cells #[.slice none 0 0,.slice none 0 0] 50 (0,0)) (bka a8) k_ hn_)),Or.elim hk_.1 (fun hs_=>hs_.2.2.2.2.1) (fun hn_=>(Kd.Xo (g:=aa) (o:=.cells #[.slice eh ar.length ei,.slice dn ao.length dp] 50 (0,0)) (bka σ) k_ hn_)),Or.elim hk_.1 (fun hs_=>hs_.2.2.2.2.2) (fun hn_=>(Kd.Xo (g:=a9) (o:=.cells #[nI ((Qb μ κ).f0),nI ((Qb μ κ).f1),nI ((Qb μ κ).f2)] 36 (0,0)) (bka au) k_ hn_))⟩)) (Qm bel));replace ν :=aK (Kd.X5 (by(with_reducible repeat first|apply Kd.Q3|apply Kd.Q2|apply Kd.Q8);exact ν.out) (Kd.Zx ai) hb);replace a0:=aK (Kd.X5 (by(with_reducible repeat first|apply Kd.Q3|apply Kd.Q2|apply Kd.Q8);exact a0.out) (Kd.Zx ai) hb);replace X:=aK (Kd.X5 (by(with_reducible repeat first|apply Kd.Q3|apply Kd.Q2|apply Kd.Q8);exact X.out) (Kd.Zx ai) hb);replace ι :=aK (Kd.X5 (by(with_reducible repeat first|apply Kd.Q3|apply Kd.Q2|apply Kd.Q8);exact ι.out) (Kd.Zx ai) hb);replace ξ :=sBk ξ hb;replace ρ:=sBk ρ hb;replace a8:=sBk a8 hb;replace σ:=sBk σ hb;replace au:=sBk au hb;replace HB:=sHb hb;(try clear hb);(try clear a4);(try clear hk);(try clear hi);(try clear ai);(try clear aj);obtain⟨gl,h0,ic⟩:=Kd.Q7 hy.out;subst ic;obtain⟨fo,fp,fq,fr⟩:=qD2 σ.out;obtain⟨fv,gi,gj⟩:=Kd.Yn i5.out;subst gj))
       go_roundg k1
       case measure=>have:=af.out;omega
       case rel=>exact⟨(wrap64 (κ + 1)),(em),(fn),(.slice gl em.length h0),(.slice fv fn.length gi),qR,H',⟨by have:=af.out;omega⟩,⟨by(with_reducible repeat first|apply Kd.Q3|apply Kd.Q2|apply Kd.Q8);exact Kd.Q5 (Kd.fV (Kd.fV (Kd.Q5 ν.out (fun k_ hk=>(⟨hk,hk.1.2.2.2.2.1⟩:_∧k_≠aa))))) (fun _ hk=>⟨hk.1.1.1,⟨hk.1.1.2.1,⟨hk.1.1.2.2.1,⟨hk.1.1.2.2.2.1,hk.1.1.2.2.2.2.1⟩⟩⟩⟩)⟩,⟨by(with_reducible repeat first|apply Kd.Q3|apply Kd.Q2|apply Kd.Q8);exact Kd.Q5 (Kd.fV (Kd.fV (Kd.Q5 a0.out (fun k_ hk=>(⟨hk,hk.1.2.2.2.2.1⟩:_∧k_≠aa))))) (fun _ hk=>⟨hk.1.1.1,⟨hk.1.1.2.1,⟨hk.1.1.2.2.1,⟨hk.1.1.2.2.2.1,hk.1.1.2.2.2.2.1⟩⟩⟩⟩)⟩,⟨Kd.Q5 (Kd.R_V (by(with_reducible repeat first|apply Kd.Qs|apply Kd.Qr|apply Kd.Qu);exact Kd.Qv (ok':=fun k_=>w.heap.size≤k_∧k_≠ag∧k_≠ak∧k_≠ae∧k_≠aa) (Kd.Qx (Kd.Qx (Kd.Q4 (Kd.Q4 (Kd.Q4 (Kd.Q4 (Kd.Q4 hy.out ξ.out (by decide)) ρ.out (by decide)) a8.out (by decide)) σ.out (by decide)) σ.out (by decide)) (fun _ hk=>hk.2) _) (fun _ hk=>hk.2) _) (fun _ hk=>⟨hk.1.1.1.1.1.1.1,⟨hk.1.1.1.1.2,⟨hk.1.1.1.2,⟨hk.1.1.2,hk.1.2⟩⟩⟩⟩))) (fun k_ hk=>by first|exact⟨(.inr (hk.1)),hk.2⟩|exact(.inr (hk)))⟩,⟨by(with_reducible repeat first|apply Kd.Q3|apply Kd.Q2|apply Kd.Q8);exact Kd.Q5 (Kd.fV (Kd.fV (Kd.Q5 i5.out (fun k_ hk=>(⟨hk,hk.2.2.2.2.2.1⟩:_∧k_≠aa))))) (fun _ hk=>⟨hk.1.1,⟨hk.1.2.2.1,⟨hk.1.2.2.2.1,⟨hk.1.2.2.2.2.1,hk.1.2.2.2.2.2.1⟩⟩⟩⟩)⟩,⟨bka ξ⟩,⟨bka ρ⟩,⟨bka a8⟩,⟨by(with_reducible repeat first|refine Qi ?_ _|refine Qd ?_|refine Qh ?_ _);refine Qo (cs:=#[.slice gl em.length h0,.slice dn ao.length dp]) ?_ 1 _ rfl;(with_reducible repeat first|refine Qi ?_ _|refine Qd ?_|refine Qh ?_ _);refine Qo (cs:=#[.slice eh ar.length ei,.slice dn ao.length dp]) ?_ 0 _ rfl;(with_reducible repeat first|refine Qi ?_ _|refine Qd ?_|refine Qh ?_ _);exact σ.out⟩,⟨bel⟩⟩
      ·replace bd:=Bool.eq_false_iff.mpr bd
       subst bd
       rw[if_neg nft] at H
       have H':=aK H
       clear H
       have i1:=b2.out
       have i2:=b0.out
       have gm:=b4.out
       have gn:=b5.out
       have gw:=ax.out
       have gz:=ay.out
       obtain⟨fe,ff,fg,fh⟩:=qD2 ρ.out
       have cu:0≤(κ :Int):=of_decide_eq_true (by assumption)
       have cv: κ < (μ.length:Int):=of_decide_eq_true (by assumption)
       obtain⟨cw,en,eu,ev,ew⟩:=Z4 (Kd.Z9 ν.out).2.2 κ cu cv
       cases en
       replace cu:=eq_true cu
       replace cv:=eq_true cv
       go_wp2_with (first|((with_reducible refine Qe (N:=11) rfl ?_);refine qE 11 #[nI 0,nI 0,nI 0] 36 ?_;intro a9 hg k4 hbox hb;have au:=aK hbox;have hl:=sGe hg;have hx:=sGe hg;have bz:=sNl ξ hg;have cb:=sNg ξ hg;have cd:=sNl ρ hg;have ce:=sNg ρ hg;have cf:=sNl a8 hg;have cp:=sNg a8 hg;have cq:=sNl σ hg;have cr:=sNg σ hg;replace ν :=aK (Kd.Zh (Kd.Zf ν.out a9 (Nat.le_of_eq hg.symm)) hb);replace a0:=aK (Kd.Zh (Kd.Zf a0.out a9 (Nat.le_of_eq hg.symm)) hb);replace X:=aK (Kd.Zh (Kd.Zf X.out a9 (Nat.le_of_eq hg.symm)) hb);replace ι :=aK (Kd.Zh (Kd.Zf ι.out a9 (Nat.le_of_eq hg.symm)) hb);replace ξ :=sBk ξ hb;replace ρ:=sBk ρ hb;replace a8:=sBk a8 hb;replace σ:=sBk σ hb;replace HB:=sHb hb;clear hb hbox hg;have gu:=cb.out;have gv:=bz.out;have h4:=ce.out;have h5:=cd.out;have gg:=cp.out;have gh:=cf.out;have iv:=cr.out;have iw:=cq.out;obtain⟨dh,di,ez,ec,ee,f7⟩:=qD3 au.out)|((with_reducible refine Qf (f:=42) rfl ?_);refine Q0 (some 35) rfl rfl Try.func42 kr rfl #[nI a2,nI ((Qb μ κ).f2)] rfl qM ?_;(with_reducible refine(newelref21_Fault.calls a2 ((Qb μ κ).f2) false _ gy.out).mono ?_);rintro e w' ⟨rfl,⟨nd,rfl⟩⟩;refine⟨_,rfl, ?_⟩))
       go_roundg k1
       case measure=>have:=af.out;omega
       case rel=>exact⟨(wrap64 (κ + 1)),(ar),(ao),(aw),(av),qR,H',⟨by have:=af.out;omega⟩,⟨by(with_reducible repeat first|apply Kd.Q3|apply Kd.Q2|apply Kd.Q8);exact Kd.Q5 (Kd.fV (Kd.fV (Kd.fV (Kd.Q5 ν.out (fun k_ hk=>(⟨hk,hk.2⟩:_∧k_≠a9)))))) (fun _ hk=>⟨hk.1.1.1,⟨hk.1.1.2.1,⟨hk.1.1.2.2.1,⟨hk.1.1.2.2.2.1,hk.1.1.2.2.2.2⟩⟩⟩⟩)⟩,⟨by(with_reducible repeat first|apply Kd.Q3|apply Kd.Q2|apply Kd.Q8);exact Kd.Q5 (Kd.fV (Kd.fV (Kd.fV (Kd.Q5 a0.out (fun k_ hk=>(⟨hk,hk.2⟩:_∧k_≠a9)))))) (fun _ hk=>⟨hk.1.1.1,⟨hk.1.1.2.1,⟨hk.1.1.2.2.1,⟨hk.1.1.2.2.2.1,hk.1.1.2.2.2.2⟩⟩⟩⟩)⟩,⟨by(with_reducible repeat first|apply Kd.Q3|apply Kd.Q2|apply Kd.Q8);exact Kd.Q5 (Kd.fV (Kd.fV (Kd.fV (Kd.Q5 X.out (fun k_ hk=>(⟨hk,hk.2⟩:_∧k_≠a9)))))) (fun _ hk=>⟨hk.1.1.1,⟨hk.1.1.2.1,⟨hk.1.1.2.2.1,⟨hk.1.1.2.2.2.1,hk.1.1.2.2.2.2⟩⟩⟩⟩)⟩,⟨by(with_reducible repeat first|apply Kd.Q3|apply Kd.Q2|apply Kd.Q8);exact Kd.Q5 (Kd.fV (Kd.fV (Kd.fV (Kd.Q5 ι.out (fun k_ hk=>(⟨hk,hk.2⟩:_∧k_≠a9)))))) (fun _ hk=>⟨hk.1.1.1,⟨hk.1.1.2.1,⟨hk.1.1.2.2.1,⟨hk.1.1.2.2.2.1,hk.1.1.2.2.2.2⟩⟩⟩⟩)⟩,⟨bka ξ⟩,⟨bka ρ⟩,⟨bka a8⟩,⟨bka σ⟩,⟨bel⟩⟩
     ·rw[if_neg b6] at H
      have c18b0:decide (0≤((Qb μ κ).f2))=false:=decide_eq_false b6
      clear b6
      have H':=aK H
      clear H
      have o8:=b2.out
      have o9:=b0.out
      have lh:=b4.out
      have lq:=b5.out
      have lr:=ax.out
      have ls:=ay.out
      obtain⟨iq,ir,jb,jo⟩:=qD2 ρ.out
      have cu:0≤(κ :Int):=of_decide_eq_true (by assumption)
      have cv: κ < (μ.length:Int):=of_decide_eq_true (by assumption)
      obtain⟨cw,en,eu,ev,ew⟩:=Z4 (Kd.Z9 ν.out).2.2 κ cu cv
      cases en
      replace cu:=eq_true cu
      replace cv:=eq_true cv
      go_wp2_with (first|((with_reducible refine Qe (N:=11) rfl ?_);refine qE 11 #[nI 0,nI 0,nI 0] 36 ?_;intro a9 hg na hbox hb;have au:=aK hbox;have hl:=sGe hg;have hx:=sGe hg;have bz:=sNl ξ hg;have cb:=sNg ξ hg;have cd:=sNl ρ hg;have ce:=sNg ρ hg;have cf:=sNl a8 hg;have cp:=sNg a8 hg;have cq:=sNl σ hg;have cr:=sNg σ hg;replace ν :=aK (Kd.Zh (Kd.Zf ν.out a9 (Nat.le_of_eq hg.symm)) hb);replace a0:=aK (Kd.Zh (Kd.Zf a0.out a9 (Nat.le_of_eq hg.symm)) hb);replace X:=aK (Kd.Zh (Kd.Zf X.out a9 (Nat.le_of_eq hg.symm)) hb);replace ι :=aK (Kd.Zh (Kd.Zf ι.out a9 (Nat.le_of_eq hg.symm)) hb);replace ξ :=sBk ξ hb;replace ρ:=sBk ρ hb;replace a8:=sBk a8 hb;replace σ:=sBk σ hb;replace HB:=sHb hb;clear hb hbox hg;have l5:=cb.out;have l6:=bz.out;have i4:=ce.out;have ia:=cd.out;have jm:=cp.out;have jn:=cf.out;have kf:=cr.out;have kg:=cq.out;obtain⟨kx,ky,kz,l2,l3,l4⟩:=qD3 au.out))
      go_roundg k1
      case measure=>have:=af.out;omega
      case rel=>exact⟨(wrap64 (κ + 1)),(ar),(ao),(aw),(av),qR,H',⟨by have:=af.out;omega⟩,⟨by(with_reducible repeat first|apply Kd.Q3|apply Kd.Q2|apply Kd.Q8);exact Kd.Q5 (Kd.fV (Kd.fV (Kd.fV (Kd.Q5 ν.out (fun k_ hk=>(⟨hk,hk.2⟩:_∧k_≠a9)))))) (fun _ hk=>⟨hk.1.1.1,⟨hk.1.1.2.1,⟨hk.1.1.2.2.1,⟨hk.1.1.2.2.2.1,hk.1.1.2.2.2.2⟩⟩⟩⟩)⟩,⟨by(with_reducible repeat first|apply Kd.Q3|apply Kd.Q2|apply Kd.Q8);exact Kd.Q5 (Kd.fV (Kd.fV (Kd.fV (Kd.Q5 a0.out (fun k_ hk=>(⟨hk,hk.2⟩:_∧k_≠a9)))))) (fun _ hk=>⟨hk.1.1.1,⟨hk.1.1.2.1,⟨hk.1.1.2.2.1,⟨hk.1.1.2.2.2.1,hk.1.1.2.2.2.2⟩⟩⟩⟩)⟩,⟨by(with_reducible repeat first|apply Kd.Q3|apply Kd.Q2|apply Kd.Q8);exact Kd.Q5 (Kd.fV (Kd.fV (Kd.fV (Kd.Q5 X.out (fun k_ hk=>(⟨hk,hk.2⟩:_∧k_≠a9)))))) (fun _ hk=>⟨hk.1.1.1,⟨hk.1.1.2.1,⟨hk.1.1.2.2.1,⟨hk.1.1.2.2.2.1,hk.1.1.2.2.2.2⟩⟩⟩⟩)⟩,⟨by(with_reducible repeat first|apply Kd.Q3|apply Kd.Q2|apply Kd.Q8);exact Kd.Q5 (Kd.fV (Kd.fV (Kd.fV (Kd.Q5 ι.out (fun k_ hk=>(⟨hk,hk.2⟩:_∧k_≠a9)))))) (fun _ hk=>⟨hk.1.1.1,⟨hk.1.1.2.1,⟨hk.1.1.2.2.1,⟨hk.1.1.2.2.2.1,hk.1.1.2.2.2.2⟩⟩⟩⟩)⟩,⟨bka ξ⟩,⟨bka ρ⟩,⟨bka a8⟩,⟨bka σ⟩,⟨bel⟩⟩
    ·rw[if_neg ψ] at H
     exact absurd H (by simp)
   ·rw[if_neg ab] at H
    have c16b0:=decide_eq_false ab
    clear ab
    have H':=aK H
    clear H
    have fi:=b2.out
    have fj:=b0.out
    have fw:=b4.out
    have fx:=b5.out
    have k7:=ax.out
    have ki:=ay.out
    obtain⟨eg,js,jt,ju⟩:=qD2 ρ.out
    go_wp2
    go_loopg [13] k1 (fun kq hh w'=>∃ (ac:Int) (ζ :List (S36)) (ap:List (S86)) (aw:Value) (av:Value),hh=nI ac∧Aside0 (newelref21_Spread.l1 kq l1 a2 ac B J O Y Z γ δ ε θ η ζ ap=some (r1,r2))∧Aside0 (kq≤k1)∧Aside0 (Kd.V k36 36 w' w.heap.size (fun k_=>((al k_∨am k_)∨w.heap.size≤k_)∧k_≠ag∧k_≠ak∧k_≠ae∧k_≠aa) (.slice a7 μ.length a1) μ)∧Aside0 (Kd.V k86 86 w' w.heap.size (fun k_=>((al k_∨am k_)∨w.heap.size≤k_)∧k_≠ag∧k_≠ak∧k_≠ae∧k_≠aa) (.slice a3 τ.length a5) τ)∧Aside0 (Kd.V k36 36 w' w.heap.size (fun k_=>((al k_∨am k_)∨w.heap.size≤k_)∧k_≠ag∧k_≠ak∧k_≠ae∧k_≠aa) aw ζ)∧Aside0 (Kd.V k86 86 w' w.heap.size (fun k_=>((al k_∨am k_)∨w.heap.size≤k_)∧k_≠ag∧k_≠ak∧k_≠ae∧k_≠aa) av ap)∧Aside0 (w'.heap[ag]?=some (.cells #[nI B,nI J,nI O,nI Y,nI Z,nI γ,nI δ,nI ε,nI θ,nI η] 25 (0,0)))∧Aside0 (w'.heap[ak]?=some (.cells #[(.slice a7 μ.length a1),(.slice a3 τ.length a5)] 50 (0,0)))∧Aside0 (w'.heap[ae]?=some (.cells #[(.slice none 0 0),(.slice none 0 0)] 50 (0,0)))∧Aside0 (w'.heap[aa]?=some (.cells #[aw,av] 50 (0,0)))∧Aside0 (Below w.heap.size w w'))
    case atStart=>exact⟨(0),(ar),(ao),(aw),(av),rfl,H',⟨Nat.le_refl _⟩,⟨by(with_reducible repeat first|apply Kd.Q3|apply Kd.Q2|apply Kd.Q8);exact ν.out⟩,⟨by(with_reducible repeat first|apply Kd.Q3|apply Kd.Q2|apply Kd.Q8);exact a0.out⟩,⟨by(with_reducible repeat first|apply Kd.Q3|apply Kd.Q2|apply Kd.Q8);exact X.out⟩,⟨by(with_reducible repeat first|apply Kd.Q3|apply Kd.Q2|apply Kd.Q8);exact ι.out⟩,ξ,ρ,a8,σ,HB⟩
    case round=>
     clear H'
     try clear c1
     try clear c16b0
     try clear bg
     try clear bh
     try clear bf
     try clear bp
     try clear eg
     try clear js
     try clear bk
     try clear bm
     try clear bu
     try clear bw
     try clear jt
     try clear ju
     obtain⟨ac,ζ,ap,aw,av,rfl,HA,b7,ν,a0,X,ι,ξ,ρ,a8,σ,HB⟩:=hrel
     cases gk with
     |zero=>exact absurd HA.out (by simp[newelref21_Spread.l1])
     |succ k2=>
      have H:=HA.out
      clear HA
      simp only[newelref21_Spread.l1] at H
      by_cases ey:ac<(ζ.length:Int)
      ·rw[if_pos ey] at H
       have c68b0:=decide_eq_true ey
       clear ey
       by_cases i6:0≤ac
       ·rw[if_pos i6] at H
        have c69b0:=decide_eq_true i6
        clear i6
        by_cases fb:((Qb ζ ac).f2)<0
        ·rw[if_pos fb] at H
         have c70b0:=decide_eq_true fb
         clear fb
         obtain⟨ej,n0,H⟩:=qQ H
         obtain⟨⟨eo,gp⟩,n2,H⟩:=qQ H
         replace H:(newelref21_Spread.l1 k2 l1 a2 (wrap64 (ac+1)) B J O Y Z γ δ ε θ η eo gp)=some (r1,r2):=H
         have H':=aK H
         clear H
         have oa:=bo.out
         have ob:=bc.out
         have m1:=ay.out
         have m2:=ax.out
         have l7:=bv.out
         have l8:=bs.out
         obtain⟨ku,kv,ll,lm⟩:=qD2 σ.out
         obtain⟨nt,ep,jz⟩:=Kd.Yn X.out
         subst jz
         have df:0≤(ac:Int):=of_decide_eq_true (by assumption)
         have dj:ac<(ζ.length:Int):=of_decide_eq_true (by assumption)
         obtain⟨de,gx,im,io,ip⟩:=Z4 (Kd.Z9 X.out).2.2 ac df dj
         cases gx
         replace df:=eq_true df
         replace dj:=eq_true dj
         go_wp2_with (first|((with_reducible refine Qe (N:=14) rfl ?_);refine qE 14 #[nI 0,nI 0,nI 0] 36 ?_;intro an hg mw hbox hb;have bb:=aK hbox;have ja:=sGe hg;have ji:=sGe hg;have cx:=sNl ξ hg;have cy:=sNg ξ hg;have cz:=sNl ρ hg;have d8:=sNg ρ hg;have d9:=sNl a8 hg;have db:=sNg a8 hg;have dc:=sNl σ hg;have dd:=sNg σ hg;replace ν :=aK (Kd.Zh (Kd.Zf (by(with_reducible repeat first|apply Kd.Q3|apply Kd.Q2|apply Kd.Q8);exact ν.out) an (Nat.le_of_eq hg.symm)) hb);replace a0:=aK (Kd.Zh (Kd.Zf (by(with_reducible repeat first|apply Kd.Q3|apply Kd.Q2|apply Kd.Q8);exact a0.out) an (Nat.le_of_eq hg.symm)) hb);replace X:=aK (Kd.Zh (Kd.Zf (by(with_reducible repeat first|apply Kd.Q3|apply Kd.Q2|apply Kd.Q8);exact X.out) an (Nat.le_of_eq hg.symm)) hb);replace ι :=aK (Kd.Zh (Kd.Zf (by(with_reducible repeat first|apply Kd.Q3|apply Kd.Q2|apply Kd.Q8);exact ι.out) an (Nat.le_of_eq hg.symm)) hb);replace ξ :=sBk ξ hb;replace ρ:=sBk ρ hb;replace a8:=sBk a8 hb;replace σ:=sBk σ hb;replace HB:=sHb hb;clear hb hbox hg;have jk:=cy.out;have jl:=cx.out;have h9:=d8.out;have ha:=cz.out;have kc:=db.out;have kd:=d9.out;have nq:=dd.out;have nr:=dc.out;obtain⟨ln,lp,lu,lw,lx,ly⟩:=qD3 bb.out;have oc:=b0.out;have od:=b2.out;have oe:=dr.out;have oh:=du.out;obtain⟨i0,ii,kp,lz,m0,m3,m4,m5,m6,m7,ij,ik,lc,m8,m9,ma,mb,mc,me,mf⟩:=Zi ξ.out;obtain⟨mg,mh,mi,mj⟩:=qD2 σ.out;obtain⟨et,dk,k0⟩:=Kd.Yn ι.out;subst k0)|((with_reducible refine Qf (f:=20) rfl ?_);refine Q0 (some 64) rfl rfl Try.func20 kr rfl #[.agg #[nI B,nI J,nI O,nI Y,nI Z,nI γ,nI δ,nI ε,nI θ,nI η],.slice A1 l1.length c1,nI a2,.agg #[.slice (some de) ζ.length ep,.slice et ap.length dk],.agg #[nI ((Qb ζ ac).f0),nI ((Qb ζ ac).f1),nI ((Qb ζ ac).f2)]] rfl qM ?_;(with_reducible refine(newelref21_Pick.calls k2 B J O Y Z γ δ ε θ η _ _ l1 a2 _ _ ζ _ _ ap ((Qb ζ ac).f0) ((Qb ζ ac).f1) ((Qb ζ ac).f2) ej _ ?side1 ?side2 ?side3 ?side4 ?side5 ?side6 n0.out).mono ?_);(case side1=>exact Kd.Qw ci.out bel);(case side2=>exact da.out);(case side3=>refine(Kd.Z9 (e:=36) (base:=w.heap.size) (ok:=fun k_=>((((al k_∨am k_)∨w.heap.size≤k_)∧(k_≠ag∧(k_≠ak∧(k_≠ae∧k_≠aa))))∧k_≠an)) (n:= ζ.length) (c:=ep) ?_).2.2;exact(by(with_reducible repeat first|apply Kd.Q3|apply Kd.Q2|apply Kd.Q8);exact(Kd.Q5 (Kd.fV (Kd.fV (Kd.fV (Kd.Q5 X.out (fun k_ hk=>(⟨hk,hk.2⟩:_∧k_≠an)))))) (fun _ h_=>h_.1))));(case side4=>exact(Kd.Z9 X.out).2.1);(case side5=>refine(Kd.Z9 (e:=86) (base:=w.heap.size) (ok:=fun k_=>((((al k_∨am k_)∨w.heap.size≤k_)∧(k_≠ag∧(k_≠ak∧(k_≠ae∧k_≠aa))))∧k_≠an)) (n:=ap.length) (c:=dk) ?_).2.2;exact(by(with_reducible repeat first|apply Kd.Q3|apply Kd.Q2|apply Kd.Q8);exact(Kd.Q5 (Kd.fV (Kd.fV (Kd.fV (Kd.Q5 ι.out (fun k_ hk=>(⟨hk,hk.2⟩:_∧k_≠an)))))) (fun _ h_=>h_.1))));(case side6=>exact(Kd.Z9 ι.out).2.1);rintro e nw ⟨rfl,hb⟩;refine⟨_,rfl, ?_⟩;replace ν :=aK (Kd.Zh (by(with_reducible repeat first|apply Kd.Q3|apply Kd.Q2|apply Kd.Q8);exact(Kd.Q5 (Kd.fV (Kd.fV (Kd.fV (Kd.Q5 ν.out (fun k_ hk=>(⟨hk,hk.2⟩:_∧k_≠an)))))) (fun _ h_=>h_.1))) hb);replace a0:=aK (Kd.Zh (by(with_reducible repeat first|apply Kd.Q3|apply Kd.Q2|apply Kd.Q8);exact(Kd.Q5 (Kd.fV (Kd.fV (Kd.fV (Kd.Q5 a0.out (fun k_ hk=>(⟨hk,hk.2⟩:_∧k_≠an)))))) (fun _ h_=>h_.1))) hb);replace X:=aK (Kd.Zh (by(with_reducible repeat first|apply Kd.Q3|apply Kd.Q2|apply Kd.Q8);exact(Kd.Q5 (Kd.fV (Kd.fV (Kd.fV (Kd.Q5 X.out (fun k_ hk=>(⟨hk,hk.2⟩:_∧k_≠an)))))) (fun _ h_=>h_.1))) hb);replace ι :=aK (Kd.Zh (by(with_reducible repeat first|apply Kd.Q3|apply Kd.Q2|apply Kd.Q8);exact(Kd.Q5 (Kd.fV (Kd.fV (Kd.fV (Kd.Q5 ι.out (fun k_ hk=>(⟨hk,hk.2⟩:_∧k_≠an)))))) (fun _ h_=>h_.1))) hb);replace ξ :=sBk ξ hb;replace ρ:=sBk ρ hb;replace a8:=sBk a8 hb;replace σ:=sBk σ hb;replace bb:=aK (Q1 (g:=an) (o:=.cells #[nI ((Qb ζ ac).f0),nI ((Qb ζ ac).f1),nI ((Qb ζ ac).f2)] 36 (0,0)) (by(with_reducible repeat first|refine Qi ?_ _|refine Qd ?_|refine Qh ?_ _);refine Qo (cs:=#[nI ((Qb ζ ac).f0),nI ((Qb ζ ac).f1),nI 0]) ?_ 2 _ rfl;(with_reducible repeat first|refine Qi ?_ _|refine Qd ?_|refine Qh ?_ _);refine Qo (cs:=#[nI ((Qb ζ ac).f0),nI 0,nI 0]) ?_ 1 _ rfl;(with_reducible repeat first|refine Qi ?_ _|refine Qd ?_|refine Qh ?_ _);refine Qo (cs:=#[nI 0,nI 0,nI 0]) ?_ 0 _ rfl;(with_reducible repeat first|refine Qi ?_ _|refine Qd ?_|refine Qh ?_ _);exact bb.out) hb);replace HB:=sHb hb;(try clear hb);(try clear a4);(try clear hk);(try clear hi);obtain⟨ml,mm,mo,mq⟩:=qD2 σ.out;obtain⟨it,iu,j4,j5,j6,jy⟩:=qD3 bb.out)|((with_reducible refine Qf (f:=43) rfl ?_);refine Q0 (some 72) rfl rfl Try.func43 kr rfl #[.agg #[.slice (some de) ζ.length ep,.slice et ap.length dk],.agg #[nI ((Qb ζ ac).f0),nI ((Qb ζ ac).f1),nI ej]] rfl qM ?_;(with_reducible refine(newelref19_Give.calls k2 _ _ ζ (fun k_=>((((al k_∨am k_)∨w.heap.size≤k_)∧(k_≠ag∧(k_≠ak∧(k_≠ae∧k_≠aa))))∧k_≠an)) _ _ ap ((Qb ζ ac).f0) ((Qb ζ ac).f1) ej eo gp _ ?side1 ?side2 ?side3 n2.out).mono ?_);(case side1=>repeat(first|exact(Kd.Z9 X.out).2.2|(with_reducible refine Kd.Jn ?_ _)|(with_reducible refine Kd.Jm ?_ _)|(with_reducible refine Kd.Ki ?_)));(case side2=>exact(Kd.Z9 X.out).2.1);(case side3=>exact ι.out);rintro e nx ⟨k3,nu,rfl,ai,aj,hb⟩;refine⟨_,rfl, ?_⟩;have ie:=aK (Kd.Za (Kd.J2 (Kd.E7 (M:=fun k_=>(w.heap.size≤k_)) (Kd.Qv (ok':=fun k_=>True) ai (fun _ hk_=>trivial)) (Qm bel) (fun k_ h_=>h_)) (g:=an) (o:=.cells #[nI ((Qb ζ ac).f0),nI ((Qb ζ ac).f1),nI ((Qb ζ ac).f2)] 36 (0,0)) (bka bb)) (Qm bel));have ig:=aK (Kd.Va (Kd.Q5 (ok':=fun k_=>((al k_∨am k_)∨w.heap.size≤k_)∧some k_≠(k3:Value).ownBlock∧k_≠ag∧k_≠ak∧k_≠ae∧k_≠aa∧k_≠an) aj (fun k_ hk_=>⟨Or.elim hk_.1 (fun hs_=>hs_.1.1) (fun hn_=>(.inr (Nat.le_trans (Qm bel) hn_))),hk_.2,Or.elim hk_.1 (fun hs_=>hs_.1.2.1) (fun hn_=>(Kd.Xo (g:=ag) (o:=.cells #[nI B,nI J,nI O,nI Y,nI Z,nI γ,nI δ,nI ε,nI θ,nI η] 25 (0,0)) (bka ξ) k_ hn_)),Or.elim hk_.1 (fun hs_=>hs_.1.2.2.1) (fun hn_=>(Kd.Xo (g:=ak) (o:=.cells #[.slice a7 μ.length a1,.slice a3 τ.length a5] 50 (0,0)) (bka ρ) k_ hn_)),Or.elim hk_.1 (fun hs_=>hs_.1.2.2.2.1) (fun hn_=>(Kd.Xo (g:=ae) (o:=.cells #[.slice none 0 0,.slice none 0 0] 50 (0,0)) (bka a8) k_ hn_)),Or.elim hk_.1 (fun hs_=>hs_.1.2.2.2.2) (fun hn_=>(Kd.Xo (g:=aa) (o:=.cells #[.slice (some de) ζ.length ep,.slice et ap.length dk] 50 (0,0)) (bka σ) k_ hn_)),Or.elim hk_.1 (fun hs_=>hs_.2) (fun hn_=>(Kd.Xo (g:=an) (o:=.cells #[nI ((Qb ζ ac).f0),nI ((Qb ζ ac).f1),nI ((Qb ζ ac).f2)] 36 (0,0)) (bka bb) k_ hn_))⟩)) (Qm bel));replace ν :=aK (Kd.X5 (by(with_reducible repeat first|apply Kd.Q3|apply Kd.Q2|apply Kd.Q8);exact ν.out) (Kd.Zx ai) hb);replace a0:=aK (Kd.X5 (by(with_reducible repeat first|apply Kd.Q3|apply Kd.Q2|apply Kd.Q8);exact a0.out) (Kd.Zx ai) hb);replace X:=aK (Kd.X5 (by(with_reducible repeat first|apply Kd.Q3|apply Kd.Q2|apply Kd.Q8);exact X.out) (Kd.Zx ai) hb);replace ι :=aK (Kd.X5 (by(with_reducible repeat first|apply Kd.Q3|apply Kd.Q2|apply Kd.Q8);exact ι.out) (Kd.Zx ai) hb);replace ξ :=sBk ξ hb;replace ρ:=sBk ρ hb;replace a8:=sBk a8 hb;replace σ:=sBk σ hb;replace bb:=sBk bb hb;replace HB:=sHb hb;(try clear hb);(try clear a4);(try clear hk);(try clear hi);(try clear ai);(try clear aj);obtain⟨j7,lb,kh⟩:=Kd.Q7 ie.out;subst kh;obtain⟨mr,ms,mt,mu⟩:=qD2 σ.out;obtain⟨k5,k8,k9⟩:=Kd.Yn ig.out;subst k9))
         go_roundg k2
         case measure=>have:=af.out;have:=b7.out;omega
         case rel=>exact⟨(wrap64 (ac+1)),(eo),(gp),(.slice j7 eo.length lb),(.slice k5 gp.length k8),qR,H',⟨by have:=af.out;have:=b7.out;omega⟩,⟨by(with_reducible repeat first|apply Kd.Q3|apply Kd.Q2|apply Kd.Q8);exact Kd.Q5 (Kd.fV (Kd.fV (Kd.Q5 ν.out (fun k_ hk=>(⟨hk,hk.1.1.2.2.2.2⟩:_∧k_≠aa))))) (fun _ hk=>⟨hk.1.1.1.1,⟨hk.1.1.1.2.1,⟨hk.1.1.1.2.2.1,⟨hk.1.1.1.2.2.2.1,hk.1.1.1.2.2.2.2⟩⟩⟩⟩)⟩,⟨by(with_reducible repeat first|apply Kd.Q3|apply Kd.Q2|apply Kd.Q8);exact Kd.Q5 (Kd.fV (Kd.fV (Kd.Q5 a0.out (fun k_ hk=>(⟨hk,hk.1.1.2.2.2.2⟩:_∧k_≠aa))))) (fun _ hk=>⟨hk.1.1.1.1,⟨hk.1.1.1.2.1,⟨hk.1.1.1.2.2.1,⟨hk.1.1.1.2.2.2.1,hk.1.1.1.2.2.2.2⟩⟩⟩⟩)⟩,⟨Kd.Q5 (Kd.R_V (by(with_reducible repeat first|apply Kd.Qs|apply Kd.Qr|apply Kd.Qu);exact Kd.Qv (ok':=fun k_=>w.heap.size≤k_∧k_≠ag∧k_≠ak∧k_≠ae∧k_≠aa) (Kd.Qx (Kd.Qx (Kd.Q4 (Kd.Q4 (Kd.Q4 (Kd.Q4 (Kd.Q4 ie.out ξ.out (by decide)) ρ.out (by decide)) a8.out (by decide)) σ.out (by decide)) σ.out (by decide)) (fun _ hk=>hk.2) _) (fun _ hk=>hk.2) _) (fun _ hk=>⟨hk.1.1.1.1.1.1.1,⟨hk.1.1.1.1.2,⟨hk.1.1.1.2,⟨hk.1.1.2,hk.1.2⟩⟩⟩⟩))) (fun k_ hk=>by first|exact⟨(.inr (hk.1)),hk.2⟩|exact(.inr (hk)))⟩,⟨by(with_reducible repeat first|apply Kd.Q3|apply Kd.Q2|apply Kd.Q8);exact Kd.Q5 (Kd.fV (Kd.fV (Kd.Q5 ig.out (fun k_ hk=>(⟨hk,hk.2.2.2.2.2.1⟩:_∧k_≠aa))))) (fun _ hk=>⟨hk.1.1,⟨hk.1.2.2.1,⟨hk.1.2.2.2.1,⟨hk.1.2.2.2.2.1,hk.1.2.2.2.2.2.1⟩⟩⟩⟩)⟩,⟨bka ξ⟩,⟨bka ρ⟩,⟨bka a8⟩,⟨by(with_reducible repeat first|refine Qi ?_ _|refine Qd ?_|refine Qh ?_ _);refine Qo (cs:=#[.slice j7 eo.length lb,.slice et ap.length dk]) ?_ 1 _ rfl;(with_reducible repeat first|refine Qi ?_ _|refine Qd ?_|refine Qh ?_ _);refine Qo (cs:=#[.slice (some de) ζ.length ep,.slice et ap.length dk]) ?_ 0 _ rfl;(with_reducible repeat first|refine Qi ?_ _|refine Qd ?_|refine Qh ?_ _);exact σ.out⟩,⟨bel⟩⟩
        ·rw[if_neg fb] at H
         have c70b0:=decide_eq_false fb
         clear fb
         have H':=aK H
         clear H
         have oi:=bo.out
         have oj:=bc.out
         have ke:=ay.out
         have kn:=ax.out
         have ko:=bv.out
         have lv:=bs.out
         obtain⟨fk,fl,h7,h8⟩:=qD2 σ.out
         obtain⟨h6,ef,i3⟩:=Kd.Yn X.out
         subst i3
         have df:0≤(ac:Int):=of_decide_eq_true (by assumption)
         have dj:ac<(ζ.length:Int):=of_decide_eq_true (by assumption)
         obtain⟨de,gx,im,io,ip⟩:=Z4 (Kd.Z9 X.out).2.2 ac df dj
         cases gx
         replace df:=eq_true df
         replace dj:=eq_true dj
         go_wp2_with (first|((with_reducible refine Qe (N:=14) rfl ?_);refine qE 14 #[nI 0,nI 0,nI 0] 36 ?_;intro an hg nv hbox hb;have bb:=aK hbox;have ja:=sGe hg;have ji:=sGe hg;have cx:=sNl ξ hg;have cy:=sNg ξ hg;have cz:=sNl ρ hg;have d8:=sNg ρ hg;have d9:=sNl a8 hg;have db:=sNg a8 hg;have dc:=sNl σ hg;have dd:=sNg σ hg;replace ν :=aK (Kd.Zh (Kd.Zf ν.out an (Nat.le_of_eq hg.symm)) hb);replace a0:=aK (Kd.Zh (Kd.Zf a0.out an (Nat.le_of_eq hg.symm)) hb);replace X:=aK (Kd.Zh (Kd.Zf X.out an (Nat.le_of_eq hg.symm)) hb);replace ι :=aK (Kd.Zh (Kd.Zf ι.out an (Nat.le_of_eq hg.symm)) hb);replace ξ :=sBk ξ hb;replace ρ:=sBk ρ hb;replace a8:=sBk a8 hb;replace σ:=sBk σ hb;replace HB:=sHb hb;clear hb hbox hg;have kl:=cy.out;have km:=cx.out;have mz:=d8.out;have n1:=cz.out;have lf:=db.out;have lg:=d9.out;have ib:=dd.out;have jc:=dc.out;obtain⟨ka,kb,kj,kk,ks,kt⟩:=qD3 bb.out))
         go_roundg k2
         case measure=>have:=af.out;have:=b7.out;omega
         case rel=>exact⟨(wrap64 (ac+1)),(ζ),(ap),(.slice (some de) ζ.length ef),(av),qR,H',⟨by have:=af.out;have:=b7.out;omega⟩,⟨by(with_reducible repeat first|apply Kd.Q3|apply Kd.Q2|apply Kd.Q8);exact Kd.Q5 (Kd.fV (Kd.fV (Kd.fV (Kd.Q5 ν.out (fun k_ hk=>(⟨hk,hk.2⟩:_∧k_≠an)))))) (fun _ hk=>⟨hk.1.1.1,⟨hk.1.1.2.1,⟨hk.1.1.2.2.1,⟨hk.1.1.2.2.2.1,hk.1.1.2.2.2.2⟩⟩⟩⟩)⟩,⟨by(with_reducible repeat first|apply Kd.Q3|apply Kd.Q2|apply Kd.Q8);exact Kd.Q5 (Kd.fV (Kd.fV (Kd.fV (Kd.Q5 a0.out (fun k_ hk=>(⟨hk,hk.2⟩:_∧k_≠an)))))) (fun _ hk=>⟨hk.1.1.1,⟨hk.1.1.2.1,⟨hk.1.1.2.2.1,⟨hk.1.1.2.2.2.1,hk.1.1.2.2.2.2⟩⟩⟩⟩)⟩,⟨by(with_reducible repeat first|apply Kd.Q3|apply Kd.Q2|apply Kd.Q8);exact Kd.Q5 (Kd.fV (Kd.fV (Kd.fV (Kd.Q5 X.out (fun k_ hk=>(⟨hk,hk.2⟩:_∧k_≠an)))))) (fun _ hk=>⟨hk.1.1.1,⟨hk.1.1.2.1,⟨hk.1.1.2.2.1,⟨hk.1.1.2.2.2.1,hk.1.1.2.2.2.2⟩⟩⟩⟩)⟩,⟨by(with_reducible repeat first|apply Kd.Q3|apply Kd.Q2|apply Kd.Q8);exact Kd.Q5 (Kd.fV (Kd.fV (Kd.fV (Kd.Q5 ι.out (fun k_ hk=>(⟨hk,hk.2⟩:_∧k_≠an)))))) (fun _ hk=>⟨hk.1.1.1,⟨hk.1.1.2.1,⟨hk.1.1.2.2.1,⟨hk.1.1.2.2.2.1,hk.1.1.2.2.2.2⟩⟩⟩⟩)⟩,⟨bka ξ⟩,⟨bka ρ⟩,⟨bka a8⟩,⟨bka σ⟩,⟨bel⟩⟩
       ·rw[if_neg i6] at H
        exact absurd H (by simp)
      ·rw[if_neg ey] at H
       have c68b0:=decide_eq_false ey
       clear ey
       simp only[Option.some.injEq,Prod.mk.injEq] at H
       obtain⟨rfl,rfl⟩:=H
       have n3:=bo.out
       have nb:=bc.out
       have jd:=ay.out
       have je:=ax.out
       have kw:=bv.out
       have l9:=bs.out
       obtain⟨i7,i9,j3,jf⟩:=qD2 σ.out
       obtain⟨ih,il,jr⟩:=Kd.Yn X.out
       subst jr
       have nc:=du.out
       have nf:=dr.out
       have ng:=b5.out
       have nh:=b4.out
       obtain⟨jg,jh,jj,k6⟩:=qD2 a8.out
       obtain⟨e4,eb,he⟩:=Kd.Yn ι.out
       subst he
       go_wp2
       refine bodyPost_ret (results_cell_row rfl _ _ ae 50 #[.slice ih ζ.length il,.slice e4 ap.length eb] (0,0) _ rfl (by refine Qo (cs:=#[.slice ih ζ.length il,.slice none 0 0]) ?_ 1 _ rfl;refine Qo (cs:=#[.slice none 0 0,.slice none 0 0]) ?_ 0 _ rfl;exact a8.out) Try.underlying50 rfl kr) rfl ?_
       exact⟨_,_,by first|rfl|(simp[Ql,Qk] <;> rfl)|(simp[*,Ql,Qk] <;> rfl),by(with_reducible repeat first|apply Kd.Q3|apply Kd.Q2|apply Kd.Q8);exact Kd.Q5 (Kd.fV (Kd.fV (Kd.Q5 X.out (fun k_ hk=>(⟨hk,hk.2.2.2.1⟩:_∧k_≠ae))))) (fun _ hk=>hk.1.1),by(with_reducible repeat first|apply Kd.Q3|apply Kd.Q2|apply Kd.Q8);exact Kd.Q5 (Kd.fV (Kd.fV (Kd.Q5 ι.out (fun k_ hk=>(⟨hk,hk.2.2.2.1⟩:_∧k_≠ae))))) (fun _ hk=>hk.1.1),bel⟩
end Go.Proofs.Ytmfffemidlhcpaa.C
