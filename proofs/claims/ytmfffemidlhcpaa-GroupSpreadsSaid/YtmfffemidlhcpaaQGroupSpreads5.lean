/- What this law's functions come to, walked; what that is, in plain Lean. No conditions of its own. -/
import Derived.Test.YtmfffemidlhcpaaQGroupSpreads4
set_option linter.unusedSimpArgs false
set_option linter.unusedVariables false
set_option maxHeartbeats 8000000
set_option maxRecDepth 100000
namespace Go.Proofs.Ytmfffemidlhcpaa.C
open Go.RowKit Go.Proofs.YtmfffemidlhcpaaW.PrintWords Go.Proofs.YtmfffemidlhcpaaW.PrintLast Go.Proofs.YtmfffemidlhcpaaW.PrintMore
attribute [local go_sem] Z2 Z0 Xb Xa Zt Zs Z1 Zz
def newelref19_Inside.f (B:Int) (J:Int) (X:Int) (ζ :Int):Option (Bool):=if X≥0 then (if X<J then (if ζ ≥ 0 then (some (decide (ζ < B))) else (some false)) else (some false)) else (some false)
theorem newelref19_Inside.calls (B:Int) (J:Int) (X:Int) (ζ :Int) (r:Bool) (w:World) (h:newelref19_Inside.f B J X ζ = some r):
 Calls Try.prog 61 #[.agg #[nI B,nI J],.agg #[nI X,nI ζ]] w fun e w'=>e = .returned (.bool r)∧Below w.heap.size w w':=by
 have dw:=Try.underlying59
 have d8:=Try.underlying86
 have HB:=aK (Below.refl w.heap.size w)
 have H:(if X≥0 then (if X<J then (if ζ ≥ 0 then (some (decide (ζ < B))) else (some false)) else (some false)) else (some false))=some r:=h
 clear h
 by_cases c3:X≥0
 ·rw[if_pos c3] at H
  have c3b0:decide (0≤X)=true:=decide_eq_true c3
  clear c3
  by_cases c4:X<J
  ·rw[if_pos c4] at H
   have c4b0:=decide_eq_true c4
   clear c4
   by_cases c5: ζ ≥ 0
   ·rw[if_pos c5] at H
    have c5b0:decide (0 ≤ ζ)=true:=decide_eq_true c5
    clear c5
    obtain rfl:=qJ H
    go_enter Try.func61,Try.ntmps61
    go_wp2_with (first|((with_reducible refine Qe (N:=2) rfl ?_);refine qE 2 #[nI B,nI J] 59 ?_;intro δ hg w6 hbox hb;have O:=aK hbox;have ε :=sGe hg;have η :=sGe hg;replace HB:=sHb hb;clear hb hbox hg)|((with_reducible refine Qe (N:=3) rfl ?_);refine qE 3 #[nI X,nI ζ] 86 ?_;intro θ hg w7 hbox hb;have γ:=aK hbox;have ι :=sGe hg;have κ :=sGe hg;have Y:=sNl O hg;have Z:=sNg O hg;replace O:=sBk O hb;replace HB:=sHb hb;clear hb hbox hg;have ft:=Z.out;have fu:=Y.out;obtain⟨b6,bi,bz,ch⟩:=qD2 γ.out;obtain⟨bg,bh,bk,bm⟩:=qD2 O.out))
    go_ret
    exact⟨rfl,HB.out⟩
   ·rw[if_neg c5] at H
    have c5b0:decide (0 ≤ ζ)=false:=decide_eq_false c5
    clear c5
    obtain rfl:=qJ H
    go_enter Try.func61,Try.ntmps61
    go_wp2_with (first|((with_reducible refine Qe (N:=2) rfl ?_);refine qE 2 #[nI B,nI J] 59 ?_;intro δ hg d1 hbox hb;have O:=aK hbox;have ε :=sGe hg;have η :=sGe hg;replace HB:=sHb hb;clear hb hbox hg)|((with_reducible refine Qe (N:=3) rfl ?_);refine qE 3 #[nI X,nI ζ] 86 ?_;intro θ hg dn hbox hb;have γ:=aK hbox;have ι :=sGe hg;have κ :=sGe hg;have Y:=sNl O hg;have Z:=sNg O hg;replace O:=sBk O hb;replace HB:=sHb hb;clear hb hbox hg;have ga:=Z.out;have gb:=Y.out;obtain⟨cb,cd,ce,cf⟩:=qD2 γ.out;obtain⟨bf,bp,bu,bw⟩:=qD2 O.out))
    go_ret
    exact⟨rfl,HB.out⟩
  ·rw[if_neg c4] at H
   have c4b0:=decide_eq_false c4
   clear c4
   obtain rfl:=qJ H
   go_enter Try.func61,Try.ntmps61
   go_wp2_with (first|((with_reducible refine Qe (N:=2) rfl ?_);refine qE 2 #[nI B,nI J] 59 ?_;intro δ hg cr hbox hb;have O:=aK hbox;have ε :=sGe hg;have η :=sGe hg;replace HB:=sHb hb;clear hb hbox hg)|((with_reducible refine Qe (N:=3) rfl ?_);refine qE 3 #[nI X,nI ζ] 86 ?_;intro θ hg cv hbox hb;have γ:=aK hbox;have ι :=sGe hg;have κ :=sGe hg;have Y:=sNl O hg;have Z:=sNg O hg;replace O:=sBk O hb;replace HB:=sHb hb;clear hb hbox hg;have db:=Z.out;have dc:=Y.out;obtain⟨ag,ai,aj,am⟩:=qD2 γ.out;obtain⟨a7,a9,aa,an⟩:=qD2 O.out))
   go_ret
   exact⟨rfl,HB.out⟩
 ·rw[if_neg c3] at H
  have c3b0:decide (0≤X)=false:=decide_eq_false c3
  clear c3
  obtain rfl:=qJ H
  go_enter Try.func61,Try.ntmps61
  go_wp2_with (first|((with_reducible refine Qe (N:=2) rfl ?_);refine qE 2 #[nI B,nI J] 59 ?_;intro δ hg bo hbox hb;have O:=aK hbox;have ε :=sGe hg;have η :=sGe hg;replace HB:=sHb hb;clear hb hbox hg)|((with_reducible refine Qe (N:=3) rfl ?_);refine qE 3 #[nI X,nI ζ] 86 ?_;intro θ hg bj hbox hb;have γ:=aK hbox;have ι :=sGe hg;have κ :=sGe hg;have Y:=sNl O hg;have Z:=sNg O hg;replace O:=sBk O hb;replace HB:=sHb hb;clear hb hbox hg;have d2:=Z.out;have dx:=Y.out;obtain⟨au,av,aw,ax⟩:=qD2 γ.out))
  go_ret
  exact⟨rfl,HB.out⟩
def newelref19_before.f (B:Int) (J:Int) (X:Int) (ζ :Int):Option (Bool):=if B<X then (some true) else (if B=X then (some (decide (J < ζ))) else (some false))
theorem newelref19_before.calls (B:Int) (J:Int) (X:Int) (ζ :Int) (r:Bool) (w:World) (h:newelref19_before.f B J X ζ = some r):
 Calls Try.prog 62 #[.agg #[nI B,nI J],.agg #[nI X,nI ζ]] w fun e w'=>e = .returned (.bool r)∧Below w.heap.size w w':=by
 have d8:=Try.underlying86
 have HB:=aK (Below.refl w.heap.size w)
 have H:(if B<X then (some true) else (if B=X then (some (decide (J < ζ))) else (some false)))=some r:=h
 clear h
 by_cases c3:B<X
 ·rw[if_pos c3] at H
  have c3b0:=decide_eq_true c3
  clear c3
  obtain rfl:=qJ H
  go_enter Try.func62,Try.ntmps62
  go_wp2_with (first|((with_reducible refine Qe (N:=2) rfl ?_);refine qE 2 #[nI B,nI J] 86 ?_;intro δ hg w4 hbox hb;have O:=aK hbox;have ε :=sGe hg;have η :=sGe hg;replace HB:=sHb hb;clear hb hbox hg)|((with_reducible refine Qe (N:=3) rfl ?_);refine qE 3 #[nI X,nI ζ] 86 ?_;intro θ hg w5 hbox hb;have γ:=aK hbox;have ι :=sGe hg;have κ :=sGe hg;have Y:=sNl O hg;have Z:=sNg O hg;replace O:=sBk O hb;replace HB:=sHb hb;clear hb hbox hg;have dd:=Y.out;have dt:=Z.out;obtain⟨a0,av,aw,ax⟩:=qD2 O.out;obtain⟨ac,ae,ah,al⟩:=qD2 γ.out))
  go_ret
  exact⟨rfl,HB.out⟩
 ·rw[if_neg c3] at H
  have c3b0:=decide_eq_false c3
  clear c3
  by_cases c9:B=X
  ·rw[if_pos c9] at H
   have c9b0:(B==X)=true:=beq_iff_eq.mpr c9
   have c9b1:(B != X)=false:=bne_eq_false_iff_eq.mpr c9
   clear c9
   obtain rfl:=qJ H
   go_enter Try.func62,Try.ntmps62
   go_wp2_with (first|((with_reducible refine Qe (N:=2) rfl ?_);refine qE 2 #[nI B,nI J] 86 ?_;intro δ hg fj hbox hb;have O:=aK hbox;have ε :=sGe hg;have η :=sGe hg;replace HB:=sHb hb;clear hb hbox hg)|((with_reducible refine Qe (N:=3) rfl ?_);refine qE 3 #[nI X,nI ζ] 86 ?_;intro θ hg d1 hbox hb;have γ:=aK hbox;have ι :=sGe hg;have κ :=sGe hg;have Y:=sNl O hg;have Z:=sNg O hg;replace O:=sBk O hb;replace HB:=sHb hb;clear hb hbox hg;have e0:=Y.out;have e3:=Z.out;obtain⟨ao,bc,ap,be⟩:=qD2 O.out;obtain⟨cb,cd,ce,cf⟩:=qD2 γ.out))
   go_ret
   exact⟨rfl,HB.out⟩
  ·rw[if_neg c9] at H
   have c9b0:(B==X)=false:=beq_eq_false_iff_ne.mpr c9
   have c9b1:(B != X)=true:=bne_iff_ne.mpr c9
   obtain rfl:=qJ H
   go_enter Try.func62,Try.ntmps62
   go_wp2_with (first|((with_reducible refine Qe (N:=2) rfl ?_);refine qE 2 #[nI B,nI J] 86 ?_;intro δ hg fb hbox hb;have O:=aK hbox;have ε :=sGe hg;have η :=sGe hg;replace HB:=sHb hb;clear hb hbox hg)|((with_reducible refine Qe (N:=3) rfl ?_);refine qE 3 #[nI X,nI ζ] 86 ?_;intro θ hg cr hbox hb;have γ:=aK hbox;have ι :=sGe hg;have κ :=sGe hg;have Y:=sNl O hg;have Z:=sNg O hg;replace O:=sBk O hb;replace HB:=sHb hb;clear hb hbox hg;have et:=Y.out;have gk:=Z.out;obtain⟨bl,bz,ca,ch⟩:=qD2 O.out;obtain⟨ag,ai,aj,am⟩:=qD2 γ.out))
   go_ret
   exact⟨rfl,HB.out⟩
mutual
def newelref19_May.l0:Nat→Int→Int→Int→List (S36)→List (S86)→Option (Bool)
 |0,_,_,_,_,_=>none
 |k+1,O,X,Z,B,J=>if O<(B.length:Int) then (if 0≤O then ((newelref19_Hall.f k X Z ((Qb B O).f0) ((Qb B O).f1) ((Qb B O).f2)).bind fun d1=>(if d1=true then (if O>0 then (if 0≤(wrap64 (O-1)) then (if (wrap64 (O-1))<(B.length:Int) then ((newelref19_ahead.f ((Qb B (wrap64 (O-1))).f0) ((Qb B (wrap64 (O-1))).f1) ((Qb B (wrap64 (O-1))).f2) ((Qb B O).f0) ((Qb B O).f1) ((Qb B O).f2)).bind fun cj=>(if cj=true then (newelref19_May.l0 k (wrap64 (O+1)) X Z B J) else (some false))) else (none)) else (none)) else (newelref19_May.l0 k (wrap64 (O+1)) X Z B J)) else (some false))) else (none)) else (newelref19_May.l1 k 0 X Z B J)
def newelref19_May.l1:Nat→Int→Int→Int→List (S36)→List (S86)→Option (Bool)
 |0,_,_,_,_,_=>none
 |k+1,Y,X,Z,B,J=>if Y<(J.length:Int) then (if 0≤Y then ((newelref19_Inside.f X Z ((Qp J Y).f0) ((Qp J Y).f1)).bind fun d7=>(if d7=true then (if Y>0 then (if 0≤(wrap64 (Y-1)) then (if (wrap64 (Y-1))<(J.length:Int) then ((newelref19_before.f ((Qp J (wrap64 (Y-1))).f0) ((Qp J (wrap64 (Y-1))).f1) ((Qp J Y).f0) ((Qp J Y).f1)).bind fun ck=>(if ck=true then (newelref19_May.l1 k (wrap64 (Y+1)) X Z B J) else (some false))) else (none)) else (none)) else (newelref19_May.l1 k (wrap64 (Y+1)) X Z B J)) else (some false))) else (none)) else (some true)
end
def newelref19_May.f (k:Nat) (B:Int) (J:Int) (O:List (S36)) (X:List (S86)):Option (Bool):=(newelref19_House.f B J).bind fun cn=>(if cn=true then (newelref19_May.l0 k 0 B J O X) else (some false))
def newelref19_May.T7:Bool×List (List Nat×List Nat):=(true,[([],[]),([],[]),([1],[1]),([],[]),([2,3],[2,3]),([4],[4]),([0,5],[0,5]),([6,6,0,1,2,3,4,5,6],[6])])
def newelref19_May.B7:List Nat:=[0,0,2,0,14,30,63,127]
theorem newelref19_May.Wc:rtab .any (opsOf Try.f39 7)=newelref19_May.T7:=by kernel_rfl
theorem newelref19_May.G5:Zq newelref19_May.T7.2 newelref19_May.B7=true:=by kernel_rfl
def newelref19_May.T11:Bool×List (List Nat×List Nat):=(true,[([],[]),([0],[0]),([],[]),([2],[2]),([1,3],[1,3]),([4],[4]),([],[]),([6],[6]),([],[]),([7,8],[7,8]),([9],[9]),([5,10],[5,10]),([11,11,0,1,2,3,4,5,6,7,8,9,10,11],[11])])
def newelref19_May.B11:List Nat:=[0,1,0,4,15,31,0,64,0,448,960,2047,4095]
theorem newelref19_May.Co:rtab .any (opsOf Try.f39 11)=newelref19_May.T11:=by kernel_rfl
theorem newelref19_May.E2:Zq newelref19_May.T11.2 newelref19_May.B11=true:=by kernel_rfl
def newelref19_May.T17:Bool×List (List Nat×List Nat):=(true,[([],[]),([],[]),([1],[1]),([],[]),([2,3],[2,3]),([4],[4]),([0,5],[0,5]),([6,6,0,1,2,3,4,5,6],[6])])
def newelref19_May.B17:List Nat:=[0,0,2,0,14,30,63,127]
theorem newelref19_May.Ma:rtab .any (opsOf Try.f39 17)=newelref19_May.T17:=by kernel_rfl
theorem newelref19_May.Uz:Zq newelref19_May.T17.2 newelref19_May.B17=true:=by kernel_rfl
def newelref19_May.T21:Bool×List (List Nat×List Nat):=(true,[([],[]),([0],[0]),([],[]),([2],[2]),([1,3],[1,3]),([4],[4]),([],[]),([6],[6]),([],[]),([7,8],[7,8]),([9],[9]),([5,10],[5,10]),([11,11,0,1,2,3,4,5,6,7,8,9,10,11],[11])])
def newelref19_May.B21:List Nat:=[0,1,0,4,15,31,0,64,0,448,960,2047,4095]
theorem newelref19_May.Cn:rtab .any (opsOf Try.f39 21)=newelref19_May.T21:=by kernel_rfl
theorem newelref19_May.E0:Zq newelref19_May.T21.2 newelref19_May.B21=true:=by kernel_rfl
theorem newelref19_May.calls (k:Nat) (B:Int) (J:Int) (ι :Option Addr) (ζ :Nat) (O:List (S36)) (κ :Option Addr) (η :Nat) (X:List (S86)) (r:Bool) (w:World) (b4:Kd.C k36 w ι O.length O) (b9:O.length ≤ ζ) (ba:Kd.C k86 w κ X.length X) (bb:X.length ≤ η) (h:newelref19_May.f k B J O X=some r):
 Calls Try.prog 39 #[.agg #[nI B,nI J],.agg #[.slice ι O.length ζ,.slice κ X.length η]] w fun e w'=>e = .returned (.bool r)∧Below w.heap.size w w':=by
 have dw:=Try.underlying59
 have d0:=Try.underlying50
 have cg:=Try.underlying36
 have d8:=Try.underlying86
 have τ :=aK b4
 have bg:=aK b9
 clear b4 b9
 have a0:=aK ba
 have bh:=aK bb
 clear ba bb
 have HB:=aK (Below.refl w.heap.size w)
 have H:((newelref19_House.f B J).bind fun cn=>(if cn=true then (newelref19_May.l0 k 0 B J O X) else (some false)))=some r:=h
 clear h
 obtain⟨cn,A3,H⟩:=qQ H
 by_cases c4:cn=true
 ·subst c4
  rw[if_pos rfl] at H
  have H':=aK H
  clear H
  go_enter Try.func39,Try.ntmps39
  go_wp2_with (first|((with_reducible refine Qe (N:=2) rfl ?_);refine qE 2 #[nI B,nI J] 59 ?_;intro a8 hg w5 hbox hb;have γ:=aK hbox;have df:=sGe hg;have dj:=sGe hg;replace HB:=sHb hb;clear hb hbox hg)|((with_reducible refine Qe (N:=3) rfl ?_);refine qE 3 #[.slice ι O.length ζ,.slice κ X.length η] 50 ?_;intro ν hg w6 hbox hb;have Z:=aK hbox;have dx:=sGe hg;have dy:=sGe hg;have a3:=sNl γ hg;have a6:=sNg γ hg;replace γ:=sBk γ hb;replace HB:=sHb hb;clear hb hbox hg;have da:=a3.out;have dk:=a6.out;obtain⟨ac,ae,ah,al⟩:=qD2 γ.out)|((with_reducible refine Qf (f:=59) rfl ?_);refine Q0 (some 13) rfl rfl Try.func59 kr rfl #[.agg #[nI B,nI J]] rfl qM ?_;(with_reducible refine(newelref19_House.calls B J true _ A3.out).mono ?_);rintro e w9 ⟨rfl,hb⟩;refine⟨_,rfl, ?_⟩;replace γ:=sBk γ hb;replace Z:=sBk Z hb;replace HB:=sHb hb;(try clear hb);(try clear a4);(try clear hk);(try clear hi)))
  go_loopg [6] k (fun kq v6 w'=>∃ (Y:Int),v6=nI Y∧Aside0 (newelref19_May.l0 kq Y B J O X=some r)∧Aside0 (kq≤k)∧Aside0 (w'.heap[a8]?=some (.cells #[nI B,nI J] 59 (0,0)))∧Aside0 (w'.heap[ν]?=some (.cells #[(.slice ι O.length ζ),(.slice κ X.length η)] 50 (0,0)))∧Aside0 (Below w.heap.size w w'))
  case atStart=>exact⟨(0),rfl,H',⟨Nat.le_refl _⟩,γ,Z,HB⟩
  case round=>
   clear H'
   try clear c4
   try clear ac
   try clear ae
   try clear ah
   try clear al
   obtain⟨Y,rfl,HA,af,γ,Z,HB⟩:=hrel
   cases gk with
   |zero=>exact absurd HA.out (by simp[newelref19_May.l0])
   |succ k1=>
    have H:=HA.out
    clear HA
    simp only[newelref19_May.l0] at H
    by_cases c10:Y<(O.length:Int)
    ·rw[if_pos c10] at H
     have c10b0:=decide_eq_true c10
     clear c10
     by_cases a5:0≤Y
     ·rw[if_pos a5] at H
      have c11b0:=decide_eq_true a5
      clear a5
      obtain⟨d1,b8,H⟩:=qQ H
      by_cases a2:d1=true
      ·subst a2
       rw[if_pos rfl] at H
       by_cases σ:Y>0
       ·rw[if_pos σ] at H
        have c14b0:decide (0<Y)=true:=decide_eq_true σ
        clear σ
        obtain⟨ε,a7⟩:∃ j_:Int,(wrap64 (Y-1))=j_:=⟨_,rfl⟩
        replace H:(if 0≤(ε) then (if (ε)<(O.length:Int) then ((newelref19_ahead.f ((Qb O (ε)).f0) ((Qb O (ε)).f1) ((Qb O (ε)).f2) ((Qb O Y).f0) ((Qb O Y).f1) ((Qb O Y).f2)).bind fun cj=>(if cj=true then (newelref19_May.l0 k1 (wrap64 (Y+1)) B J O X) else (some false))) else (none)) else (none))=some r:=by first|(rw[a7] at H;exact H)|(simp only[a7] at H ⊢;exact H)
        (try rw[a7] at b8)
        have hji15w:(IntKind.i64.wrap (Y-1)) = ε :=(Zy _).trans a7
        by_cases ab:0≤(ε)
        ·rw[if_pos ab] at H
         have c16b0:=decide_eq_true ab
         clear ab
         by_cases ψ :(ε)<(O.length:Int)
         ·rw[if_pos ψ] at H
          have c17b0:=decide_eq_true ψ
          clear ψ
          obtain⟨cj,bd,H⟩:=qQ H
          by_cases b3:cj=true
          ·subst b3
           rw[if_pos rfl] at H
           have H':=aK H
           clear H
           have eu:=a6.out
           have ev:=a3.out
           obtain⟨cq,cy,d2,db⟩:=qD2 Z.out
           try go_wp2
           replace γ:=aK (Qd γ.out)
           replace Z:=aK (Qd Z.out)
           replace HB:=aK (Qj HB.out)
           have ay:0≤(Y:Int):=of_decide_eq_true (by assumption)
           have az:Y<(O.length:Int):=of_decide_eq_true (by assumption)
           obtain⟨θ,bv,ξ,ρ,φ⟩:=Z4 τ.out Y ay az
           have a9:= φ
           have aa:=ρ
           have ag:= ξ
           cases bv
           replace ξ :=sCl HB ξ
           replace ρ:=sCl HB ρ
           replace φ :=sCl HB φ
           replace ay:=eq_true ay
           replace az:=eq_true az
           refine Zg (n:=8) (S:=fun w'=>cI w' a8 0 B∧cI w' a8 1 J∧w'.cell? ⟨ν,0,none⟩=some (.slice (some θ) O.length ζ)∧w'.cell? ⟨ν,1,none⟩=some (.slice κ X.length η)∧w'.cell? (θ.add ((Y).toNat * 3))=some (nI ((Qb O Y).f0))∧w'.cell? ⟨(θ.add ((Y).toNat * 3)).block,(θ.add ((Y).toNat * 3)).off+1,none⟩=some (nI ((Qb O Y).f1))∧w'.cell? ⟨(θ.add ((Y).toNat * 3)).block,(θ.add ((Y).toNat * 3)).off+2,none⟩=some (nI ((Qb O Y).f2))) (ds:=[]) #[false,false,false,false,false,false,false,false] kr rfl rfl ⟨(Qa γ.out 0).trans rfl,(Qa γ.out 1).trans rfl,(Qa Z.out 0).trans rfl,(Qa Z.out 1).trans rfl,(sCl HB ag),(sCl HB aa),(sCl HB a9)⟩ (fun hHeld=>?_);refine Zb newelref19_May.Wc newelref19_May.G5 (fun HT_ HW_=>?_)
           generalize wr.drew=bj at γ Z HB ξ ρ φ hHeld ⊢
           refine qP 1 (some 24) (bN 8 2) HT_ ?_
           refine qP 3 (some 26) (bN 8 10) HT_ ?_
           refine qT 0 (some 23) (bN 8 11) HT_ HW_ hHeld ?_
           refine qT 2 (some 25) (bN 8 15) HT_ HW_ hHeld ?_
           refine qP 4 (some 27) (bN 8 31) HT_ ?_
           refine qT 5 (some 28) (bN 8 63) HT_ HW_ hHeld ?_
           refine qK 6 (some 29) (bN 8 127) HT_ fun K hK=>?_
           refine Zd Try.func18 kr rfl #[.agg #[nI B,nI J],.agg #[nI ((Qb O Y).f0),nI ((Qb O Y).f1),nI ((Qb O Y).f2)]] (by rfl) rfl rfl qM ?_
           with_reducible refine(newelref19_Hall.calls k1 B J ((Qb O Y).f0) ((Qb O Y).f1) ((Qb O Y).f2) true _ b8.out).mono ?_
           rintro e bi ⟨rfl,hb⟩
           refine⟨_,rfl, ?_⟩
           replace γ:=sBk γ hb
           replace Z:=sBk Z hb
           replace HB:=sHb hb
           (try clear hb)
           (try clear a4)
           (try clear hk)
           (try clear hi)
           refine hK.out _ _ ⟨qc γ,qc γ,qc Z,qc Z,(sCl HB ag),(sCl HB aa),(sCl HB a9)⟩ (fun hHeld=>?_)
           clear hK K
           refine qN (some 29) ?_
           refine qP 7 (some 7) (bN 8 255) HT_ ?_
           refine Zl (Ze HT_.out kr) ?_
           try go_wp2
           replace γ:=aK (Qd γ.out)
           replace Z:=aK (Qd Z.out)
           replace HB:=aK (Qj HB.out)
           have bw:0≤((ε):Int):=of_decide_eq_true (by assumption)
           have bz:(ε)<(O.length:Int):=of_decide_eq_true (by assumption)
           obtain⟨cp,d9,ak,am,an⟩:=Z4 τ.out (ε) bw bz
           have b2:=an
           have b5:=am
           have be:=ak
           obtain rfl: θ = cp:=(by injection d9)
           replace ak:=sCl HB ak
           replace am:=sCl HB am
           replace an:=sCl HB an
           replace bw:=eq_true bw
           replace bz:=eq_true bz
           have ca:0≤(Y:Int):=of_decide_eq_true (by assumption)
           have cb:Y<(O.length:Int):=of_decide_eq_true (by assumption)
           obtain⟨cr,dc,ao,ap,ar⟩:=Z4 τ.out Y ca cb
           have bk:=ar
           have bl:=ap
           have bm:=ao
           obtain rfl: θ = cr:=(by injection dc)
           replace ao:=sCl HB ao
           replace ap:=sCl HB ap
           replace ar:=sCl HB ar
           replace ca:=eq_true ca
           replace cb:=eq_true cb
           refine Zg (n:=13) (S:=fun w'=>w'.cell? ⟨ν,0,none⟩=some (.slice (some θ) O.length ζ)∧w'.cell? ⟨ν,1,none⟩=some (.slice κ X.length η)∧w'.cell? (θ.add (((ε)).toNat * 3))=some (nI ((Qb O (ε)).f0))∧w'.cell? ⟨(θ.add (((ε)).toNat * 3)).block,(θ.add (((ε)).toNat * 3)).off+1,none⟩=some (nI ((Qb O (ε)).f1))∧w'.cell? ⟨(θ.add (((ε)).toNat * 3)).block,(θ.add (((ε)).toNat * 3)).off+2,none⟩=some (nI ((Qb O (ε)).f2))∧w'.cell? (θ.add ((Y).toNat * 3))=some (nI ((Qb O Y).f0))∧w'.cell? ⟨(θ.add ((Y).toNat * 3)).block,(θ.add ((Y).toNat * 3)).off+1,none⟩=some (nI ((Qb O Y).f1))∧w'.cell? ⟨(θ.add ((Y).toNat * 3)).block,(θ.add ((Y).toNat * 3)).off+2,none⟩=some (nI ((Qb O Y).f2))) (ds:=[]) #[false,false,false,false,false,false,false,false,false,false,false,false,false] kr rfl rfl ⟨(Qa Z.out 0).trans rfl,(Qa Z.out 1).trans rfl,(sCl HB be),(sCl HB b5),(sCl HB b2),(sCl HB bm),(sCl HB bl),(sCl HB bk)⟩ (fun hHeld=>?_);refine Zb newelref19_May.Co newelref19_May.E2 (fun HT_ HW_=>?_)
           generalize bi.drew=cm at γ Z HB ak am an ao ap ar hHeld ⊢
           refine qP 0 (some 34) (bN 13 1) HT_ ?_
           refine qP 2 (some 36) (bN 13 5) HT_ ?_
           refine qP 3 (some 37) (bN 13 13) HT_ ?_
           refine qP 6 (some 40) (bN 13 77) HT_ ?_
           refine qP 8 (some 42) (bN 13 333) HT_ ?_
           refine qT 1 (some 35) (bN 13 335) HT_ HW_ hHeld ?_
           refine qP 4 (some 38) (bN 13 351) HT_ ?_
           refine qT 5 (some 39) (bN 13 383) HT_ HW_ hHeld ?_
           refine qT 7 (some 41) (bN 13 511) HT_ HW_ hHeld ?_
           refine qP 9 (some 43) (bN 13 1023) HT_ ?_
           refine qT 10 (some 44) (bN 13 2047) HT_ HW_ hHeld ?_
           refine qK 11 (some 45) (bN 13 4095) HT_ fun K hK=>?_
           refine Zd Try.func60 kr rfl #[.agg #[nI ((Qb O (ε)).f0),nI ((Qb O (ε)).f1),nI ((Qb O (ε)).f2)],.agg #[nI ((Qb O Y).f0),nI ((Qb O Y).f1),nI ((Qb O Y).f2)]] (by rfl) rfl rfl (by(try simp only[List.map_toArray,List.map_cons,List.map_nil]);first|done|(simp only[a7];rfl)|rfl|(simp only[List.length_drop,List.length_take];rfl)) ?_
           with_reducible refine(newelref19_ahead.calls ((Qb O (ε)).f0) ((Qb O (ε)).f1) ((Qb O (ε)).f2) ((Qb O Y).f0) ((Qb O Y).f1) ((Qb O Y).f2) true _ bd.out).mono ?_
           rintro e dt ⟨rfl,hb⟩
           refine⟨_,rfl, ?_⟩
           replace γ:=sBk γ hb
           replace Z:=sBk Z hb
           replace HB:=sHb hb
           (try clear hb)
           (try clear a4)
           (try clear hk)
           (try clear hi)
           refine hK.out _ _ ⟨qc Z,qc Z,(sCl HB be),(sCl HB b5),(sCl HB b2),(sCl HB bm),(sCl HB bl),(sCl HB bk)⟩ (fun hHeld=>?_)
           clear hK K
           refine qN (some 45) ?_
           refine qP 12 (some 8) (bN 13 8191) HT_ ?_
           refine Zl (Ze HT_.out kr) ?_
           try go_wp2
           go_roundg k1
           case measure=>have:=af.out;omega
           case rel=>exact⟨(wrap64 (Y+1)),rfl,H',⟨by have:=af.out;omega⟩,γ,Z,HB⟩
          ·replace b3:=Bool.eq_false_iff.mpr b3
           subst b3
           rw[if_neg nft] at H
           obtain rfl:=qJ H
           have cw:=a6.out
           have gq:=a3.out
           obtain⟨dl,dm,e0,e3⟩:=qD2 Z.out
           try go_wp2
           replace γ:=aK (Qd γ.out)
           replace Z:=aK (Qd Z.out)
           replace HB:=aK (Qj HB.out)
           have ay:0≤(Y:Int):=of_decide_eq_true (by assumption)
           have az:Y<(O.length:Int):=of_decide_eq_true (by assumption)
           obtain⟨θ,bv,ξ,ρ,φ⟩:=Z4 τ.out Y ay az
           have a9:= φ
           have aa:=ρ
           have ag:= ξ
           cases bv
           replace ξ :=sCl HB ξ
           replace ρ:=sCl HB ρ
           replace φ :=sCl HB φ
           replace ay:=eq_true ay
           replace az:=eq_true az
           refine Zg (n:=8) (S:=fun w'=>cI w' a8 0 B∧cI w' a8 1 J∧w'.cell? ⟨ν,0,none⟩=some (.slice (some θ) O.length ζ)∧w'.cell? ⟨ν,1,none⟩=some (.slice κ X.length η)∧w'.cell? (θ.add ((Y).toNat * 3))=some (nI ((Qb O Y).f0))∧w'.cell? ⟨(θ.add ((Y).toNat * 3)).block,(θ.add ((Y).toNat * 3)).off+1,none⟩=some (nI ((Qb O Y).f1))∧w'.cell? ⟨(θ.add ((Y).toNat * 3)).block,(θ.add ((Y).toNat * 3)).off+2,none⟩=some (nI ((Qb O Y).f2))) (ds:=[]) #[false,false,false,false,false,false,false,false] kr rfl rfl ⟨(Qa γ.out 0).trans rfl,(Qa γ.out 1).trans rfl,(Qa Z.out 0).trans rfl,(Qa Z.out 1).trans rfl,(sCl HB ag),(sCl HB aa),(sCl HB a9)⟩ (fun hHeld=>?_);refine Zb newelref19_May.Wc newelref19_May.G5 (fun HT_ HW_=>?_)
           generalize wr.drew=ed at γ Z HB ξ ρ φ hHeld ⊢
           refine qP 1 (some 24) (bN 8 2) HT_ ?_
           refine qP 3 (some 26) (bN 8 10) HT_ ?_
           refine qT 0 (some 23) (bN 8 11) HT_ HW_ hHeld ?_
           refine qT 2 (some 25) (bN 8 15) HT_ HW_ hHeld ?_
           refine qP 4 (some 27) (bN 8 31) HT_ ?_
           refine qT 5 (some 28) (bN 8 63) HT_ HW_ hHeld ?_
           refine qK 6 (some 29) (bN 8 127) HT_ fun K hK=>?_
           refine Zd Try.func18 kr rfl #[.agg #[nI B,nI J],.agg #[nI ((Qb O Y).f0),nI ((Qb O Y).f1),nI ((Qb O Y).f2)]] (by rfl) rfl rfl qM ?_
           with_reducible refine(newelref19_Hall.calls k1 B J ((Qb O Y).f0) ((Qb O Y).f1) ((Qb O Y).f2) true _ b8.out).mono ?_
           rintro e gi ⟨rfl,hb⟩
           refine⟨_,rfl, ?_⟩
           replace γ:=sBk γ hb
           replace Z:=sBk Z hb
           replace HB:=sHb hb
           (try clear hb)
           (try clear a4)
           (try clear hk)
           (try clear hi)
           refine hK.out _ _ ⟨qc γ,qc γ,qc Z,qc Z,(sCl HB ag),(sCl HB aa),(sCl HB a9)⟩ (fun hHeld=>?_)
           clear hK K
           refine qN (some 29) ?_
           refine qP 7 (some 7) (bN 8 255) HT_ ?_
           refine Zl (Ze HT_.out kr) ?_
           try go_wp2
           replace γ:=aK (Qd γ.out)
           replace Z:=aK (Qd Z.out)
           replace HB:=aK (Qj HB.out)
           have bw:0≤((ε):Int):=of_decide_eq_true (by assumption)
           have bz:(ε)<(O.length:Int):=of_decide_eq_true (by assumption)
           obtain⟨cp,d9,ak,am,an⟩:=Z4 τ.out (ε) bw bz
           have b2:=an
           have b5:=am
           have be:=ak
           obtain rfl: θ = cp:=(by injection d9)
           replace ak:=sCl HB ak
           replace am:=sCl HB am
           replace an:=sCl HB an
           replace bw:=eq_true bw
           replace bz:=eq_true bz
           have ca:0≤(Y:Int):=of_decide_eq_true (by assumption)
           have cb:Y<(O.length:Int):=of_decide_eq_true (by assumption)
           obtain⟨cr,dc,ao,ap,ar⟩:=Z4 τ.out Y ca cb
           have bk:=ar
           have bl:=ap
           have bm:=ao
           obtain rfl: θ = cr:=(by injection dc)
           replace ao:=sCl HB ao
           replace ap:=sCl HB ap
           replace ar:=sCl HB ar
           replace ca:=eq_true ca
           replace cb:=eq_true cb
           refine Zg (n:=13) (S:=fun w'=>w'.cell? ⟨ν,0,none⟩=some (.slice (some θ) O.length ζ)∧w'.cell? ⟨ν,1,none⟩=some (.slice κ X.length η)∧w'.cell? (θ.add (((ε)).toNat * 3))=some (nI ((Qb O (ε)).f0))∧w'.cell? ⟨(θ.add (((ε)).toNat * 3)).block,(θ.add (((ε)).toNat * 3)).off+1,none⟩=some (nI ((Qb O (ε)).f1))∧w'.cell? ⟨(θ.add (((ε)).toNat * 3)).block,(θ.add (((ε)).toNat * 3)).off+2,none⟩=some (nI ((Qb O (ε)).f2))∧w'.cell? (θ.add ((Y).toNat * 3))=some (nI ((Qb O Y).f0))∧w'.cell? ⟨(θ.add ((Y).toNat * 3)).block,(θ.add ((Y).toNat * 3)).off+1,none⟩=some (nI ((Qb O Y).f1))∧w'.cell? ⟨(θ.add ((Y).toNat * 3)).block,(θ.add ((Y).toNat * 3)).off+2,none⟩=some (nI ((Qb O Y).f2))) (ds:=[]) #[false,false,false,false,false,false,false,false,false,false,false,false,false] kr rfl rfl ⟨(Qa Z.out 0).trans rfl,(Qa Z.out 1).trans rfl,(sCl HB be),(sCl HB b5),(sCl HB b2),(sCl HB bm),(sCl HB bl),(sCl HB bk)⟩ (fun hHeld=>?_);refine Zb newelref19_May.Co newelref19_May.E2 (fun HT_ HW_=>?_)
           generalize gi.drew=eb at γ Z HB ak am an ao ap ar hHeld ⊢
           refine qP 0 (some 34) (bN 13 1) HT_ ?_
           refine qP 2 (some 36) (bN 13 5) HT_ ?_
           refine qP 3 (some 37) (bN 13 13) HT_ ?_
           refine qP 6 (some 40) (bN 13 77) HT_ ?_
           refine qP 8 (some 42) (bN 13 333) HT_ ?_
           refine qT 1 (some 35) (bN 13 335) HT_ HW_ hHeld ?_
           refine qP 4 (some 38) (bN 13 351) HT_ ?_
           refine qT 5 (some 39) (bN 13 383) HT_ HW_ hHeld ?_
           refine qT 7 (some 41) (bN 13 511) HT_ HW_ hHeld ?_
           refine qP 9 (some 43) (bN 13 1023) HT_ ?_
           refine qT 10 (some 44) (bN 13 2047) HT_ HW_ hHeld ?_
           refine qK 11 (some 45) (bN 13 4095) HT_ fun K hK=>?_
           refine Zd Try.func60 kr rfl #[.agg #[nI ((Qb O (ε)).f0),nI ((Qb O (ε)).f1),nI ((Qb O (ε)).f2)],.agg #[nI ((Qb O Y).f0),nI ((Qb O Y).f1),nI ((Qb O Y).f2)]] (by rfl) rfl rfl (by(try simp only[List.map_toArray,List.map_cons,List.map_nil]);first|done|(simp only[a7];rfl)|rfl|(simp only[List.length_drop,List.length_take];rfl)) ?_
           with_reducible refine(newelref19_ahead.calls ((Qb O (ε)).f0) ((Qb O (ε)).f1) ((Qb O (ε)).f2) ((Qb O Y).f0) ((Qb O Y).f1) ((Qb O Y).f2) false _ bd.out).mono ?_
           rintro e jz ⟨rfl,hb⟩
           refine⟨_,rfl, ?_⟩
           replace γ:=sBk γ hb
           replace Z:=sBk Z hb
           replace HB:=sHb hb
           (try clear hb)
           (try clear a4)
           (try clear hk)
           (try clear hi)
           refine hK.out _ _ ⟨qc Z,qc Z,(sCl HB be),(sCl HB b5),(sCl HB b2),(sCl HB bm),(sCl HB bl),(sCl HB bk)⟩ (fun hHeld=>?_)
           clear hK K
           refine qN (some 45) ?_
           refine qP 12 (some 8) (bN 13 8191) HT_ ?_
           refine Zl (Ze HT_.out kr) ?_
           try go_wp2
           go_ret
           exact⟨by first|rfl|(simp[Ql,Qk] <;> rfl)|(simp only[← a7];first|rfl|(simp[Ql,Qk] <;> rfl))|(simp[*,Ql,Qk] <;> rfl),HB.out⟩
         ·rw[if_neg ψ] at H
          exact absurd H (by simp)
        ·rw[if_neg ab] at H
         exact absurd H (by simp)
       ·rw[if_neg σ] at H
        have c14b0:decide (0<Y)=false:=decide_eq_false σ
        clear σ
        have H':=aK H
        clear H
        have ga:=a6.out
        have gb:=a3.out
        obtain⟨d3,d4,d5,d6⟩:=qD2 Z.out
        try go_wp2
        replace γ:=aK (Qd γ.out)
        replace Z:=aK (Qd Z.out)
        replace HB:=aK (Qj HB.out)
        have ay:0≤(Y:Int):=of_decide_eq_true (by assumption)
        have az:Y<(O.length:Int):=of_decide_eq_true (by assumption)
        obtain⟨θ,bv,ξ,ρ,φ⟩:=Z4 τ.out Y ay az
        have a9:= φ
        have aa:=ρ
        have ag:= ξ
        cases bv
        replace ξ :=sCl HB ξ
        replace ρ:=sCl HB ρ
        replace φ :=sCl HB φ
        replace ay:=eq_true ay
        replace az:=eq_true az
        refine Zg (n:=8) (S:=fun w'=>cI w' a8 0 B∧cI w' a8 1 J∧w'.cell? ⟨ν,0,none⟩=some (.slice (some θ) O.length ζ)∧w'.cell? ⟨ν,1,none⟩=some (.slice κ X.length η)∧w'.cell? (θ.add ((Y).toNat * 3))=some (nI ((Qb O Y).f0))∧w'.cell? ⟨(θ.add ((Y).toNat * 3)).block,(θ.add ((Y).toNat * 3)).off+1,none⟩=some (nI ((Qb O Y).f1))∧w'.cell? ⟨(θ.add ((Y).toNat * 3)).block,(θ.add ((Y).toNat * 3)).off+2,none⟩=some (nI ((Qb O Y).f2))) (ds:=[]) #[false,false,false,false,false,false,false,false] kr rfl rfl ⟨(Qa γ.out 0).trans rfl,(Qa γ.out 1).trans rfl,(Qa Z.out 0).trans rfl,(Qa Z.out 1).trans rfl,(sCl HB ag),(sCl HB aa),(sCl HB a9)⟩ (fun hHeld=>?_);refine Zb newelref19_May.Wc newelref19_May.G5 (fun HT_ HW_=>?_)
        generalize wr.drew=k4 at γ Z HB ξ ρ φ hHeld ⊢
        refine qP 1 (some 24) (bN 8 2) HT_ ?_
        refine qP 3 (some 26) (bN 8 10) HT_ ?_
        refine qT 0 (some 23) (bN 8 11) HT_ HW_ hHeld ?_
        refine qT 2 (some 25) (bN 8 15) HT_ HW_ hHeld ?_
        refine qP 4 (some 27) (bN 8 31) HT_ ?_
        refine qT 5 (some 28) (bN 8 63) HT_ HW_ hHeld ?_
        refine qK 6 (some 29) (bN 8 127) HT_ fun K hK=>?_
        refine Zd Try.func18 kr rfl #[.agg #[nI B,nI J],.agg #[nI ((Qb O Y).f0),nI ((Qb O Y).f1),nI ((Qb O Y).f2)]] (by rfl) rfl rfl qM ?_
        with_reducible refine(newelref19_Hall.calls k1 B J ((Qb O Y).f0) ((Qb O Y).f1) ((Qb O Y).f2) true _ b8.out).mono ?_
        rintro e jv ⟨rfl,hb⟩
        refine⟨_,rfl, ?_⟩
        replace γ:=sBk γ hb
        replace Z:=sBk Z hb
        replace HB:=sHb hb
        (try clear hb)
        (try clear a4)
        (try clear hk)
        (try clear hi)
        refine hK.out _ _ ⟨qc γ,qc γ,qc Z,qc Z,(sCl HB ag),(sCl HB aa),(sCl HB a9)⟩ (fun hHeld=>?_)
        clear hK K
        refine qN (some 29) ?_
        refine qP 7 (some 7) (bN 8 255) HT_ ?_
        refine Zl (Ze HT_.out kr) ?_
        try go_wp2
        go_roundg k1
        case measure=>have:=af.out;omega
        case rel=>exact⟨(wrap64 (Y+1)),rfl,H',⟨by have:=af.out;omega⟩,γ,Z,HB⟩
      ·replace a2:=Bool.eq_false_iff.mpr a2
       subst a2
       rw[if_neg nft] at H
       obtain rfl:=qJ H
       have dv:=a6.out
       have e9:=a3.out
       obtain⟨gr,gs,gt,hj⟩:=qD2 Z.out
       try go_wp2
       replace γ:=aK (Qd γ.out)
       replace Z:=aK (Qd Z.out)
       replace HB:=aK (Qj HB.out)
       have ay:0≤(Y:Int):=of_decide_eq_true (by assumption)
       have az:Y<(O.length:Int):=of_decide_eq_true (by assumption)
       obtain⟨θ,bv,ξ,ρ,φ⟩:=Z4 τ.out Y ay az
       have a9:= φ
       have aa:=ρ
       have ag:= ξ
       cases bv
       replace ξ :=sCl HB ξ
       replace ρ:=sCl HB ρ
       replace φ :=sCl HB φ
       replace ay:=eq_true ay
       replace az:=eq_true az
       refine Zg (n:=8) (S:=fun w'=>cI w' a8 0 B∧cI w' a8 1 J∧w'.cell? ⟨ν,0,none⟩=some (.slice (some θ) O.length ζ)∧w'.cell? ⟨ν,1,none⟩=some (.slice κ X.length η)∧w'.cell? (θ.add ((Y).toNat * 3))=some (nI ((Qb O Y).f0))∧w'.cell? ⟨(θ.add ((Y).toNat * 3)).block,(θ.add ((Y).toNat * 3)).off+1,none⟩=some (nI ((Qb O Y).f1))∧w'.cell? ⟨(θ.add ((Y).toNat * 3)).block,(θ.add ((Y).toNat * 3)).off+2,none⟩=some (nI ((Qb O Y).f2))) (ds:=[]) #[false,false,false,false,false,false,false,false] kr rfl rfl ⟨(Qa γ.out 0).trans rfl,(Qa γ.out 1).trans rfl,(Qa Z.out 0).trans rfl,(Qa Z.out 1).trans rfl,(sCl HB ag),(sCl HB aa),(sCl HB a9)⟩ (fun hHeld=>?_);refine Zb newelref19_May.Wc newelref19_May.G5 (fun HT_ HW_=>?_)
       generalize wr.drew=ea at γ Z HB ξ ρ φ hHeld ⊢
       refine qP 1 (some 24) (bN 8 2) HT_ ?_
       refine qP 3 (some 26) (bN 8 10) HT_ ?_
       refine qT 0 (some 23) (bN 8 11) HT_ HW_ hHeld ?_
       refine qT 2 (some 25) (bN 8 15) HT_ HW_ hHeld ?_
       refine qP 4 (some 27) (bN 8 31) HT_ ?_
       refine qT 5 (some 28) (bN 8 63) HT_ HW_ hHeld ?_
       refine qK 6 (some 29) (bN 8 127) HT_ fun K hK=>?_
       refine Zd Try.func18 kr rfl #[.agg #[nI B,nI J],.agg #[nI ((Qb O Y).f0),nI ((Qb O Y).f1),nI ((Qb O Y).f2)]] (by rfl) rfl rfl qM ?_
       with_reducible refine(newelref19_Hall.calls k1 B J ((Qb O Y).f0) ((Qb O Y).f1) ((Qb O Y).f2) false _ b8.out).mono ?_
       rintro e kz ⟨rfl,hb⟩
       refine⟨_,rfl, ?_⟩
       replace γ:=sBk γ hb
       replace Z:=sBk Z hb
       replace HB:=sHb hb
       (try clear hb)
       (try clear a4)
       (try clear hk)
       (try clear hi)
       refine hK.out _ _ ⟨qc γ,qc γ,qc Z,qc Z,(sCl HB ag),(sCl HB aa),(sCl HB a9)⟩ (fun hHeld=>?_)
       clear hK K
       refine qN (some 29) ?_
       refine qP 7 (some 7) (bN 8 255) HT_ ?_
       refine Zl (Ze HT_.out kr) ?_
       try go_wp2
       go_ret
       exact⟨rfl,HB.out⟩
     ·rw[if_neg a5] at H
      exact absurd H (by simp)
    ·rw[if_neg c10] at H
     have c10b0:=decide_eq_false c10
     clear c10
     have H':=aK H
     clear H
     have cz:=a6.out
     have fo:=a3.out
     obtain⟨dn,dp,dq,dr⟩:=qD2 Z.out
     go_wp2
     go_loopg [9] k1 (fun kq v9 w'=>∃ (δ :Int),v9=nI δ ∧ Aside0 (newelref19_May.l1 kq δ B J O X=some r)∧Aside0 (kq≤k1)∧Aside0 (w'.heap[a8]?=some (.cells #[nI B,nI J] 59 (0,0)))∧Aside0 (w'.heap[ν]?=some (.cells #[(.slice ι O.length ζ),(.slice κ X.length η)] 50 (0,0)))∧Aside0 (Below w.heap.size w w'))
     case atStart=>exact⟨(0),rfl,H',⟨Nat.le_refl _⟩,γ,Z,HB⟩
     case round=>
      clear H'
      try clear c4
      try clear c10b0
      try clear dn
      try clear dp
      try clear dq
      try clear dr
      obtain⟨δ,rfl,HA,b7,γ,Z,HB⟩:=hrel
      cases gk with
      |zero=>exact absurd HA.out (by simp[newelref19_May.l1])
      |succ k2=>
       have H:=HA.out
       clear HA
       simp only[newelref19_May.l1] at H
       by_cases co: δ < (X.length:Int)
       ·rw[if_pos co] at H
        have c42b0:=decide_eq_true co
        clear co
        by_cases fl:0 ≤ δ
        ·rw[if_pos fl] at H
         have c43b0:=decide_eq_true fl
         clear fl
         obtain⟨d7,cx,H⟩:=qQ H
         by_cases bu:d7=true
         ·subst bu
          rw[if_pos rfl] at H
          by_cases bo: δ > 0
          ·rw[if_pos bo] at H
           have c46b0:decide (0 < δ)=true:=decide_eq_true bo
           clear bo
           obtain⟨a1,bs⟩:∃ j_:Int,(wrap64 (δ - 1))=j_:=⟨_,rfl⟩
           replace H:(if 0≤(a1) then (if (a1)<(X.length:Int) then ((newelref19_before.f ((Qp X (a1)).f0) ((Qp X (a1)).f1) ((Qp X δ).f0) ((Qp X δ).f1)).bind fun ck=>(if ck=true then (newelref19_May.l1 k2 (wrap64 (δ + 1)) B J O X) else (some false))) else (none)) else (none))=some r:=by first|(rw[bs] at H;exact H)|(simp only[bs] at H ⊢;exact H)
           (try rw[bs] at cx)
           have hji47w:(IntKind.i64.wrap (δ - 1))=a1:=(Zy _).trans bs
           by_cases bc:0≤(a1)
           ·rw[if_pos bc] at H
            have c48b0:=decide_eq_true bc
            clear bc
            by_cases b6:(a1)<(X.length:Int)
            ·rw[if_pos b6] at H
             have c49b0:=decide_eq_true b6
             clear b6
             obtain⟨ck,cu,H⟩:=qQ H
             by_cases bf:ck=true
             ·subst bf
              rw[if_pos rfl] at H
              have H':=aK H
              clear H
              have iv:=a6.out
              have iw:=a3.out
              obtain⟨dh,di,ec,ee⟩:=qD2 Z.out
              try go_wp2
              replace γ:=aK (Qd γ.out)
              replace Z:=aK (Qd Z.out)
              replace HB:=aK (Qj HB.out)
              have b0:0≤(δ :Int):=of_decide_eq_true (by assumption)
              have b1: δ < (X.length:Int):=of_decide_eq_true (by assumption)
              obtain⟨μ,cd,χ,ω⟩:=Xi a0.out δ b0 b1
              have ai:= ω
              have aj:= χ
              cases cd
              replace χ :=sCl HB χ
              replace ω :=sCl HB ω
              replace b0:=eq_true b0
              replace b1:=eq_true b1
              refine Zg (n:=8) (S:=fun w'=>cI w' a8 0 B∧cI w' a8 1 J∧w'.cell? ⟨ν,0,none⟩=some (.slice ι O.length ζ)∧w'.cell? ⟨ν,1,none⟩=some (.slice (some μ) X.length η)∧w'.cell? (μ.add ((δ).toNat * 2))=some (nI ((Qp X δ).f0))∧w'.cell? ⟨(μ.add ((δ).toNat * 2)).block,(μ.add ((δ).toNat * 2)).off+1,none⟩=some (nI ((Qp X δ).f1))) (ds:=[]) #[false,false,false,false,false,false,false,false] kr rfl rfl ⟨(Qa γ.out 0).trans rfl,(Qa γ.out 1).trans rfl,(Qa Z.out 0).trans rfl,(Qa Z.out 1).trans rfl,(sCl HB aj),(sCl HB ai)⟩ (fun hHeld=>?_);refine Zb newelref19_May.Ma newelref19_May.Uz (fun HT_ HW_=>?_)
              generalize wr.drew=mz at γ Z HB χ ω hHeld ⊢
              refine qP 1 (some 56) (bN 8 2) HT_ ?_
              refine qP 3 (some 58) (bN 8 10) HT_ ?_
              refine qT 0 (some 55) (bN 8 11) HT_ HW_ hHeld ?_
              refine qT 2 (some 57) (bN 8 15) HT_ HW_ hHeld ?_
              refine qP 4 (some 59) (bN 8 31) HT_ ?_
              refine qT 5 (some 60) (bN 8 63) HT_ HW_ hHeld ?_
              refine qK 6 (some 61) (bN 8 127) HT_ fun K hK=>?_
              refine Zd Try.func61 kr rfl #[.agg #[nI B,nI J],.agg #[nI ((Qp X δ).f0),nI ((Qp X δ).f1)]] (by rfl) rfl rfl qM ?_
              with_reducible refine(newelref19_Inside.calls B J ((Qp X δ).f0) ((Qp X δ).f1) true _ cx.out).mono ?_
              rintro e hy ⟨rfl,hb⟩
              refine⟨_,rfl, ?_⟩
              replace γ:=sBk γ hb
              replace Z:=sBk Z hb
              replace HB:=sHb hb
              (try clear hb)
              (try clear a4)
              (try clear hk)
              (try clear hi)
              refine hK.out _ _ ⟨qc γ,qc γ,qc Z,qc Z,(sCl HB aj),(sCl HB ai)⟩ (fun hHeld=>?_)
              clear hK K
              refine qN (some 61) ?_
              refine qP 7 (some 10) (bN 8 255) HT_ ?_
              refine Zl (Ze HT_.out kr) ?_
              try go_wp2
              replace γ:=aK (Qd γ.out)
              replace Z:=aK (Qd Z.out)
              replace HB:=aK (Qj HB.out)
              have ce:0≤((a1):Int):=of_decide_eq_true (by assumption)
              have cf:(a1)<(X.length:Int):=of_decide_eq_true (by assumption)
              obtain⟨ct,dd,au,av⟩:=Xi a0.out (a1) ce cf
              have bn:=av
              have bp:=au
              obtain rfl: μ = ct:=(by injection dd)
              replace au:=sCl HB au
              replace av:=sCl HB av
              replace ce:=eq_true ce
              replace cf:=eq_true cf
              have ch:0≤(δ :Int):=of_decide_eq_true (by assumption)
              have ci: δ < (X.length:Int):=of_decide_eq_true (by assumption)
              obtain⟨cv,de,aw,ax⟩:=Xi a0.out δ ch ci
              have bq:=ax
              have br:=aw
              obtain rfl: μ = cv:=(by injection de)
              replace aw:=sCl HB aw
              replace ax:=sCl HB ax
              replace ch:=eq_true ch
              replace ci:=eq_true ci
              refine Zg (n:=13) (S:=fun w'=>w'.cell? ⟨ν,0,none⟩=some (.slice ι O.length ζ)∧w'.cell? ⟨ν,1,none⟩=some (.slice (some μ) X.length η)∧w'.cell? (μ.add (((a1)).toNat * 2))=some (nI ((Qp X (a1)).f0))∧w'.cell? ⟨(μ.add (((a1)).toNat * 2)).block,(μ.add (((a1)).toNat * 2)).off+1,none⟩=some (nI ((Qp X (a1)).f1))∧w'.cell? (μ.add ((δ).toNat * 2))=some (nI ((Qp X δ).f0))∧w'.cell? ⟨(μ.add ((δ).toNat * 2)).block,(μ.add ((δ).toNat * 2)).off+1,none⟩=some (nI ((Qp X δ).f1))) (ds:=[]) #[false,false,false,false,false,false,false,false,false,false,false,false,false] kr rfl rfl ⟨(Qa Z.out 0).trans rfl,(Qa Z.out 1).trans rfl,(sCl HB bp),(sCl HB bn),(sCl HB br),(sCl HB bq)⟩ (fun hHeld=>?_);refine Zb newelref19_May.Cn newelref19_May.E0 (fun HT_ HW_=>?_)
              generalize hy.drew=du at γ Z HB au av aw ax hHeld ⊢
              refine qP 0 (some 66) (bN 13 1) HT_ ?_
              refine qP 2 (some 68) (bN 13 5) HT_ ?_
              refine qP 3 (some 69) (bN 13 13) HT_ ?_
              refine qP 6 (some 72) (bN 13 77) HT_ ?_
              refine qP 8 (some 74) (bN 13 333) HT_ ?_
              refine qT 1 (some 67) (bN 13 335) HT_ HW_ hHeld ?_
              refine qP 4 (some 70) (bN 13 351) HT_ ?_
              refine qT 5 (some 71) (bN 13 383) HT_ HW_ hHeld ?_
              refine qT 7 (some 73) (bN 13 511) HT_ HW_ hHeld ?_
              refine qP 9 (some 75) (bN 13 1023) HT_ ?_
              refine qT 10 (some 76) (bN 13 2047) HT_ HW_ hHeld ?_
              refine qK 11 (some 77) (bN 13 4095) HT_ fun K hK=>?_
              refine Zd Try.func62 kr rfl #[.agg #[nI ((Qp X (a1)).f0),nI ((Qp X (a1)).f1)],.agg #[nI ((Qp X δ).f0),nI ((Qp X δ).f1)]] (by rfl) rfl rfl (by(try simp only[List.map_toArray,List.map_cons,List.map_nil]);first|done|(simp only[bs];rfl)|rfl|(simp only[List.length_drop,List.length_take];rfl)) ?_
              with_reducible refine(newelref19_before.calls ((Qp X (a1)).f0) ((Qp X (a1)).f1) ((Qp X δ).f0) ((Qp X δ).f1) true _ cu.out).mono ?_
              rintro e n3 ⟨rfl,hb⟩
              refine⟨_,rfl, ?_⟩
              replace γ:=sBk γ hb
              replace Z:=sBk Z hb
              replace HB:=sHb hb
              (try clear hb)
              (try clear a4)
              (try clear hk)
              (try clear hi)
              refine hK.out _ _ ⟨qc Z,qc Z,(sCl HB bp),(sCl HB bn),(sCl HB br),(sCl HB bq)⟩ (fun hHeld=>?_)
              clear hK K
              refine qN (some 77) ?_
              refine qP 12 (some 11) (bN 13 8191) HT_ ?_
              refine Zl (Ze HT_.out kr) ?_
              try go_wp2
              go_roundg k2
              case measure=>have:=af.out;have:=b7.out;omega
              case rel=>exact⟨(wrap64 (δ + 1)),rfl,H',⟨by have:=af.out;have:=b7.out;omega⟩,γ,Z,HB⟩
             ·replace bf:=Bool.eq_false_iff.mpr bf
              subst bf
              rw[if_neg nft] at H
              obtain rfl:=qJ H
              have er:=a6.out
              have et:=a3.out
              obtain⟨dz,e4,e6,e7⟩:=qD2 Z.out
              try go_wp2
              replace γ:=aK (Qd γ.out)
              replace Z:=aK (Qd Z.out)
              replace HB:=aK (Qj HB.out)
              have b0:0≤(δ :Int):=of_decide_eq_true (by assumption)
              have b1: δ < (X.length:Int):=of_decide_eq_true (by assumption)
              obtain⟨μ,cd,χ,ω⟩:=Xi a0.out δ b0 b1
              have ai:= ω
              have aj:= χ
              cases cd
              replace χ :=sCl HB χ
              replace ω :=sCl HB ω
              replace b0:=eq_true b0
              replace b1:=eq_true b1
              refine Zg (n:=8) (S:=fun w'=>cI w' a8 0 B∧cI w' a8 1 J∧w'.cell? ⟨ν,0,none⟩=some (.slice ι O.length ζ)∧w'.cell? ⟨ν,1,none⟩=some (.slice (some μ) X.length η)∧w'.cell? (μ.add ((δ).toNat * 2))=some (nI ((Qp X δ).f0))∧w'.cell? ⟨(μ.add ((δ).toNat * 2)).block,(μ.add ((δ).toNat * 2)).off+1,none⟩=some (nI ((Qp X δ).f1))) (ds:=[]) #[false,false,false,false,false,false,false,false] kr rfl rfl ⟨(Qa γ.out 0).trans rfl,(Qa γ.out 1).trans rfl,(Qa Z.out 0).trans rfl,(Qa Z.out 1).trans rfl,(sCl HB aj),(sCl HB ai)⟩ (fun hHeld=>?_);refine Zb newelref19_May.Ma newelref19_May.Uz (fun HT_ HW_=>?_)
              generalize wr.drew=ls at γ Z HB χ ω hHeld ⊢
              refine qP 1 (some 56) (bN 8 2) HT_ ?_
              refine qP 3 (some 58) (bN 8 10) HT_ ?_
              refine qT 0 (some 55) (bN 8 11) HT_ HW_ hHeld ?_
              refine qT 2 (some 57) (bN 8 15) HT_ HW_ hHeld ?_
              refine qP 4 (some 59) (bN 8 31) HT_ ?_
              refine qT 5 (some 60) (bN 8 63) HT_ HW_ hHeld ?_
              refine qK 6 (some 61) (bN 8 127) HT_ fun K hK=>?_
              refine Zd Try.func61 kr rfl #[.agg #[nI B,nI J],.agg #[nI ((Qp X δ).f0),nI ((Qp X δ).f1)]] (by rfl) rfl rfl qM ?_
              with_reducible refine(newelref19_Inside.calls B J ((Qp X δ).f0) ((Qp X δ).f1) true _ cx.out).mono ?_
              rintro e e5 ⟨rfl,hb⟩
              refine⟨_,rfl, ?_⟩
              replace γ:=sBk γ hb
              replace Z:=sBk Z hb
              replace HB:=sHb hb
              (try clear hb)
              (try clear a4)
              (try clear hk)
              (try clear hi)
              refine hK.out _ _ ⟨qc γ,qc γ,qc Z,qc Z,(sCl HB aj),(sCl HB ai)⟩ (fun hHeld=>?_)
              clear hK K
              refine qN (some 61) ?_
              refine qP 7 (some 10) (bN 8 255) HT_ ?_
              refine Zl (Ze HT_.out kr) ?_
              try go_wp2
              replace γ:=aK (Qd γ.out)
              replace Z:=aK (Qd Z.out)
              replace HB:=aK (Qj HB.out)
              have ce:0≤((a1):Int):=of_decide_eq_true (by assumption)
              have cf:(a1)<(X.length:Int):=of_decide_eq_true (by assumption)
              obtain⟨ct,dd,au,av⟩:=Xi a0.out (a1) ce cf
              have bn:=av
              have bp:=au
              obtain rfl: μ = ct:=(by injection dd)
              replace au:=sCl HB au
              replace av:=sCl HB av
              replace ce:=eq_true ce
              replace cf:=eq_true cf
              have ch:0≤(δ :Int):=of_decide_eq_true (by assumption)
              have ci: δ < (X.length:Int):=of_decide_eq_true (by assumption)
              obtain⟨cv,de,aw,ax⟩:=Xi a0.out δ ch ci
              have bq:=ax
              have br:=aw
              obtain rfl: μ = cv:=(by injection de)
              replace aw:=sCl HB aw
              replace ax:=sCl HB ax
              replace ch:=eq_true ch
              replace ci:=eq_true ci
              refine Zg (n:=13) (S:=fun w'=>w'.cell? ⟨ν,0,none⟩=some (.slice ι O.length ζ)∧w'.cell? ⟨ν,1,none⟩=some (.slice (some μ) X.length η)∧w'.cell? (μ.add (((a1)).toNat * 2))=some (nI ((Qp X (a1)).f0))∧w'.cell? ⟨(μ.add (((a1)).toNat * 2)).block,(μ.add (((a1)).toNat * 2)).off+1,none⟩=some (nI ((Qp X (a1)).f1))∧w'.cell? (μ.add ((δ).toNat * 2))=some (nI ((Qp X δ).f0))∧w'.cell? ⟨(μ.add ((δ).toNat * 2)).block,(μ.add ((δ).toNat * 2)).off+1,none⟩=some (nI ((Qp X δ).f1))) (ds:=[]) #[false,false,false,false,false,false,false,false,false,false,false,false,false] kr rfl rfl ⟨(Qa Z.out 0).trans rfl,(Qa Z.out 1).trans rfl,(sCl HB bp),(sCl HB bn),(sCl HB br),(sCl HB bq)⟩ (fun hHeld=>?_);refine Zb newelref19_May.Cn newelref19_May.E0 (fun HT_ HW_=>?_)
              generalize e5.drew=jk at γ Z HB au av aw ax hHeld ⊢
              refine qP 0 (some 66) (bN 13 1) HT_ ?_
              refine qP 2 (some 68) (bN 13 5) HT_ ?_
              refine qP 3 (some 69) (bN 13 13) HT_ ?_
              refine qP 6 (some 72) (bN 13 77) HT_ ?_
              refine qP 8 (some 74) (bN 13 333) HT_ ?_
              refine qT 1 (some 67) (bN 13 335) HT_ HW_ hHeld ?_
              refine qP 4 (some 70) (bN 13 351) HT_ ?_
              refine qT 5 (some 71) (bN 13 383) HT_ HW_ hHeld ?_
              refine qT 7 (some 73) (bN 13 511) HT_ HW_ hHeld ?_
              refine qP 9 (some 75) (bN 13 1023) HT_ ?_
              refine qT 10 (some 76) (bN 13 2047) HT_ HW_ hHeld ?_
              refine qK 11 (some 77) (bN 13 4095) HT_ fun K hK=>?_
              refine Zd Try.func62 kr rfl #[.agg #[nI ((Qp X (a1)).f0),nI ((Qp X (a1)).f1)],.agg #[nI ((Qp X δ).f0),nI ((Qp X δ).f1)]] (by rfl) rfl rfl (by(try simp only[List.map_toArray,List.map_cons,List.map_nil]);first|done|(simp only[bs];rfl)|rfl|(simp only[List.length_drop,List.length_take];rfl)) ?_
              with_reducible refine(newelref19_before.calls ((Qp X (a1)).f0) ((Qp X (a1)).f1) ((Qp X δ).f0) ((Qp X δ).f1) false _ cu.out).mono ?_
              rintro e eo ⟨rfl,hb⟩
              refine⟨_,rfl, ?_⟩
              replace γ:=sBk γ hb
              replace Z:=sBk Z hb
              replace HB:=sHb hb
              (try clear hb)
              (try clear a4)
              (try clear hk)
              (try clear hi)
              refine hK.out _ _ ⟨qc Z,qc Z,(sCl HB bp),(sCl HB bn),(sCl HB br),(sCl HB bq)⟩ (fun hHeld=>?_)
              clear hK K
              refine qN (some 77) ?_
              refine qP 12 (some 11) (bN 13 8191) HT_ ?_
              refine Zl (Ze HT_.out kr) ?_
              try go_wp2
              go_ret
              exact⟨by first|rfl|(simp[Ql,Qk] <;> rfl)|(simp only[← bs];first|rfl|(simp[Ql,Qk] <;> rfl))|(simp[*,Ql,Qk] <;> rfl),HB.out⟩
            ·rw[if_neg b6] at H
             exact absurd H (by simp)
           ·rw[if_neg bc] at H
            exact absurd H (by simp)
          ·rw[if_neg bo] at H
           have c46b0:decide (0 < δ)=false:=decide_eq_false bo
           clear bo
           have H':=aK H
           clear H
           have fi:=a6.out
           have fj:=a3.out
           obtain⟨ek,el,he,hh⟩:=qD2 Z.out
           try go_wp2
           replace γ:=aK (Qd γ.out)
           replace Z:=aK (Qd Z.out)
           replace HB:=aK (Qj HB.out)
           have b0:0≤(δ :Int):=of_decide_eq_true (by assumption)
           have b1: δ < (X.length:Int):=of_decide_eq_true (by assumption)
           obtain⟨μ,cd,χ,ω⟩:=Xi a0.out δ b0 b1
           have ai:= ω
           have aj:= χ
           cases cd
           replace χ :=sCl HB χ
           replace ω :=sCl HB ω
           replace b0:=eq_true b0
           replace b1:=eq_true b1
           refine Zg (n:=8) (S:=fun w'=>cI w' a8 0 B∧cI w' a8 1 J∧w'.cell? ⟨ν,0,none⟩=some (.slice ι O.length ζ)∧w'.cell? ⟨ν,1,none⟩=some (.slice (some μ) X.length η)∧w'.cell? (μ.add ((δ).toNat * 2))=some (nI ((Qp X δ).f0))∧w'.cell? ⟨(μ.add ((δ).toNat * 2)).block,(μ.add ((δ).toNat * 2)).off+1,none⟩=some (nI ((Qp X δ).f1))) (ds:=[]) #[false,false,false,false,false,false,false,false] kr rfl rfl ⟨(Qa γ.out 0).trans rfl,(Qa γ.out 1).trans rfl,(Qa Z.out 0).trans rfl,(Qa Z.out 1).trans rfl,(sCl HB aj),(sCl HB ai)⟩ (fun hHeld=>?_);refine Zb newelref19_May.Ma newelref19_May.Uz (fun HT_ HW_=>?_)
           generalize wr.drew=n0 at γ Z HB χ ω hHeld ⊢
           refine qP 1 (some 56) (bN 8 2) HT_ ?_
           refine qP 3 (some 58) (bN 8 10) HT_ ?_
           refine qT 0 (some 55) (bN 8 11) HT_ HW_ hHeld ?_
           refine qT 2 (some 57) (bN 8 15) HT_ HW_ hHeld ?_
           refine qP 4 (some 59) (bN 8 31) HT_ ?_
           refine qT 5 (some 60) (bN 8 63) HT_ HW_ hHeld ?_
           refine qK 6 (some 61) (bN 8 127) HT_ fun K hK=>?_
           refine Zd Try.func61 kr rfl #[.agg #[nI B,nI J],.agg #[nI ((Qp X δ).f0),nI ((Qp X δ).f1)]] (by rfl) rfl rfl qM ?_
           with_reducible refine(newelref19_Inside.calls B J ((Qp X δ).f0) ((Qp X δ).f1) true _ cx.out).mono ?_
           rintro e jb ⟨rfl,hb⟩
           refine⟨_,rfl, ?_⟩
           replace γ:=sBk γ hb
           replace Z:=sBk Z hb
           replace HB:=sHb hb
           (try clear hb)
           (try clear a4)
           (try clear hk)
           (try clear hi)
           refine hK.out _ _ ⟨qc γ,qc γ,qc Z,qc Z,(sCl HB aj),(sCl HB ai)⟩ (fun hHeld=>?_)
           clear hK K
           refine qN (some 61) ?_
           refine qP 7 (some 10) (bN 8 255) HT_ ?_
           refine Zl (Ze HT_.out kr) ?_
           try go_wp2
           go_roundg k2
           case measure=>have:=af.out;have:=b7.out;omega
           case rel=>exact⟨(wrap64 (δ + 1)),rfl,H',⟨by have:=af.out;have:=b7.out;omega⟩,γ,Z,HB⟩
         ·replace bu:=Bool.eq_false_iff.mpr bu
          subst bu
          rw[if_neg nft] at H
          obtain rfl:=qJ H
          have io:=a6.out
          have ip:=a3.out
          obtain⟨i0,ig,ih,il⟩:=qD2 Z.out
          try go_wp2
          replace γ:=aK (Qd γ.out)
          replace Z:=aK (Qd Z.out)
          replace HB:=aK (Qj HB.out)
          have b0:0≤(δ :Int):=of_decide_eq_true (by assumption)
          have b1: δ < (X.length:Int):=of_decide_eq_true (by assumption)
          obtain⟨μ,cd,χ,ω⟩:=Xi a0.out δ b0 b1
          have ai:= ω
          have aj:= χ
          cases cd
          replace χ :=sCl HB χ
          replace ω :=sCl HB ω
          replace b0:=eq_true b0
          replace b1:=eq_true b1
          refine Zg (n:=8) (S:=fun w'=>cI w' a8 0 B∧cI w' a8 1 J∧w'.cell? ⟨ν,0,none⟩=some (.slice ι O.length ζ)∧w'.cell? ⟨ν,1,none⟩=some (.slice (some μ) X.length η)∧w'.cell? (μ.add ((δ).toNat * 2))=some (nI ((Qp X δ).f0))∧w'.cell? ⟨(μ.add ((δ).toNat * 2)).block,(μ.add ((δ).toNat * 2)).off+1,none⟩=some (nI ((Qp X δ).f1))) (ds:=[]) #[false,false,false,false,false,false,false,false] kr rfl rfl ⟨(Qa γ.out 0).trans rfl,(Qa γ.out 1).trans rfl,(Qa Z.out 0).trans rfl,(Qa Z.out 1).trans rfl,(sCl HB aj),(sCl HB ai)⟩ (fun hHeld=>?_);refine Zb newelref19_May.Ma newelref19_May.Uz (fun HT_ HW_=>?_)
          generalize wr.drew=qe at γ Z HB χ ω hHeld ⊢
          refine qP 1 (some 56) (bN 8 2) HT_ ?_
          refine qP 3 (some 58) (bN 8 10) HT_ ?_
          refine qT 0 (some 55) (bN 8 11) HT_ HW_ hHeld ?_
          refine qT 2 (some 57) (bN 8 15) HT_ HW_ hHeld ?_
          refine qP 4 (some 59) (bN 8 31) HT_ ?_
          refine qT 5 (some 60) (bN 8 63) HT_ HW_ hHeld ?_
          refine qK 6 (some 61) (bN 8 127) HT_ fun K hK=>?_
          refine Zd Try.func61 kr rfl #[.agg #[nI B,nI J],.agg #[nI ((Qp X δ).f0),nI ((Qp X δ).f1)]] (by rfl) rfl rfl qM ?_
          with_reducible refine(newelref19_Inside.calls B J ((Qp X δ).f0) ((Qp X δ).f1) false _ cx.out).mono ?_
          rintro e qf ⟨rfl,hb⟩
          refine⟨_,rfl, ?_⟩
          replace γ:=sBk γ hb
          replace Z:=sBk Z hb
          replace HB:=sHb hb
          (try clear hb)
          (try clear a4)
          (try clear hk)
          (try clear hi)
          refine hK.out _ _ ⟨qc γ,qc γ,qc Z,qc Z,(sCl HB aj),(sCl HB ai)⟩ (fun hHeld=>?_)
          clear hK K
          refine qN (some 61) ?_
          refine qP 7 (some 10) (bN 8 255) HT_ ?_
          refine Zl (Ze HT_.out kr) ?_
          try go_wp2
          go_ret
          exact⟨rfl,HB.out⟩
        ·rw[if_neg fl] at H
         exact absurd H (by simp)
       ·rw[if_neg co] at H
        have c42b0:=decide_eq_false co
        clear co
        obtain rfl:=qJ H
        have ny:=a6.out
        have nz:=a3.out
        obtain⟨e8,ef,eg,eh⟩:=qD2 Z.out
        go_wp2
        go_ret
        exact⟨rfl,HB.out⟩
 ·replace c4:=Bool.eq_false_iff.mpr c4
  subst c4
  rw[if_neg nft] at H
  obtain rfl:=qJ H
  go_enter Try.func39,Try.ntmps39
  go_wp2_with (first|((with_reducible refine Qe (N:=2) rfl ?_);refine qE 2 #[nI B,nI J] 59 ?_;intro a8 hg qg hbox hb;have γ:=aK hbox;have df:=sGe hg;have dj:=sGe hg;replace HB:=sHb hb;clear hb hbox hg)|((with_reducible refine Qe (N:=3) rfl ?_);refine qE 3 #[.slice ι O.length ζ,.slice κ X.length η] 50 ?_;intro ν hg ep hbox hb;have Z:=aK hbox;have dx:=sGe hg;have dy:=sGe hg;have a3:=sNl γ hg;have a6:=sNg γ hg;replace γ:=sBk γ hb;replace HB:=sHb hb;clear hb hbox hg;have gp:=a3.out;have hu:=a6.out;obtain⟨ei,ej,em,en⟩:=qD2 γ.out)|((with_reducible refine Qf (f:=59) rfl ?_);refine Q0 (some 13) rfl rfl Try.func59 kr rfl #[.agg #[nI B,nI J]] rfl qM ?_;(with_reducible refine(newelref19_House.calls B J false _ A3.out).mono ?_);rintro e mw ⟨rfl,hb⟩;refine⟨_,rfl, ?_⟩;replace γ:=sBk γ hb;replace Z:=sBk Z hb;replace HB:=sHb hb;(try clear hb);(try clear a4);(try clear hk);(try clear hi)))
  go_ret
  exact⟨rfl,HB.out⟩
def group_house.f (B:Int) (J:Int) (O:Int) (Y:Int) (Z:Int) (γ:Int) (δ :Int) (ε :Int) (θ :Int) (η :Int) (l1:List (S31)):Option (Int×Int):=some (B,(l1.length:Int))
theorem group_house.calls (B:Int) (J:Int) (O:Int) (Y:Int) (Z:Int) (γ:Int) (δ :Int) (ε :Int) (θ :Int) (η :Int) (A1:Option Addr) (c1:Nat) (l1:List (S31)) (r1:Int) (r2:Int) (w:World) (ct:Kd.C k31 w A1 l1.length l1) (ch:l1.length≤c1) (h:group_house.f B J O Y Z γ δ ε θ η l1=some (r1,r2)):
 Calls Try.prog 37 #[.agg #[nI B,nI J,nI O,nI Y,nI Z,nI γ,nI δ,nI ε,nI θ,nI η],.slice A1 l1.length c1] w fun e w'=>e = .returned (.agg #[nI r1,nI r2])∧Below w.heap.size w w':=by
 have cj:=Try.underlying25
 have dw:=Try.underlying59
 have ci:=aK ct
 have da:=aK ch
 clear ct ch
 have HB:=aK (Below.refl w.heap.size w)
 have H:(some (B,(l1.length:Int)))=some (r1,r2):=h
 clear h
 simp only[Option.some.injEq,Prod.mk.injEq] at H
 obtain⟨rfl,rfl⟩:=H
 go_enter Try.func37,Try.ntmps37
 go_wp2_with (first|((with_reducible refine Qe (N:=2) rfl ?_);refine Zj ?hg (N:=2) ?hd (cs:=#[nI B,nI J,nI O,nI Y,nI Z,nI γ,nI δ,nI ε,nI θ,nI η]) (t:=25) ?hr ?_;(case hd=>rfl);(case hg=>rfl);(case hr=>first|(go_simp;done)|(go_simp;rfl));intro X hg w3 hbox hb;have φ :=aK (Q6 (by repeat(first|(with_reducible first|exact HB.out|apply Qq|apply Qn|apply Qj)|exact HB.out)) hb);have χ :=aK (hbox);have ω :=aK ((by rw[hg];exact(Qm (by repeat(first|(with_reducible first|exact HB.out|apply Qq|apply Qn|apply Qj)|exact HB.out))):w.heap.size≤X));have a6:=aK ((by rw[hg];exact(Qm (by repeat(first|(with_reducible first|exact HB.out|apply Qq|apply Qn|apply Qj)|exact HB.out))):w.heap.size≤X));clear HB;have HB:= φ;have ζ := χ;have af:= ω;have κ :=a6;clear φ χ ω a6;clear hb hbox hg)|((with_reducible refine Qe (N:=4) rfl ?_);refine Zj ?hg (N:=4) ?hd (cs:=#[nI 0,nI 0]) (t:=59) ?hr ?_;(case hd=>rfl);(case hg=>rfl);(case hr=>first|(go_simp;done)|(go_simp;rfl));intro ι hg w4 hbox hb;have φ :=aK (Q1 (g:=X) (o:=.cells #[nI B,nI J,nI O,nI Y,nI Z,nI γ,nI δ,nI ε,nI θ,nI η] 25 (0,0)) (by(with_reducible repeat first|refine Qi ?_ _|refine Qd ?_|refine Qh ?_ _);exact ζ.out) hb);have χ :=aK (Q6 (by repeat(first|(with_reducible first|exact HB.out|apply Qq|apply Qn|apply Qj|refine Qz ?_ κ.out)|exact HB.out)) hb);have ω :=aK (hbox);have a6:=aK ((by rw[hg];exact(Qm (by repeat(first|(with_reducible first|exact HB.out|apply Qq|apply Qn|apply Qj|refine Qz ?_ κ.out)|exact HB.out))):w.heap.size ≤ ι));have ah:=aK ((by rw[hg];exact(Qm (by repeat(first|(with_reducible first|exact HB.out|apply Qq|apply Qn|apply Qj|refine Qz ?_ κ.out)|exact HB.out))):w.heap.size ≤ ι));have az:=aK ((by rw[hg];exact Nat.ne_of_lt (Xl (g:=X) (o:=.cells #[nI B,nI J,nI O,nI Y,nI Z,nI γ,nI δ,nI ε,nI θ,nI η] 25 (0,0)) (by(with_reducible repeat first|refine Qi ?_ _|refine Qd ?_|refine Qh ?_ _);exact ζ.out)):X ≠ ι));have b1:=aK ((by rw[hg];exact Nat.ne_of_gt (Xl (g:=X) (o:=.cells #[nI B,nI J,nI O,nI Y,nI Z,nI γ,nI δ,nI ε,nI θ,nI η] 25 (0,0)) (by(with_reducible repeat first|refine Qi ?_ _|refine Qd ?_|refine Qh ?_ _);exact ζ.out)): ι ≠ X));clear ζ;clear HB;have ζ := φ;have HB:= χ;have ρ:= ω;have ag:=a6;have a9:=ah;have ν :=az;have ξ :=b1;clear φ χ ω a6 ah az b1;clear hb hbox hg;have aa:= ν.out;have ac:= ξ.out;obtain⟨σ,ψ,μ,a1,ae,ar,bp,τ,a3,a4,a2,ab,bw,bz,d0,d2,dk,a5,a7,a8⟩:=Zi ζ.out;obtain⟨a0,av,aw,ax⟩:=qD2 ρ.out))
 refine bodyPost_ret (results_cell_row rfl _ _ ι 59 #[nI B,nI (l1.length:Int)] (0,0) _ rfl (by(with_reducible repeat first|refine Qi ?_ _|refine Qd ?_|refine Qh ?_ _);refine Qo (cs:=#[nI B,nI 0]) ?_ 1 _ rfl;(with_reducible repeat first|refine Qi ?_ _|refine Qd ?_|refine Qh ?_ _);refine Qo (cs:=#[nI 0,nI 0]) ?_ 0 _ rfl;(with_reducible repeat first|refine Qi ?_ _|refine Qd ?_|refine Qh ?_ _);exact ρ.out) Try.underlying59 rfl kr) rfl ?_
 exact⟨by first|rfl|(simp[Ql,Qk] <;> rfl)|(simp[*,Ql,Qk] <;> rfl),by repeat(first|(with_reducible first|exact HB.out|apply Qq|apply Qn|apply Qj|refine Qz ?_ κ.out|refine Qz ?_ a9.out)|exact HB.out)⟩
def newellaw17_Plain.f:Option (Int×Int×Int×Int×Int×Int×Int×Int×Int×Int):=some (4,2,1,2,4,1,2,3,4,0)
theorem newellaw17_Plain.calls  (r1:Int) (r2:Int) (r3:Int) (r4:Int) (J:Int) (O:Int) (X:Int) (Y:Int) (Z:Int) (B:Int) (w:World) (h:newellaw17_Plain.f=some (r1,r2,r3,r4,J,O,X,Y,Z,B)):
 Calls Try.prog 27 #[] w fun e w'=>e = .returned (.agg #[nI r1,nI r2,nI r3,nI r4,nI J,nI O,nI X,nI Y,nI Z,nI B])∧Below w.heap.size w w':=by
 have cj:=Try.underlying25
 have jb:=Try.underlying23
 have HB:=aK (Below.refl w.heap.size w)
 have H:(some (4,2,1,2,4,1,2,3,4,0))=some (r1,r2,r3,r4,J,O,X,Y,Z,B):=h
 clear h
 simp only[Option.some.injEq,Prod.mk.injEq] at H
 obtain⟨rfl,rfl,rfl,rfl,rfl,rfl,rfl,rfl,rfl,rfl⟩:=H
 go_enter Try.func27,Try.ntmps27
 go_wp2_with (first|((with_reducible refine Qe (N:=0) rfl ?_);refine Zj ?hg (N:=0) ?hd (cs:=#[nI 0,nI 0,nI 0,nI 0,nI 0,nI 0,nI 0,nI 0,nI 0,nI 0]) (t:=25) ?hr ?_;(case hd=>rfl);(case hg=>rfl);(case hr=>first|(go_simp;done)|(go_simp;rfl));intro ac hg w1 hbox hb;have φ :=aK (Q6 (by repeat(first|(with_reducible first|exact HB.out|apply Qq|apply Qn|apply Qj)|exact HB.out)) hb);have χ :=aK (hbox);have ω :=aK ((by rw[hg];exact(Qm (by repeat(first|(with_reducible first|exact HB.out|apply Qq|apply Qn|apply Qj)|exact HB.out))):w.heap.size≤ac));have a6:=aK ((by rw[hg];exact(Qm (by repeat(first|(with_reducible first|exact HB.out|apply Qq|apply Qn|apply Qj)|exact HB.out))):w.heap.size≤ac));clear HB;have HB:= φ;have ζ := χ;have lu:= ω;have k7:=a6;clear φ χ ω a6;clear hb hbox hg;obtain⟨γ,δ,ε,η,θ,ι,κ,μ,ν,ξ,ρ,σ,τ,ψ,a0,a1,a2,a3,a4,a5⟩:=Zi ζ.out))
 refine bodyPost_ret (results_cell_row rfl _ _ ac 25 #[nI 4,nI 2,nI 1,nI 2,nI 4,nI 1,nI 2,nI 3,nI 4,nI 0] (0,0) _ rfl (by(with_reducible repeat first|refine Qi ?_ _|refine Qd ?_|refine Qh ?_ _);refine Qo (cs:=#[nI 4,nI 2,nI 1,nI 2,nI 4,nI 1,nI 2,nI 3,nI 4,nI 0]) ?_ 9 _ rfl;(with_reducible repeat first|refine Qi ?_ _|refine Qd ?_|refine Qh ?_ _);refine Qo (cs:=#[nI 4,nI 2,nI 1,nI 2,nI 4,nI 1,nI 2,nI 3,nI 0,nI 0]) ?_ 8 _ rfl;(with_reducible repeat first|refine Qi ?_ _|refine Qd ?_|refine Qh ?_ _);refine Qo (cs:=#[nI 4,nI 2,nI 1,nI 2,nI 4,nI 1,nI 2,nI 0,nI 0,nI 0]) ?_ 7 _ rfl;(with_reducible repeat first|refine Qi ?_ _|refine Qd ?_|refine Qh ?_ _);refine Qo (cs:=#[nI 4,nI 2,nI 1,nI 2,nI 4,nI 1,nI 0,nI 0,nI 0,nI 0]) ?_ 6 _ rfl;(with_reducible repeat first|refine Qi ?_ _|refine Qd ?_|refine Qh ?_ _);refine Qo (cs:=#[nI 4,nI 2,nI 1,nI 2,nI 4,nI 0,nI 0,nI 0,nI 0,nI 0]) ?_ 5 _ rfl;(with_reducible repeat first|refine Qi ?_ _|refine Qd ?_|refine Qh ?_ _);refine Qo (cs:=#[nI 4,nI 2,nI 1,nI 2,nI 0,nI 0,nI 0,nI 0,nI 0,nI 0]) ?_ 4 _ rfl;(with_reducible repeat first|refine Qi ?_ _|refine Qd ?_|refine Qh ?_ _);refine Qo (cs:=#[nI 4,nI 2,nI 1,nI 0,nI 0,nI 0,nI 0,nI 0,nI 0,nI 0]) ?_ 3 _ rfl;(with_reducible repeat first|refine Qi ?_ _|refine Qd ?_|refine Qh ?_ _);refine Qo (cs:=#[nI 4,nI 2,nI 0,nI 0,nI 0,nI 0,nI 0,nI 0,nI 0,nI 0]) ?_ 2 _ rfl;(with_reducible repeat first|refine Qi ?_ _|refine Qd ?_|refine Qh ?_ _);refine Qo (cs:=#[nI 4,nI 0,nI 0,nI 0,nI 0,nI 0,nI 0,nI 0,nI 0,nI 0]) ?_ 1 _ rfl;(with_reducible repeat first|refine Qi ?_ _|refine Qd ?_|refine Qh ?_ _);refine Qo (cs:=#[nI 0,nI 0,nI 0,nI 0,nI 0,nI 0,nI 0,nI 0,nI 0,nI 0]) ?_ 0 _ rfl;(with_reducible repeat first|refine Qi ?_ _|refine Qd ?_|refine Qh ?_ _);exact ζ.out) Try.underlying25 rfl kr) rfl ?_
 exact⟨by first|rfl|(simp[Ql,Qk] <;> rfl)|(simp[*,Ql,Qk] <;> rfl),by repeat(first|(with_reducible first|exact HB.out|apply Qq|apply Qn|apply Qj|refine Qz ?_ k7.out)|exact HB.out)⟩
mutual
def newelref19_View.l0:Nat→Int→Int→List (S36)→List (S86)→List Int→Option (List Int×List Int×List Int)
 |0,_,_,_,_,_=>none
 |k+1,J,O,B,Y,Z=>if O<(Y.length:Int) then (if 0≤O then (if ((Qp Y O).f0)=J then (if Z.length<17592186044416 then (newelref19_View.l0 k J (wrap64 (O+1)) B Y (Z ++ [(Qp Y O).f1])) else (none)) else (newelref19_View.l0 k J (wrap64 (O+1)) B Y Z)) else (none)) else (newelref19_View.l1 k J 0 B Y Z ([]:List Int) ([]:List Int))
def newelref19_View.l1:Nat→Int→Int→List (S36)→List (S86)→List Int→List Int→List Int→Option (List Int×List Int×List Int)
 |0,_,_,_,_,_,_,_=>none
 |k+1,J,X,B,Y,Z,γ,O=>if X<(B.length:Int) then (if 0≤X then (if ((Qb B X).f2)=J then (newelref19_View.j2 k J X (((Qb B X).f1)==1) B Y Z γ O ((Qb B X).f0) ((Qb B X).f1) ((Qb B X).f2)) else (newelref19_View.j2 k J X false B Y Z γ O ((Qb B X).f0) ((Qb B X).f1) ((Qb B X).f2))) else (none)) else (some (Z,γ,O))
def newelref19_View.j2:Nat→Int→Int→Bool→List (S36)→List (S86)→List Int→List Int→List Int→Int→Int→Int→Option (List Int×List Int×List Int)
 |0,_,_,_,_,_,_,_,_,_,_,_=>none
 |k+1,J,X,η,B,Y,Z,γ,O,δ,ε,ζ =>if η = true then (if γ.length<17592186044416 then ((some (γ ++ [δ]:List Int)).bind fun ai=>(if ζ = J then (if ε = (-1) then (if O.length<17592186044416 then (newelref19_View.l1 k J (wrap64 (X+1)) B Y Z ai (O ++ [δ])) else (none)) else (newelref19_View.l1 k J (wrap64 (X+1)) B Y Z ai O)) else (newelref19_View.l1 k J (wrap64 (X+1)) B Y Z ai O))) else (none)) else (if ζ = J then (if ε = (-1) then (if O.length<17592186044416 then (newelref19_View.l1 k J (wrap64 (X+1)) B Y Z γ (O ++ [δ])) else (none)) else (newelref19_View.l1 k J (wrap64 (X+1)) B Y Z γ O)) else (newelref19_View.l1 k J (wrap64 (X+1)) B Y Z γ O))
end
def newelref19_View.f (k:Nat) (B:List (S36)) (J:List (S86)) (Z:Int):Option (List Int×List Int×List Int):=newelref19_View.l0 k Z 0 B J ([]:List Int)
def newelref19_View.T6:Bool×List (List Nat×List Nat):=(true,[([],[]),([0],[0]),([],[]),([2],[2]),([],[]),([3,4],[3,4]),([5],[5]),([6],[6]),([7],[7]),([1,8],[1,8]),([0,1,2,3,4,5,6,7,8,9],[]),([10,9,9,0,1,2,3,4,5,6,7,8,9],[9,10])])
def newelref19_View.B6:List Nat:=[0,1,0,4,0,28,60,124,252,511,1023,2047]
theorem newelref19_View.V4:rtab .any (opsOf Try.f41 6)=newelref19_View.T6:=by kernel_rfl
theorem newelref19_View.Kv:Zq newelref19_View.T6.2 newelref19_View.B6=true:=by kernel_rfl
theorem newelref19_View.calls (k:Nat) (ρ:Option Addr) (μ :Nat) (B:List (S36)) (ξ :Option Addr) (ν :Nat) (J:List (S86)) (Z:Int) (r1:List Int) (r2:List Int) (r3:List Int) (w:World) (ak:Kd.C k36 w ρ B.length B) (au:B.length ≤ μ) (aw:Kd.C k86 w ξ J.length J) (ax:J.length ≤ ν) (h:newelref19_View.f k B J Z=some (r1,r2,r3)):
 Calls Try.prog 41 #[.agg #[.slice ρ B.length μ,.slice ξ J.length ν],nI Z] w fun e w'=>∃ b3 d7 de:Value,e = .returned (.agg #[b3,d7,de])∧Kd.R (Kd.int .i64) 3 w' w.heap.size (fun k_=>some k_≠(d7:Value).ownBlock∧some k_≠(de:Value).ownBlock) b3 r1∧Kd.R (Kd.int .i64) 3 w' w.heap.size (fun k_=>some k_≠(b3:Value).ownBlock∧some k_≠(de:Value).ownBlock) d7 r2∧Kd.R (Kd.int .i64) 3 w' w.heap.size (fun k_=>some k_≠(b3:Value).ownBlock∧some k_≠(d7:Value).ownBlock) de r3∧Below w.heap.size w w':=by
 have d0:=Try.underlying50
 have gq:=Try.underlying34
 have cg:=Try.underlying36
 have av:=aK ak
 have bl:=aK au
 clear ak au
 have bk:=aK aw
 have d9:=aK ax
 clear aw ax
 have HB:=aK (Below.refl w.heap.size w)
 have H:(newelref19_View.l0 k Z 0 B J ([]:List Int))=some (r1,r2,r3):=h
 clear h
 have H':=aK H
 clear H
 go_enter Try.func41,Try.ntmps41
 go_wp2_with (first|((with_reducible refine Qe (N:=2) rfl ?_);refine qE 2 #[.slice ρ B.length μ,.slice ξ J.length ν] 50 ?_;intro b4 hg w3 hbox hb;have δ :=aK hbox;have nr:=sGe hg;have ns:=sGe hg;replace HB:=sHb hb;clear hb hbox hg)|((with_reducible refine Qe (N:=4) rfl ?_);refine qE 4 #[.slice none 0 0,.slice none 0 0,.slice none 0 0] 34 ?_;intro ba hg w4 hbox hb;have θ :=aK hbox;have nt:=sGe hg;have nu:=sGe hg;have bb:=sNl δ hg;have be:=sNg δ hg;replace δ :=sBk δ hb;replace HB:=sHb hb;clear hb hbox hg)|((with_reducible refine Qe (N:=5) rfl ?_);refine qE 5 #[.slice none 0 0,.slice none 0 0,.slice none 0 0] 34 ?_;intro an hg w5 hbox hb;have O:=aK hbox;have nv:=sGe hg;have nw:=sGe hg;have ψ :=sNl δ hg;have ω :=sNg δ hg;have aj:=sNl θ hg;have am:=sNg θ hg;replace δ :=sBk δ hb;replace θ :=sBk θ hb;replace HB:=sHb hb;clear hb hbox hg;have dd:= ω.out;have dt:= ψ.out;have da:=am.out;have dk:=aj.out;obtain⟨ac,ae,ab,ah,al,b5⟩:=qD3 O.out))
 go_loopg [6] k (fun kq v6 w'=>∃ (Y:Int) (φ :List Int) (η :Value),v6=nI Y∧Aside0 (newelref19_View.l0 kq Z Y B J φ = some (r1,r2,r3))∧Aside0 (kq≤k)∧Aside0 (Kd.R (Kd.int .i64) 3 w' w.heap.size (fun _=>True) η φ)∧Aside0 (w'.heap[b4]?=some (.cells #[(.slice ρ B.length μ),(.slice ξ J.length ν)] 50 (0,0)))∧Aside0 (w'.heap[ba]?=some (.cells #[(.slice none 0 0),(.slice none 0 0),(.slice none 0 0)] 34 (0,0)))∧Aside0 (w'.heap[an]?=some (.cells #[η,(.slice none 0 0),(.slice none 0 0)] 34 (0,0)))∧Aside0 (Below w.heap.size w w'))
 case atStart=>exact⟨(0),(([]:List Int)),(.slice none 0 0),qR,H',⟨Nat.le_refl _⟩,⟨by first|exact Kd.Xy _ _ _ _ _|exact Kd.Yr _ _ _ _ _|exact Kd.Yo _ _ _ _ _|exact Kd.Yq _ _ _ _ _|exact Kd.Yp _ _ _ _ _⟩,⟨bka δ⟩,⟨bka θ⟩,⟨by(with_reducible repeat first|refine Qi ?_ _|refine Qd ?_|refine Qh ?_ _);refine Qo (cs:=#[.slice none 0 0,.slice none 0 0,.slice none 0 0]) ?_ 2 _ rfl;(with_reducible repeat first|refine Qi ?_ _|refine Qd ?_|refine Qh ?_ _);refine Qo (cs:=#[.slice none 0 0,.slice none 0 0,.slice none 0 0]) ?_ 1 _ rfl;(with_reducible repeat first|refine Qi ?_ _|refine Qd ?_|refine Qh ?_ _);refine Qo (cs:=#[.slice none 0 0,.slice none 0 0,.slice none 0 0]) ?_ 0 _ rfl;(with_reducible repeat first|refine Qi ?_ _|refine Qd ?_|refine Qh ?_ _);exact O.out⟩,⟨bel⟩⟩
 case round=>
  clear H'
  try clear ac
  try clear ae
  try clear ab
  try clear ah
  try clear al
  try clear b5
  obtain⟨Y,φ,η,rfl,HA,af,γ,δ,θ,O,HB⟩:=hrel
  cases gk with
  |zero=>exact absurd HA.out (by simp[newelref19_View.l0])
  |succ k1=>
   have H:=HA.out
   clear HA
   simp only[newelref19_View.l0] at H
   by_cases c9:Y<(J.length:Int)
   ·rw[if_pos c9] at H
    have c9b0:=decide_eq_true c9
    clear c9
    by_cases c10:0≤Y
    ·rw[if_pos c10] at H
     have c10b0:=decide_eq_true c10
     clear c10
     by_cases a5:((Qp J Y).f0)=Z
     ·rw[if_pos a5] at H
      have c11b0:(((Qp J Y).f0)==Z)=true:=beq_iff_eq.mpr a5
      have c11b1:(((Qp J Y).f0) != Z)=false:=bne_eq_false_iff_eq.mpr a5
      clear a5
      by_cases a3: φ.length<17592186044416
      ·rw[if_pos a3] at H
       have ew:=aK a3
       clear a3
       obtain⟨di,cp⟩:∃ y_:List Int,y_=(φ ++ [(Qp J Y).f1]):=⟨_,rfl⟩
       replace H:(newelref19_View.l0 k1 Z (wrap64 (Y+1)) B J di)=some (r1,r2,r3):=by first|(rw[cp];with_reducible exact H)|(have ag:=(Option.bind_some _ _).symm.trans H;rw[cp];with_reducible exact ag)|(have ag:=(Option.bind_some _ _).symm.trans H;with_reducible exact ag)|with_reducible exact H|(rw[cp];exact H)|exact H
       have ey:=aK cp
       clear cp
       have H':=aK H
       clear H
       have ga:=bb.out
       have gb:=be.out
       have e5:= ψ.out
       have e6:= ω.out
       obtain⟨bf,bp,bu,bw⟩:=qD2 δ.out
       have cj:0≤(Y:Int):=of_decide_eq_true (by assumption)
       have cm:Y<(J.length:Int):=of_decide_eq_true (by assumption)
       obtain⟨bz,dj,bs,bv⟩:=Xi bk.out Y cj cm
       cases dj
       replace bs:=sCl HB bs
       replace bv:=sCl HB bv
       replace cj:=eq_true cj
       replace cm:=eq_true cm
       try go_wp2
       replace γ:=aK (Kd.Qu γ.out)
       replace δ :=aK (Qd δ.out)
       replace θ :=aK (Qd θ.out)
       replace O:=aK (Qd O.out)
       replace HB:=aK (Qj HB.out)
       have dl:0≤(Y:Int):=of_decide_eq_true (by assumption)
       have dm:Y<(J.length:Int):=of_decide_eq_true (by assumption)
       obtain⟨fi,gn,ca,cd⟩:=Xi bk.out Y dl dm
       have ce:=cd
       have cf:=ca
       obtain rfl:bz=fi:=(by injection gn)
       replace ca:=sCl HB ca
       replace cd:=sCl HB cd
       replace dl:=eq_true dl
       replace dm:=eq_true dm
       refine Zg (n:=12) (S:=fun w'=>w'.cell? ⟨an,0,none⟩=some (η)∧w'.cell? ⟨an,1,none⟩=some (.slice none 0 0)∧w'.cell? ⟨an,2,none⟩=some (.slice none 0 0)∧w'.cell? ⟨b4,0,none⟩=some (.slice ρ B.length μ)∧w'.cell? ⟨b4,1,none⟩=some (.slice (some bz) J.length ν)∧w'.cell? (bz.add ((Y).toNat * 2))=some (nI ((Qp J Y).f0))∧w'.cell? ⟨(bz.add ((Y).toNat * 2)).block,(bz.add ((Y).toNat * 2)).off+1,none⟩=some (nI ((Qp J Y).f1))) (ds:=[11]) #[false,false,false,false,false,false,false,false,false,false,false,false] kr rfl rfl ⟨(Qa O.out 0).trans rfl,(Qa O.out 1).trans rfl,(Qa O.out 2).trans rfl,(Qa δ.out 0).trans rfl,(Qa δ.out 1).trans rfl,(sCl HB cf),(sCl HB ce)⟩ (fun hHeld=>?_);refine Zb newelref19_View.V4 newelref19_View.Kv (fun HT_ HW_=>?_)
       generalize wr.drew=cr at γ δ θ O HB ca cd hHeld ⊢
       refine qP 0 (some 25) (bN 12 1) HT_ ?_
       refine qP 2 (some 27) (bN 12 5) HT_ ?_
       refine qP 4 (some 29) (bN 12 21) HT_ ?_
       refine qT 1 (some 26) (bN 12 23) HT_ HW_ hHeld ?_
       refine qT 3 (some 28) (bN 12 31) HT_ HW_ hHeld ?_
       refine qP 5 (some 30) (bN 12 63) HT_ ?_
       refine qP 6 (some 31) (bN 12 127) HT_ ?_
       refine qT 7 (some 32) (bN 12 255) HT_ HW_ hHeld ?_
       refine qK 8 (some 33) (bN 12 511) HT_ fun K hK=>?_
       refine Cz (w1:=?_) (v:=?_) (by rfl) rfl ?_ ?_
       rotate_left 2
       ·go_simp
        constructor
        ·rfl
        ·rfl
       refine hK.out _ _ ⟨(Qa (Qh O.out _) 0).trans rfl,(Qa (Qh O.out _) 1).trans rfl,(Qa (Qh O.out _) 2).trans rfl,(Qa (Qh δ.out _) 0).trans rfl,(Qa (Qh δ.out _) 1).trans rfl,(World.cell?_alloc_lt _ _ _ (World.block_lt_of_cell? _ _ ((sCl HB cf)))).trans ((sCl HB cf)),(World.cell?_alloc_lt _ _ _ (World.block_lt_of_cell? _ _ ((sCl HB ce)))).trans ((sCl HB ce))⟩ (fun hHeld=>?_)
       clear hK K
       refine qN (some 33) ?_
       refine qK 9 (some 34) (bN 12 1023) HT_ fun K hK=>?_
       refine Kd.V7 (Kd.int .i64) (w0:=w) w.heap.size (by rfl) (.tmp 26) (.tmp 33) 32 3 (nI 0) 8 rfl Try.underlying32 Kt rfl (by decide) (by omega) η φ ((Qp J Y).f1) [nI ((Qp J Y).f1)] (fun _=>True) (fun _=>False) rfl rfl ?aP (fun _ hk=>hk.elim) ?aF ?aO ?aB ?aS ?aL ?_
       (case aP=>exact rfl)
       (case aB=>exact HB.out)
       (case aF=>exact(fun _ _=>trivial))
       (case aO=>exact γ.out)
       (case aS=>exact(Qm HB.out))
       (case aL=>have:=ew.out;omega)
       intro o8 cv ho hb hg hat
       rw[← ey.out] at ho
       have ej:=aK ho
       replace δ :=aK (Qy (g:=b4) (o:=.cells #[.slice ρ B.length μ,.slice (some bz) J.length ν] 50 (0,0)) δ.out hg (Kd.Zo γ.out δ.out (by decide)))
       replace θ :=aK (Qy (g:=ba) (o:=.cells #[.slice none 0 0,.slice none 0 0,.slice none 0 0] 34 (0,0)) θ.out hg (Kd.Zo γ.out θ.out (by decide)))
       replace O:=aK (Qy (g:=an) (o:=.cells #[η,.slice none 0 0,.slice none 0 0] 34 (0,0)) O.out hg (Kd.Zo γ.out O.out (by decide)))
       replace HB:=aK hb
       clear γ
       clear ho hb hg hat
       obtain⟨du,d3,bm⟩:=Kd.Q7 ej.out
       (first|subst bm|(injection bm with a9 ao aa;have ap:=a9.symm;have ar:=aa.symm;clear a9 ao aa;subst ap;subst ar))
       refine hK.out _ _ ⟨qc O,qc O,qc O,qc δ,qc δ,(sCl HB cf),(sCl HB ce)⟩ (fun hHeld=>?_)
       clear hK K
       refine qN (some 34) ?_
       refine qP 10 (some 35) (bN 12 2047) HT_ ?_
       refine Cs (i:=11) (N:=none) #[true,true,true,true,true,true,true,true,true,true,true,true] rfl rfl (Lx HT_.out kr) (by decide) (fun K hK=>?_)
       have o9:cv.cell? ⟨an,0,none⟩=some (η):=(Qa O.out 0).trans rfl
       have nx:=Qg O.out 0
       have m9:= ψ.out
       have ma:=aj.out
       have mb:= ω.out
       have mc:=am.out
       refine K9 (w1:=?_) (by rfl) rfl ?_ ?_
       rotate_left
       ·go_simp
        rfl
       refine hK.out _ _ ?_
       clear hK K
       refine Zl (Ze HT_.out kr) ?_
       try go_wp2
       go_roundg k1
       case measure=>have:=af.out;omega
       case rel=>exact⟨(wrap64 (Y+1)),(di),(.slice du di.length d3),qR,H',⟨by have:=af.out;omega⟩,⟨by(with_reducible repeat first|apply Kd.Qs|apply Kd.Qr|apply Kd.Qu);exact Kd.Qv (Kd.Qx (Kd.Q4 ej.out O.out (by decide)) (fun _ hk=>hk.2) _) (fun _ hk=>trivial)⟩,⟨bka δ⟩,⟨bka θ⟩,⟨by(with_reducible repeat first|refine Qi ?_ _|refine Qd ?_|refine Qh ?_ _);refine Qo (cs:=#[η,.slice none 0 0,.slice none 0 0]) ?_ 0 _ rfl;(with_reducible repeat first|refine Qi ?_ _|refine Qd ?_|refine Qh ?_ _);exact O.out⟩,⟨bel⟩⟩
      ·rw[if_neg a3] at H
       exact absurd H (by simp)
     ·rw[if_neg a5] at H
      have c11b0:(((Qp J Y).f0)==Z)=false:=beq_eq_false_iff_ne.mpr a5
      have c11b1:(((Qp J Y).f0) != Z)=true:=bne_iff_ne.mpr a5
      have H':=aK H
      clear H
      have eu:=bb.out
      have ev:=be.out
      have em:= ψ.out
      have en:= ω.out
      obtain⟨az,b0,b1,b2⟩:=qD2 δ.out
      have cj:0≤(Y:Int):=of_decide_eq_true (by assumption)
      have cm:Y<(J.length:Int):=of_decide_eq_true (by assumption)
      obtain⟨bz,dj,bs,bv⟩:=Xi bk.out Y cj cm
      cases dj
      replace bs:=sCl HB bs
      replace bv:=sCl HB bv
      replace cj:=eq_true cj
      replace cm:=eq_true cm
      go_wp2
      go_roundg k1
      case measure=>have:=af.out;omega
      case rel=>exact⟨(wrap64 (Y+1)),(φ),(η),rfl,H',⟨by have:=af.out;omega⟩,⟨by(with_reducible repeat first|apply Kd.Qs|apply Kd.Qr|apply Kd.Qu);exact γ.out⟩,δ,θ,O,HB⟩
    ·rw[if_neg c10] at H
     exact absurd H (by simp)
   ·rw[if_neg c9] at H
    have c9b0:=decide_eq_false c9
    clear c9
    have H':=aK H
    clear H
    have d2:=bb.out
    have dx:=be.out
    have dy:= ψ.out
    have dz:= ω.out
    obtain⟨b8,bn,bq,br⟩:=qD2 δ.out
    go_wp2
    go_loopg [7] k1 (fun kq v7 w'=>∃ (X:Int) (χ :List Int) (κ :List Int) (τ :Value) (ι :Value),v7=nI X∧Aside0 (newelref19_View.l1 kq Z X B J φ χ κ = some (r1,r2,r3))∧Aside0 (kq≤k1)∧Aside0 (Kd.R (Kd.int .i64) 3 w' w.heap.size (fun k_=>some k_≠(τ :Value).ownBlock∧some k_≠(ι :Value).ownBlock) η φ)∧Aside0 (Kd.R (Kd.int .i64) 3 w' w.heap.size (fun k_=>some k_≠(η :Value).ownBlock∧some k_≠(ι :Value).ownBlock) τ χ)∧Aside0 (Kd.R (Kd.int .i64) 3 w' w.heap.size (fun k_=>some k_≠(η :Value).ownBlock∧some k_≠(τ :Value).ownBlock) ι κ)∧Aside0 (w'.heap[b4]?=some (.cells #[(.slice ρ B.length μ),(.slice ξ J.length ν)] 50 (0,0)))∧Aside0 (w'.heap[ba]?=some (.cells #[(.slice none 0 0),(.slice none 0 0),(.slice none 0 0)] 34 (0,0)))∧Aside0 (w'.heap[an]?=some (.cells #[η,τ,ι] 34 (0,0)))∧Aside0 (Below w.heap.size w w'))
    case atStart=>exact⟨(0),(([]:List Int)),(([]:List Int)),(.slice none 0 0),(.slice none 0 0),rfl,H',⟨Nat.le_refl _⟩,⟨by(with_reducible repeat first|apply Kd.Qs|apply Kd.Qr|apply Kd.Qu);exact Kd.Qv γ.out (fun _ hk=>⟨(by simp[Value.ownBlock]),(by simp[Value.ownBlock])⟩)⟩,⟨by first|exact Kd.Xy _ _ _ _ _|exact Kd.Yr _ _ _ _ _|exact Kd.Yo _ _ _ _ _|exact Kd.Yq _ _ _ _ _|exact Kd.Yp _ _ _ _ _⟩,⟨by first|exact Kd.Xy _ _ _ _ _|exact Kd.Yr _ _ _ _ _|exact Kd.Yo _ _ _ _ _|exact Kd.Yq _ _ _ _ _|exact Kd.Yp _ _ _ _ _⟩,δ,θ,O,HB⟩
    case round=>
     clear H'
     try clear c9b0
     try clear b8
     try clear bn
     try clear ac
     try clear ae
     try clear ab
     try clear bq
     try clear br
     try clear ah
     try clear al
     try clear b5
     obtain⟨X,χ,κ,τ,ι,rfl,HA,b7,γ,ζ,ε,δ,θ,O,HB⟩:=hrel
     cases gk with
     |zero=>exact absurd HA.out (by simp[newelref19_View.l1])
     |succ k2=>
      have H:=HA.out
      clear HA
      simp only[newelref19_View.l1] at H
      by_cases ay:X<(B.length:Int)
      ·rw[if_pos ay] at H
       have c26b0:=decide_eq_true ay
       clear ay
       by_cases bd:0≤X
       ·rw[if_pos bd] at H
        have c27b0:=decide_eq_true bd
        clear bd
        have e0:=aK H
        clear H
        have e7:=bb.out
        have e8:=be.out
        have dw:= ψ.out
        have ea:= ω.out
        obtain⟨bj,ck,cn,co⟩:=qD2 δ.out
        have d8:0≤(X:Int):=of_decide_eq_true (by assumption)
        have db:X<(B.length:Int):=of_decide_eq_true (by assumption)
        obtain⟨ch,gz,cx,cy,d1⟩:=Z4 av.out X d8 db
        cases gz
        replace cx:=sCl HB cx
        replace cy:=sCl HB cy
        replace d1:=sCl HB d1
        replace d8:=eq_true d8
        replace db:=eq_true db
        go_upto_region 11 with(first|((with_reducible refine Qe (N:=8) rfl ?_);refine qE 8 #[nI 0,nI 0,nI 0] 36 ?_;intro ci hg bi hbox hb;have σ:=aK hbox;have ny:=sGe hg;have nz:=sGe hg;have a0:=sNl δ hg;have a2:=sNg δ hg;have a4:=sNl θ hg;have a6:=sNg θ hg;have a7:=sNl O hg;have a8:=sNg O hg;replace γ:=sRb γ hb;replace ζ :=sRb ζ hb;replace ε :=sRb ε hb;replace δ :=sBk δ hb;replace θ :=sBk θ hb;replace O:=sBk O hb;replace HB:=sHb hb;clear hb hbox hg;have gx:=a2.out;have gy:=a0.out;have k8:=a6.out;have k9:=a4.out;have ix:=a8.out;have iy:=a7.out;obtain⟨dv,ee,fb,ef,eg,gw⟩:=qD3 σ.out))
        (try simp only[Act.put,qS])
        go_cut [56] (fun np wc=>∃ (kq:Nat) (cq:Bool),np = .bool cq∧Aside0 (newelref19_View.j2 kq Z X cq B J φ χ κ ((Qb B X).f0) ((Qb B X).f1) ((Qb B X).f2)=some (r1,r2,r3))∧Aside0 (kq≤k2)∧Aside0 (Kd.R (Kd.int .i64) 3 wc w.heap.size (fun k_=>some k_≠(τ :Value).ownBlock∧some k_≠(ι :Value).ownBlock) η φ)∧Aside0 (Kd.R (Kd.int .i64) 3 wc w.heap.size (fun k_=>some k_≠(η :Value).ownBlock∧some k_≠(ι :Value).ownBlock) τ χ)∧Aside0 (Kd.R (Kd.int .i64) 3 wc w.heap.size (fun k_=>some k_≠(η :Value).ownBlock∧some k_≠(τ :Value).ownBlock) ι κ)∧Aside0 (wc.heap[b4]?=some (.cells #[(.slice (some ch) B.length μ),(.slice ξ J.length ν)] 50 (0,0)))∧Aside0 (wc.heap[ba]?=some (.cells #[(.slice none 0 0),(.slice none 0 0),(.slice none 0 0)] 34 (0,0)))∧Aside0 (wc.heap[an]?=some (.cells #[η,τ,ι] 34 (0,0)))∧Aside0 (wc.heap[ci]?=some (.cells #[nI ((Qb B X).f0),nI ((Qb B X).f1),nI ((Qb B X).f2)] 36 (0,0)))∧Aside0 (Below w.heap.size w wc))
        case first=>
         have H:=e0.out
         clear e0
         by_cases df:((Qb B X).f2)=Z
         ·rw[if_pos df] at H
          have c37b0:(((Qb B X).f2)==Z)=true:=beq_iff_eq.mpr df
          have c37b1:(((Qb B X).f2) != Z)=false:=bne_eq_false_iff_eq.mpr df
          clear df
          (first|rw[c37b0]|(simp only[Zy,Z8];rw[c37b0])|skip)
          have H':=aK H
          clear H
          have eh:=a2.out
          have gt:=a0.out
          have e9:=a6.out
          have iu:=a4.out
          have cz:=a8.out
          have fo:=a7.out
          obtain⟨dn,dp,gu,dq,dr,gv⟩:=qD3 σ.out
          go_wp2
          go_meet
          case rel=>exact⟨_,((((Qb B X).f1)==1)),qR,H',⟨by have:=af.out;have:=b7.out;first|omega|exact Nat.le_refl _⟩,⟨by(with_reducible repeat first|apply Kd.Qs|apply Kd.Qr|apply Kd.Qu);exact Kd.Qv (Kd.Qx (Kd.Qx (Kd.Qx (Kd.Q4 γ.out σ.out (by decide)) (fun _ hk=>hk.2) (nI ((Qb B X).f0))) (fun _ hk=>hk.2) (nI ((Qb B X).f1))) (fun _ hk=>hk.2) (nI ((Qb B X).f2))) (fun _ hk=>⟨hk.1.1,hk.1.2⟩)⟩,⟨by(with_reducible repeat first|apply Kd.Qs|apply Kd.Qr|apply Kd.Qu);exact Kd.Qv (Kd.Qx (Kd.Qx (Kd.Qx (Kd.Q4 ζ.out σ.out (by decide)) (fun _ hk=>hk.2) (nI ((Qb B X).f0))) (fun _ hk=>hk.2) (nI ((Qb B X).f1))) (fun _ hk=>hk.2) (nI ((Qb B X).f2))) (fun _ hk=>⟨hk.1.1,hk.1.2⟩)⟩,⟨by(with_reducible repeat first|apply Kd.Qs|apply Kd.Qr|apply Kd.Qu);exact Kd.Qv (Kd.Qx (Kd.Qx (Kd.Qx (Kd.Q4 ε.out σ.out (by decide)) (fun _ hk=>hk.2) (nI ((Qb B X).f0))) (fun _ hk=>hk.2) (nI ((Qb B X).f1))) (fun _ hk=>hk.2) (nI ((Qb B X).f2))) (fun _ hk=>⟨hk.1.1,hk.1.2⟩)⟩,⟨bka δ⟩,⟨bka θ⟩,⟨bka O⟩,⟨by(with_reducible repeat first|refine Qi ?_ _|refine Qd ?_|refine Qh ?_ _);refine Qo (cs:=#[nI ((Qb B X).f0),nI ((Qb B X).f1),nI 0]) ?_ 2 _ rfl;(with_reducible repeat first|refine Qi ?_ _|refine Qd ?_|refine Qh ?_ _);refine Qo (cs:=#[nI ((Qb B X).f0),nI 0,nI 0]) ?_ 1 _ rfl;(with_reducible repeat first|refine Qi ?_ _|refine Qd ?_|refine Qh ?_ _);refine Qo (cs:=#[nI 0,nI 0,nI 0]) ?_ 0 _ rfl;(with_reducible repeat first|refine Qi ?_ _|refine Qd ?_|refine Qh ?_ _);exact σ.out⟩,⟨bel⟩⟩
         ·rw[if_neg df] at H
          have c37b0:(((Qb B X).f2)==Z)=false:=beq_eq_false_iff_ne.mpr df
          have c37b1:(((Qb B X).f2) != Z)=true:=bne_iff_ne.mpr df
          (first|rw[c37b0]|(simp only[Zy,Z8];rw[c37b0])|skip)
          have H':=aK H
          clear H
          have ic:=a2.out
          have ie:=a0.out
          have ez:=a6.out
          have f7:=a4.out
          have i1:=a8.out
          have i2:=a7.out
          obtain⟨i3,i4,jx,i5,i6,jy⟩:=qD3 σ.out
          go_wp2
          go_meet
          case rel=>exact⟨_,(false),qR,H',⟨by have:=af.out;have:=b7.out;first|omega|exact Nat.le_refl _⟩,⟨by(with_reducible repeat first|apply Kd.Qs|apply Kd.Qr|apply Kd.Qu);exact Kd.Qv (Kd.Qx (Kd.Qx (Kd.Qx (Kd.Q4 γ.out σ.out (by decide)) (fun _ hk=>hk.2) (nI ((Qb B X).f0))) (fun _ hk=>hk.2) (nI ((Qb B X).f1))) (fun _ hk=>hk.2) (nI ((Qb B X).f2))) (fun _ hk=>⟨hk.1.1,hk.1.2⟩)⟩,⟨by(with_reducible repeat first|apply Kd.Qs|apply Kd.Qr|apply Kd.Qu);exact Kd.Qv (Kd.Qx (Kd.Qx (Kd.Qx (Kd.Q4 ζ.out σ.out (by decide)) (fun _ hk=>hk.2) (nI ((Qb B X).f0))) (fun _ hk=>hk.2) (nI ((Qb B X).f1))) (fun _ hk=>hk.2) (nI ((Qb B X).f2))) (fun _ hk=>⟨hk.1.1,hk.1.2⟩)⟩,⟨by(with_reducible repeat first|apply Kd.Qs|apply Kd.Qr|apply Kd.Qu);exact Kd.Qv (Kd.Qx (Kd.Qx (Kd.Qx (Kd.Q4 ε.out σ.out (by decide)) (fun _ hk=>hk.2) (nI ((Qb B X).f0))) (fun _ hk=>hk.2) (nI ((Qb B X).f1))) (fun _ hk=>hk.2) (nI ((Qb B X).f2))) (fun _ hk=>⟨hk.1.1,hk.1.2⟩)⟩,⟨bka δ⟩,⟨bka θ⟩,⟨bka O⟩,⟨by(with_reducible repeat first|refine Qi ?_ _|refine Qd ?_|refine Qh ?_ _);refine Qo (cs:=#[nI ((Qb B X).f0),nI ((Qb B X).f1),nI 0]) ?_ 2 _ rfl;(with_reducible repeat first|refine Qi ?_ _|refine Qd ?_|refine Qh ?_ _);refine Qo (cs:=#[nI ((Qb B X).f0),nI 0,nI 0]) ?_ 1 _ rfl;(with_reducible repeat first|refine Qi ?_ _|refine Qd ?_|refine Qh ?_ _);refine Qo (cs:=#[nI 0,nI 0,nI 0]) ?_ 0 _ rfl;(with_reducible repeat first|refine Qi ?_ _|refine Qd ?_|refine Qh ?_ _);exact σ.out⟩,⟨bel⟩⟩
        case rest=>
         clear e0
         try clear c9b0
         try clear c26b0
         try clear c27b0
         try clear b8
         try clear bn
         try clear bj
         try clear ck
         try clear dv
         try clear ee
         try clear fb
         try clear ac
         try clear ae
         try clear ab
         try clear bq
         try clear br
         try clear cn
         try clear co
         try clear ef
         try clear eg
         try clear gw
         try clear ah
         try clear al
         try clear b5
         try clear cx
         try clear cy
         try clear d1
         try clear d8
         try clear db
         obtain⟨kq,cq,rfl,HA,bg,γ,ζ,ε,δ,θ,O,σ,HB⟩:=hcut
         cases kq with
         |zero=>exact absurd HA.out (by simp[newelref19_View.j2])
         |succ bh=>
          have H:=HA.out
          clear HA
          simp only[newelref19_View.j2] at H
          by_cases bo:cq=true
          ·subst bo
           rw[if_pos rfl] at H
           by_cases cb: χ.length<17592186044416
           ·rw[if_pos cb] at H
            have dc:=aK cb
            clear cb
            obtain⟨ai,ct⟩:∃ y_:List Int,y_=(χ ++ [((Qb B X).f0)]):=⟨_,rfl⟩
            replace H:(if ((Qb B X).f2)=Z then (if ((Qb B X).f1)=(-1) then (if κ.length<17592186044416 then (newelref19_View.l1 bh Z (wrap64 (X+1)) B J φ ai (κ ++ [((Qb B X).f0)])) else (none)) else (newelref19_View.l1 bh Z (wrap64 (X+1)) B J φ ai κ)) else (newelref19_View.l1 bh Z (wrap64 (X+1)) B J φ ai κ))=some (r1,r2,r3):=by first|(rw[ct];with_reducible exact H)|(have ag:=(Option.bind_some _ _).symm.trans H;rw[ct];with_reducible exact ag)|(have ag:=(Option.bind_some _ _).symm.trans H;with_reducible exact ag)|with_reducible exact H|(rw[ct];exact H)|exact H
            have dh:=aK ct
            clear ct
            by_cases bc:((Qb B X).f2)=Z
            ·rw[if_pos bc] at H
             have c48b0:(((Qb B X).f2)==Z)=true:=beq_iff_eq.mpr bc
             have c48b1:(((Qb B X).f2) != Z)=false:=bne_eq_false_iff_eq.mpr bc
             clear bc
             by_cases b6:((Qb B X).f1)=(-1)
             ·rw[if_pos b6] at H
              have c49b0:(((Qb B X).f1)==(-1))=true:=beq_iff_eq.mpr b6
              have c49b1:(((Qb B X).f1) != (-1))=false:=bne_eq_false_iff_eq.mpr b6
              clear b6
              by_cases el: κ.length<17592186044416
              ·rw[if_pos el] at H
               have fj:=aK el
               clear el
               obtain⟨e3,cu⟩:∃ y_:List Int,y_=(κ ++ [((Qb B X).f0)]):=⟨_,rfl⟩
               replace H:(newelref19_View.l1 bh Z (wrap64 (X+1)) B J φ ai e3)=some (r1,r2,r3):=by first|(rw[cu];with_reducible exact H)|(have ag:=(Option.bind_some _ _).symm.trans H;rw[cu];with_reducible exact ag)|(have ag:=(Option.bind_some _ _).symm.trans H;with_reducible exact ag)|with_reducible exact H|(rw[cu];exact H)|exact H
               have fp:=aK cu
               clear cu
               have H':=aK H
               clear H
               have gg:= ω.out
               have gh:= ψ.out
               have iv:=am.out
               have iw:=aj.out
               have o0:=a7.out
               have o1:=a8.out
               obtain⟨ig,ih,il,im,io,ip⟩:=qD3 O.out
               have lh:=a2.out
               have lq:=a0.out
               have lr:=a6.out
               have ls:=a4.out
               obtain⟨iq,ir,kn,jb,jo,ko⟩:=qD3 σ.out
               go_wp2_with (first|((with_reducible refine Z3 (b:=.append) (xs:=#[.tmp 58,.tmp 61]) rfl ?_);at_builtin;refine Kd.X7 (Kd.int .i64) (w0:=w) w.heap.size rfl (.tmp 58) (.tmp 61) 32 3 (nI 0) 8 rfl Try.underlying32 Kt rfl (by decide) (by omega) τ χ ((Qb B X).f0) [nI ((Qb B X).f0)] (fun k_=>some k_≠(η :Value).ownBlock∧some k_≠(ι :Value).ownBlock) (fun _=>False) rfl rfl ?aP (fun _ hk=>hk.elim) ?aF ?aO ?aB ?aS ?aL ?_;(case aP=>exact rfl);(case aB=>exact bel);(case aF=>exact(fun k_ hk=>⟨Kd.fresh' (Kd.X6 (kra γ)) k_ hk,Kd.fresh' (Kd.X6 (kra ε)) k_ hk⟩));(case aO=>exact(kra ζ));(case aS=>exact(Qm bel));(case aL=>have:=dc.out;omega);intro et na ho hb hg hat;rw[← dh.out] at ho;have b9:=aK ho;replace γ:=aK (Kd.X3 (ok:=(fun k_=>some k_≠(ι :Value).ownBlock)) (by(with_reducible repeat first|apply Kd.Qs|apply Kd.Qr|apply Kd.Qu);exact Kd.Qv γ.out (fun _ hk=>⟨hk.2,hk.1⟩)) hg hat);replace ε :=aK (Kd.X3 (ok:=(fun k_=>some k_≠(η :Value).ownBlock)) (kra ε) hg hat);replace δ :=aK (Qy (g:=b4) (o:=.cells #[.slice (some ch) B.length μ,.slice ξ J.length ν] 50 (0,0)) (bka δ) hg (Kd.Zo ζ.out δ.out (by decide)));replace θ :=aK (Qy (g:=ba) (o:=.cells #[.slice none 0 0,.slice none 0 0,.slice none 0 0] 34 (0,0)) (bka θ) hg (Kd.Zo ζ.out θ.out (by decide)));replace O:=aK (Qy (g:=an) (o:=.cells #[η,τ,ι] 34 (0,0)) (bka O) hg (Kd.Zo ζ.out O.out (by decide)));replace σ:=aK (Qy (g:=ci) (o:=.cells #[nI ((Qb B X).f0),nI ((Qb B X).f1),nI ((Qb B X).f2)] 36 (0,0)) (bka σ) hg (Kd.Zo ζ.out σ.out (by decide)));replace HB:=aK hb;clear ζ;clear ho hb hg hat;obtain⟨d4,d5,ia⟩:=Kd.Q7 b9.out;subst ia;obtain⟨h0,h4,js,h5,h6,jt⟩:=qD3 O.out;obtain⟨j4,j5,l5,j6,ji,l6⟩:=qD3 σ.out)|((with_reducible refine Z3 (b:=.append) (xs:=#[.tmp 74,.tmp 77]) rfl ?_);at_builtin;refine Kd.X7 (Kd.int .i64) (w0:=w) w.heap.size rfl (.tmp 74) (.tmp 77) 32 3 (nI 0) 8 rfl Try.underlying32 Kt rfl (by decide) (by omega) ι κ ((Qb B X).f0) [nI ((Qb B X).f0)] (fun k_=>some k_≠(η :Value).ownBlock∧some k_≠(.slice d4 ai.length d5:Value).ownBlock) (fun _=>False) rfl (by first|(go_simp;done)|(go_simp;rfl)) ?aP (fun _ hk=>hk.elim) ?aF ?aO ?aB ?aS ?aL ?_;(case aP=>exact rfl);(case aB=>exact bel);(case aF=>exact(fun k_ hk=>⟨Kd.fresh' (Kd.X6 (by(with_reducible repeat first|apply Kd.Qs|apply Kd.Qr|apply Kd.Qu);exact(Kd.Qv (Kd.Qx (Kd.Q4 γ.out O.out (by decide)) (fun _ hk=>hk.2) _) (fun _ h_=>h_.1)))) k_ hk,Kd.fresh' (Kd.X6 (by(with_reducible repeat first|apply Kd.Qs|apply Kd.Qr|apply Kd.Qu);exact(Kd.Qv (Kd.Qx (Kd.Q4 b9.out O.out (by decide)) (fun _ hk=>hk.2) _) (fun _ h_=>h_.1)))) k_ hk⟩));(case aO=>exact(by(with_reducible repeat first|apply Kd.Qs|apply Kd.Qr|apply Kd.Qu);exact Kd.Qv (Kd.Qx (Kd.Q4 ε.out O.out (by decide)) (fun _ hk=>hk.2) _) (fun _ hk=>⟨hk.1.1,hk.1.2⟩)));(case aS=>exact(Qm bel));(case aL=>have:=fj.out;omega);intro oa jk ho hb hg hat;rw[← fp.out] at ho;have eo:=aK ho;replace γ:=aK (Kd.X3 (ok:=(fun k_=>some k_≠(.slice d4 ai.length d5:Value).ownBlock)) (by(with_reducible repeat first|apply Kd.Qs|apply Kd.Qr|apply Kd.Qu);exact Kd.Qv (Kd.Qx (Kd.Q4 γ.out O.out (by decide)) (fun _ hk=>hk.2) _) (fun _ hk=>⟨hk.1.2,hk.1.1⟩)) hg hat);replace δ :=aK (Qy (g:=b4) (o:=.cells #[.slice (some ch) B.length μ,.slice ξ J.length ν] 50 (0,0)) (bka δ) hg (Kd.Zo ε.out δ.out (by decide)));replace θ :=aK (Qy (g:=ba) (o:=.cells #[.slice none 0 0,.slice none 0 0,.slice none 0 0] 34 (0,0)) (bka θ) hg (Kd.Zo ε.out θ.out (by decide)));replace σ:=aK (Qy (g:=ci) (o:=.cells #[nI ((Qb B X).f0),nI ((Qb B X).f1),nI ((Qb B X).f2)] 36 (0,0)) (bka σ) hg (Kd.Zo ε.out σ.out (by decide)));replace b9:=aK (Kd.X3 (ok:=(fun k_=>some k_≠(η :Value).ownBlock)) (by(with_reducible repeat first|apply Kd.Qs|apply Kd.Qr|apply Kd.Qu);exact Kd.Qv (Kd.Qx (Kd.Q4 b9.out O.out (by decide)) (fun _ hk=>hk.2) _) (fun _ hk=>⟨hk.1.1,hk.1.2⟩)) hg hat);replace O:=aK (Qy (g:=an) (o:=.cells #[η,.slice d4 ai.length d5,ι] 34 (0,0)) (by(with_reducible repeat first|refine Qi ?_ _|refine Qd ?_|refine Qh ?_ _);refine Qo (cs:=#[η,τ,ι]) ?_ 1 _ rfl;(with_reducible repeat first|refine Qi ?_ _|refine Qd ?_|refine Qh ?_ _);exact O.out) hg (Kd.Zo ε.out O.out (by decide)));replace HB:=aK hb;clear ε;clear ho hb hg hat;obtain⟨iz,jl,jm⟩:=Kd.Q7 eo.out;subst jm;obtain⟨hj,jp,fm,jq,jr,fn⟩:=qD3 O.out))
               go_roundg bh
               case measure=>have:=af.out;have:=b7.out;have:=bg.out;omega
               case rel=>exact⟨(wrap64 (X+1)),(ai),(e3),(.slice d4 ai.length d5),(.slice iz e3.length jl),qR,H',⟨by have:=af.out;have:=b7.out;have:=bg.out;omega⟩,⟨by(with_reducible repeat first|apply Kd.Qs|apply Kd.Qr|apply Kd.Qu);exact Kd.Qv (Kd.Qx (Kd.Q4 γ.out O.out (by decide)) (fun _ hk=>hk.2) _) (fun _ hk=>⟨hk.1.1,hk.1.2⟩)⟩,⟨by(with_reducible repeat first|apply Kd.Qs|apply Kd.Qr|apply Kd.Qu);exact Kd.Qv (Kd.Qx (Kd.Q4 b9.out O.out (by decide)) (fun _ hk=>hk.2) _) (fun _ hk=>⟨hk.1.1,hk.1.2⟩)⟩,⟨by(with_reducible repeat first|apply Kd.Qs|apply Kd.Qr|apply Kd.Qu);exact Kd.Qv (Kd.Qx (Kd.Q4 eo.out O.out (by decide)) (fun _ hk=>hk.2) _) (fun _ hk=>⟨hk.1.1,hk.1.2⟩)⟩,⟨bka δ⟩,⟨bka θ⟩,⟨by(with_reducible repeat first|refine Qi ?_ _|refine Qd ?_|refine Qh ?_ _);refine Qo (cs:=#[η,.slice d4 ai.length d5,ι]) ?_ 2 _ rfl;(with_reducible repeat first|refine Qi ?_ _|refine Qd ?_|refine Qh ?_ _);exact O.out⟩,⟨bel⟩⟩
              ·rw[if_neg el] at H
               exact absurd H (by simp)
             ·rw[if_neg b6] at H
              have c49b0:(((Qb B X).f1)==(-1))=false:=beq_eq_false_iff_ne.mpr b6
              have c49b1:(((Qb B X).f1) != (-1))=true:=bne_iff_ne.mpr b6
              have H':=aK H
              clear H
              have fw:= ω.out
              have fx:= ψ.out
              have k7:=am.out
              have ki:=aj.out
              have ka:=a7.out
              have kb:=a8.out
              obtain⟨fv,gi,gj,kt,ku,kv⟩:=qD3 O.out
              have lv:=a2.out
              have lw:=a0.out
              have lx:=a6.out
              have ly:=a4.out
              obtain⟨hh,hl,ju,hx,hy,jv⟩:=qD3 σ.out
              go_wp2_with (first|((with_reducible refine Z3 (b:=.append) (xs:=#[.tmp 58,.tmp 61]) rfl ?_);at_builtin;refine Kd.X7 (Kd.int .i64) (w0:=w) w.heap.size rfl (.tmp 58) (.tmp 61) 32 3 (nI 0) 8 rfl Try.underlying32 Kt rfl (by decide) (by omega) τ χ ((Qb B X).f0) [nI ((Qb B X).f0)] (fun k_=>some k_≠(η :Value).ownBlock∧some k_≠(ι :Value).ownBlock) (fun _=>False) rfl rfl ?aP (fun _ hk=>hk.elim) ?aF ?aO ?aB ?aS ?aL ?_;(case aP=>exact rfl);(case aB=>exact HB.out);(case aF=>exact(fun k_ hk=>⟨Kd.fresh' (Kd.X6 γ.out) k_ hk,Kd.fresh' (Kd.X6 ε.out) k_ hk⟩));(case aO=>exact ζ.out);(case aS=>exact(Qm HB.out));(case aL=>have:=dc.out;omega);intro et nb ho hb hg hat;rw[← dh.out] at ho;have b9:=aK ho;replace γ:=aK (Kd.X3 (ok:=(fun k_=>some k_≠(ι :Value).ownBlock)) (by(with_reducible repeat first|apply Kd.Qs|apply Kd.Qr|apply Kd.Qu);exact Kd.Qv γ.out (fun _ hk=>⟨hk.2,hk.1⟩)) hg hat);replace ε :=aK (Kd.X3 (ok:=(fun k_=>some k_≠(η :Value).ownBlock)) ε.out hg hat);replace δ :=aK (Qy (g:=b4) (o:=.cells #[.slice (some ch) B.length μ,.slice ξ J.length ν] 50 (0,0)) δ.out hg (Kd.Zo ζ.out δ.out (by decide)));replace θ :=aK (Qy (g:=ba) (o:=.cells #[.slice none 0 0,.slice none 0 0,.slice none 0 0] 34 (0,0)) θ.out hg (Kd.Zo ζ.out θ.out (by decide)));replace O:=aK (Qy (g:=an) (o:=.cells #[η,τ,ι] 34 (0,0)) O.out hg (Kd.Zo ζ.out O.out (by decide)));replace σ:=aK (Qy (g:=ci) (o:=.cells #[nI ((Qb B X).f0),nI ((Qb B X).f1),nI ((Qb B X).f2)] 36 (0,0)) σ.out hg (Kd.Zo ζ.out σ.out (by decide)));replace HB:=aK hb;clear ζ;clear ho hb hg hat;obtain⟨ec,ed,ek⟩:=Kd.Q7 b9.out;subst ek;obtain⟨fr,ft,me,fu,ge,mf⟩:=qD3 O.out;obtain⟨mj,ml,mg,mm,mo,mh⟩:=qD3 σ.out))
              go_roundg bh
              case measure=>have:=af.out;have:=b7.out;have:=bg.out;omega
              case rel=>exact⟨(wrap64 (X+1)),(ai),(κ),(.slice ec ai.length ed),(ι),qR,H',⟨by have:=af.out;have:=b7.out;have:=bg.out;omega⟩,⟨by(with_reducible repeat first|apply Kd.Qs|apply Kd.Qr|apply Kd.Qu);exact Kd.Qv (Kd.Qx (Kd.Q4 γ.out O.out (by decide)) (fun _ hk=>hk.2) _) (fun _ hk=>⟨hk.1.2,hk.1.1⟩)⟩,⟨by(with_reducible repeat first|apply Kd.Qs|apply Kd.Qr|apply Kd.Qu);exact Kd.Qv (Kd.Qx (Kd.Q4 b9.out O.out (by decide)) (fun _ hk=>hk.2) _) (fun _ hk=>⟨hk.1.1,hk.1.2⟩)⟩,⟨by(with_reducible repeat first|apply Kd.Qs|apply Kd.Qr|apply Kd.Qu);exact Kd.Qv (Kd.Qx (Kd.Q4 ε.out O.out (by decide)) (fun _ hk=>hk.2) _) (fun _ hk=>⟨hk.1.1,hk.1.2⟩)⟩,⟨bka δ⟩,⟨bka θ⟩,⟨by(with_reducible repeat first|refine Qi ?_ _|refine Qd ?_|refine Qh ?_ _);refine Qo (cs:=#[η,τ,ι]) ?_ 1 _ rfl;(with_reducible repeat first|refine Qi ?_ _|refine Qd ?_|refine Qh ?_ _);exact O.out⟩,⟨bel⟩⟩
            ·rw[if_neg bc] at H
             have c48b0:(((Qb B X).f2)==Z)=false:=beq_eq_false_iff_ne.mpr bc
             have c48b1:(((Qb B X).f2) != Z)=true:=bne_iff_ne.mpr bc
             have H':=aK H
             clear H
             have gp:= ω.out
             have hu:= ψ.out
             have ks:=am.out
             have kx:=aj.out
             have o2:=a7.out
             have o3:=a8.out
             obtain⟨mi,mz,n0,n1,n2,n3⟩:=qD3 O.out
             have h9:=a2.out
             have ha:=a0.out
             have kc:=a6.out
             have kd:=a4.out
             obtain⟨jw,jz,k0,k3,k4,k5⟩:=qD3 σ.out
             go_wp2_with (first|((with_reducible refine Z3 (b:=.append) (xs:=#[.tmp 58,.tmp 61]) rfl ?_);at_builtin;refine Kd.X7 (Kd.int .i64) (w0:=w) w.heap.size rfl (.tmp 58) (.tmp 61) 32 3 (nI 0) 8 rfl Try.underlying32 Kt rfl (by decide) (by omega) τ χ ((Qb B X).f0) [nI ((Qb B X).f0)] (fun k_=>some k_≠(η :Value).ownBlock∧some k_≠(ι :Value).ownBlock) (fun _=>False) rfl rfl ?aP (fun _ hk=>hk.elim) ?aF ?aO ?aB ?aS ?aL ?_;(case aP=>exact rfl);(case aB=>exact HB.out);(case aF=>exact(fun k_ hk=>⟨Kd.fresh' (Kd.X6 γ.out) k_ hk,Kd.fresh' (Kd.X6 ε.out) k_ hk⟩));(case aO=>exact ζ.out);(case aS=>exact(Qm HB.out));(case aL=>have:=dc.out;omega);intro et nq ho hb hg hat;rw[← dh.out] at ho;have b9:=aK ho;replace γ:=aK (Kd.X3 (ok:=(fun k_=>some k_≠(ι :Value).ownBlock)) (by(with_reducible repeat first|apply Kd.Qs|apply Kd.Qr|apply Kd.Qu);exact Kd.Qv γ.out (fun _ hk=>⟨hk.2,hk.1⟩)) hg hat);replace ε :=aK (Kd.X3 (ok:=(fun k_=>some k_≠(η :Value).ownBlock)) ε.out hg hat);replace δ :=aK (Qy (g:=b4) (o:=.cells #[.slice (some ch) B.length μ,.slice ξ J.length ν] 50 (0,0)) δ.out hg (Kd.Zo ζ.out δ.out (by decide)));replace θ :=aK (Qy (g:=ba) (o:=.cells #[.slice none 0 0,.slice none 0 0,.slice none 0 0] 34 (0,0)) θ.out hg (Kd.Zo ζ.out θ.out (by decide)));replace O:=aK (Qy (g:=an) (o:=.cells #[η,τ,ι] 34 (0,0)) O.out hg (Kd.Zo ζ.out O.out (by decide)));replace σ:=aK (Qy (g:=ci) (o:=.cells #[nI ((Qb B X).f0),nI ((Qb B X).f1),nI ((Qb B X).f2)] 36 (0,0)) σ.out hg (Kd.Zo ζ.out σ.out (by decide)));replace HB:=aK hb;clear ζ;clear ho hb hg hat;obtain⟨er,f8,fa⟩:=Kd.Q7 b9.out;subst fa;obtain⟨kh,kj,kk,kz,l2,lb⟩:=qD3 O.out;obtain⟨i0,ii,kp,ij,ik,lc⟩:=qD3 σ.out))
             go_roundg bh
             case measure=>have:=af.out;have:=b7.out;have:=bg.out;omega
             case rel=>exact⟨(wrap64 (X+1)),(ai),(κ),(.slice er ai.length f8),(ι),qR,H',⟨by have:=af.out;have:=b7.out;have:=bg.out;omega⟩,⟨by(with_reducible repeat first|apply Kd.Qs|apply Kd.Qr|apply Kd.Qu);exact Kd.Qv (Kd.Qx (Kd.Q4 γ.out O.out (by decide)) (fun _ hk=>hk.2) _) (fun _ hk=>⟨hk.1.2,hk.1.1⟩)⟩,⟨by(with_reducible repeat first|apply Kd.Qs|apply Kd.Qr|apply Kd.Qu);exact Kd.Qv (Kd.Qx (Kd.Q4 b9.out O.out (by decide)) (fun _ hk=>hk.2) _) (fun _ hk=>⟨hk.1.1,hk.1.2⟩)⟩,⟨by(with_reducible repeat first|apply Kd.Qs|apply Kd.Qr|apply Kd.Qu);exact Kd.Qv (Kd.Qx (Kd.Q4 ε.out O.out (by decide)) (fun _ hk=>hk.2) _) (fun _ hk=>⟨hk.1.1,hk.1.2⟩)⟩,⟨bka δ⟩,⟨bka θ⟩,⟨by(with_reducible repeat first|refine Qi ?_ _|refine Qd ?_|refine Qh ?_ _);refine Qo (cs:=#[η,τ,ι]) ?_ 1 _ rfl;(with_reducible repeat first|refine Qi ?_ _|refine Qd ?_|refine Qh ?_ _);exact O.out⟩,⟨bel⟩⟩
           ·rw[if_neg cb] at H
            exact absurd H (by simp)
          ·replace bo:=Bool.eq_false_iff.mpr bo
           subst bo
           rw[if_neg nft] at H
           by_cases d6:((Qb B X).f2)=Z
           ·rw[if_pos d6] at H
            have c87b0:(((Qb B X).f2)==Z)=true:=beq_iff_eq.mpr d6
            have c87b1:(((Qb B X).f2) != Z)=false:=bne_eq_false_iff_eq.mpr d6
            clear d6
            by_cases fc:((Qb B X).f1)=(-1)
            ·rw[if_pos fc] at H
             have c88b0:(((Qb B X).f1)==(-1))=true:=beq_iff_eq.mpr fc
             have c88b1:(((Qb B X).f1) != (-1))=false:=bne_eq_false_iff_eq.mpr fc
             clear fc
             by_cases gr: κ.length<17592186044416
             ·rw[if_pos gr] at H
              have fq:=aK gr
              clear gr
              obtain⟨ei,cw⟩:∃ y_:List Int,y_=(κ ++ [((Qb B X).f0)]):=⟨_,rfl⟩
              replace H:(newelref19_View.l1 bh Z (wrap64 (X+1)) B J φ χ ei)=some (r1,r2,r3):=by first|(rw[cw];with_reducible exact H)|(have ag:=(Option.bind_some _ _).symm.trans H;rw[cw];with_reducible exact ag)|(have ag:=(Option.bind_some _ _).symm.trans H;with_reducible exact ag)|with_reducible exact H|(rw[cw];exact H)|exact H
              have fy:=aK cw
              clear cw
              have H':=aK H
              clear H
              have lu:=a2.out
              have m5:=a0.out
              have o6:=a6.out
              have o7:=a4.out
              have m6:=a8.out
              have m7:=a7.out
              obtain⟨nc,nd,nf,ng,nh,ni⟩:=qD3 σ.out
              have lz:= ω.out
              have m0:= ψ.out
              have o4:=am.out
              have o5:=aj.out
              obtain⟨nj,nk,nl,nm,nn,no⟩:=qD3 O.out
              go_wp2_with (first|((with_reducible refine Z3 (b:=.append) (xs:=#[.tmp 74,.tmp 77]) rfl ?_);at_builtin;refine Kd.X7 (Kd.int .i64) (w0:=w) w.heap.size rfl (.tmp 74) (.tmp 77) 32 3 (nI 0) 8 rfl Try.underlying32 Kt rfl (by decide) (by omega) ι κ ((Qb B X).f0) [nI ((Qb B X).f0)] (fun k_=>some k_≠(η :Value).ownBlock∧some k_≠(τ :Value).ownBlock) (fun _=>False) rfl rfl ?aP (fun _ hk=>hk.elim) ?aF ?aO ?aB ?aS ?aL ?_;(case aP=>exact rfl);(case aB=>exact HB.out);(case aF=>exact(fun k_ hk=>⟨Kd.fresh' (Kd.X6 γ.out) k_ hk,Kd.fresh' (Kd.X6 ζ.out) k_ hk⟩));(case aO=>exact ε.out);(case aS=>exact(Qm HB.out));(case aL=>have:=fq.out;omega);intro ob oc ho hb hg hat;rw[← fy.out] at ho;have ep:=aK ho;replace γ:=aK (Kd.X3 (ok:=(fun k_=>some k_≠(τ :Value).ownBlock)) γ.out hg hat);replace ζ :=aK (Kd.X3 (ok:=(fun k_=>some k_≠(η :Value).ownBlock)) ζ.out hg hat);replace δ :=aK (Qy (g:=b4) (o:=.cells #[.slice (some ch) B.length μ,.slice ξ J.length ν] 50 (0,0)) δ.out hg (Kd.Zo ε.out δ.out (by decide)));replace θ :=aK (Qy (g:=ba) (o:=.cells #[.slice none 0 0,.slice none 0 0,.slice none 0 0] 34 (0,0)) θ.out hg (Kd.Zo ε.out θ.out (by decide)));replace O:=aK (Qy (g:=an) (o:=.cells #[η,τ,ι] 34 (0,0)) O.out hg (Kd.Zo ε.out O.out (by decide)));replace σ:=aK (Qy (g:=ci) (o:=.cells #[nI ((Qb B X).f0),nI ((Qb B X).f1),nI ((Qb B X).f2)] 36 (0,0)) σ.out hg (Kd.Zo ε.out σ.out (by decide)));replace HB:=aK hb;clear ε;clear ho hb hg hat;obtain⟨mq,gl,ky⟩:=Kd.Q7 ep.out;subst ky;obtain⟨fk,fl,ll,h7,h8,lm⟩:=qD3 O.out))
              go_roundg bh
              case measure=>have:=af.out;have:=b7.out;have:=bg.out;omega
              case rel=>exact⟨(wrap64 (X+1)),(χ),(ei),(τ),(.slice mq ei.length gl),qR,H',⟨by have:=af.out;have:=b7.out;have:=bg.out;omega⟩,⟨by(with_reducible repeat first|apply Kd.Qs|apply Kd.Qr|apply Kd.Qu);exact Kd.Qv (Kd.Qx (Kd.Q4 γ.out O.out (by decide)) (fun _ hk=>hk.2) _) (fun _ hk=>⟨hk.1.1,hk.1.2⟩)⟩,⟨by(with_reducible repeat first|apply Kd.Qs|apply Kd.Qr|apply Kd.Qu);exact Kd.Qv (Kd.Qx (Kd.Q4 ζ.out O.out (by decide)) (fun _ hk=>hk.2) _) (fun _ hk=>⟨hk.1.1,hk.1.2⟩)⟩,⟨by(with_reducible repeat first|apply Kd.Qs|apply Kd.Qr|apply Kd.Qu);exact Kd.Qv (Kd.Qx (Kd.Q4 ep.out O.out (by decide)) (fun _ hk=>hk.2) _) (fun _ hk=>⟨hk.1.1,hk.1.2⟩)⟩,⟨bka δ⟩,⟨bka θ⟩,⟨by(with_reducible repeat first|refine Qi ?_ _|refine Qd ?_|refine Qh ?_ _);refine Qo (cs:=#[η,τ,ι]) ?_ 2 _ rfl;(with_reducible repeat first|refine Qi ?_ _|refine Qd ?_|refine Qh ?_ _);exact O.out⟩,⟨bel⟩⟩
             ·rw[if_neg gr] at H
              exact absurd H (by simp)
            ·rw[if_neg fc] at H
             have c88b0:(((Qb B X).f1)==(-1))=false:=beq_eq_false_iff_ne.mpr fc
             have c88b1:(((Qb B X).f1) != (-1))=true:=bne_iff_ne.mpr fc
             have H':=aK H
             clear H
             have mr:=a2.out
             have ms:=a0.out
             have mt:=a6.out
             have mu:=a4.out
             have kl:=a8.out
             have km:=a7.out
             obtain⟨jn,kf,kg,l3,l4,l7⟩:=qD3 σ.out
             go_wp2
             go_roundg bh
             case measure=>have:=af.out;have:=b7.out;have:=bg.out;omega
             case rel=>exact⟨(wrap64 (X+1)),(χ),(κ),(τ),(ι),rfl,H',⟨by have:=af.out;have:=b7.out;have:=bg.out;omega⟩,⟨by(with_reducible repeat first|apply Kd.Qs|apply Kd.Qr|apply Kd.Qu);exact γ.out⟩,⟨by(with_reducible repeat first|apply Kd.Qs|apply Kd.Qr|apply Kd.Qu);exact ζ.out⟩,⟨by(with_reducible repeat first|apply Kd.Qs|apply Kd.Qr|apply Kd.Qu);exact ε.out⟩,δ,θ,O,HB⟩
           ·rw[if_neg d6] at H
            have c87b0:(((Qb B X).f2)==Z)=false:=beq_eq_false_iff_ne.mpr d6
            have c87b1:(((Qb B X).f2) != Z)=true:=bne_iff_ne.mpr d6
            have H':=aK H
            clear H
            have lf:=a2.out
            have lg:=a0.out
            have ib:=a6.out
            have jc:=a4.out
            have ln:=a8.out
            have lp:=a7.out
            obtain⟨fe,ff,l8,fg,fh,m1⟩:=qD3 σ.out
            go_wp2
            go_roundg bh
            case measure=>have:=af.out;have:=b7.out;have:=bg.out;omega
            case rel=>exact⟨(wrap64 (X+1)),(χ),(κ),(τ),(ι),rfl,H',⟨by have:=af.out;have:=b7.out;have:=bg.out;omega⟩,⟨by(with_reducible repeat first|apply Kd.Qs|apply Kd.Qr|apply Kd.Qu);exact γ.out⟩,⟨by(with_reducible repeat first|apply Kd.Qs|apply Kd.Qr|apply Kd.Qu);exact ζ.out⟩,⟨by(with_reducible repeat first|apply Kd.Qs|apply Kd.Qr|apply Kd.Qu);exact ε.out⟩,δ,θ,O,HB⟩
       ·rw[if_neg bd] at H
        exact absurd H (by simp)
      ·rw[if_neg ay] at H
       have c26b0:=decide_eq_false ay
       clear ay
       simp only[Option.some.injEq,Prod.mk.injEq] at H
       obtain⟨rfl,rfl,rfl⟩:=H
       have jd:=bb.out
       have je:=be.out
       have kw:= ψ.out
       have l9:= ω.out
       obtain⟨i7,i9,j3,jf⟩:=qD2 δ.out
       have mw:=am.out
       have my:=aj.out
       obtain⟨j7,j8,m2,j9,ja,m3⟩:=qD3 O.out
       obtain⟨it,gs,ke⟩:=Kd.Q7 γ.out
       subst ke
       obtain⟨jg,jh,m4,jj,k6,m8⟩:=qD3 θ.out
       obtain⟨e4,eb,he⟩:=Kd.Q7 ζ.out
       subst he
       obtain⟨fz,gf,gm⟩:=Kd.Q7 ε.out
       subst gm
       go_wp2
       refine bodyPost_ret (results_cell_row rfl _ _ ba 34 #[.slice it φ.length gs,.slice e4 χ.length eb,.slice fz κ.length gf] (0,0) _ rfl (by refine Qo (cs:=#[.slice it φ.length gs,.slice e4 χ.length eb,.slice none 0 0]) ?_ 2 _ rfl;refine Qo (cs:=#[.slice it φ.length gs,.slice none 0 0,.slice none 0 0]) ?_ 1 _ rfl;refine Qo (cs:=#[.slice none 0 0,.slice none 0 0,.slice none 0 0]) ?_ 0 _ rfl;exact θ.out) Try.underlying34 rfl kr) rfl ?_
       exact⟨_,_,_,by first|rfl|(simp[Ql,Qk] <;> rfl)|(simp[*,Ql,Qk] <;> rfl),by(with_reducible repeat first|apply Kd.Qs|apply Kd.Qr|apply Kd.Qu);exact Kd.Qv (Kd.Qx (Kd.Qx (Kd.Qx (Kd.Q4 γ.out θ.out (by decide)) (fun _ hk=>hk.2) _) (fun _ hk=>hk.2) _) (fun _ hk=>hk.2) _) (fun _ hk=>⟨hk.1.1,hk.1.2⟩),by(with_reducible repeat first|apply Kd.Qs|apply Kd.Qr|apply Kd.Qu);exact Kd.Qv (Kd.Qx (Kd.Qx (Kd.Qx (Kd.Q4 ζ.out θ.out (by decide)) (fun _ hk=>hk.2) _) (fun _ hk=>hk.2) _) (fun _ hk=>hk.2) _) (fun _ hk=>⟨hk.1.1,hk.1.2⟩),by(with_reducible repeat first|apply Kd.Qs|apply Kd.Qr|apply Kd.Qu);exact Kd.Qv (Kd.Qx (Kd.Qx (Kd.Qx (Kd.Q4 ε.out θ.out (by decide)) (fun _ hk=>hk.2) _) (fun _ hk=>hk.2) _) (fun _ hk=>hk.2) _) (fun _ hk=>⟨hk.1.1,hk.1.2⟩),bel⟩
def newelref21_House.f (B:Int) (J:Int) (O:Int) (Y:Int) (Z:Int) (γ:Int) (δ :Int) (ε :Int) (θ :Int) (η :Int) (l1:List (S31)):Option (Int×Int):=some (B,(l1.length:Int))
theorem newelref21_House.calls (B:Int) (J:Int) (O:Int) (Y:Int) (Z:Int) (γ:Int) (δ :Int) (ε :Int) (θ :Int) (η :Int) (A1:Option Addr) (c1:Nat) (l1:List (S31)) (r1:Int) (r2:Int) (w:World) (ct:Kd.C k31 w A1 l1.length l1) (ch:l1.length≤c1) (h:newelref21_House.f B J O Y Z γ δ ε θ η l1=some (r1,r2)):
 Calls Try.prog 19 #[.agg #[nI B,nI J,nI O,nI Y,nI Z,nI γ,nI δ,nI ε,nI θ,nI η],.slice A1 l1.length c1] w fun e w'=>e = .returned (.agg #[nI r1,nI r2])∧Below w.heap.size w w':=by
 have cj:=Try.underlying25
 have dw:=Try.underlying59
 have ci:=aK ct
 have da:=aK ch
 clear ct ch
 have HB:=aK (Below.refl w.heap.size w)
 have H:(some (B,(l1.length:Int)))=some (r1,r2):=h
 clear h
 simp only[Option.some.injEq,Prod.mk.injEq] at H
 obtain⟨rfl,rfl⟩:=H
 go_enter Try.func19,Try.ntmps19
 go_wp2_with (first|((with_reducible refine Qe (N:=2) rfl ?_);refine Zj ?hg (N:=2) ?hd (cs:=#[nI B,nI J,nI O,nI Y,nI Z,nI γ,nI δ,nI ε,nI θ,nI η]) (t:=25) ?hr ?_;(case hd=>rfl);(case hg=>rfl);(case hr=>first|(go_simp;done)|(go_simp;rfl));intro X hg w3 hbox hb;have φ :=aK (Q6 (by repeat(first|(with_reducible first|exact HB.out|apply Qq|apply Qn|apply Qj)|exact HB.out)) hb);have χ :=aK (hbox);have ω :=aK ((by rw[hg];exact(Qm (by repeat(first|(with_reducible first|exact HB.out|apply Qq|apply Qn|apply Qj)|exact HB.out))):w.heap.size≤X));have a6:=aK ((by rw[hg];exact(Qm (by repeat(first|(with_reducible first|exact HB.out|apply Qq|apply Qn|apply Qj)|exact HB.out))):w.heap.size≤X));clear HB;have HB:= φ;have ζ := χ;have af:= ω;have κ :=a6;clear φ χ ω a6;clear hb hbox hg)|((with_reducible refine Qe (N:=4) rfl ?_);refine Zj ?hg (N:=4) ?hd (cs:=#[nI 0,nI 0]) (t:=59) ?hr ?_;(case hd=>rfl);(case hg=>rfl);(case hr=>first|(go_simp;done)|(go_simp;rfl));intro ι hg w4 hbox hb;have φ :=aK (Q1 (g:=X) (o:=.cells #[nI B,nI J,nI O,nI Y,nI Z,nI γ,nI δ,nI ε,nI θ,nI η] 25 (0,0)) (by(with_reducible repeat first|refine Qi ?_ _|refine Qd ?_|refine Qh ?_ _);exact ζ.out) hb);have χ :=aK (Q6 (by repeat(first|(with_reducible first|exact HB.out|apply Qq|apply Qn|apply Qj|refine Qz ?_ κ.out)|exact HB.out)) hb);have ω :=aK (hbox);have a6:=aK ((by rw[hg];exact(Qm (by repeat(first|(with_reducible first|exact HB.out|apply Qq|apply Qn|apply Qj|refine Qz ?_ κ.out)|exact HB.out))):w.heap.size ≤ ι));have ah:=aK ((by rw[hg];exact(Qm (by repeat(first|(with_reducible first|exact HB.out|apply Qq|apply Qn|apply Qj|refine Qz ?_ κ.out)|exact HB.out))):w.heap.size ≤ ι));have az:=aK ((by rw[hg];exact Nat.ne_of_lt (Xl (g:=X) (o:=.cells #[nI B,nI J,nI O,nI Y,nI Z,nI γ,nI δ,nI ε,nI θ,nI η] 25 (0,0)) (by(with_reducible repeat first|refine Qi ?_ _|refine Qd ?_|refine Qh ?_ _);exact ζ.out)):X ≠ ι));have b1:=aK ((by rw[hg];exact Nat.ne_of_gt (Xl (g:=X) (o:=.cells #[nI B,nI J,nI O,nI Y,nI Z,nI γ,nI δ,nI ε,nI θ,nI η] 25 (0,0)) (by(with_reducible repeat first|refine Qi ?_ _|refine Qd ?_|refine Qh ?_ _);exact ζ.out)): ι ≠ X));clear ζ;clear HB;have ζ := φ;have HB:= χ;have ρ:= ω;have ag:=a6;have a9:=ah;have ν :=az;have ξ :=b1;clear φ χ ω a6 ah az b1;clear hb hbox hg;have aa:= ν.out;have ac:= ξ.out;obtain⟨σ,ψ,μ,a1,ae,ar,bp,τ,a3,a4,a2,ab,bw,bz,d0,d2,dk,a5,a7,a8⟩:=Zi ζ.out;obtain⟨a0,av,aw,ax⟩:=qD2 ρ.out))
 refine bodyPost_ret (results_cell_row rfl _ _ ι 59 #[nI B,nI (l1.length:Int)] (0,0) _ rfl (by(with_reducible repeat first|refine Qi ?_ _|refine Qd ?_|refine Qh ?_ _);refine Qo (cs:=#[nI B,nI 0]) ?_ 1 _ rfl;(with_reducible repeat first|refine Qi ?_ _|refine Qd ?_|refine Qh ?_ _);refine Qo (cs:=#[nI 0,nI 0]) ?_ 0 _ rfl;(with_reducible repeat first|refine Qi ?_ _|refine Qd ?_|refine Qh ?_ _);exact ρ.out) Try.underlying59 rfl kr) rfl ?_
 exact⟨by first|rfl|(simp[Ql,Qk] <;> rfl)|(simp[*,Ql,Qk] <;> rfl),by repeat(first|(with_reducible first|exact HB.out|apply Qq|apply Qn|apply Qj|refine Qz ?_ κ.out|refine Qz ?_ a9.out)|exact HB.out)⟩
end Go.Proofs.Ytmfffemidlhcpaa.C
