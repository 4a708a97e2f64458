/- Texts of this claim, one behind the other: what the law's functions come to, walked (printed by a program, with the words that the print uses), and what that is, in plain Lean. No conditions of their own. -/
import Derived.Test.YtmfffemidlhcpaaQGroupPicks4
namespace Go.Proofs.Ytmfffemidlhcpaa.C
open Go.RowKit Go.Proofs.YtmfffemidlhcpaaW.PrintWords Go.Proofs.YtmfffemidlhcpaaW.PrintLast Go.Proofs.YtmfffemidlhcpaaW.PrintMore
attribute [local go_sem] Z0 Zy Z6 Z5 Zr Zq Zz Zx
set_option linter.unusedVariables false
set_option linter.unusedSimpArgs false
mutual
def newelref19_May.l0:Nat→Int→Int→Int→List (S36)→List (S86)→Option (Bool)
 |0,_,_,_,_,_=>none
 |k+1,x6,O,X,B,J=>if x6<(B.length:Int) then (if 0≤x6 then ((newelref19_Hall.f k O X ((Qc B x6).f0) ((Qc B x6).f1) ((Qc B x6).f2)).bind fun d3=>(if d3=true then (if x6>0 then (if 0≤(wrap64 (x6-1)) then (if (wrap64 (x6-1))<(B.length:Int) then ((newelref19_ahead.f ((Qc B (wrap64 (x6-1))).f0) ((Qc B (wrap64 (x6-1))).f1) ((Qc B (wrap64 (x6-1))).f2) ((Qc B x6).f0) ((Qc B x6).f1) ((Qc B x6).f2)).bind fun cq=>(if cq=true then (newelref19_May.l0 k (wrap64 (x6+1)) O X B J) else (some false))) else (none)) else (none)) else (newelref19_May.l0 k (wrap64 (x6+1)) O X B J)) else (some false))) else (none)) else (newelref19_May.l1 k 0 O X B J)
def newelref19_May.l1:Nat→Int→Int→Int→List (S36)→List (S86)→Option (Bool)
 |0,_,_,_,_,_=>none
 |k+1,Y,O,X,B,J=>if Y<(J.length:Int) then (if 0≤Y then ((newelref19_Inside.f O X ((Qp J Y).f0) ((Qp J Y).f1)).bind fun d4=>(if d4=true then (if Y>0 then (if 0≤(wrap64 (Y-1)) then (if (wrap64 (Y-1))<(J.length:Int) then ((newelref19_before.f ((Qp J (wrap64 (Y-1))).f0) ((Qp J (wrap64 (Y-1))).f1) ((Qp J Y).f0) ((Qp J Y).f1)).bind fun cr=>(if cr=true then (newelref19_May.l1 k (wrap64 (Y+1)) O X B J) else (some false))) else (none)) else (none)) else (newelref19_May.l1 k (wrap64 (Y+1)) O X B J)) else (some false))) else (none)) else (some true)
end
def newelref19_May.f (k:Nat) (B:Int) (J:Int) (O:List (S36)) (X:List (S86)):Option (Bool):=(newelref19_House.f B J).bind fun ct=>(if ct=true then (newelref19_May.l0 k 0 B J O X) else (some false))
def newelref19_May.T7:Bool×List (List Nat×List Nat):=(true,[([],[]),([],[]),([1],[1]),([],[]),([2,3],[2,3]),([4],[4]),([0,5],[0,5]),([6,6,0,1,2,3,4,5,6],[6])])
def newelref19_May.B7:List Nat:=[0,0,2,0,14,30,63,127]
theorem newelref19_May.V4:rtab .any (opsOf Try.f39 7)=newelref19_May.T7:=by kernel_rfl
theorem newelref19_May.K6:Zk newelref19_May.T7.2 newelref19_May.B7=true:=by kernel_rfl
def newelref19_May.T11:Bool×List (List Nat×List Nat):=(true,[([],[]),([0],[0]),([],[]),([2],[2]),([1,3],[1,3]),([4],[4]),([],[]),([6],[6]),([],[]),([7,8],[7,8]),([9],[9]),([5,10],[5,10]),([11,11,0,1,2,3,4,5,6,7,8,9,10,11],[11])])
def newelref19_May.B11:List Nat:=[0,1,0,4,15,31,0,64,0,448,960,2047,4095]
theorem newelref19_May.Dq:rtab .any (opsOf Try.f39 11)=newelref19_May.T11:=by kernel_rfl
theorem newelref19_May.Eb:Zk newelref19_May.T11.2 newelref19_May.B11=true:=by kernel_rfl
def newelref19_May.T17:Bool×List (List Nat×List Nat):=(true,[([],[]),([],[]),([1],[1]),([],[]),([2,3],[2,3]),([4],[4]),([0,5],[0,5]),([6,6,0,1,2,3,4,5,6],[6])])
def newelref19_May.B17:List Nat:=[0,0,2,0,14,30,63,127]
theorem newelref19_May.Lk:rtab .any (opsOf Try.f39 17)=newelref19_May.T17:=by kernel_rfl
theorem newelref19_May.Ul:Zk newelref19_May.T17.2 newelref19_May.B17=true:=by kernel_rfl
def newelref19_May.T21:Bool×List (List Nat×List Nat):=(true,[([],[]),([0],[0]),([],[]),([2],[2]),([1,3],[1,3]),([4],[4]),([],[]),([6],[6]),([],[]),([7,8],[7,8]),([9],[9]),([5,10],[5,10]),([11,11,0,1,2,3,4,5,6,7,8,9,10,11],[11])])
def newelref19_May.B21:List Nat:=[0,1,0,4,15,31,0,64,0,448,960,2047,4095]
theorem newelref19_May.Dp:rtab .any (opsOf Try.f39 21)=newelref19_May.T21:=by kernel_rfl
theorem newelref19_May.N9:Zk newelref19_May.T21.2 newelref19_May.B21=true:=by kernel_rfl
set_option maxHeartbeats 8000000 in
set_option maxRecDepth 100000 in
theorem newelref19_May.calls (k:Nat) (B:Int) (J:Int) (ι :Option Addr) (η :Nat) (O:List (S36)) (κ :Option Addr) (θ :Nat) (X:List (S86)) (r:Bool) (w:World) (ag:Kd.C k36 w ι O.length O) (ai:O.length ≤ η) (an:Kd.C k86 w κ X.length X) (b2:X.length ≤ θ) (h:newelref19_May.f k B J O X=some r):
 Calls Try.prog 39 #[.agg #[.int .i64 B,.int .i64 J],.agg #[.slice ι O.length η,.slice κ X.length θ]] w fun e w'=>e = .returned (.bool r)∧Below w.heap.size w w':=by
 have dw:=Try.underlying59
 have dc:=Try.underlying50
 have ch:=Try.underlying36
 have cu:=Try.underlying86
 have a0:=aK ag
 have b3:=aK ai
 clear ag ai
 have a1:=aK an
 have b4:=aK b2
 clear an b2
 have HB:=aK (Below.refl w.heap.size w)
 have H:((newelref19_House.f B J).bind fun ct=>(if ct=true then (newelref19_May.l0 k 0 B J O X) else (some false)))=some r:=h
 clear h
 obtain⟨ct,a7,H⟩:=qO H
 have A3:=aK a7
 clear a7
 by_cases c4:ct=true
 ·subst c4
  rw[if_pos rfl] at H
  have H':=aK H
  clear H
  go_enter Try.func39,Try.ntmps39
  go_wp2_with (first|((with_reducible refine Qe (N:=2) rfl ?_);refine qE 2 #[.int .i64 B,.int .i64 J] 59 ?_;intro af hg w5 hbox hb;have γ:=aK hbox;have dj:=sGe hg;have dl:=sGe hg;replace HB:=sHb hb;clear hb hbox hg)|((with_reducible refine Qe (N:=3) rfl ?_);refine qE 3 #[.slice ι O.length η,.slice κ X.length θ] 50 ?_;intro ν hg w6 hbox hb;have Z:=aK hbox;have dq:=sGe hg;have dv:=sGe hg;have a3:=sNl γ hg;have a5:=sNg γ hg;replace γ:=sBk γ hb;replace HB:=sHb hb;clear hb hbox hg;have dx:=a3.out;have fi:=a5.out;obtain⟨a8,a9,aa,ab⟩:=qD2 γ.out)|((with_reducible refine Qf (f:=59) rfl ?_);refine Qt (some 13) rfl rfl Try.func59 kr rfl #[.agg #[.int .i64 B,.int .i64 J]] rfl qM ?_;(with_reducible refine(newelref19_House.calls B J true _ A3.out).mono ?_);rintro e w9 ⟨rfl,hb⟩;refine⟨_,rfl, ?_⟩;replace γ:=sBk γ hb;replace Z:=sBk Z hb;replace HB:=sHb hb;(try clear hb);(try clear a4);(try clear hk);(try clear hi)))
  go_loopg [6] k (fun kq v6 w'=>∃ (Y:Int),v6 = .int .i64 Y∧Aside0 (newelref19_May.l0 kq Y B J O X=some r)∧Aside0 (kq≤k)∧Aside0 (w'.heap[af]?=some (.cells #[.int .i64 B,.int .i64 J] 59 (0,0)))∧Aside0 (w'.heap[ν]?=some (.cells #[(.slice ι O.length η),(.slice κ X.length θ)] 50 (0,0)))∧Aside0 (Below w.heap.size w w'))
  case atStart=>exact⟨(0),rfl,H',⟨Nat.le_refl _⟩,γ,Z,HB⟩
  case round=>
   clear H'
   try clear c4
   try clear a8
   try clear a9
   try clear aa
   try clear ab
   obtain⟨Y,rfl,HA,am,γ,Z,HB⟩:=hrel
   cases gk with
   |zero=>exact absurd HA.out (by simp[newelref19_May.l0])
   |succ k1=>
    have H:=HA.out
    clear HA
    simp only[newelref19_May.l0] at H
    by_cases c10:Y<(O.length:Int)
    ·rw[if_pos c10] at H
     have c10b0:=decide_eq_true c10
     clear c10
     by_cases a6:0≤Y
     ·rw[if_pos a6] at H
      have c11b0:=decide_eq_true a6
      clear a6
      obtain⟨d3,b7,H⟩:=qO H
      have b6:=aK b7
      clear b7
      by_cases ψ :d3=true
      ·subst ψ
       rw[if_pos rfl] at H
       by_cases ae:Y>0
       ·rw[if_pos ae] at H
        have c14b0:decide (0<Y)=true:=decide_eq_true ae
        clear ae
        obtain⟨δ,ac⟩:∃ j_:Int,(wrap64 (Y-1))=j_:=⟨_,rfl⟩
        replace H:(if 0≤(δ) then (if (δ)<(O.length:Int) then ((newelref19_ahead.f ((Qc O (δ)).f0) ((Qc O (δ)).f1) ((Qc O (δ)).f2) ((Qc O Y).f0) ((Qc O Y).f1) ((Qc O Y).f2)).bind fun cq=>(if cq=true then (newelref19_May.l0 k1 (wrap64 (Y+1)) B J O X) else (some false))) else (none)) else (none))=some r:=by first|(rw[ac] at H;exact H)|(simp only[ac] at H ⊢;exact H)
        (try rw[ac] at b6)
        have hji15w:(IntKind.i64.wrap (Y-1)) = δ :=(Za _).trans ac
        by_cases χ :0≤(δ)
        ·rw[if_pos χ] at H
         have c16b0:=decide_eq_true χ
         clear χ
         by_cases σ:(δ)<(O.length:Int)
         ·rw[if_pos σ] at H
          have c17b0:=decide_eq_true σ
          clear σ
          obtain⟨cq,ap,H⟩:=qO H
          have bf:=aK ap
          clear ap
          by_cases bk:cq=true
          ·subst bk
           rw[if_pos rfl] at H
           have H':=aK H
           clear H
           have ea:=a5.out
           have eu:=a3.out
           obtain⟨d6,de,df,dh⟩:=qD2 Z.out
           try go_wp2
           replace γ:=aK (Qd γ.out)
           replace Z:=aK (Qd Z.out)
           replace HB:=aK (Qg HB.out)
           have b8:0≤(Y:Int):=of_decide_eq_true (by assumption)
           have b9:Y<(O.length:Int):=of_decide_eq_true (by assumption)
           obtain⟨ζ,cb,ξ,ρ,τ⟩:=Xc a0.out Y b8 b9
           have ah:= τ
           have aj:=ρ
           have ak:= ξ
           cases cb
           replace ξ :=sCl HB ξ
           replace ρ:=sCl HB ρ
           replace τ :=sCl HB τ
           replace b8:=eq_true b8
           replace b9:=eq_true b9
           refine Ze (n:=8) (S:=fun w'=>w'.cell? ⟨af,0,none⟩=some (.int .i64 B)∧w'.cell? ⟨af,1,none⟩=some (.int .i64 J)∧w'.cell? ⟨ν,0,none⟩=some (.slice (some ζ) O.length η)∧w'.cell? ⟨ν,1,none⟩=some (.slice κ X.length θ)∧w'.cell? (ζ.add ((Y).toNat * 3))=some (.int .i64 ((Qc O Y).f0))∧w'.cell? ⟨(ζ.add ((Y).toNat * 3)).block,(ζ.add ((Y).toNat * 3)).off+1,none⟩=some (.int .i64 ((Qc O Y).f1))∧w'.cell? ⟨(ζ.add ((Y).toNat * 3)).block,(ζ.add ((Y).toNat * 3)).off+2,none⟩=some (.int .i64 ((Qc O Y).f2))) (ds:=[]) #[false,false,false,false,false,false,false,false] kr rfl rfl ⟨(Qa γ.out 0).trans rfl,(Qa γ.out 1).trans rfl,(Qa Z.out 0).trans rfl,(Qa Z.out 1).trans rfl,(sCl HB ak),(sCl HB aj),(sCl HB ah)⟩ (fun hHeld=>?_);refine Q5 newelref19_May.V4 newelref19_May.K6 (fun HT_ HW_=>?_)
           generalize wr.drew=bj at γ Z HB ξ ρ τ hHeld ⊢
           refine qP 1 (some 24) (bN 8 2) HT_ ?_
           refine qP 3 (some 26) (bN 8 10) HT_ ?_
           refine qT 0 (some 23) (bN 8 11) HT_ HW_ hHeld ?_
           refine qT 2 (some 25) (bN 8 15) HT_ HW_ hHeld ?_
           refine qP 4 (some 27) (bN 8 31) HT_ ?_
           refine qT 5 (some 28) (bN 8 63) HT_ HW_ hHeld ?_
           refine Zf (i:=6) (N:=some 29) (bN 8 127) rfl rfl (Q3 HT_.out kr) (by decide) (fun K hK=>?_)
           refine Zd Try.func18 kr rfl #[.agg #[.int .i64 B,.int .i64 J],.agg #[.int .i64 ((Qc O Y).f0),.int .i64 ((Qc O Y).f1),.int .i64 ((Qc O Y).f2)]] (by rfl) rfl rfl qM ?_
           with_reducible refine(newelref19_Hall.calls k1 B J ((Qc O Y).f0) ((Qc O Y).f1) ((Qc O Y).f2) true _ b6.out).mono ?_
           rintro e bb ⟨rfl,hb⟩
           refine⟨_,rfl, ?_⟩
           replace γ:=sBk γ hb
           replace Z:=sBk Z hb
           replace HB:=sHb hb
           (try clear hb)
           (try clear a4)
           (try clear hk)
           (try clear hi)
           refine hK.out _ _ ⟨qc γ,qc γ,qc Z,qc Z,(sCl HB ak),(sCl HB aj),(sCl HB ah)⟩ (fun hHeld=>?_)
           clear hK K
           refine qN (some 29) ?_
           refine qP 7 (some 7) (bN 8 255) HT_ ?_
           refine Zi (Zc HT_.out kr) ?_
           try go_wp2
           replace γ:=aK (Qd γ.out)
           replace Z:=aK (Qd Z.out)
           replace HB:=aK (Qg HB.out)
           have ce:0≤((δ):Int):=of_decide_eq_true (by assumption)
           have cf:(δ)<(O.length:Int):=of_decide_eq_true (by assumption)
           obtain⟨cw,d7,ar,au,av⟩:=Xc a0.out (δ) ce cf
           have bg:=av
           have bh:=au
           have bl:=ar
           obtain rfl: ζ = cw:=(by injection d7)
           replace ar:=sCl HB ar
           replace au:=sCl HB au
           replace av:=sCl HB av
           replace ce:=eq_true ce
           replace cf:=eq_true cf
           have cg:0≤(Y:Int):=of_decide_eq_true (by assumption)
           have cj:Y<(O.length:Int):=of_decide_eq_true (by assumption)
           obtain⟨cx,d8,aw,ax,ay⟩:=Xc a0.out Y cg cj
           have bm:=ay
           have bo:=ax
           have bp:=aw
           obtain rfl: ζ = cx:=(by injection d8)
           replace aw:=sCl HB aw
           replace ax:=sCl HB ax
           replace ay:=sCl HB ay
           replace cg:=eq_true cg
           replace cj:=eq_true cj
           refine Ze (n:=13) (S:=fun w'=>w'.cell? ⟨ν,0,none⟩=some (.slice (some ζ) O.length η)∧w'.cell? ⟨ν,1,none⟩=some (.slice κ X.length θ)∧w'.cell? (ζ.add (((δ)).toNat * 3))=some (.int .i64 ((Qc O (δ)).f0))∧w'.cell? ⟨(ζ.add (((δ)).toNat * 3)).block,(ζ.add (((δ)).toNat * 3)).off+1,none⟩=some (.int .i64 ((Qc O (δ)).f1))∧w'.cell? ⟨(ζ.add (((δ)).toNat * 3)).block,(ζ.add (((δ)).toNat * 3)).off+2,none⟩=some (.int .i64 ((Qc O (δ)).f2))∧w'.cell? (ζ.add ((Y).toNat * 3))=some (.int .i64 ((Qc O Y).f0))∧w'.cell? ⟨(ζ.add ((Y).toNat * 3)).block,(ζ.add ((Y).toNat * 3)).off+1,none⟩=some (.int .i64 ((Qc O Y).f1))∧w'.cell? ⟨(ζ.add ((Y).toNat * 3)).block,(ζ.add ((Y).toNat * 3)).off+2,none⟩=some (.int .i64 ((Qc O Y).f2))) (ds:=[]) #[false,false,false,false,false,false,false,false,false,false,false,false,false] kr rfl rfl ⟨(Qa Z.out 0).trans rfl,(Qa Z.out 1).trans rfl,(sCl HB bl),(sCl HB bh),(sCl HB bg),(sCl HB bp),(sCl HB bo),(sCl HB bm)⟩ (fun hHeld=>?_);refine Q5 newelref19_May.Dq newelref19_May.Eb (fun HT_ HW_=>?_)
           generalize bb.drew=cd at γ Z HB ar au av aw ax ay hHeld ⊢
           refine qP 0 (some 34) (bN 13 1) HT_ ?_
           refine qP 2 (some 36) (bN 13 5) HT_ ?_
           refine qP 3 (some 37) (bN 13 13) HT_ ?_
           refine qP 6 (some 40) (bN 13 77) HT_ ?_
           refine qP 8 (some 42) (bN 13 333) HT_ ?_
           refine qT 1 (some 35) (bN 13 335) HT_ HW_ hHeld ?_
           refine qP 4 (some 38) (bN 13 351) HT_ ?_
           refine qT 5 (some 39) (bN 13 383) HT_ HW_ hHeld ?_
           refine qT 7 (some 41) (bN 13 511) HT_ HW_ hHeld ?_
           refine qP 9 (some 43) (bN 13 1023) HT_ ?_
           refine qT 10 (some 44) (bN 13 2047) HT_ HW_ hHeld ?_
           refine Zf (i:=11) (N:=some 45) (bN 13 4095) rfl rfl (Q3 HT_.out kr) (by decide) (fun K hK=>?_)
           refine Zd Try.func60 kr rfl #[.agg #[.int .i64 ((Qc O (δ)).f0),.int .i64 ((Qc O (δ)).f1),.int .i64 ((Qc O (δ)).f2)],.agg #[.int .i64 ((Qc O Y).f0),.int .i64 ((Qc O Y).f1),.int .i64 ((Qc O Y).f2)]] (by rfl) rfl rfl (by(try simp only[List.map_toArray,List.map_cons,List.map_nil]);first|done|(simp only[ac];rfl)|rfl|(simp only[List.length_drop,List.length_take];rfl)) ?_
           with_reducible refine(newelref19_ahead.calls ((Qc O (δ)).f0) ((Qc O (δ)).f1) ((Qc O (δ)).f2) ((Qc O Y).f0) ((Qc O Y).f1) ((Qc O Y).f2) true _ bf.out).mono ?_
           rintro e dt ⟨rfl,hb⟩
           refine⟨_,rfl, ?_⟩
           replace γ:=sBk γ hb
           replace Z:=sBk Z hb
           replace HB:=sHb hb
           (try clear hb)
           (try clear a4)
           (try clear hk)
           (try clear hi)
           refine hK.out _ _ ⟨qc Z,qc Z,(sCl HB bl),(sCl HB bh),(sCl HB bg),(sCl HB bp),(sCl HB bo),(sCl HB bm)⟩ (fun hHeld=>?_)
           clear hK K
           refine qN (some 45) ?_
           refine qP 12 (some 8) (bN 13 8191) HT_ ?_
           refine Zi (Zc HT_.out kr) ?_
           try go_wp2
           go_roundg k1
           case measure=>have:=am.out;omega
           case rel=>exact⟨(wrap64 (Y+1)),rfl,H',⟨by have:=am.out;omega⟩,γ,Z,HB⟩
          ·replace bk:=Bool.eq_false_iff.mpr bk
           subst bk
           rw[if_neg nft] at H
           obtain rfl:=Option.some.inj H
           have dd:=a5.out
           have dk:=a3.out
           obtain⟨db,dm,dn,dp⟩:=qD2 Z.out
           try go_wp2
           replace γ:=aK (Qd γ.out)
           replace Z:=aK (Qd Z.out)
           replace HB:=aK (Qg HB.out)
           have b8:0≤(Y:Int):=of_decide_eq_true (by assumption)
           have b9:Y<(O.length:Int):=of_decide_eq_true (by assumption)
           obtain⟨ζ,cb,ξ,ρ,τ⟩:=Xc a0.out Y b8 b9
           have ah:= τ
           have aj:=ρ
           have ak:= ξ
           cases cb
           replace ξ :=sCl HB ξ
           replace ρ:=sCl HB ρ
           replace τ :=sCl HB τ
           replace b8:=eq_true b8
           replace b9:=eq_true b9
           refine Ze (n:=8) (S:=fun w'=>w'.cell? ⟨af,0,none⟩=some (.int .i64 B)∧w'.cell? ⟨af,1,none⟩=some (.int .i64 J)∧w'.cell? ⟨ν,0,none⟩=some (.slice (some ζ) O.length η)∧w'.cell? ⟨ν,1,none⟩=some (.slice κ X.length θ)∧w'.cell? (ζ.add ((Y).toNat * 3))=some (.int .i64 ((Qc O Y).f0))∧w'.cell? ⟨(ζ.add ((Y).toNat * 3)).block,(ζ.add ((Y).toNat * 3)).off+1,none⟩=some (.int .i64 ((Qc O Y).f1))∧w'.cell? ⟨(ζ.add ((Y).toNat * 3)).block,(ζ.add ((Y).toNat * 3)).off+2,none⟩=some (.int .i64 ((Qc O Y).f2))) (ds:=[]) #[false,false,false,false,false,false,false,false] kr rfl rfl ⟨(Qa γ.out 0).trans rfl,(Qa γ.out 1).trans rfl,(Qa Z.out 0).trans rfl,(Qa Z.out 1).trans rfl,(sCl HB ak),(sCl HB aj),(sCl HB ah)⟩ (fun hHeld=>?_);refine Q5 newelref19_May.V4 newelref19_May.K6 (fun HT_ HW_=>?_)
           generalize wr.drew=du at γ Z HB ξ ρ τ hHeld ⊢
           refine qP 1 (some 24) (bN 8 2) HT_ ?_
           refine qP 3 (some 26) (bN 8 10) HT_ ?_
           refine qT 0 (some 23) (bN 8 11) HT_ HW_ hHeld ?_
           refine qT 2 (some 25) (bN 8 15) HT_ HW_ hHeld ?_
           refine qP 4 (some 27) (bN 8 31) HT_ ?_
           refine qT 5 (some 28) (bN 8 63) HT_ HW_ hHeld ?_
           refine Zf (i:=6) (N:=some 29) (bN 8 127) rfl rfl (Q3 HT_.out kr) (by decide) (fun K hK=>?_)
           refine Zd Try.func18 kr rfl #[.agg #[.int .i64 B,.int .i64 J],.agg #[.int .i64 ((Qc O Y).f0),.int .i64 ((Qc O Y).f1),.int .i64 ((Qc O Y).f2)]] (by rfl) rfl rfl qM ?_
           with_reducible refine(newelref19_Hall.calls k1 B J ((Qc O Y).f0) ((Qc O Y).f1) ((Qc O Y).f2) true _ b6.out).mono ?_
           rintro e h8 ⟨rfl,hb⟩
           refine⟨_,rfl, ?_⟩
           replace γ:=sBk γ hb
           replace Z:=sBk Z hb
           replace HB:=sHb hb
           (try clear hb)
           (try clear a4)
           (try clear hk)
           (try clear hi)
           refine hK.out _ _ ⟨qc γ,qc γ,qc Z,qc Z,(sCl HB ak),(sCl HB aj),(sCl HB ah)⟩ (fun hHeld=>?_)
           clear hK K
           refine qN (some 29) ?_
           refine qP 7 (some 7) (bN 8 255) HT_ ?_
           refine Zi (Zc HT_.out kr) ?_
           try go_wp2
           replace γ:=aK (Qd γ.out)
           replace Z:=aK (Qd Z.out)
           replace HB:=aK (Qg HB.out)
           have ce:0≤((δ):Int):=of_decide_eq_true (by assumption)
           have cf:(δ)<(O.length:Int):=of_decide_eq_true (by assumption)
           obtain⟨cw,d7,ar,au,av⟩:=Xc a0.out (δ) ce cf
           have bg:=av
           have bh:=au
           have bl:=ar
           obtain rfl: ζ = cw:=(by injection d7)
           replace ar:=sCl HB ar
           replace au:=sCl HB au
           replace av:=sCl HB av
           replace ce:=eq_true ce
           replace cf:=eq_true cf
           have cg:0≤(Y:Int):=of_decide_eq_true (by assumption)
           have cj:Y<(O.length:Int):=of_decide_eq_true (by assumption)
           obtain⟨cx,d8,aw,ax,ay⟩:=Xc a0.out Y cg cj
           have bm:=ay
           have bo:=ax
           have bp:=aw
           obtain rfl: ζ = cx:=(by injection d8)
           replace aw:=sCl HB aw
           replace ax:=sCl HB ax
           replace ay:=sCl HB ay
           replace cg:=eq_true cg
           replace cj:=eq_true cj
           refine Ze (n:=13) (S:=fun w'=>w'.cell? ⟨ν,0,none⟩=some (.slice (some ζ) O.length η)∧w'.cell? ⟨ν,1,none⟩=some (.slice κ X.length θ)∧w'.cell? (ζ.add (((δ)).toNat * 3))=some (.int .i64 ((Qc O (δ)).f0))∧w'.cell? ⟨(ζ.add (((δ)).toNat * 3)).block,(ζ.add (((δ)).toNat * 3)).off+1,none⟩=some (.int .i64 ((Qc O (δ)).f1))∧w'.cell? ⟨(ζ.add (((δ)).toNat * 3)).block,(ζ.add (((δ)).toNat * 3)).off+2,none⟩=some (.int .i64 ((Qc O (δ)).f2))∧w'.cell? (ζ.add ((Y).toNat * 3))=some (.int .i64 ((Qc O Y).f0))∧w'.cell? ⟨(ζ.add ((Y).toNat * 3)).block,(ζ.add ((Y).toNat * 3)).off+1,none⟩=some (.int .i64 ((Qc O Y).f1))∧w'.cell? ⟨(ζ.add ((Y).toNat * 3)).block,(ζ.add ((Y).toNat * 3)).off+2,none⟩=some (.int .i64 ((Qc O Y).f2))) (ds:=[]) #[false,false,false,false,false,false,false,false,false,false,false,false,false] kr rfl rfl ⟨(Qa Z.out 0).trans rfl,(Qa Z.out 1).trans rfl,(sCl HB bl),(sCl HB bh),(sCl HB bg),(sCl HB bp),(sCl HB bo),(sCl HB bm)⟩ (fun hHeld=>?_);refine Q5 newelref19_May.Dq newelref19_May.Eb (fun HT_ HW_=>?_)
           generalize h8.drew=e8 at γ Z HB ar au av aw ax ay hHeld ⊢
           refine qP 0 (some 34) (bN 13 1) HT_ ?_
           refine qP 2 (some 36) (bN 13 5) HT_ ?_
           refine qP 3 (some 37) (bN 13 13) HT_ ?_
           refine qP 6 (some 40) (bN 13 77) HT_ ?_
           refine qP 8 (some 42) (bN 13 333) HT_ ?_
           refine qT 1 (some 35) (bN 13 335) HT_ HW_ hHeld ?_
           refine qP 4 (some 38) (bN 13 351) HT_ ?_
           refine qT 5 (some 39) (bN 13 383) HT_ HW_ hHeld ?_
           refine qT 7 (some 41) (bN 13 511) HT_ HW_ hHeld ?_
           refine qP 9 (some 43) (bN 13 1023) HT_ ?_
           refine qT 10 (some 44) (bN 13 2047) HT_ HW_ hHeld ?_
           refine Zf (i:=11) (N:=some 45) (bN 13 4095) rfl rfl (Q3 HT_.out kr) (by decide) (fun K hK=>?_)
           refine Zd Try.func60 kr rfl #[.agg #[.int .i64 ((Qc O (δ)).f0),.int .i64 ((Qc O (δ)).f1),.int .i64 ((Qc O (δ)).f2)],.agg #[.int .i64 ((Qc O Y).f0),.int .i64 ((Qc O Y).f1),.int .i64 ((Qc O Y).f2)]] (by rfl) rfl rfl (by(try simp only[List.map_toArray,List.map_cons,List.map_nil]);first|done|(simp only[ac];rfl)|rfl|(simp only[List.length_drop,List.length_take];rfl)) ?_
           with_reducible refine(newelref19_ahead.calls ((Qc O (δ)).f0) ((Qc O (δ)).f1) ((Qc O (δ)).f2) ((Qc O Y).f0) ((Qc O Y).f1) ((Qc O Y).f2) false _ bf.out).mono ?_
           rintro e k3 ⟨rfl,hb⟩
           refine⟨_,rfl, ?_⟩
           replace γ:=sBk γ hb
           replace Z:=sBk Z hb
           replace HB:=sHb hb
           (try clear hb)
           (try clear a4)
           (try clear hk)
           (try clear hi)
           refine hK.out _ _ ⟨qc Z,qc Z,(sCl HB bl),(sCl HB bh),(sCl HB bg),(sCl HB bp),(sCl HB bo),(sCl HB bm)⟩ (fun hHeld=>?_)
           clear hK K
           refine qN (some 45) ?_
           refine qP 12 (some 8) (bN 13 8191) HT_ ?_
           refine Zi (Zc HT_.out kr) ?_
           try go_wp2
           go_ret
           exact⟨by first|rfl|(simp[Qk,Qj] <;> rfl)|(simp only[← ac];first|rfl|(simp[Qk,Qj] <;> rfl))|(simp[*,Qk,Qj] <;> rfl),HB.out⟩
         ·rw[if_neg σ] at H
          exact absurd H (by simp)
        ·rw[if_neg χ] at H
         exact absurd H (by simp)
       ·rw[if_neg ae] at H
        have c14b0:decide (0<Y)=false:=decide_eq_false ae
        clear ae
        have H':=aK H
        clear H
        have dr:=a5.out
        have ez:=a3.out
        obtain⟨d0,eb,ec,ed⟩:=qD2 Z.out
        try go_wp2
        replace γ:=aK (Qd γ.out)
        replace Z:=aK (Qd Z.out)
        replace HB:=aK (Qg HB.out)
        have b8:0≤(Y:Int):=of_decide_eq_true (by assumption)
        have b9:Y<(O.length:Int):=of_decide_eq_true (by assumption)
        obtain⟨ζ,cb,ξ,ρ,τ⟩:=Xc a0.out Y b8 b9
        have ah:= τ
        have aj:=ρ
        have ak:= ξ
        cases cb
        replace ξ :=sCl HB ξ
        replace ρ:=sCl HB ρ
        replace τ :=sCl HB τ
        replace b8:=eq_true b8
        replace b9:=eq_true b9
        refine Ze (n:=8) (S:=fun w'=>w'.cell? ⟨af,0,none⟩=some (.int .i64 B)∧w'.cell? ⟨af,1,none⟩=some (.int .i64 J)∧w'.cell? ⟨ν,0,none⟩=some (.slice (some ζ) O.length η)∧w'.cell? ⟨ν,1,none⟩=some (.slice κ X.length θ)∧w'.cell? (ζ.add ((Y).toNat * 3))=some (.int .i64 ((Qc O Y).f0))∧w'.cell? ⟨(ζ.add ((Y).toNat * 3)).block,(ζ.add ((Y).toNat * 3)).off+1,none⟩=some (.int .i64 ((Qc O Y).f1))∧w'.cell? ⟨(ζ.add ((Y).toNat * 3)).block,(ζ.add ((Y).toNat * 3)).off+2,none⟩=some (.int .i64 ((Qc O Y).f2))) (ds:=[]) #[false,false,false,false,false,false,false,false] kr rfl rfl ⟨(Qa γ.out 0).trans rfl,(Qa γ.out 1).trans rfl,(Qa Z.out 0).trans rfl,(Qa Z.out 1).trans rfl,(sCl HB ak),(sCl HB aj),(sCl HB ah)⟩ (fun hHeld=>?_);refine Q5 newelref19_May.V4 newelref19_May.K6 (fun HT_ HW_=>?_)
        generalize wr.drew=fp at γ Z HB ξ ρ τ hHeld ⊢
        refine qP 1 (some 24) (bN 8 2) HT_ ?_
        refine qP 3 (some 26) (bN 8 10) HT_ ?_
        refine qT 0 (some 23) (bN 8 11) HT_ HW_ hHeld ?_
        refine qT 2 (some 25) (bN 8 15) HT_ HW_ hHeld ?_
        refine qP 4 (some 27) (bN 8 31) HT_ ?_
        refine qT 5 (some 28) (bN 8 63) HT_ HW_ hHeld ?_
        refine Zf (i:=6) (N:=some 29) (bN 8 127) rfl rfl (Q3 HT_.out kr) (by decide) (fun K hK=>?_)
        refine Zd Try.func18 kr rfl #[.agg #[.int .i64 B,.int .i64 J],.agg #[.int .i64 ((Qc O Y).f0),.int .i64 ((Qc O Y).f1),.int .i64 ((Qc O Y).f2)]] (by rfl) rfl rfl qM ?_
        with_reducible refine(newelref19_Hall.calls k1 B J ((Qc O Y).f0) ((Qc O Y).f1) ((Qc O Y).f2) true _ b6.out).mono ?_
        rintro e jo ⟨rfl,hb⟩
        refine⟨_,rfl, ?_⟩
        replace γ:=sBk γ hb
        replace Z:=sBk Z hb
        replace HB:=sHb hb
        (try clear hb)
        (try clear a4)
        (try clear hk)
        (try clear hi)
        refine hK.out _ _ ⟨qc γ,qc γ,qc Z,qc Z,(sCl HB ak),(sCl HB aj),(sCl HB ah)⟩ (fun hHeld=>?_)
        clear hK K
        refine qN (some 29) ?_
        refine qP 7 (some 7) (bN 8 255) HT_ ?_
        refine Zi (Zc HT_.out kr) ?_
        try go_wp2
        go_roundg k1
        case measure=>have:=am.out;omega
        case rel=>exact⟨(wrap64 (Y+1)),rfl,H',⟨by have:=am.out;omega⟩,γ,Z,HB⟩
      ·replace ψ :=Bool.eq_false_iff.mpr ψ
       subst ψ
       rw[if_neg nft] at H
       obtain rfl:=Option.some.inj H
       have fn:=a5.out
       have fo:=a3.out
       obtain⟨gt,gu,jm,jn⟩:=qD2 Z.out
       try go_wp2
       replace γ:=aK (Qd γ.out)
       replace Z:=aK (Qd Z.out)
       replace HB:=aK (Qg HB.out)
       have b8:0≤(Y:Int):=of_decide_eq_true (by assumption)
       have b9:Y<(O.length:Int):=of_decide_eq_true (by assumption)
       obtain⟨ζ,cb,ξ,ρ,τ⟩:=Xc a0.out Y b8 b9
       have ah:= τ
       have aj:=ρ
       have ak:= ξ
       cases cb
       replace ξ :=sCl HB ξ
       replace ρ:=sCl HB ρ
       replace τ :=sCl HB τ
       replace b8:=eq_true b8
       replace b9:=eq_true b9
       refine Ze (n:=8) (S:=fun w'=>w'.cell? ⟨af,0,none⟩=some (.int .i64 B)∧w'.cell? ⟨af,1,none⟩=some (.int .i64 J)∧w'.cell? ⟨ν,0,none⟩=some (.slice (some ζ) O.length η)∧w'.cell? ⟨ν,1,none⟩=some (.slice κ X.length θ)∧w'.cell? (ζ.add ((Y).toNat * 3))=some (.int .i64 ((Qc O Y).f0))∧w'.cell? ⟨(ζ.add ((Y).toNat * 3)).block,(ζ.add ((Y).toNat * 3)).off+1,none⟩=some (.int .i64 ((Qc O Y).f1))∧w'.cell? ⟨(ζ.add ((Y).toNat * 3)).block,(ζ.add ((Y).toNat * 3)).off+2,none⟩=some (.int .i64 ((Qc O Y).f2))) (ds:=[]) #[false,false,false,false,false,false,false,false] kr rfl rfl ⟨(Qa γ.out 0).trans rfl,(Qa γ.out 1).trans rfl,(Qa Z.out 0).trans rfl,(Qa Z.out 1).trans rfl,(sCl HB ak),(sCl HB aj),(sCl HB ah)⟩ (fun hHeld=>?_);refine Q5 newelref19_May.V4 newelref19_May.K6 (fun HT_ HW_=>?_)
       generalize wr.drew=ku at γ Z HB ξ ρ τ hHeld ⊢
       refine qP 1 (some 24) (bN 8 2) HT_ ?_
       refine qP 3 (some 26) (bN 8 10) HT_ ?_
       refine qT 0 (some 23) (bN 8 11) HT_ HW_ hHeld ?_
       refine qT 2 (some 25) (bN 8 15) HT_ HW_ hHeld ?_
       refine qP 4 (some 27) (bN 8 31) HT_ ?_
       refine qT 5 (some 28) (bN 8 63) HT_ HW_ hHeld ?_
       refine Zf (i:=6) (N:=some 29) (bN 8 127) rfl rfl (Q3 HT_.out kr) (by decide) (fun K hK=>?_)
       refine Zd Try.func18 kr rfl #[.agg #[.int .i64 B,.int .i64 J],.agg #[.int .i64 ((Qc O Y).f0),.int .i64 ((Qc O Y).f1),.int .i64 ((Qc O Y).f2)]] (by rfl) rfl rfl qM ?_
       with_reducible refine(newelref19_Hall.calls k1 B J ((Qc O Y).f0) ((Qc O Y).f1) ((Qc O Y).f2) false _ b6.out).mono ?_
       rintro e gh ⟨rfl,hb⟩
       refine⟨_,rfl, ?_⟩
       replace γ:=sBk γ hb
       replace Z:=sBk Z hb
       replace HB:=sHb hb
       (try clear hb)
       (try clear a4)
       (try clear hk)
       (try clear hi)
       refine hK.out _ _ ⟨qc γ,qc γ,qc Z,qc Z,(sCl HB ak),(sCl HB aj),(sCl HB ah)⟩ (fun hHeld=>?_)
       clear hK K
       refine qN (some 29) ?_
       refine qP 7 (some 7) (bN 8 255) HT_ ?_
       refine Zi (Zc HT_.out kr) ?_
       try go_wp2
       go_ret
       exact⟨rfl,HB.out⟩
     ·rw[if_neg a6] at H
      exact absurd H (by simp)
    ·rw[if_neg c10] at H
     have c10b0:=decide_eq_false c10
     clear c10
     have H':=aK H
     clear H
     have f8:=a5.out
     have fa:=a3.out
     obtain⟨dz,e0,e3,e4⟩:=qD2 Z.out
     go_wp2
     go_loopg [9] k1 (fun kq v9 w'=>∃ (ε :Int),v9 = .int .i64 ε ∧ Aside0 (newelref19_May.l1 kq ε B J O X=some r)∧Aside0 (kq≤k1)∧Aside0 (w'.heap[af]?=some (.cells #[.int .i64 B,.int .i64 J] 59 (0,0)))∧Aside0 (w'.heap[ν]?=some (.cells #[(.slice ι O.length η),(.slice κ X.length θ)] 50 (0,0)))∧Aside0 (Below w.heap.size w w'))
     case atStart=>exact⟨(0),rfl,H',⟨Nat.le_refl _⟩,γ,Z,HB⟩
     case round=>
      clear H'
      try clear c4
      try clear c10b0
      try clear dz
      try clear e0
      try clear e3
      try clear e4
      obtain⟨ε,rfl,HA,bn,γ,Z,HB⟩:=hrel
      cases gk with
      |zero=>exact absurd HA.out (by simp[newelref19_May.l1])
      |succ k2=>
       have H:=HA.out
       clear HA
       simp only[newelref19_May.l1] at H
       by_cases cv: ε < (X.length:Int)
       ·rw[if_pos cv] at H
        have c42b0:=decide_eq_true cv
        clear cv
        by_cases fl:0 ≤ ε
        ·rw[if_pos fl] at H
         have c43b0:=decide_eq_true fl
         clear fl
         obtain⟨d4,di,H⟩:=qO H
         have d2:=aK di
         clear di
         by_cases ci:d4=true
         ·subst ci
          rw[if_pos rfl] at H
          by_cases bi: ε > 0
          ·rw[if_pos bi] at H
           have c46b0:decide (0 < ε)=true:=decide_eq_true bi
           clear bi
           obtain⟨a2,bw⟩:∃ j_:Int,(wrap64 (ε - 1))=j_:=⟨_,rfl⟩
           replace H:(if 0≤(a2) then (if (a2)<(X.length:Int) then ((newelref19_before.f ((Qp X (a2)).f0) ((Qp X (a2)).f1) ((Qp X ε).f0) ((Qp X ε).f1)).bind fun cr=>(if cr=true then (newelref19_May.l1 k2 (wrap64 (ε + 1)) B J O X) else (some false))) else (none)) else (none))=some r:=by first|(rw[bw] at H;exact H)|(simp only[bw] at H ⊢;exact H)
           (try rw[bw] at d2)
           have hji47w:(IntKind.i64.wrap (ε - 1))=a2:=(Za _).trans bw
           by_cases ca:0≤(a2)
           ·rw[if_pos ca] at H
            have c48b0:=decide_eq_true ca
            clear ca
            by_cases bz:(a2)<(X.length:Int)
            ·rw[if_pos bz] at H
             have c49b0:=decide_eq_true bz
             clear bz
             obtain⟨cr,d5,H⟩:=qO H
             have bc:=aK d5
             clear d5
             by_cases cy:cr=true
             ·subst cy
              rw[if_pos rfl] at H
              have H':=aK H
              clear H
              have kt:=a5.out
              have lh:=a3.out
              obtain⟨ga,kd,ke,kv⟩:=qD2 Z.out
              try go_wp2
              replace γ:=aK (Qd γ.out)
              replace Z:=aK (Qd Z.out)
              replace HB:=aK (Qg HB.out)
              have ba:0≤(ε :Int):=of_decide_eq_true (by assumption)
              have bd: ε < (X.length:Int):=of_decide_eq_true (by assumption)
              obtain⟨μ,ck,φ,ω⟩:=Xk a1.out ε ba bd
              have al:= ω
              have ao:= φ
              cases ck
              replace φ :=sCl HB φ
              replace ω :=sCl HB ω
              replace ba:=eq_true ba
              replace bd:=eq_true bd
              refine Ze (n:=8) (S:=fun w'=>w'.cell? ⟨af,0,none⟩=some (.int .i64 B)∧w'.cell? ⟨af,1,none⟩=some (.int .i64 J)∧w'.cell? ⟨ν,0,none⟩=some (.slice ι O.length η)∧w'.cell? ⟨ν,1,none⟩=some (.slice (some μ) X.length θ)∧w'.cell? (μ.add ((ε).toNat * 2))=some (.int .i64 ((Qp X ε).f0))∧w'.cell? ⟨(μ.add ((ε).toNat * 2)).block,(μ.add ((ε).toNat * 2)).off+1,none⟩=some (.int .i64 ((Qp X ε).f1))) (ds:=[]) #[false,false,false,false,false,false,false,false] kr rfl rfl ⟨(Qa γ.out 0).trans rfl,(Qa γ.out 1).trans rfl,(Qa Z.out 0).trans rfl,(Qa Z.out 1).trans rfl,(sCl HB ao),(sCl HB al)⟩ (fun hHeld=>?_);refine Q5 newelref19_May.Lk newelref19_May.Ul (fun HT_ HW_=>?_)
              generalize wr.drew=mh at γ Z HB φ ω hHeld ⊢
              refine qP 1 (some 56) (bN 8 2) HT_ ?_
              refine qP 3 (some 58) (bN 8 10) HT_ ?_
              refine qT 0 (some 55) (bN 8 11) HT_ HW_ hHeld ?_
              refine qT 2 (some 57) (bN 8 15) HT_ HW_ hHeld ?_
              refine qP 4 (some 59) (bN 8 31) HT_ ?_
              refine qT 5 (some 60) (bN 8 63) HT_ HW_ hHeld ?_
              refine Zf (i:=6) (N:=some 61) (bN 8 127) rfl rfl (Q3 HT_.out kr) (by decide) (fun K hK=>?_)
              refine Zd Try.func61 kr rfl #[.agg #[.int .i64 B,.int .i64 J],.agg #[.int .i64 ((Qp X ε).f0),.int .i64 ((Qp X ε).f1)]] (by rfl) rfl rfl qM ?_
              with_reducible refine(newelref19_Inside.calls B J ((Qp X ε).f0) ((Qp X ε).f1) true _ d2.out).mono ?_
              rintro e ev ⟨rfl,hb⟩
              refine⟨_,rfl, ?_⟩
              replace γ:=sBk γ hb
              replace Z:=sBk Z hb
              replace HB:=sHb hb
              (try clear hb)
              (try clear a4)
              (try clear hk)
              (try clear hi)
              refine hK.out _ _ ⟨qc γ,qc γ,qc Z,qc Z,(sCl HB ao),(sCl HB al)⟩ (fun hHeld=>?_)
              clear hK K
              refine qN (some 61) ?_
              refine qP 7 (some 10) (bN 8 255) HT_ ?_
              refine Zi (Zc HT_.out kr) ?_
              try go_wp2
              replace γ:=aK (Qd γ.out)
              replace Z:=aK (Qd Z.out)
              replace HB:=aK (Qg HB.out)
              have cm:0≤((a2):Int):=of_decide_eq_true (by assumption)
              have cn:(a2)<(X.length:Int):=of_decide_eq_true (by assumption)
              obtain⟨cz,d9,az,b0⟩:=Xk a1.out (a2) cm cn
              have bq:=b0
              have br:=az
              obtain rfl: μ = cz:=(by injection d9)
              replace az:=sCl HB az
              replace b0:=sCl HB b0
              replace cm:=eq_true cm
              replace cn:=eq_true cn
              have co:0≤(ε :Int):=of_decide_eq_true (by assumption)
              have cp: ε < (X.length:Int):=of_decide_eq_true (by assumption)
              obtain⟨d1,da,b1,b5⟩:=Xk a1.out ε co cp
              have bu:=b5
              have bv:=b1
              obtain rfl: μ = d1:=(by injection da)
              replace b1:=sCl HB b1
              replace b5:=sCl HB b5
              replace co:=eq_true co
              replace cp:=eq_true cp
              refine Ze (n:=13) (S:=fun w'=>w'.cell? ⟨ν,0,none⟩=some (.slice ι O.length η)∧w'.cell? ⟨ν,1,none⟩=some (.slice (some μ) X.length θ)∧w'.cell? (μ.add (((a2)).toNat * 2))=some (.int .i64 ((Qp X (a2)).f0))∧w'.cell? ⟨(μ.add (((a2)).toNat * 2)).block,(μ.add (((a2)).toNat * 2)).off+1,none⟩=some (.int .i64 ((Qp X (a2)).f1))∧w'.cell? (μ.add ((ε).toNat * 2))=some (.int .i64 ((Qp X ε).f0))∧w'.cell? ⟨(μ.add ((ε).toNat * 2)).block,(μ.add ((ε).toNat * 2)).off+1,none⟩=some (.int .i64 ((Qp X ε).f1))) (ds:=[]) #[false,false,false,false,false,false,false,false,false,false,false,false,false] kr rfl rfl ⟨(Qa Z.out 0).trans rfl,(Qa Z.out 1).trans rfl,(sCl HB br),(sCl HB bq),(sCl HB bv),(sCl HB bu)⟩ (fun hHeld=>?_);refine Q5 newelref19_May.Dp newelref19_May.N9 (fun HT_ HW_=>?_)
              generalize ev.drew=bs at γ Z HB az b0 b1 b5 hHeld ⊢
              refine qP 0 (some 66) (bN 13 1) HT_ ?_
              refine qP 2 (some 68) (bN 13 5) HT_ ?_
              refine qP 3 (some 69) (bN 13 13) HT_ ?_
              refine qP 6 (some 72) (bN 13 77) HT_ ?_
              refine qP 8 (some 74) (bN 13 333) HT_ ?_
              refine qT 1 (some 67) (bN 13 335) HT_ HW_ hHeld ?_
              refine qP 4 (some 70) (bN 13 351) HT_ ?_
              refine qT 5 (some 71) (bN 13 383) HT_ HW_ hHeld ?_
              refine qT 7 (some 73) (bN 13 511) HT_ HW_ hHeld ?_
              refine qP 9 (some 75) (bN 13 1023) HT_ ?_
              refine qT 10 (some 76) (bN 13 2047) HT_ HW_ hHeld ?_
              refine Zf (i:=11) (N:=some 77) (bN 13 4095) rfl rfl (Q3 HT_.out kr) (by decide) (fun K hK=>?_)
              refine Zd Try.func62 kr rfl #[.agg #[.int .i64 ((Qp X (a2)).f0),.int .i64 ((Qp X (a2)).f1)],.agg #[.int .i64 ((Qp X ε).f0),.int .i64 ((Qp X ε).f1)]] (by rfl) rfl rfl (by(try simp only[List.map_toArray,List.map_cons,List.map_nil]);first|done|(simp only[bw];rfl)|rfl|(simp only[List.length_drop,List.length_take];rfl)) ?_
              with_reducible refine(newelref19_before.calls ((Qp X (a2)).f0) ((Qp X (a2)).f1) ((Qp X ε).f0) ((Qp X ε).f1) true _ bc.out).mono ?_
              rintro e mi ⟨rfl,hb⟩
              refine⟨_,rfl, ?_⟩
              replace γ:=sBk γ hb
              replace Z:=sBk Z hb
              replace HB:=sHb hb
              (try clear hb)
              (try clear a4)
              (try clear hk)
              (try clear hi)
              refine hK.out _ _ ⟨qc Z,qc Z,(sCl HB br),(sCl HB bq),(sCl HB bv),(sCl HB bu)⟩ (fun hHeld=>?_)
              clear hK K
              refine qN (some 77) ?_
              refine qP 12 (some 11) (bN 13 8191) HT_ ?_
              refine Zi (Zc HT_.out kr) ?_
              try go_wp2
              go_roundg k2
              case measure=>have:=am.out;have:=bn.out;omega
              case rel=>exact⟨(wrap64 (ε + 1)),rfl,H',⟨by have:=am.out;have:=bn.out;omega⟩,γ,Z,HB⟩
             ·replace cy:=Bool.eq_false_iff.mpr cy
              subst cy
              rw[if_neg nft] at H
              obtain rfl:=Option.some.inj H
              have e5:=a5.out
              have e6:=a3.out
              obtain⟨dy,e7,e9,ee⟩:=qD2 Z.out
              try go_wp2
              replace γ:=aK (Qd γ.out)
              replace Z:=aK (Qd Z.out)
              replace HB:=aK (Qg HB.out)
              have ba:0≤(ε :Int):=of_decide_eq_true (by assumption)
              have bd: ε < (X.length:Int):=of_decide_eq_true (by assumption)
              obtain⟨μ,ck,φ,ω⟩:=Xk a1.out ε ba bd
              have al:= ω
              have ao:= φ
              cases ck
              replace φ :=sCl HB φ
              replace ω :=sCl HB ω
              replace ba:=eq_true ba
              replace bd:=eq_true bd
              refine Ze (n:=8) (S:=fun w'=>w'.cell? ⟨af,0,none⟩=some (.int .i64 B)∧w'.cell? ⟨af,1,none⟩=some (.int .i64 J)∧w'.cell? ⟨ν,0,none⟩=some (.slice ι O.length η)∧w'.cell? ⟨ν,1,none⟩=some (.slice (some μ) X.length θ)∧w'.cell? (μ.add ((ε).toNat * 2))=some (.int .i64 ((Qp X ε).f0))∧w'.cell? ⟨(μ.add ((ε).toNat * 2)).block,(μ.add ((ε).toNat * 2)).off+1,none⟩=some (.int .i64 ((Qp X ε).f1))) (ds:=[]) #[false,false,false,false,false,false,false,false] kr rfl rfl ⟨(Qa γ.out 0).trans rfl,(Qa γ.out 1).trans rfl,(Qa Z.out 0).trans rfl,(Qa Z.out 1).trans rfl,(sCl HB ao),(sCl HB al)⟩ (fun hHeld=>?_);refine Q5 newelref19_May.Lk newelref19_May.Ul (fun HT_ HW_=>?_)
              generalize wr.drew=k7 at γ Z HB φ ω hHeld ⊢
              refine qP 1 (some 56) (bN 8 2) HT_ ?_
              refine qP 3 (some 58) (bN 8 10) HT_ ?_
              refine qT 0 (some 55) (bN 8 11) HT_ HW_ hHeld ?_
              refine qT 2 (some 57) (bN 8 15) HT_ HW_ hHeld ?_
              refine qP 4 (some 59) (bN 8 31) HT_ ?_
              refine qT 5 (some 60) (bN 8 63) HT_ HW_ hHeld ?_
              refine Zf (i:=6) (N:=some 61) (bN 8 127) rfl rfl (Q3 HT_.out kr) (by decide) (fun K hK=>?_)
              refine Zd Try.func61 kr rfl #[.agg #[.int .i64 B,.int .i64 J],.agg #[.int .i64 ((Qp X ε).f0),.int .i64 ((Qp X ε).f1)]] (by rfl) rfl rfl qM ?_
              with_reducible refine(newelref19_Inside.calls B J ((Qp X ε).f0) ((Qp X ε).f1) true _ d2.out).mono ?_
              rintro e en ⟨rfl,hb⟩
              refine⟨_,rfl, ?_⟩
              replace γ:=sBk γ hb
              replace Z:=sBk Z hb
              replace HB:=sHb hb
              (try clear hb)
              (try clear a4)
              (try clear hk)
              (try clear hi)
              refine hK.out _ _ ⟨qc γ,qc γ,qc Z,qc Z,(sCl HB ao),(sCl HB al)⟩ (fun hHeld=>?_)
              clear hK K
              refine qN (some 61) ?_
              refine qP 7 (some 10) (bN 8 255) HT_ ?_
              refine Zi (Zc HT_.out kr) ?_
              try go_wp2
              replace γ:=aK (Qd γ.out)
              replace Z:=aK (Qd Z.out)
              replace HB:=aK (Qg HB.out)
              have cm:0≤((a2):Int):=of_decide_eq_true (by assumption)
              have cn:(a2)<(X.length:Int):=of_decide_eq_true (by assumption)
              obtain⟨cz,d9,az,b0⟩:=Xk a1.out (a2) cm cn
              have bq:=b0
              have br:=az
              obtain rfl: μ = cz:=(by injection d9)
              replace az:=sCl HB az
              replace b0:=sCl HB b0
              replace cm:=eq_true cm
              replace cn:=eq_true cn
              have co:0≤(ε :Int):=of_decide_eq_true (by assumption)
              have cp: ε < (X.length:Int):=of_decide_eq_true (by assumption)
              obtain⟨d1,da,b1,b5⟩:=Xk a1.out ε co cp
              have bu:=b5
              have bv:=b1
              obtain rfl: μ = d1:=(by injection da)
              replace b1:=sCl HB b1
              replace b5:=sCl HB b5
              replace co:=eq_true co
              replace cp:=eq_true cp
              refine Ze (n:=13) (S:=fun w'=>w'.cell? ⟨ν,0,none⟩=some (.slice ι O.length η)∧w'.cell? ⟨ν,1,none⟩=some (.slice (some μ) X.length θ)∧w'.cell? (μ.add (((a2)).toNat * 2))=some (.int .i64 ((Qp X (a2)).f0))∧w'.cell? ⟨(μ.add (((a2)).toNat * 2)).block,(μ.add (((a2)).toNat * 2)).off+1,none⟩=some (.int .i64 ((Qp X (a2)).f1))∧w'.cell? (μ.add ((ε).toNat * 2))=some (.int .i64 ((Qp X ε).f0))∧w'.cell? ⟨(μ.add ((ε).toNat * 2)).block,(μ.add ((ε).toNat * 2)).off+1,none⟩=some (.int .i64 ((Qp X ε).f1))) (ds:=[]) #[false,false,false,false,false,false,false,false,false,false,false,false,false] kr rfl rfl ⟨(Qa Z.out 0).trans rfl,(Qa Z.out 1).trans rfl,(sCl HB br),(sCl HB bq),(sCl HB bv),(sCl HB bu)⟩ (fun hHeld=>?_);refine Q5 newelref19_May.Dp newelref19_May.N9 (fun HT_ HW_=>?_)
              generalize en.drew=ng at γ Z HB az b0 b1 b5 hHeld ⊢
              refine qP 0 (some 66) (bN 13 1) HT_ ?_
              refine qP 2 (some 68) (bN 13 5) HT_ ?_
              refine qP 3 (some 69) (bN 13 13) HT_ ?_
              refine qP 6 (some 72) (bN 13 77) HT_ ?_
              refine qP 8 (some 74) (bN 13 333) HT_ ?_
              refine qT 1 (some 67) (bN 13 335) HT_ HW_ hHeld ?_
              refine qP 4 (some 70) (bN 13 351) HT_ ?_
              refine qT 5 (some 71) (bN 13 383) HT_ HW_ hHeld ?_
              refine qT 7 (some 73) (bN 13 511) HT_ HW_ hHeld ?_
              refine qP 9 (some 75) (bN 13 1023) HT_ ?_
              refine qT 10 (some 76) (bN 13 2047) HT_ HW_ hHeld ?_
              refine Zf (i:=11) (N:=some 77) (bN 13 4095) rfl rfl (Q3 HT_.out kr) (by decide) (fun K hK=>?_)
              refine Zd Try.func62 kr rfl #[.agg #[.int .i64 ((Qp X (a2)).f0),.int .i64 ((Qp X (a2)).f1)],.agg #[.int .i64 ((Qp X ε).f0),.int .i64 ((Qp X ε).f1)]] (by rfl) rfl rfl (by(try simp only[List.map_toArray,List.map_cons,List.map_nil]);first|done|(simp only[bw];rfl)|rfl|(simp only[List.length_drop,List.length_take];rfl)) ?_
              with_reducible refine(newelref19_before.calls ((Qp X (a2)).f0) ((Qp X (a2)).f1) ((Qp X ε).f0) ((Qp X ε).f1) false _ bc.out).mono ?_
              rintro e eo ⟨rfl,hb⟩
              refine⟨_,rfl, ?_⟩
              replace γ:=sBk γ hb
              replace Z:=sBk Z hb
              replace HB:=sHb hb
              (try clear hb)
              (try clear a4)
              (try clear hk)
              (try clear hi)
              refine hK.out _ _ ⟨qc Z,qc Z,(sCl HB br),(sCl HB bq),(sCl HB bv),(sCl HB bu)⟩ (fun hHeld=>?_)
              clear hK K
              refine qN (some 77) ?_
              refine qP 12 (some 11) (bN 13 8191) HT_ ?_
              refine Zi (Zc HT_.out kr) ?_
              try go_wp2
              go_ret
              exact⟨by first|rfl|(simp[Qk,Qj] <;> rfl)|(simp only[← bw];first|rfl|(simp[Qk,Qj] <;> rfl))|(simp[*,Qk,Qj] <;> rfl),HB.out⟩
            ·rw[if_neg bz] at H
             exact absurd H (by simp)
           ·rw[if_neg ca] at H
            exact absurd H (by simp)
          ·rw[if_neg bi] at H
           have c46b0:decide (0 < ε)=false:=decide_eq_false bi
           clear bi
           have H':=aK H
           clear H
           have ha:=a5.out
           have he:=a3.out
           obtain⟨kw,kx,ky,kz⟩:=qD2 Z.out
           try go_wp2
           replace γ:=aK (Qd γ.out)
           replace Z:=aK (Qd Z.out)
           replace HB:=aK (Qg HB.out)
           have ba:0≤(ε :Int):=of_decide_eq_true (by assumption)
           have bd: ε < (X.length:Int):=of_decide_eq_true (by assumption)
           obtain⟨μ,ck,φ,ω⟩:=Xk a1.out ε ba bd
           have al:= ω
           have ao:= φ
           cases ck
           replace φ :=sCl HB φ
           replace ω :=sCl HB ω
           replace ba:=eq_true ba
           replace bd:=eq_true bd
           refine Ze (n:=8) (S:=fun w'=>w'.cell? ⟨af,0,none⟩=some (.int .i64 B)∧w'.cell? ⟨af,1,none⟩=some (.int .i64 J)∧w'.cell? ⟨ν,0,none⟩=some (.slice ι O.length η)∧w'.cell? ⟨ν,1,none⟩=some (.slice (some μ) X.length θ)∧w'.cell? (μ.add ((ε).toNat * 2))=some (.int .i64 ((Qp X ε).f0))∧w'.cell? ⟨(μ.add ((ε).toNat * 2)).block,(μ.add ((ε).toNat * 2)).off+1,none⟩=some (.int .i64 ((Qp X ε).f1))) (ds:=[]) #[false,false,false,false,false,false,false,false] kr rfl rfl ⟨(Qa γ.out 0).trans rfl,(Qa γ.out 1).trans rfl,(Qa Z.out 0).trans rfl,(Qa Z.out 1).trans rfl,(sCl HB ao),(sCl HB al)⟩ (fun hHeld=>?_);refine Q5 newelref19_May.Lk newelref19_May.Ul (fun HT_ HW_=>?_)
           generalize wr.drew=ot at γ Z HB φ ω hHeld ⊢
           refine qP 1 (some 56) (bN 8 2) HT_ ?_
           refine qP 3 (some 58) (bN 8 10) HT_ ?_
           refine qT 0 (some 55) (bN 8 11) HT_ HW_ hHeld ?_
           refine qT 2 (some 57) (bN 8 15) HT_ HW_ hHeld ?_
           refine qP 4 (some 59) (bN 8 31) HT_ ?_
           refine qT 5 (some 60) (bN 8 63) HT_ HW_ hHeld ?_
           refine Zf (i:=6) (N:=some 61) (bN 8 127) rfl rfl (Q3 HT_.out kr) (by decide) (fun K hK=>?_)
           refine Zd Try.func61 kr rfl #[.agg #[.int .i64 B,.int .i64 J],.agg #[.int .i64 ((Qp X ε).f0),.int .i64 ((Qp X ε).f1)]] (by rfl) rfl rfl qM ?_
           with_reducible refine(newelref19_Inside.calls B J ((Qp X ε).f0) ((Qp X ε).f1) true _ d2.out).mono ?_
           rintro e ep ⟨rfl,hb⟩
           refine⟨_,rfl, ?_⟩
           replace γ:=sBk γ hb
           replace Z:=sBk Z hb
           replace HB:=sHb hb
           (try clear hb)
           (try clear a4)
           (try clear hk)
           (try clear hi)
           refine hK.out _ _ ⟨qc γ,qc γ,qc Z,qc Z,(sCl HB ao),(sCl HB al)⟩ (fun hHeld=>?_)
           clear hK K
           refine qN (some 61) ?_
           refine qP 7 (some 10) (bN 8 255) HT_ ?_
           refine Zi (Zc HT_.out kr) ?_
           try go_wp2
           go_roundg k2
           case measure=>have:=am.out;have:=bn.out;omega
           case rel=>exact⟨(wrap64 (ε + 1)),rfl,H',⟨by have:=am.out;have:=bn.out;omega⟩,γ,Z,HB⟩
         ·replace ci:=Bool.eq_false_iff.mpr ci
          subst ci
          rw[if_neg nft] at H
          obtain rfl:=Option.some.inj H
          have l6:=a5.out
          have l7:=a3.out
          obtain⟨ho,i3,i4,i5⟩:=qD2 Z.out
          try go_wp2
          replace γ:=aK (Qd γ.out)
          replace Z:=aK (Qd Z.out)
          replace HB:=aK (Qg HB.out)
          have ba:0≤(ε :Int):=of_decide_eq_true (by assumption)
          have bd: ε < (X.length:Int):=of_decide_eq_true (by assumption)
          obtain⟨μ,ck,φ,ω⟩:=Xk a1.out ε ba bd
          have al:= ω
          have ao:= φ
          cases ck
          replace φ :=sCl HB φ
          replace ω :=sCl HB ω
          replace ba:=eq_true ba
          replace bd:=eq_true bd
          refine Ze (n:=8) (S:=fun w'=>w'.cell? ⟨af,0,none⟩=some (.int .i64 B)∧w'.cell? ⟨af,1,none⟩=some (.int .i64 J)∧w'.cell? ⟨ν,0,none⟩=some (.slice ι O.length η)∧w'.cell? ⟨ν,1,none⟩=some (.slice (some μ) X.length θ)∧w'.cell? (μ.add ((ε).toNat * 2))=some (.int .i64 ((Qp X ε).f0))∧w'.cell? ⟨(μ.add ((ε).toNat * 2)).block,(μ.add ((ε).toNat * 2)).off+1,none⟩=some (.int .i64 ((Qp X ε).f1))) (ds:=[]) #[false,false,false,false,false,false,false,false] kr rfl rfl ⟨(Qa γ.out 0).trans rfl,(Qa γ.out 1).trans rfl,(Qa Z.out 0).trans rfl,(Qa Z.out 1).trans rfl,(sCl HB ao),(sCl HB al)⟩ (fun hHeld=>?_);refine Q5 newelref19_May.Lk newelref19_May.Ul (fun HT_ HW_=>?_)
          generalize wr.drew=qi at γ Z HB φ ω hHeld ⊢
          refine qP 1 (some 56) (bN 8 2) HT_ ?_
          refine qP 3 (some 58) (bN 8 10) HT_ ?_
          refine qT 0 (some 55) (bN 8 11) HT_ HW_ hHeld ?_
          refine qT 2 (some 57) (bN 8 15) HT_ HW_ hHeld ?_
          refine qP 4 (some 59) (bN 8 31) HT_ ?_
          refine qT 5 (some 60) (bN 8 63) HT_ HW_ hHeld ?_
          refine Zf (i:=6) (N:=some 61) (bN 8 127) rfl rfl (Q3 HT_.out kr) (by decide) (fun K hK=>?_)
          refine Zd Try.func61 kr rfl #[.agg #[.int .i64 B,.int .i64 J],.agg #[.int .i64 ((Qp X ε).f0),.int .i64 ((Qp X ε).f1)]] (by rfl) rfl rfl qM ?_
          with_reducible refine(newelref19_Inside.calls B J ((Qp X ε).f0) ((Qp X ε).f1) false _ d2.out).mono ?_
          rintro e qj ⟨rfl,hb⟩
          refine⟨_,rfl, ?_⟩
          replace γ:=sBk γ hb
          replace Z:=sBk Z hb
          replace HB:=sHb hb
          (try clear hb)
          (try clear a4)
          (try clear hk)
          (try clear hi)
          refine hK.out _ _ ⟨qc γ,qc γ,qc Z,qc Z,(sCl HB ao),(sCl HB al)⟩ (fun hHeld=>?_)
          clear hK K
          refine qN (some 61) ?_
          refine qP 7 (some 10) (bN 8 255) HT_ ?_
          refine Zi (Zc HT_.out kr) ?_
          try go_wp2
          go_ret
          exact⟨rfl,HB.out⟩
        ·rw[if_neg fl] at H
         exact absurd H (by simp)
       ·rw[if_neg cv] at H
        have c42b0:=decide_eq_false cv
        clear cv
        obtain rfl:=Option.some.inj H
        have nv:=a5.out
        have nw:=a3.out
        obtain⟨ef,eg,eh,ei⟩:=qD2 Z.out
        go_wp2
        go_ret
        exact⟨rfl,HB.out⟩
 ·replace c4:=Bool.eq_false_iff.mpr c4
  subst c4
  rw[if_neg nft] at H
  obtain rfl:=Option.some.inj H
  go_enter Try.func39,Try.ntmps39
  go_wp2_with (first|((with_reducible refine Qe (N:=2) rfl ?_);refine qE 2 #[.int .i64 B,.int .i64 J] 59 ?_;intro af hg qk hbox hb;have γ:=aK hbox;have dj:=sGe hg;have dl:=sGe hg;replace HB:=sHb hb;clear hb hbox hg)|((with_reducible refine Qe (N:=3) rfl ?_);refine qE 3 #[.slice ι O.length η,.slice κ X.length θ] 50 ?_;intro ν hg er hbox hb;have Z:=aK hbox;have dq:=sGe hg;have dv:=sGe hg;have a3:=sNl γ hg;have a5:=sNg γ hg;replace γ:=sBk γ hb;replace HB:=sHb hb;clear hb hbox hg;have fb:=a3.out;have fe:=a5.out;obtain⟨ej,ek,el,em⟩:=qD2 γ.out)|((with_reducible refine Qf (f:=59) rfl ?_);refine Qt (some 13) rfl rfl Try.func59 kr rfl #[.agg #[.int .i64 B,.int .i64 J]] rfl qM ?_;(with_reducible refine(newelref19_House.calls B J false _ A3.out).mono ?_);rintro e et ⟨rfl,hb⟩;refine⟨_,rfl, ?_⟩;replace γ:=sBk γ hb;replace Z:=sBk Z hb;replace HB:=sHb hb;(try clear hb);(try clear a4);(try clear hk);(try clear hi)))
  go_ret
  exact⟨rfl,HB.out⟩
def group_house.f (B:Int) (J:Int) (O:Int) (X:Int) (Y:Int) (Z:Int) (γ:Int) (ζ :Int) (θ :Int) (η :Int) (l1:List (S31)):Option (Int×Int):=some (B,(l1.length:Int))
set_option maxHeartbeats 8000000 in
set_option maxRecDepth 100000 in
theorem group_house.calls (B:Int) (J:Int) (O:Int) (X:Int) (Y:Int) (Z:Int) (γ:Int) (ζ :Int) (θ :Int) (η :Int) (A1:Option Addr) (c1:Nat) (l1:List (S31)) (r1:Int) (r2:Int) (w:World) (cw:Kd.C k31 w A1 l1.length l1) (cr:l1.length≤c1) (h:group_house.f B J O X Y Z γ ζ θ η l1=some (r1,r2)):
 Calls Try.prog 37 #[.agg #[.int .i64 B,.int .i64 J,.int .i64 O,.int .i64 X,.int .i64 Y,.int .i64 Z,.int .i64 γ,.int .i64 ζ,.int .i64 θ,.int .i64 η],.slice A1 l1.length c1] w fun e w'=>e = .returned (.agg #[.int .i64 r1,.int .i64 r2])∧Below w.heap.size w w':=by
 have cg:=Try.underlying25
 have dw:=Try.underlying59
 have ci:=aK cw
 have dj:=aK cr
 clear cw cr
 have HB:=aK (Below.refl w.heap.size w)
 have H:(some (B,(l1.length:Int)))=some (r1,r2):=h
 clear h
 simp only[Option.some.injEq,Prod.mk.injEq] at H
 obtain⟨rfl,rfl⟩:=H
 go_enter Try.func37,Try.ntmps37
 go_wp2_with (first|((with_reducible refine Qe (N:=2) rfl ?_);refine Zh ?hg (N:=2) ?hd (cs:=#[.int .i64 B,.int .i64 J,.int .i64 O,.int .i64 X,.int .i64 Y,.int .i64 Z,.int .i64 γ,.int .i64 ζ,.int .i64 θ,.int .i64 η]) (t:=25) ?hr ?_;(case hd=>rfl);(case hg=>rfl);(case hr=>first|(go_simp;done)|(go_simp;rfl));intro δ hg w3 hbox hb;have ρ:=aK (Q2 (by repeat(first|(with_reducible first|exact HB.out|apply Qo|apply Qi|apply Qg)|exact HB.out)) hb);have τ :=aK (hbox);have ω :=aK ((by rw[hg];exact(Qn (by repeat(first|(with_reducible first|exact HB.out|apply Qo|apply Qi|apply Qg)|exact HB.out))):w.heap.size ≤ δ));have a3:=aK ((by rw[hg];exact(Qn (by repeat(first|(with_reducible first|exact HB.out|apply Qo|apply Qi|apply Qg)|exact HB.out))):w.heap.size ≤ δ));clear HB;have HB:=ρ;have ε := τ;have ag:= ω;have κ :=a3;clear ρ τ ω a3;clear hb hbox hg)|((with_reducible refine Qe (N:=4) rfl ?_);refine Zh ?hg (N:=4) ?hd (cs:=#[.int .i64 0,.int .i64 0]) (t:=59) ?hr ?_;(case hd=>rfl);(case hg=>rfl);(case hr=>first|(go_simp;done)|(go_simp;rfl));intro ι hg w4 hbox hb;have ρ:=aK (Qz (g:= δ) (o:=.cells #[.int .i64 B,.int .i64 J,.int .i64 O,.int .i64 X,.int .i64 Y,.int .i64 Z,.int .i64 γ,.int .i64 ζ,.int .i64 θ,.int .i64 η] 25 (0,0)) (by(with_reducible repeat first|refine Qm ?_ _|refine Qd ?_|refine Ql ?_ _);exact ε.out) hb);have τ :=aK (Q2 (by repeat(first|(with_reducible first|exact HB.out|apply Qo|apply Qi|apply Qg|refine Qr ?_ κ.out)|exact HB.out)) hb);have ω :=aK (hbox);have a3:=aK ((by rw[hg];exact(Qn (by repeat(first|(with_reducible first|exact HB.out|apply Qo|apply Qi|apply Qg|refine Qr ?_ κ.out)|exact HB.out))):w.heap.size ≤ ι));have an:=aK ((by rw[hg];exact(Qn (by repeat(first|(with_reducible first|exact HB.out|apply Qo|apply Qi|apply Qg|refine Qr ?_ κ.out)|exact HB.out))):w.heap.size ≤ ι));have b1:=aK ((by rw[hg];exact Nat.ne_of_lt (Xi (g:= δ) (o:=.cells #[.int .i64 B,.int .i64 J,.int .i64 O,.int .i64 X,.int .i64 Y,.int .i64 Z,.int .i64 γ,.int .i64 ζ,.int .i64 θ,.int .i64 η] 25 (0,0)) (by(with_reducible repeat first|refine Qm ?_ _|refine Qd ?_|refine Ql ?_ _);exact ε.out)): δ ≠ ι));have b7:=aK ((by rw[hg];exact Nat.ne_of_gt (Xi (g:= δ) (o:=.cells #[.int .i64 B,.int .i64 J,.int .i64 O,.int .i64 X,.int .i64 Y,.int .i64 Z,.int .i64 γ,.int .i64 ζ,.int .i64 θ,.int .i64 η] 25 (0,0)) (by(with_reducible repeat first|refine Qm ?_ _|refine Qd ?_|refine Ql ?_ _);exact ε.out)): ι ≠ δ));clear ε;clear HB;have ε :=ρ;have HB:= τ;have ξ := ω;have ah:=a3;have aa:=an;have μ :=b1;have ν :=b7;clear ρ τ ω a3 an b1 b7;clear hb hbox hg;have ac:= μ.out;have af:= ν.out;obtain⟨σ,a6,φ,χ,a8,ab,am,ψ,a1,a4,ao,b2,b4,bb,bk,bn,bo,a5,a7,a9⟩:=Zg ε.out;obtain⟨a0,a2,ae,ay⟩:=qD2 ξ.out))
 refine bodyPost_ret (results_cell_row rfl _ _ ι 59 #[.int .i64 B,.int .i64 (l1.length:Int)] (0,0) _ rfl (by(with_reducible repeat first|refine Qm ?_ _|refine Qd ?_|refine Ql ?_ _);refine Qq (cs:=#[.int .i64 B,.int .i64 0]) ?_ 1 _ rfl;(with_reducible repeat first|refine Qm ?_ _|refine Qd ?_|refine Ql ?_ _);refine Qq (cs:=#[.int .i64 0,.int .i64 0]) ?_ 0 _ rfl;(with_reducible repeat first|refine Qm ?_ _|refine Qd ?_|refine Ql ?_ _);exact ξ.out) Try.underlying59 rfl kr) rfl ?_
 exact⟨by first|rfl|(simp[Qk,Qj] <;> rfl)|(simp[*,Qk,Qj] <;> rfl),by repeat(first|(with_reducible first|exact HB.out|apply Qo|apply Qi|apply Qg|refine Qr ?_ κ.out|refine Qr ?_ aa.out)|exact HB.out)⟩
def newellaw17_Plain.f:Option (Int×Int×Int×Int×Int×Int×Int×Int×Int×Int):=some (4,2,1,2,4,1,2,3,4,0)
set_option maxHeartbeats 8000000 in
set_option maxRecDepth 100000 in
theorem newellaw17_Plain.calls  (r1:Int) (r2:Int) (r3:Int) (r4:Int) (J:Int) (O:Int) (X:Int) (Y:Int) (Z:Int) (B:Int) (w:World) (h:newellaw17_Plain.f=some (r1,r2,r3,r4,J,O,X,Y,Z,B)):
 Calls Try.prog 27 #[] w fun e w'=>e = .returned (.agg #[.int .i64 r1,.int .i64 r2,.int .i64 r3,.int .i64 r4,.int .i64 J,.int .i64 O,.int .i64 X,.int .i64 Y,.int .i64 Z,.int .i64 B])∧Below w.heap.size w w':=by
 have cg:=Try.underlying25
 have ja:=Try.underlying23
 have HB:=aK (Below.refl w.heap.size w)
 have H:(some (4,2,1,2,4,1,2,3,4,0))=some (r1,r2,r3,r4,J,O,X,Y,Z,B):=h
 clear h
 simp only[Option.some.injEq,Prod.mk.injEq] at H
 obtain⟨rfl,rfl,rfl,rfl,rfl,rfl,rfl,rfl,rfl,rfl⟩:=H
 go_enter Try.func27,Try.ntmps27
 go_wp2_with (first|((with_reducible refine Qe (N:=0) rfl ?_);refine Zh ?hg (N:=0) ?hd (cs:=#[.int .i64 0,.int .i64 0,.int .i64 0,.int .i64 0,.int .i64 0,.int .i64 0,.int .i64 0,.int .i64 0,.int .i64 0,.int .i64 0]) (t:=25) ?hr ?_;(case hd=>rfl);(case hg=>rfl);(case hr=>first|(go_simp;done)|(go_simp;rfl));intro aa hg w1 hbox hb;have ρ:=aK (Q2 (by repeat(first|(with_reducible first|exact HB.out|apply Qo|apply Qi|apply Qg)|exact HB.out)) hb);have τ :=aK (hbox);have ω :=aK ((by rw[hg];exact(Qn (by repeat(first|(with_reducible first|exact HB.out|apply Qo|apply Qi|apply Qg)|exact HB.out))):w.heap.size≤aa));have a3:=aK ((by rw[hg];exact(Qn (by repeat(first|(with_reducible first|exact HB.out|apply Qo|apply Qi|apply Qg)|exact HB.out))):w.heap.size≤aa));clear HB;have HB:=ρ;have ε := τ;have kv:= ω;have ju:=a3;clear ρ τ ω a3;clear hb hbox hg;obtain⟨γ,δ,ζ,η,θ,ι,κ,μ,ν,ξ,σ,φ,χ,ψ,a0,a1,a2,a4,a5,a6⟩:=Zg ε.out))
 refine bodyPost_ret (results_cell_row rfl _ _ aa 25 #[.int .i64 4,.int .i64 2,.int .i64 1,.int .i64 2,.int .i64 4,.int .i64 1,.int .i64 2,.int .i64 3,.int .i64 4,.int .i64 0] (0,0) _ rfl (by(with_reducible repeat first|refine Qm ?_ _|refine Qd ?_|refine Ql ?_ _);refine Qq (cs:=#[.int .i64 4,.int .i64 2,.int .i64 1,.int .i64 2,.int .i64 4,.int .i64 1,.int .i64 2,.int .i64 3,.int .i64 4,.int .i64 0]) ?_ 9 _ rfl;(with_reducible repeat first|refine Qm ?_ _|refine Qd ?_|refine Ql ?_ _);refine Qq (cs:=#[.int .i64 4,.int .i64 2,.int .i64 1,.int .i64 2,.int .i64 4,.int .i64 1,.int .i64 2,.int .i64 3,.int .i64 0,.int .i64 0]) ?_ 8 _ rfl;(with_reducible repeat first|refine Qm ?_ _|refine Qd ?_|refine Ql ?_ _);refine Qq (cs:=#[.int .i64 4,.int .i64 2,.int .i64 1,.int .i64 2,.int .i64 4,.int .i64 1,.int .i64 2,.int .i64 0,.int .i64 0,.int .i64 0]) ?_ 7 _ rfl;(with_reducible repeat first|refine Qm ?_ _|refine Qd ?_|refine Ql ?_ _);refine Qq (cs:=#[.int .i64 4,.int .i64 2,.int .i64 1,.int .i64 2,.int .i64 4,.int .i64 1,.int .i64 0,.int .i64 0,.int .i64 0,.int .i64 0]) ?_ 6 _ rfl;(with_reducible repeat first|refine Qm ?_ _|refine Qd ?_|refine Ql ?_ _);refine Qq (cs:=#[.int .i64 4,.int .i64 2,.int .i64 1,.int .i64 2,.int .i64 4,.int .i64 0,.int .i64 0,.int .i64 0,.int .i64 0,.int .i64 0]) ?_ 5 _ rfl;(with_reducible repeat first|refine Qm ?_ _|refine Qd ?_|refine Ql ?_ _);refine Qq (cs:=#[.int .i64 4,.int .i64 2,.int .i64 1,.int .i64 2,.int .i64 0,.int .i64 0,.int .i64 0,.int .i64 0,.int .i64 0,.int .i64 0]) ?_ 4 _ rfl;(with_reducible repeat first|refine Qm ?_ _|refine Qd ?_|refine Ql ?_ _);refine Qq (cs:=#[.int .i64 4,.int .i64 2,.int .i64 1,.int .i64 0,.int .i64 0,.int .i64 0,.int .i64 0,.int .i64 0,.int .i64 0,.int .i64 0]) ?_ 3 _ rfl;(with_reducible repeat first|refine Qm ?_ _|refine Qd ?_|refine Ql ?_ _);refine Qq (cs:=#[.int .i64 4,.int .i64 2,.int .i64 0,.int .i64 0,.int .i64 0,.int .i64 0,.int .i64 0,.int .i64 0,.int .i64 0,.int .i64 0]) ?_ 2 _ rfl;(with_reducible repeat first|refine Qm ?_ _|refine Qd ?_|refine Ql ?_ _);refine Qq (cs:=#[.int .i64 4,.int .i64 0,.int .i64 0,.int .i64 0,.int .i64 0,.int .i64 0,.int .i64 0,.int .i64 0,.int .i64 0,.int .i64 0]) ?_ 1 _ rfl;(with_reducible repeat first|refine Qm ?_ _|refine Qd ?_|refine Ql ?_ _);refine Qq (cs:=#[.int .i64 0,.int .i64 0,.int .i64 0,.int .i64 0,.int .i64 0,.int .i64 0,.int .i64 0,.int .i64 0,.int .i64 0,.int .i64 0]) ?_ 0 _ rfl;(with_reducible repeat first|refine Qm ?_ _|refine Qd ?_|refine Ql ?_ _);exact ε.out) Try.underlying25 rfl kr) rfl ?_
 exact⟨by first|rfl|(simp[Qk,Qj] <;> rfl)|(simp[*,Qk,Qj] <;> rfl),by repeat(first|(with_reducible first|exact HB.out|apply Qo|apply Qi|apply Qg|refine Qr ?_ ju.out)|exact HB.out)⟩
mutual
def newelref19_View.l0:Nat→Int→Int→List (S36)→List (S86)→List Int→Option (List Int×List Int×List Int)
 |0,_,_,_,_,_=>none
 |k+1,J,x6,B,X,Y=>if x6<(X.length:Int) then (if 0≤x6 then (if ((Qp X x6).f0)=J then (if Y.length<17592186044416 then (newelref19_View.l0 k J (wrap64 (x6+1)) B X (Y ++ [(Qp X x6).f1])) else (none)) else (newelref19_View.l0 k J (wrap64 (x6+1)) B X Y)) else (none)) else (newelref19_View.l1 k J 0 B X Y ([]:List Int) ([]:List Int))
def newelref19_View.l1:Nat→Int→Int→List (S36)→List (S86)→List Int→List Int→List Int→Option (List Int×List Int×List Int)
 |0,_,_,_,_,_,_,_=>none
 |k+1,J,O,B,X,Y,γ,Z=>if O<(B.length:Int) then (if 0≤O then (if ((Qc B O).f2)=J then (newelref19_View.j2 k J O (((Qc B O).f1)==1) B X Y γ Z ((Qc B O).f0) ((Qc B O).f1) ((Qc B O).f2)) else (newelref19_View.j2 k J O false B X Y γ Z ((Qc B O).f0) ((Qc B O).f1) ((Qc B O).f2))) else (none)) else (some (Y,γ,Z))
def newelref19_View.j2:Nat→Int→Int→Bool→List (S36)→List (S86)→List Int→List Int→List Int→Int→Int→Int→Option (List Int×List Int×List Int)
 |0,_,_,_,_,_,_,_,_,_,_,_=>none
 |k+1,J,O,η,B,X,Y,γ,Z,δ,ε,ζ =>if η = true then (if γ.length<17592186044416 then ((some (γ ++ [δ]:List Int)).bind fun ag=>(if ζ = J then (if ε = (-1) then (if Z.length<17592186044416 then (newelref19_View.l1 k J (wrap64 (O+1)) B X Y ag (Z ++ [δ])) else (none)) else (newelref19_View.l1 k J (wrap64 (O+1)) B X Y ag Z)) else (newelref19_View.l1 k J (wrap64 (O+1)) B X Y ag Z))) else (none)) else (if ζ = J then (if ε = (-1) then (if Z.length<17592186044416 then (newelref19_View.l1 k J (wrap64 (O+1)) B X Y γ (Z ++ [δ])) else (none)) else (newelref19_View.l1 k J (wrap64 (O+1)) B X Y γ Z)) else (newelref19_View.l1 k J (wrap64 (O+1)) B X Y γ Z))
end
def newelref19_View.f (k:Nat) (B:List (S36)) (Z:List (S86)) (X:Int):Option (List Int×List Int×List Int):=newelref19_View.l0 k X 0 B Z ([]:List Int)
def newelref19_View.T6:Bool×List (List Nat×List Nat):=(true,[([],[]),([0],[0]),([],[]),([2],[2]),([],[]),([3,4],[3,4]),([5],[5]),([6],[6]),([7],[7]),([1,8],[1,8]),([0,1,2,3,4,5,6,7,8,9],[]),([10,9,9,0,1,2,3,4,5,6,7,8,9],[9,10])])
def newelref19_View.B6:List Nat:=[0,1,0,4,0,28,60,124,252,511,1023,2047]
theorem newelref19_View.Vp:rtab .any (opsOf Try.f41 6)=newelref19_View.T6:=by kernel_rfl
theorem newelref19_View.Kg:Zk newelref19_View.T6.2 newelref19_View.B6=true:=by kernel_rfl
set_option maxHeartbeats 8000000 in
set_option maxRecDepth 100000 in
theorem newelref19_View.calls (k:Nat) (φ :Option Addr) (κ :Nat) (B:List (S36)) (ψ :Option Addr) (χ :Nat) (Z:List (S86)) (X:Int) (r1:List Int) (r2:List Int) (r3:List Int) (w:World) (a0:Kd.C k36 w φ B.length B) (a2:B.length ≤ κ) (bb:Kd.C k86 w ψ Z.length Z) (bc:Z.length ≤ χ) (h:newelref19_View.f k B Z X=some (r1,r2,r3)):
 Calls Try.prog 41 #[.agg #[.slice φ B.length κ,.slice ψ Z.length χ],.int .i64 X] w fun e w'=>∃ b8 dv d7:Value,e = .returned (.agg #[b8,dv,d7])∧Kd.R (Kd.int .i64) 3 w' w.heap.size (fun k_=>some k_≠(dv:Value).ownBlock∧some k_≠(d7:Value).ownBlock) b8 r1∧Kd.R (Kd.int .i64) 3 w' w.heap.size (fun k_=>some k_≠(b8:Value).ownBlock∧some k_≠(d7:Value).ownBlock) dv r2∧Kd.R (Kd.int .i64) 3 w' w.heap.size (fun k_=>some k_≠(b8:Value).ownBlock∧some k_≠(dv:Value).ownBlock) d7 r3∧Below w.heap.size w w':=by
 have dc:=Try.underlying50
 have e9:=Try.underlying34
 have ch:=Try.underlying36
 have ah:=aK a0
 have bl:=aK a2
 clear a0 a2
 have bk:=aK bb
 have dr:=aK bc
 clear bb bc
 have HB:=aK (Below.refl w.heap.size w)
 have H:(newelref19_View.l0 k X 0 B Z ([]:List Int))=some (r1,r2,r3):=h
 clear h
 have H':=aK H
 clear H
 go_enter Try.func41,Try.ntmps41
 go_wp2_with (first|((with_reducible refine Qe (N:=2) rfl ?_);refine qE 2 #[.slice φ B.length κ,.slice ψ Z.length χ] 50 ?_;intro b0 hg w3 hbox hb;have γ:=aK hbox;have nl:=sGe hg;have nm:=sGe hg;replace HB:=sHb hb;clear hb hbox hg)|((with_reducible refine Qe (N:=4) rfl ?_);refine qE 4 #[.slice none 0 0,.slice none 0 0,.slice none 0 0] 34 ?_;intro b3 hg w4 hbox hb;have θ :=aK hbox;have nn:=sGe hg;have no:=sGe hg;have b4:=sNl γ hg;have b5:=sNg γ hg;replace γ:=sBk γ hb;replace HB:=sHb hb;clear hb hbox hg)|((with_reducible refine Qe (N:=5) rfl ?_);refine qE 5 #[.slice none 0 0,.slice none 0 0,.slice none 0 0] 34 ?_;intro az hg w5 hbox hb;have J:=aK hbox;have np:=sGe hg;have nq:=sGe hg;have τ :=sNl γ hg;have ω :=sNg γ hg;have ai:=sNl θ hg;have an:=sNg θ hg;replace γ:=sBk γ hb;replace θ :=sBk θ hb;replace HB:=sHb hb;clear hb hbox hg;have cr:= ω.out;have cv:= τ.out;have dx:=an.out;have fi:=ai.out;obtain⟨a8,a9,ao,aa,ab,b2⟩:=qD3 J.out))
 go_loopg [6] k (fun kq v6 w'=>∃ (Y:Int) (ρ:List Int) (η :Value),v6 = .int .i64 Y∧Aside0 (newelref19_View.l0 kq X Y B Z ρ=some (r1,r2,r3))∧Aside0 (kq≤k)∧Aside0 (Kd.R (Kd.int .i64) 3 w' w.heap.size (fun _=>True) η ρ)∧Aside0 (w'.heap[b0]?=some (.cells #[(.slice φ B.length κ),(.slice ψ Z.length χ)] 50 (0,0)))∧Aside0 (w'.heap[b3]?=some (.cells #[(.slice none 0 0),(.slice none 0 0),(.slice none 0 0)] 34 (0,0)))∧Aside0 (w'.heap[az]?=some (.cells #[η,(.slice none 0 0),(.slice none 0 0)] 34 (0,0)))∧Aside0 (Below w.heap.size w w'))
 case atStart=>exact⟨(0),(([]:List Int)),(.slice none 0 0),qR,H',⟨Nat.le_refl _⟩,⟨by first|exact Kd.Xu _ _ _ _ _|exact Kd.Yg _ _ _ _ _|exact Kd.Yd _ _ _ _ _|exact Kd.Yf _ _ _ _ _|exact Kd.Ye _ _ _ _ _⟩,⟨bka γ⟩,⟨bka θ⟩,⟨by(with_reducible repeat first|refine Qm ?_ _|refine Qd ?_|refine Ql ?_ _);refine Qq (cs:=#[.slice none 0 0,.slice none 0 0,.slice none 0 0]) ?_ 2 _ rfl;(with_reducible repeat first|refine Qm ?_ _|refine Qd ?_|refine Ql ?_ _);refine Qq (cs:=#[.slice none 0 0,.slice none 0 0,.slice none 0 0]) ?_ 1 _ rfl;(with_reducible repeat first|refine Qm ?_ _|refine Qd ?_|refine Ql ?_ _);refine Qq (cs:=#[.slice none 0 0,.slice none 0 0,.slice none 0 0]) ?_ 0 _ rfl;(with_reducible repeat first|refine Qm ?_ _|refine Qd ?_|refine Ql ?_ _);exact J.out⟩,⟨bel⟩⟩
 case round=>
  clear H'
  try clear a8
  try clear a9
  try clear ao
  try clear aa
  try clear ab
  try clear b2
  obtain⟨Y,ρ,η,rfl,HA,am,O,γ,θ,J,HB⟩:=hrel
  cases gk with
  |zero=>exact absurd HA.out (by simp[newelref19_View.l0])
  |succ k1=>
   have H:=HA.out
   clear HA
   simp only[newelref19_View.l0] at H
   by_cases c9:Y<(Z.length:Int)
   ·rw[if_pos c9] at H
    have c9b0:=decide_eq_true c9
    clear c9
    by_cases c10:0≤Y
    ·rw[if_pos c10] at H
     have c10b0:=decide_eq_true c10
     clear c10
     by_cases a6:((Qp Z Y).f0)=X
     ·rw[if_pos a6] at H
      have c11b0:(((Qp Z Y).f0)==X)=true:=beq_iff_eq.mpr a6
      have c11b1:(((Qp Z Y).f0) != X)=false:=bne_eq_false_iff_eq.mpr a6
      clear a6
      by_cases a5:ρ.length<17592186044416
      ·rw[if_pos a5] at H
       have et:=aK a5
       clear a5
       obtain⟨d5,cd⟩:∃ y_:List Int,y_=(ρ ++ [(Qp Z Y).f1]):=⟨_,rfl⟩
       replace H:(newelref19_View.l0 k1 X (wrap64 (Y+1)) B Z d5)=some (r1,r2,r3):=by first|(rw[cd];with_reducible exact H)|(have al:=(Option.bind_some _ _).symm.trans H;rw[cd];with_reducible exact al)|(have al:=(Option.bind_some _ _).symm.trans H;with_reducible exact al)|with_reducible exact H|(rw[cd];exact H)|exact H
       have f7:=aK cd
       clear cd
       have H':=aK H
       clear H
       have gp:=b4.out
       have gq:=b5.out
       have ej:= τ.out
       have ek:= ω.out
       obtain⟨bu,bv,ci,cm⟩:=qD2 γ.out
       have bw:0≤(Y:Int):=of_decide_eq_true (by assumption)
       have cb:Y<(Z.length:Int):=of_decide_eq_true (by assumption)
       obtain⟨bf,d6,ba,bd⟩:=Xk bk.out Y bw cb
       cases d6
       replace ba:=sCl HB ba
       replace bd:=sCl HB bd
       replace bw:=eq_true bw
       replace cb:=eq_true cb
       try go_wp2
       replace O:=aK (Kd.Qy O.out)
       replace γ:=aK (Qd γ.out)
       replace θ :=aK (Qd θ.out)
       replace J:=aK (Qd J.out)
       replace HB:=aK (Qg HB.out)
       have de:0≤(Y:Int):=of_decide_eq_true (by assumption)
       have df:Y<(Z.length:Int):=of_decide_eq_true (by assumption)
       obtain⟨fg,gg,bg,bh⟩:=Xk bk.out Y de df
       have bm:=bh
       have bo:=bg
       obtain rfl:bf=fg:=(by injection gg)
       replace bg:=sCl HB bg
       replace bh:=sCl HB bh
       replace de:=eq_true de
       replace df:=eq_true df
       refine Ze (n:=12) (S:=fun w'=>w'.cell? ⟨az,0,none⟩=some (η)∧w'.cell? ⟨az,1,none⟩=some (.slice none 0 0)∧w'.cell? ⟨az,2,none⟩=some (.slice none 0 0)∧w'.cell? ⟨b0,0,none⟩=some (.slice φ B.length κ)∧w'.cell? ⟨b0,1,none⟩=some (.slice (some bf) Z.length χ)∧w'.cell? (bf.add ((Y).toNat * 2))=some (.int .i64 ((Qp Z Y).f0))∧w'.cell? ⟨(bf.add ((Y).toNat * 2)).block,(bf.add ((Y).toNat * 2)).off+1,none⟩=some (.int .i64 ((Qp Z Y).f1))) (ds:=[11]) #[false,false,false,false,false,false,false,false,false,false,false,false] kr rfl rfl ⟨(Qa J.out 0).trans rfl,(Qa J.out 1).trans rfl,(Qa J.out 2).trans rfl,(Qa γ.out 0).trans rfl,(Qa γ.out 1).trans rfl,(sCl HB bo),(sCl HB bm)⟩ (fun hHeld=>?_);refine Q5 newelref19_View.Vp newelref19_View.Kg (fun HT_ HW_=>?_)
       generalize wr.drew=cx at O γ θ J HB bg bh hHeld ⊢
       refine qP 0 (some 25) (bN 12 1) HT_ ?_
       refine qP 2 (some 27) (bN 12 5) HT_ ?_
       refine qP 4 (some 29) (bN 12 21) HT_ ?_
       refine qT 1 (some 26) (bN 12 23) HT_ HW_ hHeld ?_
       refine qT 3 (some 28) (bN 12 31) HT_ HW_ hHeld ?_
       refine qP 5 (some 30) (bN 12 63) HT_ ?_
       refine qP 6 (some 31) (bN 12 127) HT_ ?_
       refine qT 7 (some 32) (bN 12 255) HT_ HW_ hHeld ?_
       refine Zf (i:=8) (N:=some 33) (bN 12 511) rfl rfl (Q3 HT_.out kr) (by decide) (fun K hK=>?_)
       refine D5 (w1:=?_) (v:=?_) (by rfl) rfl ?_ ?_
       rotate_left 2
       ·go_simp
        constructor
        ·rfl
        ·rfl
       refine hK.out _ _ ⟨(Qa (Ql J.out _) 0).trans rfl,(Qa (Ql J.out _) 1).trans rfl,(Qa (Ql J.out _) 2).trans rfl,(Qa (Ql γ.out _) 0).trans rfl,(Qa (Ql γ.out _) 1).trans rfl,(World.cell?_alloc_lt _ _ _ (World.block_lt_of_cell? _ _ ((sCl HB bo)))).trans ((sCl HB bo)),(World.cell?_alloc_lt _ _ _ (World.block_lt_of_cell? _ _ ((sCl HB bm)))).trans ((sCl HB bm))⟩ (fun hHeld=>?_)
       clear hK K
       refine qN (some 33) ?_
       refine Zf (i:=9) (N:=some 34) (bN 12 1023) rfl rfl (Q3 HT_.out kr) (by decide) (fun K hK=>?_)
       refine Kd.Vs (Kd.int .i64) (w0:=w) w.heap.size (by rfl) (.tmp 26) (.tmp 33) 32 3 (.int .i64 0) 8 rfl Try.underlying32 Kf rfl (by decide) (by omega) η ρ ((Qp Z Y).f1) [.int .i64 ((Qp Z Y).f1)] (fun _=>True) (fun _=>False) rfl rfl ?aP (fun _ hk=>hk.elim) ?aF ?aO ?aB ?aS ?aL ?_
       (case aP=>exact rfl)
       (case aB=>exact HB.out)
       (case aF=>exact(fun _ _=>trivial))
       (case aO=>exact O.out)
       (case aS=>exact(Qn HB.out))
       (case aL=>have:=et.out;omega)
       intro o8 d1 ho hb hg hat
       rw[← f7.out] at ho
       have dw:=aK ho
       replace γ:=aK (Q0 (g:=b0) (o:=.cells #[.slice φ B.length κ,.slice (some bf) Z.length χ] 50 (0,0)) γ.out hg (Kd.Zo O.out γ.out (by decide)))
       replace θ :=aK (Q0 (g:=b3) (o:=.cells #[.slice none 0 0,.slice none 0 0,.slice none 0 0] 34 (0,0)) θ.out hg (Kd.Zo O.out θ.out (by decide)))
       replace J:=aK (Q0 (g:=az) (o:=.cells #[η,.slice none 0 0,.slice none 0 0] 34 (0,0)) J.out hg (Kd.Zo O.out J.out (by decide)))
       replace HB:=aK hb
       clear O
       clear ho hb hg hat
       obtain⟨dk,cz,bq⟩:=Kd.Q7 dw.out
       (first|subst bq|(injection bq with aj aw ak;have ax:=aj.symm;have ay:=ak.symm;clear aj aw ak;subst ax;subst ay))
       refine hK.out _ _ ⟨qc J,qc J,qc J,qc γ,qc γ,(sCl HB bo),(sCl HB bm)⟩ (fun hHeld=>?_)
       clear hK K
       refine qN (some 34) ?_
       refine qP 10 (some 35) (bN 12 2047) HT_ ?_
       refine Du (i:=11) (N:=none) #[true,true,true,true,true,true,true,true,true,true,true,true] rfl rfl (Q3 HT_.out kr) (by decide) (fun K hK=>?_)
       have o9:d1.cell? ⟨az,0,none⟩=some (η):=(Qa J.out 0).trans rfl
       have nr:=Qh J.out 0
       have ku:= τ.out
       have kv:=ai.out
       have lq:= ω.out
       have lr:=an.out
       refine Gx (w1:=?_) (by rfl) rfl ?_ ?_
       rotate_left
       ·go_simp
        rfl
       refine hK.out _ _ ?_
       clear hK K
       refine Zi (Zc HT_.out kr) ?_
       try go_wp2
       go_roundg k1
       case measure=>have:=am.out;omega
       case rel=>exact⟨(wrap64 (Y+1)),(d5),(.slice dk d5.length cz),qR,H',⟨by have:=am.out;omega⟩,⟨by(with_reducible repeat first|apply Kd.Qv|apply Kd.Qu|apply Kd.Qy);exact Kd.Q1 (Kd.Qx (Kd.Q4 dw.out J.out (by decide)) (fun _ hk=>hk.2) _) (fun _ hk=>trivial)⟩,⟨bka γ⟩,⟨bka θ⟩,⟨by(with_reducible repeat first|refine Qm ?_ _|refine Qd ?_|refine Ql ?_ _);refine Qq (cs:=#[η,.slice none 0 0,.slice none 0 0]) ?_ 0 _ rfl;(with_reducible repeat first|refine Qm ?_ _|refine Qd ?_|refine Ql ?_ _);exact J.out⟩,⟨bel⟩⟩
      ·rw[if_neg a5] at H
       exact absurd H (by simp)
     ·rw[if_neg a6] at H
      have c11b0:(((Qp Z Y).f0)==X)=false:=beq_eq_false_iff_ne.mpr a6
      have c11b1:(((Qp Z Y).f0) != X)=true:=bne_iff_ne.mpr a6
      have H':=aK H
      clear H
      have ea:=b4.out
      have eu:=b5.out
      have gz:= τ.out
      have hu:= ω.out
      obtain⟨ap,ar,au,av⟩:=qD2 γ.out
      have bw:0≤(Y:Int):=of_decide_eq_true (by assumption)
      have cb:Y<(Z.length:Int):=of_decide_eq_true (by assumption)
      obtain⟨bf,d6,ba,bd⟩:=Xk bk.out Y bw cb
      cases d6
      replace ba:=sCl HB ba
      replace bd:=sCl HB bd
      replace bw:=eq_true bw
      replace cb:=eq_true cb
      go_wp2
      go_roundg k1
      case measure=>have:=am.out;omega
      case rel=>exact⟨(wrap64 (Y+1)),(ρ),(η),rfl,H',⟨by have:=am.out;omega⟩,⟨by(with_reducible repeat first|apply Kd.Qv|apply Kd.Qu|apply Kd.Qy);exact O.out⟩,γ,θ,J,HB⟩
    ·rw[if_neg c10] at H
     exact absurd H (by simp)
   ·rw[if_neg c9] at H
    have c9b0:=decide_eq_false c9
    clear c9
    have H':=aK H
    clear H
    have dl:=b4.out
    have dy:=b5.out
    have ff:= τ.out
    have fn:= ω.out
    obtain⟨d8,d9,da,db⟩:=qD2 γ.out
    go_wp2
    go_loopg [7] k1 (fun kq v7 w'=>∃ (δ :Int) (σ:List Int) (μ :List Int) (ξ :Value) (ι :Value),v7 = .int .i64 δ ∧ Aside0 (newelref19_View.l1 kq X δ B Z ρ σ μ = some (r1,r2,r3))∧Aside0 (kq≤k1)∧Aside0 (Kd.R (Kd.int .i64) 3 w' w.heap.size (fun k_=>some k_≠(ξ :Value).ownBlock∧some k_≠(ι :Value).ownBlock) η ρ)∧Aside0 (Kd.R (Kd.int .i64) 3 w' w.heap.size (fun k_=>some k_≠(η :Value).ownBlock∧some k_≠(ι :Value).ownBlock) ξ σ)∧Aside0 (Kd.R (Kd.int .i64) 3 w' w.heap.size (fun k_=>some k_≠(η :Value).ownBlock∧some k_≠(ξ :Value).ownBlock) ι μ)∧Aside0 (w'.heap[b0]?=some (.cells #[(.slice φ B.length κ),(.slice ψ Z.length χ)] 50 (0,0)))∧Aside0 (w'.heap[b3]?=some (.cells #[(.slice none 0 0),(.slice none 0 0),(.slice none 0 0)] 34 (0,0)))∧Aside0 (w'.heap[az]?=some (.cells #[η,ξ,ι] 34 (0,0)))∧Aside0 (Below w.heap.size w w'))
    case atStart=>exact⟨(0),(([]:List Int)),(([]:List Int)),(.slice none 0 0),(.slice none 0 0),rfl,H',⟨Nat.le_refl _⟩,⟨by(with_reducible repeat first|apply Kd.Qv|apply Kd.Qu|apply Kd.Qy);exact Kd.Q1 O.out (fun _ hk=>⟨(by simp[Value.ownBlock]),(by simp[Value.ownBlock])⟩)⟩,⟨by first|exact Kd.Xu _ _ _ _ _|exact Kd.Yg _ _ _ _ _|exact Kd.Yd _ _ _ _ _|exact Kd.Yf _ _ _ _ _|exact Kd.Ye _ _ _ _ _⟩,⟨by first|exact Kd.Xu _ _ _ _ _|exact Kd.Yg _ _ _ _ _|exact Kd.Yd _ _ _ _ _|exact Kd.Yf _ _ _ _ _|exact Kd.Ye _ _ _ _ _⟩,γ,θ,J,HB⟩
    case round=>
     clear H'
     try clear c9b0
     try clear d8
     try clear d9
     try clear a8
     try clear a9
     try clear ao
     try clear da
     try clear db
     try clear aa
     try clear ab
     try clear b2
     obtain⟨δ,σ,μ,ξ,ι,rfl,HA,bn,O,ζ,ε,γ,θ,J,HB⟩:=hrel
     cases gk with
     |zero=>exact absurd HA.out (by simp[newelref19_View.l1])
     |succ k2=>
      have H:=HA.out
      clear HA
      simp only[newelref19_View.l1] at H
      by_cases b7: δ < (B.length:Int)
      ·rw[if_pos b7] at H
       have c26b0:=decide_eq_true b7
       clear b7
       by_cases cg:0 ≤ δ
       ·rw[if_pos cg] at H
        have c27b0:=decide_eq_true cg
        clear cg
        have dh:=aK H
        clear H
        have fj:=b4.out
        have fk:=b5.out
        have em:= τ.out
        have ez:= ω.out
        obtain⟨dm,dn,dp,dq⟩:=qD2 γ.out
        have cw:0≤(δ :Int):=of_decide_eq_true (by assumption)
        have cy: δ < (B.length:Int):=of_decide_eq_true (by assumption)
        obtain⟨bp,gm,cn,co,cp⟩:=Xc ah.out δ cw cy
        cases gm
        replace cn:=sCl HB cn
        replace co:=sCl HB co
        replace cp:=sCl HB cp
        replace cw:=eq_true cw
        replace cy:=eq_true cy
        go_upto_region 11 with(first|((with_reducible refine Qe (N:=8) rfl ?_);refine qE 8 #[.int .i64 0,.int .i64 0,.int .i64 0] 36 ?_;intro br hg hh hbox hb;have ν :=aK hbox;have ns:=sGe hg;have nt:=sGe hg;have a3:=sNl γ hg;have a4:=sNg γ hg;have a7:=sNl θ hg;have ac:=sNg θ hg;have ae:=sNl J hg;have af:=sNg J hg;replace O:=sRb O hb;replace ζ :=sRb ζ hb;replace ε :=sRb ε hb;replace γ:=sBk γ hb;replace θ :=sBk θ hb;replace J:=sBk J hb;replace HB:=sHb hb;clear hb hbox hg;have i9:=a4.out;have ia:=a3.out;have jx:=ac.out;have jy:=a7.out;have kb:=af.out;have kf:=ae.out;obtain⟨ee,en,bj,eo,ep,e5⟩:=qD3 ν.out))
        (try simp only[Act.put,qS])
        go_cut [56] (fun nh wc=>∃ (kq:Nat) (ce:Bool),nh = .bool ce∧Aside0 (newelref19_View.j2 kq X δ ce B Z ρ σ μ ((Qc B δ).f0) ((Qc B δ).f1) ((Qc B δ).f2)=some (r1,r2,r3))∧Aside0 (kq≤k2)∧Aside0 (Kd.R (Kd.int .i64) 3 wc w.heap.size (fun k_=>some k_≠(ξ :Value).ownBlock∧some k_≠(ι :Value).ownBlock) η ρ)∧Aside0 (Kd.R (Kd.int .i64) 3 wc w.heap.size (fun k_=>some k_≠(η :Value).ownBlock∧some k_≠(ι :Value).ownBlock) ξ σ)∧Aside0 (Kd.R (Kd.int .i64) 3 wc w.heap.size (fun k_=>some k_≠(η :Value).ownBlock∧some k_≠(ξ :Value).ownBlock) ι μ)∧Aside0 (wc.heap[b0]?=some (.cells #[(.slice (some bp) B.length κ),(.slice ψ Z.length χ)] 50 (0,0)))∧Aside0 (wc.heap[b3]?=some (.cells #[(.slice none 0 0),(.slice none 0 0),(.slice none 0 0)] 34 (0,0)))∧Aside0 (wc.heap[az]?=some (.cells #[η,ξ,ι] 34 (0,0)))∧Aside0 (wc.heap[br]?=some (.cells #[.int .i64 ((Qc B δ).f0),.int .i64 ((Qc B δ).f1),.int .i64 ((Qc B δ).f2)] 36 (0,0)))∧Aside0 (Below w.heap.size w wc))
        case first=>
         have H:=dh.out
         clear dh
         by_cases dd:((Qc B δ).f2)=X
         ·rw[if_pos dd] at H
          have c37b0:(((Qc B δ).f2)==X)=true:=beq_iff_eq.mpr dd
          have c37b1:(((Qc B δ).f2) != X)=false:=bne_eq_false_iff_eq.mpr dd
          clear dd
          (first|rw[c37b0]|(simp only[Za,Zb];rw[c37b0])|skip)
          have H':=aK H
          clear H
          have he:=a4.out
          have im:=a3.out
          have fl:=ac.out
          have fm:=a7.out
          have f8:=af.out
          have fa:=ae.out
          obtain⟨dz,e0,e6,e3,e4,gh⟩:=qD3 ν.out
          go_wp2
          go_meet
          case rel=>exact⟨_,((((Qc B δ).f1)==1)),qR,H',⟨by have:=am.out;have:=bn.out;first|omega|exact Nat.le_refl _⟩,⟨by(with_reducible repeat first|apply Kd.Qv|apply Kd.Qu|apply Kd.Qy);exact Kd.Q1 (Kd.Qx (Kd.Qx (Kd.Qx (Kd.Q4 O.out ν.out (by decide)) (fun _ hk=>hk.2) (.int .i64 ((Qc B δ).f0))) (fun _ hk=>hk.2) (.int .i64 ((Qc B δ).f1))) (fun _ hk=>hk.2) (.int .i64 ((Qc B δ).f2))) (fun _ hk=>⟨hk.1.1,hk.1.2⟩)⟩,⟨by(with_reducible repeat first|apply Kd.Qv|apply Kd.Qu|apply Kd.Qy);exact Kd.Q1 (Kd.Qx (Kd.Qx (Kd.Qx (Kd.Q4 ζ.out ν.out (by decide)) (fun _ hk=>hk.2) (.int .i64 ((Qc B δ).f0))) (fun _ hk=>hk.2) (.int .i64 ((Qc B δ).f1))) (fun _ hk=>hk.2) (.int .i64 ((Qc B δ).f2))) (fun _ hk=>⟨hk.1.1,hk.1.2⟩)⟩,⟨by(with_reducible repeat first|apply Kd.Qv|apply Kd.Qu|apply Kd.Qy);exact Kd.Q1 (Kd.Qx (Kd.Qx (Kd.Qx (Kd.Q4 ε.out ν.out (by decide)) (fun _ hk=>hk.2) (.int .i64 ((Qc B δ).f0))) (fun _ hk=>hk.2) (.int .i64 ((Qc B δ).f1))) (fun _ hk=>hk.2) (.int .i64 ((Qc B δ).f2))) (fun _ hk=>⟨hk.1.1,hk.1.2⟩)⟩,⟨bka γ⟩,⟨bka θ⟩,⟨bka J⟩,⟨by(with_reducible repeat first|refine Qm ?_ _|refine Qd ?_|refine Ql ?_ _);refine Qq (cs:=#[.int .i64 ((Qc B δ).f0),.int .i64 ((Qc B δ).f1),.int .i64 0]) ?_ 2 _ rfl;(with_reducible repeat first|refine Qm ?_ _|refine Qd ?_|refine Ql ?_ _);refine Qq (cs:=#[.int .i64 ((Qc B δ).f0),.int .i64 0,.int .i64 0]) ?_ 1 _ rfl;(with_reducible repeat first|refine Qm ?_ _|refine Qd ?_|refine Ql ?_ _);refine Qq (cs:=#[.int .i64 0,.int .i64 0,.int .i64 0]) ?_ 0 _ rfl;(with_reducible repeat first|refine Qm ?_ _|refine Qd ?_|refine Ql ?_ _);exact ν.out⟩,⟨bel⟩⟩
         ·rw[if_neg dd] at H
          have c37b0:(((Qc B δ).f2)==X)=false:=beq_eq_false_iff_ne.mpr dd
          have c37b1:(((Qc B δ).f2) != X)=true:=bne_iff_ne.mpr dd
          (first|rw[c37b0]|(simp only[Za,Zb];rw[c37b0])|skip)
          have H':=aK H
          clear H
          have ft:=a4.out
          have ic:=a3.out
          have d2:=ac.out
          have d3:=a7.out
          have k9:=af.out
          have ka:=ae.out
          obtain⟨i2,iz,jv,j4,j5,jw⟩:=qD3 ν.out
          go_wp2
          go_meet
          case rel=>exact⟨_,(false),qR,H',⟨by have:=am.out;have:=bn.out;first|omega|exact Nat.le_refl _⟩,⟨by(with_reducible repeat first|apply Kd.Qv|apply Kd.Qu|apply Kd.Qy);exact Kd.Q1 (Kd.Qx (Kd.Qx (Kd.Qx (Kd.Q4 O.out ν.out (by decide)) (fun _ hk=>hk.2) (.int .i64 ((Qc B δ).f0))) (fun _ hk=>hk.2) (.int .i64 ((Qc B δ).f1))) (fun _ hk=>hk.2) (.int .i64 ((Qc B δ).f2))) (fun _ hk=>⟨hk.1.1,hk.1.2⟩)⟩,⟨by(with_reducible repeat first|apply Kd.Qv|apply Kd.Qu|apply Kd.Qy);exact Kd.Q1 (Kd.Qx (Kd.Qx (Kd.Qx (Kd.Q4 ζ.out ν.out (by decide)) (fun _ hk=>hk.2) (.int .i64 ((Qc B δ).f0))) (fun _ hk=>hk.2) (.int .i64 ((Qc B δ).f1))) (fun _ hk=>hk.2) (.int .i64 ((Qc B δ).f2))) (fun _ hk=>⟨hk.1.1,hk.1.2⟩)⟩,⟨by(with_reducible repeat first|apply Kd.Qv|apply Kd.Qu|apply Kd.Qy);exact Kd.Q1 (Kd.Qx (Kd.Qx (Kd.Qx (Kd.Q4 ε.out ν.out (by decide)) (fun _ hk=>hk.2) (.int .i64 ((Qc B δ).f0))) (fun _ hk=>hk.2) (.int .i64 ((Qc B δ).f1))) (fun _ hk=>hk.2) (.int .i64 ((Qc B δ).f2))) (fun _ hk=>⟨hk.1.1,hk.1.2⟩)⟩,⟨bka γ⟩,⟨bka θ⟩,⟨bka J⟩,⟨by(with_reducible repeat first|refine Qm ?_ _|refine Qd ?_|refine Ql ?_ _);refine Qq (cs:=#[.int .i64 ((Qc B δ).f0),.int .i64 ((Qc B δ).f1),.int .i64 0]) ?_ 2 _ rfl;(with_reducible repeat first|refine Qm ?_ _|refine Qd ?_|refine Ql ?_ _);refine Qq (cs:=#[.int .i64 ((Qc B δ).f0),.int .i64 0,.int .i64 0]) ?_ 1 _ rfl;(with_reducible repeat first|refine Qm ?_ _|refine Qd ?_|refine Ql ?_ _);refine Qq (cs:=#[.int .i64 0,.int .i64 0,.int .i64 0]) ?_ 0 _ rfl;(with_reducible repeat first|refine Qm ?_ _|refine Qd ?_|refine Ql ?_ _);exact ν.out⟩,⟨bel⟩⟩
        case rest=>
         clear dh
         try clear c9b0
         try clear c26b0
         try clear c27b0
         try clear d8
         try clear d9
         try clear dm
         try clear dn
         try clear ee
         try clear en
         try clear bj
         try clear a8
         try clear a9
         try clear ao
         try clear da
         try clear db
         try clear dp
         try clear dq
         try clear eo
         try clear ep
         try clear e5
         try clear aa
         try clear ab
         try clear b2
         try clear cn
         try clear co
         try clear cp
         try clear cw
         try clear cy
         obtain⟨kq,ce,rfl,HA,b6,O,ζ,ε,γ,θ,J,ν,HB⟩:=hcut
         cases kq with
         |zero=>exact absurd HA.out (by simp[newelref19_View.j2])
         |succ b9=>
          have H:=HA.out
          clear HA
          simp only[newelref19_View.j2] at H
          by_cases bi:ce=true
          ·subst bi
           rw[if_pos rfl] at H
           by_cases bs:σ.length<17592186044416
           ·rw[if_pos bs] at H
            have d0:=aK bs
            clear bs
            obtain⟨ag,cf⟩:∃ y_:List Int,y_=(σ ++ [((Qc B δ).f0)]):=⟨_,rfl⟩
            replace H:(if ((Qc B δ).f2)=X then (if ((Qc B δ).f1)=(-1) then (if μ.length<17592186044416 then (newelref19_View.l1 b9 X (wrap64 (δ + 1)) B Z ρ ag (μ ++ [((Qc B δ).f0)])) else (none)) else (newelref19_View.l1 b9 X (wrap64 (δ + 1)) B Z ρ ag μ)) else (newelref19_View.l1 b9 X (wrap64 (δ + 1)) B Z ρ ag μ))=some (r1,r2,r3):=by first|(rw[cf];with_reducible exact H)|(have al:=(Option.bind_some _ _).symm.trans H;rw[cf];with_reducible exact al)|(have al:=(Option.bind_some _ _).symm.trans H;with_reducible exact al)|with_reducible exact H|(rw[cf];exact H)|exact H
            have d4:=aK cf
            clear cf
            by_cases ca:((Qc B δ).f2)=X
            ·rw[if_pos ca] at H
             have c48b0:(((Qc B δ).f2)==X)=true:=beq_iff_eq.mpr ca
             have c48b1:(((Qc B δ).f2) != X)=false:=bne_eq_false_iff_eq.mpr ca
             clear ca
             by_cases bz:((Qc B δ).f1)=(-1)
             ·rw[if_pos bz] at H
              have c49b0:(((Qc B δ).f1)==(-1))=true:=beq_iff_eq.mpr bz
              have c49b1:(((Qc B δ).f1) != (-1))=false:=bne_eq_false_iff_eq.mpr bz
              clear bz
              by_cases e8: μ.length<17592186044416
              ·rw[if_pos e8] at H
               have fh:=aK e8
               clear e8
               obtain⟨di,cj⟩:∃ y_:List Int,y_=(μ ++ [((Qc B δ).f0)]):=⟨_,rfl⟩
               replace H:(newelref19_View.l1 b9 X (wrap64 (δ + 1)) B Z ρ ag di)=some (r1,r2,r3):=by first|(rw[cj];with_reducible exact H)|(have al:=(Option.bind_some _ _).symm.trans H;rw[cj];with_reducible exact al)|(have al:=(Option.bind_some _ _).symm.trans H;with_reducible exact al)|with_reducible exact H|(rw[cj];exact H)|exact H
               have fo:=aK cj
               clear cj
               have H':=aK H
               clear H
               have ib:= ω.out
               have ik:= τ.out
               have kt:=an.out
               have lh:=ai.out
               have nx:=ae.out
               have ny:=af.out
               obtain⟨ev,i3,i4,i5,i6,i7⟩:=qD3 J.out
               have nu:=a4.out
               have nv:=a3.out
               have nw:=ac.out
               have o5:=a7.out
               obtain⟨jm,jn,l2,l3,l4,l5⟩:=qD3 ν.out
               go_wp2_with (first|((with_reducible refine Z3 (b:=.append) (xs:=#[.tmp 58,.tmp 61]) rfl ?_);at_builtin;refine Kd.Yo (Kd.int .i64) (w0:=w) w.heap.size rfl (.tmp 58) (.tmp 61) 32 3 (.int .i64 0) 8 rfl Try.underlying32 Kf rfl (by decide) (by omega) ξ σ ((Qc B δ).f0) [.int .i64 ((Qc B δ).f0)] (fun k_=>some k_≠(η :Value).ownBlock∧some k_≠(ι :Value).ownBlock) (fun _=>False) rfl rfl ?aP (fun _ hk=>hk.elim) ?aF ?aO ?aB ?aS ?aL ?_;(case aP=>exact rfl);(case aB=>exact bel);(case aF=>exact(fun k_ hk=>⟨Kd.fresh' (Kd.J0 (kra O)) k_ hk,Kd.fresh' (Kd.J0 (kra ε)) k_ hk⟩));(case aO=>exact(kra ζ));(case aS=>exact(Qn bel));(case aL=>have:=d0.out;omega);intro el ql ho hb hg hat;rw[← d4.out] at ho;have b1:=aK ho;replace O:=aK (Kd.Xv (ok:=(fun k_=>some k_≠(ι :Value).ownBlock)) (by(with_reducible repeat first|apply Kd.Qv|apply Kd.Qu|apply Kd.Qy);exact Kd.Q1 O.out (fun _ hk=>⟨hk.2,hk.1⟩)) hg hat);replace ε :=aK (Kd.Xv (ok:=(fun k_=>some k_≠(η :Value).ownBlock)) (kra ε) hg hat);replace γ:=aK (Q0 (g:=b0) (o:=.cells #[.slice (some bp) B.length κ,.slice ψ Z.length χ] 50 (0,0)) (bka γ) hg (Kd.Zo ζ.out γ.out (by decide)));replace θ :=aK (Q0 (g:=b3) (o:=.cells #[.slice none 0 0,.slice none 0 0,.slice none 0 0] 34 (0,0)) (bka θ) hg (Kd.Zo ζ.out θ.out (by decide)));replace J:=aK (Q0 (g:=az) (o:=.cells #[η,ξ,ι] 34 (0,0)) (bka J) hg (Kd.Zo ζ.out J.out (by decide)));replace ν :=aK (Q0 (g:=br) (o:=.cells #[.int .i64 ((Qc B δ).f0),.int .i64 ((Qc B δ).f1),.int .i64 ((Qc B δ).f2)] 36 (0,0)) (bka ν) hg (Kd.Zo ζ.out ν.out (by decide)));replace HB:=aK hb;clear ζ;clear ho hb hg hat;obtain⟨cq,ct,gn⟩:=Kd.Q7 b1.out;subst gn;obtain⟨gb,ge,k6,l6,l7,lb⟩:=qD3 J.out;obtain⟨lc,lf,lg,mz,n0,n1⟩:=qD3 ν.out)|((with_reducible refine Z3 (b:=.append) (xs:=#[.tmp 74,.tmp 77]) rfl ?_);at_builtin;refine Kd.Yo (Kd.int .i64) (w0:=w) w.heap.size rfl (.tmp 74) (.tmp 77) 32 3 (.int .i64 0) 8 rfl Try.underlying32 Kf rfl (by decide) (by omega) ι μ ((Qc B δ).f0) [.int .i64 ((Qc B δ).f0)] (fun k_=>some k_≠(η :Value).ownBlock∧some k_≠(.slice cq ag.length ct:Value).ownBlock) (fun _=>False) rfl (by first|(go_simp;done)|(go_simp;rfl)) ?aP (fun _ hk=>hk.elim) ?aF ?aO ?aB ?aS ?aL ?_;(case aP=>exact rfl);(case aB=>exact bel);(case aF=>exact(fun k_ hk=>⟨Kd.fresh' (Kd.J0 (by(with_reducible repeat first|apply Kd.Qv|apply Kd.Qu|apply Kd.Qy);exact(Kd.Q1 (Kd.Qx (Kd.Q4 O.out J.out (by decide)) (fun _ hk=>hk.2) _) (fun _ h_=>h_.1)))) k_ hk,Kd.fresh' (Kd.J0 (by(with_reducible repeat first|apply Kd.Qv|apply Kd.Qu|apply Kd.Qy);exact(Kd.Q1 (Kd.Qx (Kd.Q4 b1.out J.out (by decide)) (fun _ hk=>hk.2) _) (fun _ h_=>h_.1)))) k_ hk⟩));(case aO=>exact(by(with_reducible repeat first|apply Kd.Qv|apply Kd.Qu|apply Kd.Qy);exact Kd.Q1 (Kd.Qx (Kd.Q4 ε.out J.out (by decide)) (fun _ hk=>hk.2) _) (fun _ hk=>⟨hk.1.1,hk.1.2⟩)));(case aS=>exact(Qn bel));(case aL=>have:=fh.out;omega);intro oa ng ho hb hg hat;rw[← fo.out] at ho;have ef:=aK ho;replace O:=aK (Kd.Xv (ok:=(fun k_=>some k_≠(.slice cq ag.length ct:Value).ownBlock)) (by(with_reducible repeat first|apply Kd.Qv|apply Kd.Qu|apply Kd.Qy);exact Kd.Q1 (Kd.Qx (Kd.Q4 O.out J.out (by decide)) (fun _ hk=>hk.2) _) (fun _ hk=>⟨hk.1.2,hk.1.1⟩)) hg hat);replace γ:=aK (Q0 (g:=b0) (o:=.cells #[.slice (some bp) B.length κ,.slice ψ Z.length χ] 50 (0,0)) (bka γ) hg (Kd.Zo ε.out γ.out (by decide)));replace θ :=aK (Q0 (g:=b3) (o:=.cells #[.slice none 0 0,.slice none 0 0,.slice none 0 0] 34 (0,0)) (bka θ) hg (Kd.Zo ε.out θ.out (by decide)));replace ν :=aK (Q0 (g:=br) (o:=.cells #[.int .i64 ((Qc B δ).f0),.int .i64 ((Qc B δ).f1),.int .i64 ((Qc B δ).f2)] 36 (0,0)) (bka ν) hg (Kd.Zo ε.out ν.out (by decide)));replace b1:=aK (Kd.Xv (ok:=(fun k_=>some k_≠(η :Value).ownBlock)) (by(with_reducible repeat first|apply Kd.Qv|apply Kd.Qu|apply Kd.Qy);exact Kd.Q1 (Kd.Qx (Kd.Q4 b1.out J.out (by decide)) (fun _ hk=>hk.2) _) (fun _ hk=>⟨hk.1.1,hk.1.2⟩)) hg hat);replace J:=aK (Q0 (g:=az) (o:=.cells #[η,.slice cq ag.length ct,ι] 34 (0,0)) (by(with_reducible repeat first|refine Qm ?_ _|refine Qd ?_|refine Ql ?_ _);refine Qq (cs:=#[η,ξ,ι]) ?_ 1 _ rfl;(with_reducible repeat first|refine Qm ?_ _|refine Qd ?_|refine Ql ?_ _);exact J.out) hg (Kd.Zo ε.out J.out (by decide)));replace HB:=aK hb;clear ε;clear ho hb hg hat;obtain⟨gt,gu,gv⟩:=Kd.Q7 ef.out;subst gv;obtain⟨h8,h9,fp,ha,ii,fq⟩:=qD3 J.out))
               go_roundg b9
               case measure=>have:=am.out;have:=bn.out;have:=b6.out;omega
               case rel=>exact⟨(wrap64 (δ + 1)),(ag),(di),(.slice cq ag.length ct),(.slice gt di.length gu),qR,H',⟨by have:=am.out;have:=bn.out;have:=b6.out;omega⟩,⟨by(with_reducible repeat first|apply Kd.Qv|apply Kd.Qu|apply Kd.Qy);exact Kd.Q1 (Kd.Qx (Kd.Q4 O.out J.out (by decide)) (fun _ hk=>hk.2) _) (fun _ hk=>⟨hk.1.1,hk.1.2⟩)⟩,⟨by(with_reducible repeat first|apply Kd.Qv|apply Kd.Qu|apply Kd.Qy);exact Kd.Q1 (Kd.Qx (Kd.Q4 b1.out J.out (by decide)) (fun _ hk=>hk.2) _) (fun _ hk=>⟨hk.1.1,hk.1.2⟩)⟩,⟨by(with_reducible repeat first|apply Kd.Qv|apply Kd.Qu|apply Kd.Qy);exact Kd.Q1 (Kd.Qx (Kd.Q4 ef.out J.out (by decide)) (fun _ hk=>hk.2) _) (fun _ hk=>⟨hk.1.1,hk.1.2⟩)⟩,⟨bka γ⟩,⟨bka θ⟩,⟨by(with_reducible repeat first|refine Qm ?_ _|refine Qd ?_|refine Ql ?_ _);refine Qq (cs:=#[η,.slice cq ag.length ct,ι]) ?_ 2 _ rfl;(with_reducible repeat first|refine Qm ?_ _|refine Qd ?_|refine Ql ?_ _);exact J.out⟩,⟨bel⟩⟩
              ·rw[if_neg e8] at H
               exact absurd H (by simp)
             ·rw[if_neg bz] at H
              have c49b0:(((Qc B δ).f1)==(-1))=false:=beq_eq_false_iff_ne.mpr bz
              have c49b1:(((Qc B δ).f1) != (-1))=true:=bne_iff_ne.mpr bz
              have H':=aK H
              clear H
              have ew:= ω.out
              have ey:= τ.out
              have js:=an.out
              have jt:=ai.out
              have kw:=ae.out
              have kx:=af.out
              obtain⟨fr,fz,gf,gi,gj,h0⟩:=qD3 J.out
              have ky:=a4.out
              have kz:=a3.out
              have nz:=ac.out
              have o0:=a7.out
              obtain⟨j9,ja,jb,jc,jd,je⟩:=qD3 ν.out
              go_wp2_with (first|((with_reducible refine Z3 (b:=.append) (xs:=#[.tmp 58,.tmp 61]) rfl ?_);at_builtin;refine Kd.Yo (Kd.int .i64) (w0:=w) w.heap.size rfl (.tmp 58) (.tmp 61) 32 3 (.int .i64 0) 8 rfl Try.underlying32 Kf rfl (by decide) (by omega) ξ σ ((Qc B δ).f0) [.int .i64 ((Qc B δ).f0)] (fun k_=>some k_≠(η :Value).ownBlock∧some k_≠(ι :Value).ownBlock) (fun _=>False) rfl rfl ?aP (fun _ hk=>hk.elim) ?aF ?aO ?aB ?aS ?aL ?_;(case aP=>exact rfl);(case aB=>exact HB.out);(case aF=>exact(fun k_ hk=>⟨Kd.fresh' (Kd.J0 O.out) k_ hk,Kd.fresh' (Kd.J0 ε.out) k_ hk⟩));(case aO=>exact ζ.out);(case aS=>exact(Qn HB.out));(case aL=>have:=d0.out;omega);intro el qm ho hb hg hat;rw[← d4.out] at ho;have b1:=aK ho;replace O:=aK (Kd.Xv (ok:=(fun k_=>some k_≠(ι :Value).ownBlock)) (by(with_reducible repeat first|apply Kd.Qv|apply Kd.Qu|apply Kd.Qy);exact Kd.Q1 O.out (fun _ hk=>⟨hk.2,hk.1⟩)) hg hat);replace ε :=aK (Kd.Xv (ok:=(fun k_=>some k_≠(η :Value).ownBlock)) ε.out hg hat);replace γ:=aK (Q0 (g:=b0) (o:=.cells #[.slice (some bp) B.length κ,.slice ψ Z.length χ] 50 (0,0)) γ.out hg (Kd.Zo ζ.out γ.out (by decide)));replace θ :=aK (Q0 (g:=b3) (o:=.cells #[.slice none 0 0,.slice none 0 0,.slice none 0 0] 34 (0,0)) θ.out hg (Kd.Zo ζ.out θ.out (by decide)));replace J:=aK (Q0 (g:=az) (o:=.cells #[η,ξ,ι] 34 (0,0)) J.out hg (Kd.Zo ζ.out J.out (by decide)));replace ν :=aK (Q0 (g:=br) (o:=.cells #[.int .i64 ((Qc B δ).f0),.int .i64 ((Qc B δ).f1),.int .i64 ((Qc B δ).f2)] 36 (0,0)) ν.out hg (Kd.Zo ζ.out ν.out (by decide)));replace HB:=aK hb;clear ζ;clear ho hb hg hat;obtain⟨gw,gx,gy⟩:=Kd.Q7 b1.out;subst gy;obtain⟨ls,lu,lv,lw,lx,ly⟩:=qD3 J.out;obtain⟨m7,m8,lz,m9,ma,m0⟩:=qD3 ν.out))
              go_roundg b9
              case measure=>have:=am.out;have:=bn.out;have:=b6.out;omega
              case rel=>exact⟨(wrap64 (δ + 1)),(ag),(μ),(.slice gw ag.length gx),(ι),qR,H',⟨by have:=am.out;have:=bn.out;have:=b6.out;omega⟩,⟨by(with_reducible repeat first|apply Kd.Qv|apply Kd.Qu|apply Kd.Qy);exact Kd.Q1 (Kd.Qx (Kd.Q4 O.out J.out (by decide)) (fun _ hk=>hk.2) _) (fun _ hk=>⟨hk.1.2,hk.1.1⟩)⟩,⟨by(with_reducible repeat first|apply Kd.Qv|apply Kd.Qu|apply Kd.Qy);exact Kd.Q1 (Kd.Qx (Kd.Q4 b1.out J.out (by decide)) (fun _ hk=>hk.2) _) (fun _ hk=>⟨hk.1.1,hk.1.2⟩)⟩,⟨by(with_reducible repeat first|apply Kd.Qv|apply Kd.Qu|apply Kd.Qy);exact Kd.Q1 (Kd.Qx (Kd.Q4 ε.out J.out (by decide)) (fun _ hk=>hk.2) _) (fun _ hk=>⟨hk.1.1,hk.1.2⟩)⟩,⟨bka γ⟩,⟨bka θ⟩,⟨by(with_reducible repeat first|refine Qm ?_ _|refine Qd ?_|refine Ql ?_ _);refine Qq (cs:=#[η,ξ,ι]) ?_ 1 _ rfl;(with_reducible repeat first|refine Qm ?_ _|refine Qd ?_|refine Ql ?_ _);exact J.out⟩,⟨bel⟩⟩
            ·rw[if_neg ca] at H
             have c48b0:(((Qc B δ).f2)==X)=false:=beq_eq_false_iff_ne.mpr ca
             have c48b1:(((Qc B δ).f2) != X)=true:=bne_iff_ne.mpr ca
             have H':=aK H
             clear H
             have fb:= ω.out
             have fe:= τ.out
             have hx:=an.out
             have hy:=ai.out
             have o1:=ae.out
             have o2:=af.out
             obtain⟨m1,m2,m3,m4,m5,m6⟩:=qD3 J.out
             have l8:=a4.out
             have l9:=a3.out
             have ll:=ac.out
             have lm:=a7.out
             obtain⟨jf,jg,jh,ji,jj,jk⟩:=qD3 ν.out
             go_wp2_with (first|((with_reducible refine Z3 (b:=.append) (xs:=#[.tmp 58,.tmp 61]) rfl ?_);at_builtin;refine Kd.Yo (Kd.int .i64) (w0:=w) w.heap.size rfl (.tmp 58) (.tmp 61) 32 3 (.int .i64 0) 8 rfl Try.underlying32 Kf rfl (by decide) (by omega) ξ σ ((Qc B δ).f0) [.int .i64 ((Qc B δ).f0)] (fun k_=>some k_≠(η :Value).ownBlock∧some k_≠(ι :Value).ownBlock) (fun _=>False) rfl rfl ?aP (fun _ hk=>hk.elim) ?aF ?aO ?aB ?aS ?aL ?_;(case aP=>exact rfl);(case aB=>exact HB.out);(case aF=>exact(fun k_ hk=>⟨Kd.fresh' (Kd.J0 O.out) k_ hk,Kd.fresh' (Kd.J0 ε.out) k_ hk⟩));(case aO=>exact ζ.out);(case aS=>exact(Qn HB.out));(case aL=>have:=d0.out;omega);intro el ni ho hb hg hat;rw[← d4.out] at ho;have b1:=aK ho;replace O:=aK (Kd.Xv (ok:=(fun k_=>some k_≠(ι :Value).ownBlock)) (by(with_reducible repeat first|apply Kd.Qv|apply Kd.Qu|apply Kd.Qy);exact Kd.Q1 O.out (fun _ hk=>⟨hk.2,hk.1⟩)) hg hat);replace ε :=aK (Kd.Xv (ok:=(fun k_=>some k_≠(η :Value).ownBlock)) ε.out hg hat);replace γ:=aK (Q0 (g:=b0) (o:=.cells #[.slice (some bp) B.length κ,.slice ψ Z.length χ] 50 (0,0)) γ.out hg (Kd.Zo ζ.out γ.out (by decide)));replace θ :=aK (Q0 (g:=b3) (o:=.cells #[.slice none 0 0,.slice none 0 0,.slice none 0 0] 34 (0,0)) θ.out hg (Kd.Zo ζ.out θ.out (by decide)));replace J:=aK (Q0 (g:=az) (o:=.cells #[η,ξ,ι] 34 (0,0)) J.out hg (Kd.Zo ζ.out J.out (by decide)));replace ν :=aK (Q0 (g:=br) (o:=.cells #[.int .i64 ((Qc B δ).f0),.int .i64 ((Qc B δ).f1),.int .i64 ((Qc B δ).f2)] 36 (0,0)) ν.out hg (Kd.Zo ζ.out ν.out (by decide)));replace HB:=aK hb;clear ζ;clear ho hb hg hat;obtain⟨dt,du,e7⟩:=Kd.Q7 b1.out;subst e7;obtain⟨h4,h5,h6,h7,ie,ig⟩:=qD3 J.out;obtain⟨jl,jo,mb,jp,jq,mc⟩:=qD3 ν.out))
             go_roundg b9
             case measure=>have:=am.out;have:=bn.out;have:=b6.out;omega
             case rel=>exact⟨(wrap64 (δ + 1)),(ag),(μ),(.slice dt ag.length du),(ι),qR,H',⟨by have:=am.out;have:=bn.out;have:=b6.out;omega⟩,⟨by(with_reducible repeat first|apply Kd.Qv|apply Kd.Qu|apply Kd.Qy);exact Kd.Q1 (Kd.Qx (Kd.Q4 O.out J.out (by decide)) (fun _ hk=>hk.2) _) (fun _ hk=>⟨hk.1.2,hk.1.1⟩)⟩,⟨by(with_reducible repeat first|apply Kd.Qv|apply Kd.Qu|apply Kd.Qy);exact Kd.Q1 (Kd.Qx (Kd.Q4 b1.out J.out (by decide)) (fun _ hk=>hk.2) _) (fun _ hk=>⟨hk.1.1,hk.1.2⟩)⟩,⟨by(with_reducible repeat first|apply Kd.Qv|apply Kd.Qu|apply Kd.Qy);exact Kd.Q1 (Kd.Qx (Kd.Q4 ε.out J.out (by decide)) (fun _ hk=>hk.2) _) (fun _ hk=>⟨hk.1.1,hk.1.2⟩)⟩,⟨bka γ⟩,⟨bka θ⟩,⟨by(with_reducible repeat first|refine Qm ?_ _|refine Qd ?_|refine Ql ?_ _);refine Qq (cs:=#[η,ξ,ι]) ?_ 1 _ rfl;(with_reducible repeat first|refine Qm ?_ _|refine Qd ?_|refine Ql ?_ _);exact J.out⟩,⟨bel⟩⟩
           ·rw[if_neg bs] at H
            exact absurd H (by simp)
          ·replace bi:=Bool.eq_false_iff.mpr bi
           subst bi
           rw[if_neg nft] at H
           by_cases cu:((Qc B δ).f2)=X
           ·rw[if_pos cu] at H
            have c87b0:(((Qc B δ).f2)==X)=true:=beq_iff_eq.mpr cu
            have c87b1:(((Qc B δ).f2) != X)=false:=bne_eq_false_iff_eq.mpr cu
            clear cu
            by_cases fc:((Qc B δ).f1)=(-1)
            ·rw[if_pos fc] at H
             have c88b0:(((Qc B δ).f1)==(-1))=true:=beq_iff_eq.mpr fc
             have c88b1:(((Qc B δ).f1) != (-1))=false:=bne_eq_false_iff_eq.mpr fc
             clear fc
             by_cases gr: μ.length<17592186044416
             ·rw[if_pos gr] at H
              have fu:=aK gr
              clear gr
              obtain⟨dj,ck⟩:∃ y_:List Int,y_=(μ ++ [((Qc B δ).f0)]):=⟨_,rfl⟩
              replace H:(newelref19_View.l1 b9 X (wrap64 (δ + 1)) B Z ρ σ dj)=some (r1,r2,r3):=by first|(rw[ck];with_reducible exact H)|(have al:=(Option.bind_some _ _).symm.trans H;rw[ck];with_reducible exact al)|(have al:=(Option.bind_some _ _).symm.trans H;with_reducible exact al)|with_reducible exact H|(rw[ck];exact H)|exact H
              have fv:=aK ck
              clear ck
              have H':=aK H
              clear H
              have ju:=a4.out
              have k4:=a3.out
              have o6:=ac.out
              have o7:=a7.out
              have k5:=af.out
              have k7:=ae.out
              obtain⟨me,mf,mu,mw,my,n2⟩:=qD3 ν.out
              have ln:= ω.out
              have lp:= τ.out
              have o3:=an.out
              have o4:=ai.out
              obtain⟨n3,na,nb,nc,nd,nf⟩:=qD3 J.out
              go_wp2_with (first|((with_reducible refine Z3 (b:=.append) (xs:=#[.tmp 74,.tmp 77]) rfl ?_);at_builtin;refine Kd.Yo (Kd.int .i64) (w0:=w) w.heap.size rfl (.tmp 74) (.tmp 77) 32 3 (.int .i64 0) 8 rfl Try.underlying32 Kf rfl (by decide) (by omega) ι μ ((Qc B δ).f0) [.int .i64 ((Qc B δ).f0)] (fun k_=>some k_≠(η :Value).ownBlock∧some k_≠(ξ :Value).ownBlock) (fun _=>False) rfl rfl ?aP (fun _ hk=>hk.elim) ?aF ?aO ?aB ?aS ?aL ?_;(case aP=>exact rfl);(case aB=>exact HB.out);(case aF=>exact(fun k_ hk=>⟨Kd.fresh' (Kd.J0 O.out) k_ hk,Kd.fresh' (Kd.J0 ζ.out) k_ hk⟩));(case aO=>exact ε.out);(case aS=>exact(Qn HB.out));(case aL=>have:=fu.out;omega);intro ob oc ho hb hg hat;rw[← fv.out] at ho;have eg:=aK ho;replace O:=aK (Kd.Xv (ok:=(fun k_=>some k_≠(ξ :Value).ownBlock)) O.out hg hat);replace ζ :=aK (Kd.Xv (ok:=(fun k_=>some k_≠(η :Value).ownBlock)) ζ.out hg hat);replace γ:=aK (Q0 (g:=b0) (o:=.cells #[.slice (some bp) B.length κ,.slice ψ Z.length χ] 50 (0,0)) γ.out hg (Kd.Zo ε.out γ.out (by decide)));replace θ :=aK (Q0 (g:=b3) (o:=.cells #[.slice none 0 0,.slice none 0 0,.slice none 0 0] 34 (0,0)) θ.out hg (Kd.Zo ε.out θ.out (by decide)));replace J:=aK (Q0 (g:=az) (o:=.cells #[η,ξ,ι] 34 (0,0)) J.out hg (Kd.Zo ε.out J.out (by decide)));replace ν :=aK (Q0 (g:=br) (o:=.cells #[.int .i64 ((Qc B δ).f0),.int .i64 ((Qc B δ).f1),.int .i64 ((Qc B δ).f2)] 36 (0,0)) ν.out hg (Kd.Zo ε.out ν.out (by decide)));replace HB:=aK hb;clear ε;clear ho hb hg hat;obtain⟨mg,gl,kd⟩:=Kd.Q7 eg.out;subst kd;obtain⟨ih,ij,io,ip,iv,iw⟩:=qD3 J.out))
              go_roundg b9
              case measure=>have:=am.out;have:=bn.out;have:=b6.out;omega
              case rel=>exact⟨(wrap64 (δ + 1)),(σ),(dj),(ξ),(.slice mg dj.length gl),qR,H',⟨by have:=am.out;have:=bn.out;have:=b6.out;omega⟩,⟨by(with_reducible repeat first|apply Kd.Qv|apply Kd.Qu|apply Kd.Qy);exact Kd.Q1 (Kd.Qx (Kd.Q4 O.out J.out (by decide)) (fun _ hk=>hk.2) _) (fun _ hk=>⟨hk.1.1,hk.1.2⟩)⟩,⟨by(with_reducible repeat first|apply Kd.Qv|apply Kd.Qu|apply Kd.Qy);exact Kd.Q1 (Kd.Qx (Kd.Q4 ζ.out J.out (by decide)) (fun _ hk=>hk.2) _) (fun _ hk=>⟨hk.1.1,hk.1.2⟩)⟩,⟨by(with_reducible repeat first|apply Kd.Qv|apply Kd.Qu|apply Kd.Qy);exact Kd.Q1 (Kd.Qx (Kd.Q4 eg.out J.out (by decide)) (fun _ hk=>hk.2) _) (fun _ hk=>⟨hk.1.1,hk.1.2⟩)⟩,⟨bka γ⟩,⟨bka θ⟩,⟨by(with_reducible repeat first|refine Qm ?_ _|refine Qd ?_|refine Ql ?_ _);refine Qq (cs:=#[η,ξ,ι]) ?_ 2 _ rfl;(with_reducible repeat first|refine Qm ?_ _|refine Qd ?_|refine Ql ?_ _);exact J.out⟩,⟨bel⟩⟩
             ·rw[if_neg gr] at H
              exact absurd H (by simp)
            ·rw[if_neg fc] at H
             have c88b0:(((Qc B δ).f1)==(-1))=false:=beq_eq_false_iff_ne.mpr fc
             have c88b1:(((Qc B δ).f1) != (-1))=true:=bne_iff_ne.mpr fc
             have H':=aK H
             clear H
             have mh:=a4.out
             have mi:=a3.out
             have mj:=ac.out
             have ml:=a7.out
             have mm:=af.out
             have mo:=ae.out
             obtain⟨hj,hl,i0,i1,k0,k3⟩:=qD3 ν.out
             go_wp2
             go_roundg b9
             case measure=>have:=am.out;have:=bn.out;have:=b6.out;omega
             case rel=>exact⟨(wrap64 (δ + 1)),(σ),(μ),(ξ),(ι),rfl,H',⟨by have:=am.out;have:=bn.out;have:=b6.out;omega⟩,⟨by(with_reducible repeat first|apply Kd.Qv|apply Kd.Qu|apply Kd.Qy);exact O.out⟩,⟨by(with_reducible repeat first|apply Kd.Qv|apply Kd.Qu|apply Kd.Qy);exact ζ.out⟩,⟨by(with_reducible repeat first|apply Kd.Qv|apply Kd.Qu|apply Kd.Qy);exact ε.out⟩,γ,θ,J,HB⟩
           ·rw[if_neg cu] at H
            have c87b0:(((Qc B δ).f2)==X)=false:=beq_eq_false_iff_ne.mpr cu
            have c87b1:(((Qc B δ).f2) != X)=true:=bne_iff_ne.mpr cu
            have H':=aK H
            clear H
            have nj:=a4.out
            have nk:=a3.out
            have ix:=ac.out
            have iy:=a7.out
            have j6:=af.out
            have j7:=ae.out
            obtain⟨eb,ec,k8,ed,er,kc⟩:=qD3 ν.out
            go_wp2
            go_roundg b9
            case measure=>have:=am.out;have:=bn.out;have:=b6.out;omega
            case rel=>exact⟨(wrap64 (δ + 1)),(σ),(μ),(ξ),(ι),rfl,H',⟨by have:=am.out;have:=bn.out;have:=b6.out;omega⟩,⟨by(with_reducible repeat first|apply Kd.Qv|apply Kd.Qu|apply Kd.Qy);exact O.out⟩,⟨by(with_reducible repeat first|apply Kd.Qv|apply Kd.Qu|apply Kd.Qy);exact ζ.out⟩,⟨by(with_reducible repeat first|apply Kd.Qv|apply Kd.Qu|apply Kd.Qy);exact ε.out⟩,γ,θ,J,HB⟩
       ·rw[if_neg cg] at H
        exact absurd H (by simp)
      ·rw[if_neg b7] at H
       have c26b0:=decide_eq_false b7
       clear b7
       simp only[Option.some.injEq,Prod.mk.injEq] at H
       obtain⟨rfl,rfl,rfl⟩:=H
       have j8:=b4.out
       have jr:=b5.out
       have mq:= τ.out
       have mr:= ω.out
       obtain⟨ke,kg,kh,ki⟩:=qD2 γ.out
       have ms:=an.out
       have mt:=ai.out
       obtain⟨iq,ir,kj,it,iu,kk⟩:=qD3 J.out
       obtain⟨il,gs,jz⟩:=Kd.Q7 O.out
       subst jz
       obtain⟨kl,km,kn,ko,kp,ks⟩:=qD3 θ.out
       obtain⟨eh,ei,fw⟩:=Kd.Q7 ζ.out
       subst fw
       obtain⟨fx,fy,ga⟩:=Kd.Q7 ε.out
       subst ga
       go_wp2
       refine bodyPost_ret (results_cell_row rfl _ _ b3 34 #[.slice il ρ.length gs,.slice eh σ.length ei,.slice fx μ.length fy] (0,0) _ rfl (by refine Qq (cs:=#[.slice il ρ.length gs,.slice eh σ.length ei,.slice none 0 0]) ?_ 2 _ rfl;refine Qq (cs:=#[.slice il ρ.length gs,.slice none 0 0,.slice none 0 0]) ?_ 1 _ rfl;refine Qq (cs:=#[.slice none 0 0,.slice none 0 0,.slice none 0 0]) ?_ 0 _ rfl;exact θ.out) Try.underlying34 rfl kr) rfl ?_
       exact⟨_,_,_,by first|rfl|(simp[Qk,Qj] <;> rfl)|(simp[*,Qk,Qj] <;> rfl),by(with_reducible repeat first|apply Kd.Qv|apply Kd.Qu|apply Kd.Qy);exact Kd.Q1 (Kd.Qx (Kd.Qx (Kd.Qx (Kd.Q4 O.out θ.out (by decide)) (fun _ hk=>hk.2) _) (fun _ hk=>hk.2) _) (fun _ hk=>hk.2) _) (fun _ hk=>⟨hk.1.1,hk.1.2⟩),by(with_reducible repeat first|apply Kd.Qv|apply Kd.Qu|apply Kd.Qy);exact Kd.Q1 (Kd.Qx (Kd.Qx (Kd.Qx (Kd.Q4 ζ.out θ.out (by decide)) (fun _ hk=>hk.2) _) (fun _ hk=>hk.2) _) (fun _ hk=>hk.2) _) (fun _ hk=>⟨hk.1.1,hk.1.2⟩),by(with_reducible repeat first|apply Kd.Qv|apply Kd.Qu|apply Kd.Qy);exact Kd.Q1 (Kd.Qx (Kd.Qx (Kd.Qx (Kd.Q4 ε.out θ.out (by decide)) (fun _ hk=>hk.2) _) (fun _ hk=>hk.2) _) (fun _ hk=>hk.2) _) (fun _ hk=>⟨hk.1.1,hk.1.2⟩),bel⟩
def newelref21_House.f (B:Int) (J:Int) (O:Int) (X:Int) (Y:Int) (Z:Int) (γ:Int) (ζ :Int) (θ :Int) (η :Int) (l1:List (S31)):Option (Int×Int):=some (B,(l1.length:Int))
set_option maxHeartbeats 8000000 in
set_option maxRecDepth 100000 in
theorem newelref21_House.calls (B:Int) (J:Int) (O:Int) (X:Int) (Y:Int) (Z:Int) (γ:Int) (ζ :Int) (θ :Int) (η :Int) (A1:Option Addr) (c1:Nat) (l1:List (S31)) (r1:Int) (r2:Int) (w:World) (cw:Kd.C k31 w A1 l1.length l1) (cr:l1.length≤c1) (h:newelref21_House.f B J O X Y Z γ ζ θ η l1=some (r1,r2)):
 Calls Try.prog 19 #[.agg #[.int .i64 B,.int .i64 J,.int .i64 O,.int .i64 X,.int .i64 Y,.int .i64 Z,.int .i64 γ,.int .i64 ζ,.int .i64 θ,.int .i64 η],.slice A1 l1.length c1] w fun e w'=>e = .returned (.agg #[.int .i64 r1,.int .i64 r2])∧Below w.heap.size w w':=by
 have cg:=Try.underlying25
 have dw:=Try.underlying59
 have ci:=aK cw
 have dj:=aK cr
 clear cw cr
 have HB:=aK (Below.refl w.heap.size w)
 have H:(some (B,(l1.length:Int)))=some (r1,r2):=h
 clear h
 simp only[Option.some.injEq,Prod.mk.injEq] at H
 obtain⟨rfl,rfl⟩:=H
 go_enter Try.func19,Try.ntmps19
 go_wp2_with (first|((with_reducible refine Qe (N:=2) rfl ?_);refine Zh ?hg (N:=2) ?hd (cs:=#[.int .i64 B,.int .i64 J,.int .i64 O,.int .i64 X,.int .i64 Y,.int .i64 Z,.int .i64 γ,.int .i64 ζ,.int .i64 θ,.int .i64 η]) (t:=25) ?hr ?_;(case hd=>rfl);(case hg=>rfl);(case hr=>first|(go_simp;done)|(go_simp;rfl));intro δ hg w3 hbox hb;have ρ:=aK (Q2 (by repeat(first|(with_reducible first|exact HB.out|apply Qo|apply Qi|apply Qg)|exact HB.out)) hb);have τ :=aK (hbox);have ω :=aK ((by rw[hg];exact(Qn (by repeat(first|(with_reducible first|exact HB.out|apply Qo|apply Qi|apply Qg)|exact HB.out))):w.heap.size ≤ δ));have a3:=aK ((by rw[hg];exact(Qn (by repeat(first|(with_reducible first|exact HB.out|apply Qo|apply Qi|apply Qg)|exact HB.out))):w.heap.size ≤ δ));clear HB;have HB:=ρ;have ε := τ;have ag:= ω;have κ :=a3;clear ρ τ ω a3;clear hb hbox hg)|((with_reducible refine Qe (N:=4) rfl ?_);refine Zh ?hg (N:=4) ?hd (cs:=#[.int .i64 0,.int .i64 0]) (t:=59) ?hr ?_;(case hd=>rfl);(case hg=>rfl);(case hr=>first|(go_simp;done)|(go_simp;rfl));intro ι hg w4 hbox hb;have ρ:=aK (Qz (g:= δ) (o:=.cells #[.int .i64 B,.int .i64 J,.int .i64 O,.int .i64 X,.int .i64 Y,.int .i64 Z,.int .i64 γ,.int .i64 ζ,.int .i64 θ,.int .i64 η] 25 (0,0)) (by(with_reducible repeat first|refine Qm ?_ _|refine Qd ?_|refine Ql ?_ _);exact ε.out) hb);have τ :=aK (Q2 (by repeat(first|(with_reducible first|exact HB.out|apply Qo|apply Qi|apply Qg|refine Qr ?_ κ.out)|exact HB.out)) hb);have ω :=aK (hbox);have a3:=aK ((by rw[hg];exact(Qn (by repeat(first|(with_reducible first|exact HB.out|apply Qo|apply Qi|apply Qg|refine Qr ?_ κ.out)|exact HB.out))):w.heap.size ≤ ι));have an:=aK ((by rw[hg];exact(Qn (by repeat(first|(with_reducible first|exact HB.out|apply Qo|apply Qi|apply Qg|refine Qr ?_ κ.out)|exact HB.out))):w.heap.size ≤ ι));have b1:=aK ((by rw[hg];exact Nat.ne_of_lt (Xi (g:= δ) (o:=.cells #[.int .i64 B,.int .i64 J,.int .i64 O,.int .i64 X,.int .i64 Y,.int .i64 Z,.int .i64 γ,.int .i64 ζ,.int .i64 θ,.int .i64 η] 25 (0,0)) (by(with_reducible repeat first|refine Qm ?_ _|refine Qd ?_|refine Ql ?_ _);exact ε.out)): δ ≠ ι));have b7:=aK ((by rw[hg];exact Nat.ne_of_gt (Xi (g:= δ) (o:=.cells #[.int .i64 B,.int .i64 J,.int .i64 O,.int .i64 X,.int .i64 Y,.int .i64 Z,.int .i64 γ,.int .i64 ζ,.int .i64 θ,.int .i64 η] 25 (0,0)) (by(with_reducible repeat first|refine Qm ?_ _|refine Qd ?_|refine Ql ?_ _);exact ε.out)): ι ≠ δ));clear ε;clear HB;have ε :=ρ;have HB:= τ;have ξ := ω;have ah:=a3;have aa:=an;have μ :=b1;have ν :=b7;clear ρ τ ω a3 an b1 b7;clear hb hbox hg;have ac:= μ.out;have af:= ν.out;obtain⟨σ,a6,φ,χ,a8,ab,am,ψ,a1,a4,ao,b2,b4,bb,bk,bn,bo,a5,a7,a9⟩:=Zg ε.out;obtain⟨a0,a2,ae,ay⟩:=qD2 ξ.out))
 refine bodyPost_ret (results_cell_row rfl _ _ ι 59 #[.int .i64 B,.int .i64 (l1.length:Int)] (0,0) _ rfl (by(with_reducible repeat first|refine Qm ?_ _|refine Qd ?_|refine Ql ?_ _);refine Qq (cs:=#[.int .i64 B,.int .i64 0]) ?_ 1 _ rfl;(with_reducible repeat first|refine Qm ?_ _|refine Qd ?_|refine Ql ?_ _);refine Qq (cs:=#[.int .i64 0,.int .i64 0]) ?_ 0 _ rfl;(with_reducible repeat first|refine Qm ?_ _|refine Qd ?_|refine Ql ?_ _);exact ξ.out) Try.underlying59 rfl kr) rfl ?_
 exact⟨by first|rfl|(simp[Qk,Qj] <;> rfl)|(simp[*,Qk,Qj] <;> rfl),by repeat(first|(with_reducible first|exact HB.out|apply Qo|apply Qi|apply Qg|refine Qr ?_ κ.out|refine Qr ?_ aa.out)|exact HB.out)⟩
mutual
def newelref21_Check.j0:Nat→List (S31)→Bool→Int→Int→Int→Int→Int→Int→Int→Int→Int→Int→List (S36)→List (S86)→Option (Int)
 |0,_,_,_,_,_,_,_,_,_,_,_,_,_,_=>none
 |k+1,J,B,X,Y,Z,γ,δ,ε,ζ,η,θ,ι,κ,μ =>if B=true then (some 210) else (newelref21_Check.l0 k J 0 X Y Z γ δ ε ζ η θ ι κ μ)
def newelref21_Check.l0:Nat→List (S31)→Int→Int→Int→Int→Int→Int→Int→Int→Int→Int→Int→List (S36)→List (S86)→Option (Int)
 |0,_,_,_,_,_,_,_,_,_,_,_,_,_,_=>none
 |k+1,J,O,X,Y,Z,γ,δ,ε,ζ,η,θ,ι,κ,μ =>if O<(J.length:Int) then (if 0≤O then ((newelref21_Lift.f k X Y Z γ δ ε ζ η θ ι ((Qb J O).f0.f0) ((Qb J O).f0.f1) ((Qb J O).f0.f2) ((Qb J O).f0.f3) ((Qb J O).f0.f4.f0) ((Qb J O).f0.f4.f1) ((Qb J O).f0.f4.f2) ((Qb J O).f1) ((Qb J O).f2) ((Qb J O).f3)).bind fun b0=>(if b0=true then (newelref21_Check.l0 k J (wrap64 (O+1)) X Y Z γ δ ε ζ η θ ι κ μ) else (some 210))) else (none)) else ((newelref21_House.f X Y Z γ δ ε ζ η θ ι J).bind fun B=>((newelref19_May.f k B.1 B.2 κ μ).bind fun az=>(if az=true then (some 0) else (some 190))))
end
def newelref21_Check.f (k:Nat) (B:Int) (J:Int) (O:Int) (X:Int) (Y:Int) (Z:Int) (γ:Int) (ζ :Int) (θ :Int) (η :Int) (l1:List (S31)) (φ :List (S36)) (χ :List (S86)):Option (Int):=if (l1.length:Int)<1 then (newelref21_Check.j0 k l1 true B J O X Y Z γ ζ θ η φ χ) else (newelref21_Check.j0 k l1 (decide ((l1.length:Int)>8)) B J O X Y Z γ ζ θ η φ χ)
set_option maxHeartbeats 8000000 in
set_option maxRecDepth 100000 in
theorem newelref21_Check.calls (k:Nat) (B:Int) (J:Int) (O:Int) (X:Int) (Y:Int) (Z:Int) (γ:Int) (ζ :Int) (θ :Int) (η :Int) (A1:Option Addr) (c1:Nat) (l1:List (S31)) (aa:Option Addr) (ab:Nat) (φ :List (S36)) (ac:Option Addr) (ae:Nat) (χ :List (S86)) (r:Int) (w:World) (cw:Kd.C k31 w A1 l1.length l1) (cr:l1.length≤c1) (aw:Kd.C k36 w aa φ.length φ) (ax: φ.length≤ab) (b3:Kd.C k86 w ac χ.length χ) (b4: χ.length≤ae) (h:newelref21_Check.f k B J O X Y Z γ ζ θ η l1 φ χ = some r):
 Calls Try.prog 16 #[.agg #[.int .i64 B,.int .i64 J,.int .i64 O,.int .i64 X,.int .i64 Y,.int .i64 Z,.int .i64 γ,.int .i64 ζ,.int .i64 θ,.int .i64 η],.slice A1 l1.length c1,.agg #[.slice aa φ.length ab,.slice ac χ.length ae]] w fun e w'=>e = .returned (.int .i64 r)∧Below w.heap.size w w':=by
 have cg:=Try.underlying25
 have dc:=Try.underlying50
 have er:=Try.underlying31
 have ci:=aK cw
 have dj:=aK cr
 clear cw cr
 have cm:=aK aw
 have cn:=aK ax
 clear aw ax
 have co:=aK b3
 have cp:=aK b4
 clear b3 b4
 have HB:=aK (Below.refl w.heap.size w)
 have H:(if (l1.length:Int)<1 then (newelref21_Check.j0 k l1 true B J O X Y Z γ ζ θ η φ χ) else (newelref21_Check.j0 k l1 (decide ((l1.length:Int)>8)) B J O X Y Z γ ζ θ η φ χ))=some r:=h
 clear h
 have al:=aK H
 clear H
 go_enter Try.func16,Try.ntmps16
 go_upto_region 1 with(first|((with_reducible refine Qe (N:=3) rfl ?_);(try(refine Zs (by rfl) ?_;dsimp only));refine qE 3 #[.int .i64 B,.int .i64 J,.int .i64 O,.int .i64 X,.int .i64 Y,.int .i64 Z,.int .i64 γ,.int .i64 ζ,.int .i64 θ,.int .i64 η] 25 ?_;intro ι hg w5 hbox hb;have ε :=aK hbox;have bq:=sGe hg;have br:=sGe hg;replace HB:=sHb hb;clear hb hbox hg)|((with_reducible refine Qe (N:=5) rfl ?_);(try(refine Zs (by rfl) ?_;dsimp only));refine qE 5 #[.slice aa φ.length ab,.slice ac χ.length ae] 50 ?_;intro an hg w6 hbox hb;have κ :=aK hbox;have bs:=sGe hg;have bu:=sGe hg;have bm:=sNl ε hg;have bo:=sNg ε hg;replace ε :=sBk ε hb;replace HB:=sHb hb;clear hb hbox hg))
 (try simp only[Act.put,qS])
 go_cut [17] (fun bl wc=>∃ (kq:Nat) (ay:Bool),bl = .bool ay∧Aside0 (newelref21_Check.j0 kq l1 ay B J O X Y Z γ ζ θ η φ χ = some r)∧Aside0 (kq≤k)∧Aside0 (wc.heap[ι]?=some (.cells #[.int .i64 B,.int .i64 J,.int .i64 O,.int .i64 X,.int .i64 Y,.int .i64 Z,.int .i64 γ,.int .i64 ζ,.int .i64 θ,.int .i64 η] 25 (0,0)))∧Aside0 (wc.heap[an]?=some (.cells #[(.slice aa φ.length ab),(.slice ac χ.length ae)] 50 (0,0)))∧Aside0 (Below w.heap.size w wc))
 case first=>
  have H:=al.out
  clear al
  by_cases c7:(l1.length:Int)<1
  ·rw[if_pos c7] at H
   have c7b0:=decide_eq_true c7
   have c7b1:decide (l1.length<1)=true:=decide_eq_true (by omega)
   clear c7
   (first|rw[c7b0]|(simp only[Za,Zb];rw[c7b0])|skip)
   have H':=aK H
   clear H
   go_wp2
   go_meet
   case rel=>exact⟨_,(true),rfl,H',⟨by first|omega|exact Nat.le_refl _⟩,ε,κ,HB⟩
  ·rw[if_neg c7] at H
   have c7b0:=decide_eq_false c7
   have c7b1:decide (l1.length<1)=false:=decide_eq_false (by omega)
   clear c7
   (first|rw[c7b0]|(simp only[Za,Zb];rw[c7b0])|skip)
   have H':=aK H
   clear H
   go_wp2
   go_meet
   case rel=>exact⟨_,(decide ((l1.length:Int)>8)),rfl,H',⟨by first|omega|exact Nat.le_refl _⟩,ε,κ,HB⟩
 case rest=>
  clear al
  try clear c1
  obtain⟨kq,ay,rfl,HA,du,ε,κ,HB⟩:=hcut
  cases kq with
  |zero=>exact absurd HA.out (by simp[newelref21_Check.j0])
  |succ ff=>
   have H:=HA.out
   clear HA
   simp only[newelref21_Check.j0] at H
   by_cases c8:ay=true
   ·subst c8
    rw[if_pos rfl] at H
    obtain rfl:=Option.some.inj H
    go_wp2
    go_ret
    exact⟨rfl,HB.out⟩
   ·replace c8:=Bool.eq_false_iff.mpr c8
    subst c8
    rw[if_neg nft] at H
    have H':=aK H
    clear H
    go_wp2
    go_loopg [7] ff (fun kq v7 w'=>∃ (δ :Int),v7 = .int .i64 δ ∧ Aside0 (newelref21_Check.l0 kq l1 δ B J O X Y Z γ ζ θ η φ χ = some r)∧Aside0 (kq≤ff)∧Aside0 (w'.heap[ι]?=some (.cells #[.int .i64 B,.int .i64 J,.int .i64 O,.int .i64 X,.int .i64 Y,.int .i64 Z,.int .i64 γ,.int .i64 ζ,.int .i64 θ,.int .i64 η] 25 (0,0)))∧Aside0 (w'.heap[an]?=some (.cells #[(.slice aa φ.length ab),(.slice ac χ.length ae)] 50 (0,0)))∧Aside0 (Below w.heap.size w w'))
    case atStart=>exact⟨(0),rfl,H',⟨Nat.le_refl _⟩,ε,κ,HB⟩
    case round=>
     clear H'
     try clear c1
     try clear c8
     obtain⟨δ,rfl,HA,bn,ε,κ,HB⟩:=hrel
     cases gk with
     |zero=>exact absurd HA.out (by simp[newelref21_Check.l0])
     |succ k2=>
      have H:=HA.out
      clear HA
      simp only[newelref21_Check.l0] at H
      by_cases c9: δ < (l1.length:Int)
      ·rw[if_pos c9] at H
       have c9b0:=decide_eq_true c9
       clear c9
       by_cases c10:0 ≤ δ
       ·rw[if_pos c10] at H
        have c10b0:=decide_eq_true c10
        clear c10
        obtain⟨b0,bd,H⟩:=qO H
        have cy:=aK bd
        clear bd
        by_cases a5:b0=true
        ·subst a5
         rw[if_pos rfl] at H
         have H':=aK H
         clear H
         try go_wp2
         replace ε :=aK (Qd ε.out)
         replace κ :=aK (Qd κ.out)
         replace HB:=aK (Qg HB.out)
         have ao:0≤(δ :Int):=of_decide_eq_true (by assumption)
         have ar: δ < (l1.length:Int):=of_decide_eq_true (by assumption)
         obtain⟨μ,b1,ν,ξ,ρ,σ,τ,ψ,ω,a0,a1,a2⟩:=Yy ci.out δ ao ar
         have a3:=a2
         have a6:=a1
         have a7:=a0
         have a8:= ω
         have a9:= ψ
         have af:= τ
         have ag:=σ
         have ah:=ρ
         have ai:= ξ
         have aj:= ν
         cases b1
         replace ν :=sCl HB ν
         replace ξ :=sCl HB ξ
         replace ρ:=sCl HB ρ
         replace σ:=sCl HB σ
         replace τ :=sCl HB τ
         replace ψ :=sCl HB ψ
         replace ω :=sCl HB ω
         replace a0:=sCl HB a0
         replace a1:=sCl HB a1
         replace a2:=sCl HB a2
         replace ao:=eq_true ao
         replace ar:=eq_true ar
         refine Ze (n:=7) (S:=fun w'=>w'.cell? ⟨ι,0,none⟩=some (.int .i64 B)∧w'.cell? ⟨ι,1,none⟩=some (.int .i64 J)∧w'.cell? ⟨ι,2,none⟩=some (.int .i64 O)∧w'.cell? ⟨ι,3,none⟩=some (.int .i64 X)∧w'.cell? ⟨ι,4,none⟩=some (.int .i64 Y)∧w'.cell? ⟨ι,5,none⟩=some (.int .i64 Z)∧w'.cell? ⟨ι,6,none⟩=some (.int .i64 γ)∧w'.cell? ⟨ι,7,none⟩=some (.int .i64 ζ)∧w'.cell? ⟨ι,8,none⟩=some (.int .i64 θ)∧w'.cell? ⟨ι,9,none⟩=some (.int .i64 η)∧w'.cell? (μ.add ((δ).toNat * 10))=some (.int .i64 ((Qb l1 δ).f0.f0))∧w'.cell? ⟨(μ.add ((δ).toNat * 10)).block,(μ.add ((δ).toNat * 10)).off+1,none⟩=some (.int .i64 ((Qb l1 δ).f0.f1))∧w'.cell? ⟨(μ.add ((δ).toNat * 10)).block,(μ.add ((δ).toNat * 10)).off+2,none⟩=some (.int .i64 ((Qb l1 δ).f0.f2))∧w'.cell? ⟨(μ.add ((δ).toNat * 10)).block,(μ.add ((δ).toNat * 10)).off+3,none⟩=some (.int .i64 ((Qb l1 δ).f0.f3))∧w'.cell? ⟨(μ.add ((δ).toNat * 10)).block,(μ.add ((δ).toNat * 10)).off+4,none⟩=some (.int .i64 ((Qb l1 δ).f0.f4.f0))∧w'.cell? ⟨(μ.add ((δ).toNat * 10)).block,(μ.add ((δ).toNat * 10)).off+5,none⟩=some (.int .i64 ((Qb l1 δ).f0.f4.f1))∧w'.cell? ⟨(μ.add ((δ).toNat * 10)).block,(μ.add ((δ).toNat * 10)).off+6,none⟩=some (.int .i64 ((Qb l1 δ).f0.f4.f2))∧w'.cell? ⟨(μ.add ((δ).toNat * 10)).block,(μ.add ((δ).toNat * 10)).off+7,none⟩=some (.int .i64 ((Qb l1 δ).f1))∧w'.cell? ⟨(μ.add ((δ).toNat * 10)).block,(μ.add ((δ).toNat * 10)).off+8,none⟩=some (.bool ((Qb l1 δ).f2))∧w'.cell? ⟨(μ.add ((δ).toNat * 10)).block,(μ.add ((δ).toNat * 10)).off+9,none⟩=some (.bool ((Qb l1 δ).f3))) (ds:=[]) #[false,false,false,false,false,false,false] kr rfl rfl ⟨(Qa ε.out 0).trans rfl,(Qa ε.out 1).trans rfl,(Qa ε.out 2).trans rfl,(Qa ε.out 3).trans rfl,(Qa ε.out 4).trans rfl,(Qa ε.out 5).trans rfl,(Qa ε.out 6).trans rfl,(Qa ε.out 7).trans rfl,(Qa ε.out 8).trans rfl,(Qa ε.out 9).trans rfl,(sCl HB aj),(sCl HB ai),(sCl HB ah),(sCl HB ag),(sCl HB af),(sCl HB a9),(sCl HB a8),(sCl HB a7),(sCl HB a6),(sCl HB a3)⟩ (fun hHeld=>?_)
         generalize wr.drew=ba at ε κ HB ν ξ ρ σ τ ψ ω a0 a1 a2 hHeld ⊢
         refine Xe (i:=1) (N:=some 25) (v:=?_) (a':=?_) (bN 7 2) rfl rfl kr (fun _ _ _ h=>h) (Or.inl ⟨by rfl, ?_⟩) ?_ ?_
         rotate_left
         ·intro w'
          go_simp
          with_reducible rfl
         rotate_left
         ·simp only[Act.put,qS,Za,Zb]
          rfl
         refine Xe (i:=2) (N:=some 26) (v:=?_) (a':=?_) (bN 7 6) rfl rfl kr (fun _ _ _ h=>h) (Or.inl ⟨by rfl, ?_⟩) ?_ ?_
         rotate_left
         ·intro w'
          go_simp
          with_reducible rfl
         rotate_left
         ·simp only[Act.put,qS,Za,Zb]
          rfl
         refine Xe (i:=3) (N:=some 27) (v:=?_) (a':=?_) (bN 7 14) rfl rfl kr (fun _ _ _ h=>h) (Or.inl ⟨by rfl, ?_⟩) ?_ ?_
         rotate_left
         ·intro w'
          go_simp
          with_reducible rfl
         rotate_left
         ·simp only[Act.put,qS,Za,Zb]
          rfl
         refine X2 (i:=0) (N:=some 24) (v:=?_) (a':=?_) (bN 7 15) rfl rfl kr (fun _ _ _ h=>h) (Or.inl ⟨by rfl, ?_⟩) hHeld ?_ ?_
         rotate_left
         ·rintro w' ⟨s0,s1,s2,s3,s4,s5,s6,s7,s8,s9,ak,am,b5,b6,b7,b8,b9,bc,bg,bh⟩
          go_simp
          with_reducible rfl
         rotate_left
         ·simp only[Act.put,qS,Za,Zb]
          rfl
         refine X2 (i:=4) (N:=some 28) (v:=?_) (a':=?_) (bN 7 31) rfl rfl kr (fun _ _ _ h=>h) (Or.inl ⟨by rfl, ?_⟩) hHeld ?_ ?_
         rotate_left
         ·rintro w' ⟨s0,s1,s2,s3,s4,s5,s6,s7,s8,s9,ak,am,b5,b6,b7,b8,b9,bc,bg,bh⟩
          go_simp
          with_reducible rfl
         rotate_left
         ·simp only[Act.put,qS,Za,Zb]
          rfl
         refine Zf (i:=5) (N:=some 29) (bN 7 63) rfl rfl kr (by decide) (fun K hK=>?_)
         refine Zd Try.func32 kr rfl #[.agg #[.int .i64 B,.int .i64 J,.int .i64 O,.int .i64 X,.int .i64 Y,.int .i64 Z,.int .i64 γ,.int .i64 ζ,.int .i64 θ,.int .i64 η],.agg #[.int .i64 ((Qb l1 δ).f0.f0),.int .i64 ((Qb l1 δ).f0.f1),.int .i64 ((Qb l1 δ).f0.f2),.int .i64 ((Qb l1 δ).f0.f3),.int .i64 ((Qb l1 δ).f0.f4.f0),.int .i64 ((Qb l1 δ).f0.f4.f1),.int .i64 ((Qb l1 δ).f0.f4.f2),.int .i64 ((Qb l1 δ).f1),.bool ((Qb l1 δ).f2),.bool ((Qb l1 δ).f3)]] (by rfl) rfl rfl qM ?_
         with_reducible refine(newelref21_Lift.calls k2 B J O X Y Z γ ζ θ η ((Qb l1 δ).f0.f0) ((Qb l1 δ).f0.f1) ((Qb l1 δ).f0.f2) ((Qb l1 δ).f0.f3) ((Qb l1 δ).f0.f4.f0) ((Qb l1 δ).f0.f4.f1) ((Qb l1 δ).f0.f4.f2) ((Qb l1 δ).f1) ((Qb l1 δ).f2) ((Qb l1 δ).f3) true _ cy.out).mono ?_
         rintro e bz ⟨rfl,hb⟩
         refine⟨_,rfl, ?_⟩
         replace ε :=sBk ε hb
         replace κ :=sBk κ hb
         replace HB:=sHb hb
         (try clear hb)
         (try clear a4)
         (try clear hk)
         (try clear hi)
         refine hK.out _ _ ⟨qc ε,qc ε,qc ε,qc ε,qc ε,qc ε,qc ε,qc ε,qc ε,qc ε,(sCl HB aj),(sCl HB ai),(sCl HB ah),(sCl HB ag),(sCl HB af),(sCl HB a9),(sCl HB a8),(sCl HB a7),(sCl HB a6),(sCl HB a3)⟩ (fun hHeld=>?_)
         clear hK K
         refine qN (some 29) ?_
         refine Xe (i:=6) (N:=some 8) (v:=?_) (a':=?_) (bN 7 127) rfl rfl kr (fun _ _ _ h=>h) (Or.inl ⟨by rfl, ?_⟩) ?_ ?_
         rotate_left
         ·intro w'
          go_simp
          with_reducible rfl
         rotate_left
         ·simp only[Act.put,qS,Za,Zb]
          rfl
         refine Zi kr ?_
         try go_wp2
         go_roundg k2
         case measure=>have:=du.out;have:=bn.out;omega
         case rel=>exact⟨(wrap64 (δ + 1)),rfl,H',⟨by have:=du.out;have:=bn.out;omega⟩,ε,κ,HB⟩
        ·replace a5:=Bool.eq_false_iff.mpr a5
         subst a5
         rw[if_neg nft] at H
         obtain rfl:=Option.some.inj H
         try go_wp2
         replace ε :=aK (Qd ε.out)
         replace κ :=aK (Qd κ.out)
         replace HB:=aK (Qg HB.out)
         have ao:0≤(δ :Int):=of_decide_eq_true (by assumption)
         have ar: δ < (l1.length:Int):=of_decide_eq_true (by assumption)
         obtain⟨μ,b1,ν,ξ,ρ,σ,τ,ψ,ω,a0,a1,a2⟩:=Yy ci.out δ ao ar
         have a3:=a2
         have a6:=a1
         have a7:=a0
         have a8:= ω
         have a9:= ψ
         have af:= τ
         have ag:=σ
         have ah:=ρ
         have ai:= ξ
         have aj:= ν
         cases b1
         replace ν :=sCl HB ν
         replace ξ :=sCl HB ξ
         replace ρ:=sCl HB ρ
         replace σ:=sCl HB σ
         replace τ :=sCl HB τ
         replace ψ :=sCl HB ψ
         replace ω :=sCl HB ω
         replace a0:=sCl HB a0
         replace a1:=sCl HB a1
         replace a2:=sCl HB a2
         replace ao:=eq_true ao
         replace ar:=eq_true ar
         refine Ze (n:=7) (S:=fun w'=>w'.cell? ⟨ι,0,none⟩=some (.int .i64 B)∧w'.cell? ⟨ι,1,none⟩=some (.int .i64 J)∧w'.cell? ⟨ι,2,none⟩=some (.int .i64 O)∧w'.cell? ⟨ι,3,none⟩=some (.int .i64 X)∧w'.cell? ⟨ι,4,none⟩=some (.int .i64 Y)∧w'.cell? ⟨ι,5,none⟩=some (.int .i64 Z)∧w'.cell? ⟨ι,6,none⟩=some (.int .i64 γ)∧w'.cell? ⟨ι,7,none⟩=some (.int .i64 ζ)∧w'.cell? ⟨ι,8,none⟩=some (.int .i64 θ)∧w'.cell? ⟨ι,9,none⟩=some (.int .i64 η)∧w'.cell? (μ.add ((δ).toNat * 10))=some (.int .i64 ((Qb l1 δ).f0.f0))∧w'.cell? ⟨(μ.add ((δ).toNat * 10)).block,(μ.add ((δ).toNat * 10)).off+1,none⟩=some (.int .i64 ((Qb l1 δ).f0.f1))∧w'.cell? ⟨(μ.add ((δ).toNat * 10)).block,(μ.add ((δ).toNat * 10)).off+2,none⟩=some (.int .i64 ((Qb l1 δ).f0.f2))∧w'.cell? ⟨(μ.add ((δ).toNat * 10)).block,(μ.add ((δ).toNat * 10)).off+3,none⟩=some (.int .i64 ((Qb l1 δ).f0.f3))∧w'.cell? ⟨(μ.add ((δ).toNat * 10)).block,(μ.add ((δ).toNat * 10)).off+4,none⟩=some (.int .i64 ((Qb l1 δ).f0.f4.f0))∧w'.cell? ⟨(μ.add ((δ).toNat * 10)).block,(μ.add ((δ).toNat * 10)).off+5,none⟩=some (.int .i64 ((Qb l1 δ).f0.f4.f1))∧w'.cell? ⟨(μ.add ((δ).toNat * 10)).block,(μ.add ((δ).toNat * 10)).off+6,none⟩=some (.int .i64 ((Qb l1 δ).f0.f4.f2))∧w'.cell? ⟨(μ.add ((δ).toNat * 10)).block,(μ.add ((δ).toNat * 10)).off+7,none⟩=some (.int .i64 ((Qb l1 δ).f1))∧w'.cell? ⟨(μ.add ((δ).toNat * 10)).block,(μ.add ((δ).toNat * 10)).off+8,none⟩=some (.bool ((Qb l1 δ).f2))∧w'.cell? ⟨(μ.add ((δ).toNat * 10)).block,(μ.add ((δ).toNat * 10)).off+9,none⟩=some (.bool ((Qb l1 δ).f3))) (ds:=[]) #[false,false,false,false,false,false,false] kr rfl rfl ⟨(Qa ε.out 0).trans rfl,(Qa ε.out 1).trans rfl,(Qa ε.out 2).trans rfl,(Qa ε.out 3).trans rfl,(Qa ε.out 4).trans rfl,(Qa ε.out 5).trans rfl,(Qa ε.out 6).trans rfl,(Qa ε.out 7).trans rfl,(Qa ε.out 8).trans rfl,(Qa ε.out 9).trans rfl,(sCl HB aj),(sCl HB ai),(sCl HB ah),(sCl HB ag),(sCl HB af),(sCl HB a9),(sCl HB a8),(sCl HB a7),(sCl HB a6),(sCl HB a3)⟩ (fun hHeld=>?_)
         generalize wr.drew=ez at ε κ HB ν ξ ρ σ τ ψ ω a0 a1 a2 hHeld ⊢
         refine Xe (i:=1) (N:=some 25) (v:=?_) (a':=?_) (bN 7 2) rfl rfl kr (fun _ _ _ h=>h) (Or.inl ⟨by rfl, ?_⟩) ?_ ?_
         rotate_left
         ·intro w'
          go_simp
          with_reducible rfl
         rotate_left
         ·simp only[Act.put,qS,Za,Zb]
          rfl
         refine Xe (i:=2) (N:=some 26) (v:=?_) (a':=?_) (bN 7 6) rfl rfl kr (fun _ _ _ h=>h) (Or.inl ⟨by rfl, ?_⟩) ?_ ?_
         rotate_left
         ·intro w'
          go_simp
          with_reducible rfl
         rotate_left
         ·simp only[Act.put,qS,Za,Zb]
          rfl
         refine Xe (i:=3) (N:=some 27) (v:=?_) (a':=?_) (bN 7 14) rfl rfl kr (fun _ _ _ h=>h) (Or.inl ⟨by rfl, ?_⟩) ?_ ?_
         rotate_left
         ·intro w'
          go_simp
          with_reducible rfl
         rotate_left
         ·simp only[Act.put,qS,Za,Zb]
          rfl
         refine X2 (i:=0) (N:=some 24) (v:=?_) (a':=?_) (bN 7 15) rfl rfl kr (fun _ _ _ h=>h) (Or.inl ⟨by rfl, ?_⟩) hHeld ?_ ?_
         rotate_left
         ·rintro w' ⟨s0,s1,s2,s3,s4,s5,s6,s7,s8,s9,ak,am,b5,b6,b7,b8,b9,bc,bg,bh⟩
          go_simp
          with_reducible rfl
         rotate_left
         ·simp only[Act.put,qS,Za,Zb]
          rfl
         refine X2 (i:=4) (N:=some 28) (v:=?_) (a':=?_) (bN 7 31) rfl rfl kr (fun _ _ _ h=>h) (Or.inl ⟨by rfl, ?_⟩) hHeld ?_ ?_
         rotate_left
         ·rintro w' ⟨s0,s1,s2,s3,s4,s5,s6,s7,s8,s9,ak,am,b5,b6,b7,b8,b9,bc,bg,bh⟩
          go_simp
          with_reducible rfl
         rotate_left
         ·simp only[Act.put,qS,Za,Zb]
          rfl
         refine Zf (i:=5) (N:=some 29) (bN 7 63) rfl rfl kr (by decide) (fun K hK=>?_)
         refine Zd Try.func32 kr rfl #[.agg #[.int .i64 B,.int .i64 J,.int .i64 O,.int .i64 X,.int .i64 Y,.int .i64 Z,.int .i64 γ,.int .i64 ζ,.int .i64 θ,.int .i64 η],.agg #[.int .i64 ((Qb l1 δ).f0.f0),.int .i64 ((Qb l1 δ).f0.f1),.int .i64 ((Qb l1 δ).f0.f2),.int .i64 ((Qb l1 δ).f0.f3),.int .i64 ((Qb l1 δ).f0.f4.f0),.int .i64 ((Qb l1 δ).f0.f4.f1),.int .i64 ((Qb l1 δ).f0.f4.f2),.int .i64 ((Qb l1 δ).f1),.bool ((Qb l1 δ).f2),.bool ((Qb l1 δ).f3)]] (by rfl) rfl rfl qM ?_
         with_reducible refine(newelref21_Lift.calls k2 B J O X Y Z γ ζ θ η ((Qb l1 δ).f0.f0) ((Qb l1 δ).f0.f1) ((Qb l1 δ).f0.f2) ((Qb l1 δ).f0.f3) ((Qb l1 δ).f0.f4.f0) ((Qb l1 δ).f0.f4.f1) ((Qb l1 δ).f0.f4.f2) ((Qb l1 δ).f1) ((Qb l1 δ).f2) ((Qb l1 δ).f3) false _ cy.out).mono ?_
         rintro e cx ⟨rfl,hb⟩
         refine⟨_,rfl, ?_⟩
         replace ε :=sBk ε hb
         replace κ :=sBk κ hb
         replace HB:=sHb hb
         (try clear hb)
         (try clear a4)
         (try clear hk)
         (try clear hi)
         refine hK.out _ _ ⟨qc ε,qc ε,qc ε,qc ε,qc ε,qc ε,qc ε,qc ε,qc ε,qc ε,(sCl HB aj),(sCl HB ai),(sCl HB ah),(sCl HB ag),(sCl HB af),(sCl HB a9),(sCl HB a8),(sCl HB a7),(sCl HB a6),(sCl HB a3)⟩ (fun hHeld=>?_)
         clear hK K
         refine qN (some 29) ?_
         refine Xe (i:=6) (N:=some 8) (v:=?_) (a':=?_) (bN 7 127) rfl rfl kr (fun _ _ _ h=>h) (Or.inl ⟨by rfl, ?_⟩) ?_ ?_
         rotate_left
         ·intro w'
          go_simp
          with_reducible rfl
         rotate_left
         ·simp only[Act.put,qS,Za,Zb]
          rfl
         refine Zi kr ?_
         try go_wp2
         go_ret
         exact⟨rfl,HB.out⟩
       ·rw[if_neg c10] at H
        exact absurd H (by simp)
      ·rw[if_neg c9] at H
       have c9b0:=decide_eq_false c9
       clear c9
       obtain⟨⟨au,av⟩,bi,H⟩:=qO H
       replace H:((newelref19_May.f k2 au av φ χ).bind fun az=>(if az=true then (some 0) else (some 190)))=some r:=H
       have bp:=aK bi
       clear bi
       obtain⟨az,ap,H⟩:=qO H
       have bf:=aK ap
       clear ap
       by_cases bk:az=true
       ·subst bk
        rw[if_pos rfl] at H
        obtain rfl:=Option.some.inj H
        try go_wp2
        replace ε :=aK (Qd ε.out)
        replace κ :=aK (Qd κ.out)
        replace HB:=aK (Qg HB.out)
        refine Ze (n:=6) (S:=fun w'=>w'.cell? ⟨ι,0,none⟩=some (.int .i64 B)∧w'.cell? ⟨ι,1,none⟩=some (.int .i64 J)∧w'.cell? ⟨ι,2,none⟩=some (.int .i64 O)∧w'.cell? ⟨ι,3,none⟩=some (.int .i64 X)∧w'.cell? ⟨ι,4,none⟩=some (.int .i64 Y)∧w'.cell? ⟨ι,5,none⟩=some (.int .i64 Z)∧w'.cell? ⟨ι,6,none⟩=some (.int .i64 γ)∧w'.cell? ⟨ι,7,none⟩=some (.int .i64 ζ)∧w'.cell? ⟨ι,8,none⟩=some (.int .i64 θ)∧w'.cell? ⟨ι,9,none⟩=some (.int .i64 η)∧w'.cell? ⟨an,0,none⟩=some (.slice aa φ.length ab)∧w'.cell? ⟨an,1,none⟩=some (.slice ac χ.length ae)) (ds:=[]) #[false,false,false,false,false,false] kr rfl rfl ⟨(Qa ε.out 0).trans rfl,(Qa ε.out 1).trans rfl,(Qa ε.out 2).trans rfl,(Qa ε.out 3).trans rfl,(Qa ε.out 4).trans rfl,(Qa ε.out 5).trans rfl,(Qa ε.out 6).trans rfl,(Qa ε.out 7).trans rfl,(Qa ε.out 8).trans rfl,(Qa ε.out 9).trans rfl,(Qa κ.out 0).trans rfl,(Qa κ.out 1).trans rfl⟩ (fun hHeld=>?_)
        generalize wr.drew=dx at ε κ HB hHeld ⊢
        refine Xe (i:=1) (N:=some 33) (v:=?_) (a':=?_) (bN 6 2) rfl rfl kr (fun _ _ _ h=>h) (Or.inl ⟨by rfl, ?_⟩) ?_ ?_
        rotate_left
        ·intro w'
         go_simp
         with_reducible rfl
        rotate_left
        ·simp only[Act.put,qS,Za,Zb]
         rfl
        refine X2 (i:=0) (N:=some 32) (v:=?_) (a':=?_) (bN 6 3) rfl rfl kr (fun _ _ _ h=>h) (Or.inl ⟨by rfl, ?_⟩) hHeld ?_ ?_
        rotate_left
        ·rintro w' ⟨s0,s1,s2,s3,s4,s5,s6,s7,s8,s9,ak,am⟩
         go_simp
         with_reducible rfl
        rotate_left
        ·simp only[Act.put,qS,Za,Zb]
         rfl
        refine X2 (i:=3) (N:=some 35) (v:=?_) (a':=?_) (bN 6 11) rfl rfl kr (fun _ _ _ h=>h) (Or.inl ⟨by rfl, ?_⟩) hHeld ?_ ?_
        rotate_left
        ·rintro w' ⟨s0,s1,s2,s3,s4,s5,s6,s7,s8,s9,ak,am⟩
         go_simp
         with_reducible rfl
        rotate_left
        ·simp only[Act.put,qS,Za,Zb]
         rfl
        refine Zf (i:=2) (N:=some 34) (bN 6 15) rfl rfl kr (by decide) (fun K hK=>?_)
        refine Zd Try.func19 kr rfl #[.agg #[.int .i64 B,.int .i64 J,.int .i64 O,.int .i64 X,.int .i64 Y,.int .i64 Z,.int .i64 γ,.int .i64 ζ,.int .i64 θ,.int .i64 η],.slice A1 l1.length c1] (by rfl) rfl rfl qM ?_
        with_reducible refine(newelref21_House.calls B J O X Y Z γ ζ θ η _ _ l1 au av _ ?side1 ?side2 bp.out).mono ?_
        (case side1=>exact(Kd.Qs ci.out HB.out))
        (case side2=>exact dj.out)
        rintro e b2 ⟨rfl,hb⟩
        refine⟨_,rfl, ?_⟩
        replace ε :=sBk ε hb
        replace κ :=sBk κ hb
        replace HB:=sHb hb
        (try clear hb)
        (try clear a4)
        (try clear hk)
        (try clear hi)
        refine hK.out _ _ ⟨qc ε,qc ε,qc ε,qc ε,qc ε,qc ε,qc ε,qc ε,qc ε,qc ε,qc κ,qc κ⟩ (fun hHeld=>?_)
        clear hK K
        refine qN (some 34) ?_
        refine Zf (i:=4) (N:=some 36) (bN 6 31) rfl rfl kr (by decide) (fun K hK=>?_)
        refine Zd Try.func39 kr rfl #[.agg #[.int .i64 au,.int .i64 av],.agg #[.slice aa φ.length ab,.slice ac χ.length ae]] (by rfl) rfl rfl qM ?_
        with_reducible refine(newelref19_May.calls k2 au av _ _ φ _ _ χ true _ ?side1 ?side2 ?side3 ?side4 bf.out).mono ?_
        (case side1=>exact(Kd.Qs cm.out HB.out))
        (case side2=>exact cn.out)
        (case side3=>exact(Kd.Qs co.out HB.out))
        (case side4=>exact cp.out)
        rintro e bj ⟨rfl,hb⟩
        refine⟨_,rfl, ?_⟩
        replace ε :=sBk ε hb
        replace κ :=sBk κ hb
        replace HB:=sHb hb
        (try clear hb)
        (try clear a4)
        (try clear hk)
        (try clear hi)
        refine hK.out _ _ ⟨qc ε,qc ε,qc ε,qc ε,qc ε,qc ε,qc ε,qc ε,qc ε,qc ε,qc κ,qc κ⟩ (fun hHeld=>?_)
        clear hK K
        refine qN (some 36) ?_
        refine Xe (i:=5) (N:=some 9) (v:=?_) (a':=?_) (bN 6 63) rfl rfl kr (fun _ _ _ h=>h) (Or.inl ⟨by rfl, ?_⟩) ?_ ?_
        rotate_left
        ·intro w'
         go_simp
         with_reducible rfl
        rotate_left
        ·simp only[Act.put,qS,Za,Zb]
         rfl
        refine Zi kr ?_
        try go_wp2
        go_ret
        exact⟨rfl,HB.out⟩
       ·replace bk:=Bool.eq_false_iff.mpr bk
        subst bk
        rw[if_neg nft] at H
        obtain rfl:=Option.some.inj H
        try go_wp2
        replace ε :=aK (Qd ε.out)
        replace κ :=aK (Qd κ.out)
        replace HB:=aK (Qg HB.out)
        refine Ze (n:=6) (S:=fun w'=>w'.cell? ⟨ι,0,none⟩=some (.int .i64 B)∧w'.cell? ⟨ι,1,none⟩=some (.int .i64 J)∧w'.cell? ⟨ι,2,none⟩=some (.int .i64 O)∧w'.cell? ⟨ι,3,none⟩=some (.int .i64 X)∧w'.cell? ⟨ι,4,none⟩=some (.int .i64 Y)∧w'.cell? ⟨ι,5,none⟩=some (.int .i64 Z)∧w'.cell? ⟨ι,6,none⟩=some (.int .i64 γ)∧w'.cell? ⟨ι,7,none⟩=some (.int .i64 ζ)∧w'.cell? ⟨ι,8,none⟩=some (.int .i64 θ)∧w'.cell? ⟨ι,9,none⟩=some (.int .i64 η)∧w'.cell? ⟨an,0,none⟩=some (.slice aa φ.length ab)∧w'.cell? ⟨an,1,none⟩=some (.slice ac χ.length ae)) (ds:=[]) #[false,false,false,false,false,false] kr rfl rfl ⟨(Qa ε.out 0).trans rfl,(Qa ε.out 1).trans rfl,(Qa ε.out 2).trans rfl,(Qa ε.out 3).trans rfl,(Qa ε.out 4).trans rfl,(Qa ε.out 5).trans rfl,(Qa ε.out 6).trans rfl,(Qa ε.out 7).trans rfl,(Qa ε.out 8).trans rfl,(Qa ε.out 9).trans rfl,(Qa κ.out 0).trans rfl,(Qa κ.out 1).trans rfl⟩ (fun hHeld=>?_)
        generalize wr.drew=bb at ε κ HB hHeld ⊢
        refine Xe (i:=1) (N:=some 33) (v:=?_) (a':=?_) (bN 6 2) rfl rfl kr (fun _ _ _ h=>h) (Or.inl ⟨by rfl, ?_⟩) ?_ ?_
        rotate_left
        ·intro w'
         go_simp
         with_reducible rfl
        rotate_left
        ·simp only[Act.put,qS,Za,Zb]
         rfl
        refine X2 (i:=0) (N:=some 32) (v:=?_) (a':=?_) (bN 6 3) rfl rfl kr (fun _ _ _ h=>h) (Or.inl ⟨by rfl, ?_⟩) hHeld ?_ ?_
        rotate_left
        ·rintro w' ⟨s0,s1,s2,s3,s4,s5,s6,s7,s8,s9,ak,am⟩
         go_simp
         with_reducible rfl
        rotate_left
        ·simp only[Act.put,qS,Za,Zb]
         rfl
        refine X2 (i:=3) (N:=some 35) (v:=?_) (a':=?_) (bN 6 11) rfl rfl kr (fun _ _ _ h=>h) (Or.inl ⟨by rfl, ?_⟩) hHeld ?_ ?_
        rotate_left
        ·rintro w' ⟨s0,s1,s2,s3,s4,s5,s6,s7,s8,s9,ak,am⟩
         go_simp
         with_reducible rfl
        rotate_left
        ·simp only[Act.put,qS,Za,Zb]
         rfl
        refine Zf (i:=2) (N:=some 34) (bN 6 15) rfl rfl kr (by decide) (fun K hK=>?_)
        refine Zd Try.func19 kr rfl #[.agg #[.int .i64 B,.int .i64 J,.int .i64 O,.int .i64 X,.int .i64 Y,.int .i64 Z,.int .i64 γ,.int .i64 ζ,.int .i64 θ,.int .i64 η],.slice A1 l1.length c1] (by rfl) rfl rfl qM ?_
        with_reducible refine(newelref21_House.calls B J O X Y Z γ ζ θ η _ _ l1 au av _ ?side1 ?side2 bp.out).mono ?_
        (case side1=>exact(Kd.Qs ci.out HB.out))
        (case side2=>exact dj.out)
        rintro e cd ⟨rfl,hb⟩
        refine⟨_,rfl, ?_⟩
        replace ε :=sBk ε hb
        replace κ :=sBk κ hb
        replace HB:=sHb hb
        (try clear hb)
        (try clear a4)
        (try clear hk)
        (try clear hi)
        refine hK.out _ _ ⟨qc ε,qc ε,qc ε,qc ε,qc ε,qc ε,qc ε,qc ε,qc ε,qc ε,qc κ,qc κ⟩ (fun hHeld=>?_)
        clear hK K
        refine qN (some 34) ?_
        refine Zf (i:=4) (N:=some 36) (bN 6 31) rfl rfl kr (by decide) (fun K hK=>?_)
        refine Zd Try.func39 kr rfl #[.agg #[.int .i64 au,.int .i64 av],.agg #[.slice aa φ.length ab,.slice ac χ.length ae]] (by rfl) rfl rfl qM ?_
        with_reducible refine(newelref19_May.calls k2 au av _ _ φ _ _ χ false _ ?side1 ?side2 ?side3 ?side4 bf.out).mono ?_
        (case side1=>exact(Kd.Qs cm.out HB.out))
        (case side2=>exact cn.out)
        (case side3=>exact(Kd.Qs co.out HB.out))
        (case side4=>exact cp.out)
        rintro e dt ⟨rfl,hb⟩
        refine⟨_,rfl, ?_⟩
        replace ε :=sBk ε hb
        replace κ :=sBk κ hb
        replace HB:=sHb hb
        (try clear hb)
        (try clear a4)
        (try clear hk)
        (try clear hi)
        refine hK.out _ _ ⟨qc ε,qc ε,qc ε,qc ε,qc ε,qc ε,qc ε,qc ε,qc ε,qc ε,qc κ,qc κ⟩ (fun hHeld=>?_)
        clear hK K
        refine qN (some 36) ?_
        refine Xe (i:=5) (N:=some 9) (v:=?_) (a':=?_) (bN 6 63) rfl rfl kr (fun _ _ _ h=>h) (Or.inl ⟨by rfl, ?_⟩) ?_ ?_
        rotate_left
        ·intro w'
         go_simp
         with_reducible rfl
        rotate_left
        ·simp only[Act.put,qS,Za,Zb]
         rfl
        refine Zi kr ?_
        try go_wp2
        go_ret
        exact⟨rfl,HB.out⟩
def newelref21_Fault.f (B:Int) (X:Int):Option (Bool):=if 0≤(IntKind.u64.wrap (X)) then (some ((Go.bits .and .i64 (shr .i64 B (IntKind.u64.wrap (X))) 1)==1)) else (none)
set_option maxHeartbeats 8000000 in
set_option maxRecDepth 100000 in
theorem newelref21_Fault.calls (B:Int) (X:Int) (r:Bool) (w:World) (h:newelref21_Fault.f B X=some r):
 Calls Try.prog 42 #[.int .i64 B,.int .i64 X] w fun e w'=>e = .returned (.bool r)∧Drawn0 w w':=by
 have H:(if 0≤(IntKind.u64.wrap (X)) then (some ((Go.bits .and .i64 (shr .i64 B (IntKind.u64.wrap (X))) 1)==1)) else (none))=some r:=h
 clear h
 obtain⟨O,J⟩:∃ j_:Int,(IntKind.u64.wrap (X))=j_:=⟨_,rfl⟩
 replace H:(if 0≤(O) then (some ((Go.bits .and .i64 (shr .i64 B (O)) 1)==1)) else (none))=some r:=by first|(rw[J] at H;exact H)|(simp only[J] at H ⊢;exact H)
 by_cases c4:0≤(O)
 ·rw[if_pos c4] at H
  have c4b0:=eq_true c4
  have c4b1:=decide_eq_true c4
  clear c4
  obtain⟨Z,Y⟩:∃ j_:Int,(shr .i64 B (O))=j_:=⟨_,rfl⟩
  replace H:(some ((Go.bits .and .i64 (Z) 1)==1))=some r:=by first|(rw[Y] at H;exact H)|(simp only[Y] at H ⊢;exact H)
  have ζ :(B / 2 ^ min (O).toNat 64)=Z:=Y
  have hji5z:(O)≤64→(B / 2 ^ (O).toNat)=Z:=K8 Y
  obtain rfl:=Option.some.inj H
  go_enter Try.func42,Try.ntmps42
  go_wp2
  go_ret
  exact⟨by first|rfl|(simp;done)|(simp only[← J,← Y] <;> (first|rfl|simp))|(simp[*];done),by repeat(first|exact Drawn0.refl _|apply Drawn0.step)⟩
 ·rw[if_neg c4] at H
  exact absurd H (by simp)
end Go.Proofs.Ytmfffemidlhcpaa.C
