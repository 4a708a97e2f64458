/- What this law's functions come to, walked; what that is, in plain Lean. No conditions of its own. -/
import Derived.Test.YtmfffemidlhcpaaQGroupSpreads3
set_option linter.unusedSimpArgs false
set_option linter.unusedVariables false
set_option maxHeartbeats 8000000
set_option maxRecDepth 100000
namespace Go.Proofs.Ytmfffemidlhcpaa.C
open Go.RowKit Go.Proofs.YtmfffemidlhcpaaW.PrintWords Go.Proofs.YtmfffemidlhcpaaW.PrintLast Go.Proofs.YtmfffemidlhcpaaW.PrintMore
attribute [local go_sem] Z2 Z0 Xb Xa Zt Zs Z1 Zz
def api_Inside_90.l0:Nat→List (S86)→Int→Int→Int→Option ((List (S86)))
 |0,_,_,_,_=>none
 |k+1,B,J,X,O=>if O<(B.length:Int) then (if 0≤O then ((api_Inside_without_1.f ((Qp B O).f0) ((Qp B O).f1) J).bind fun ξ =>(if ξ = true then (api_Inside_90.l0 k B J X (wrap64 (O+1))) else (if 0≤X then (if X<(B.length:Int) then (api_Inside_90.l0 k (B.set (X:Int).toNat (⟨(Qp B O).f0,(Qp B O).f1⟩:S86)) J (wrap64 (X+1)) (wrap64 (O+1))) else (none)) else (none)))) else (none)) else (if 0≤X then (if X≤(B.length:Int) then (some (B.take (X:Int).toNat)) else (none)) else (none))
def api_Inside_90.f (k:Nat) (l0:List (S86)) (Z:Int):Option ((List (S86))):=(api_Inside_100.f k l0 Z).bind fun μ =>(if μ = (-1) then (some l0) else (api_Inside_90.l0 k l0 Z μ (wrap64 (μ + 1))))
theorem api_Inside_90.calls (k:Nat) (γ:Nat→Prop) (ap:Value) (l0:List (S86)) (Z:Int) (r:List (S86)) (w0 w:World) (hB:Below w0.heap.size w0 w) (ai:Kd.R k86 86 w w0.heap.size γ ap l0) (h:api_Inside_90.f k l0 Z=some r) (Ar_:Option Addr) (nr_ cr_ gr_ gx_:Nat) (zx_:Int) (hgr_:w.heap[gr_]?=some (.cells #[.slice Ar_ nr_ cr_,.func (.func 83) #[] #[]] 116 (0,0))) (hgx_:w.heap[gx_]?=some (.cells #[nI (Y4 Z),nI (Y3 Z)] 86 (0,0))) (hnr_:¬ γ gr_) (hnx_:¬ γ gx_):
 Calls Try.prog 90 #[ap,.func (.func 92) #[] #[.pointer (some ⟨gr_,0,none⟩),.pointer (some ⟨gx_,0,none⟩)]] w fun e w'=>∃ b3:Value,e = .returned (b3)∧Kd.R k86 86 w' w0.heap.size (fun k_=>(γ k_∨w.heap.size≤k_)) b3 r∧Below w0.heap.size w0 w'∧Kept w w' (fun k_=>γ k_):=by
 have HCR:=aK hgr_
 have HCX:=aK hgx_
 have HNR:=aK hnr_
 have HNX:=aK hnx_
 clear hgr_ hgx_ hnr_ hnx_
 have d8:=Try.underlying86
 have ζ :=aK (show Kd.R k86 86 w w0.heap.size (fun k_=>(γ k_∨w.heap.size≤k_)) ap l0 from Kd.Qv ai (fun k_ hk=>(.inl hk)))
 have HK:=aK (Kept.refl w (fun k_=>γ k_))
 have dh:=aK hB.size
 have HB:=aK hB
 clear hB
 have H:((api_Inside_100.f k l0 Z).bind fun μ =>(if μ = (-1) then (some l0) else (api_Inside_90.l0 k l0 Z μ (wrap64 (μ + 1)))))=some r:=h
 clear h
 obtain⟨μ,A3,H⟩:=qQ H
 by_cases c4: μ = (-1)
 ·rw[if_pos c4] at H
  have c4b0:(μ == (-1))=true:=beq_iff_eq.mpr c4
  have c4b1:(μ != (-1))=false:=bne_eq_false_iff_eq.mpr c4
  clear c4
  obtain rfl:=qJ H
  obtain⟨di,dj,d6⟩:=Kd.Q7 ζ.out
  subst d6
  go_enter Try.func90,Try.ntmps90
  go_wp2_with (first|(go_at_call 100;((with_reducible refine(api_Inside_100.calls k _ _ l0 Z μ _ ?side1 ?side2 A3.out Ar_ nr_ cr_ gr_ gx_ zx_ (Yl HCR.out (by repeat(first|(with_reducible first|exact HK.out|apply Kept.alloc|apply Kept.drewN|apply Kept.drew|refine Kept.setCell ?_ (.inr a8.out) _)|exact HK.out)) HNR.out) (Yl HCX.out (by repeat(first|(with_reducible first|exact HK.out|apply Kept.alloc|apply Kept.drewN|apply Kept.drew|refine Kept.setCell ?_ (.inr a8.out) _)|exact HK.out)) HNX.out)).mono ?_);(case side1=>exact(Kd.Qt ζ.out).2.2);(case side2=>exact(Kd.Qt ζ.out).2.1);rintro e w6 ⟨rfl,hb⟩;have φ :=aK (Kd.Zn ζ.out hb);have χ :=aK (Kept.below (S:=(fun k_=>γ k_)) (by repeat(first|(with_reducible first|exact HK.out|apply Kept.alloc|apply Kept.drewN|apply Kept.drew)|exact HK.out)) hb);have ω :=aK (Q6 HB.out hb);clear ζ;clear HK;clear HB;have ζ := φ;have HK:= χ;have HB:= ω;clear φ χ ω;(try clear hb);(try clear a4);(try clear hk);(try clear hi))))
  go_ret
  exact⟨_,rfl,by(with_reducible repeat first|apply Kd.Qs|apply Kd.Qr|apply Kd.Qu);exact ζ.out,HB.out,by repeat(first|(with_reducible first|exact HK.out|apply Kept.alloc|apply Kept.drewN|apply Kept.drew)|exact HK.out)⟩
 ·rw[if_neg c4] at H
  have c4b0:(μ == (-1))=false:=beq_eq_false_iff_ne.mpr c4
  have c4b1:(μ != (-1))=true:=bne_iff_ne.mpr c4
  have H':=aK H
  clear H
  obtain⟨ar,ae,d7⟩:=Kd.Q7 ζ.out
  subst d7
  go_enter Try.func90,Try.ntmps90
  go_wp2_with (first|(go_at_call 100;((with_reducible refine(api_Inside_100.calls k _ _ l0 Z μ _ ?side1 ?side2 A3.out Ar_ nr_ cr_ gr_ gx_ zx_ (Yl HCR.out (by repeat(first|(with_reducible first|exact HK.out|apply Kept.alloc|apply Kept.drewN|apply Kept.drew|refine Kept.setCell ?_ (.inr a8.out) _)|exact HK.out)) HNR.out) (Yl HCX.out (by repeat(first|(with_reducible first|exact HK.out|apply Kept.alloc|apply Kept.drewN|apply Kept.drew|refine Kept.setCell ?_ (.inr a8.out) _)|exact HK.out)) HNX.out)).mono ?_);(case side1=>exact(Kd.Qt ζ.out).2.2);(case side2=>exact(Kd.Qt ζ.out).2.1);rintro e w8 ⟨rfl,hb⟩;have φ :=aK (Kd.Zn ζ.out hb);have χ :=aK (Kept.below (S:=(fun k_=>γ k_)) (by repeat(first|(with_reducible first|exact HK.out|apply Kept.alloc|apply Kept.drewN|apply Kept.drew)|exact HK.out)) hb);have ω :=aK (Q6 HB.out hb);clear ζ;clear HK;clear HB;have ζ := φ;have HK:= χ;have HB:= ω;clear φ χ ω;(try clear hb);(try clear a4);(try clear hk);(try clear hi))))
  go_loopg [5,6] k (fun kq v5 v6 w'=>∃ (B:List (S86)) (J:Int) (Y:Int),v5=nI J∧v6=nI Y∧Aside0 (api_Inside_90.l0 kq B Z J Y=some r)∧Aside0 (kq≤k)∧Aside0 (Kd.R k86 86 w' w0.heap.size (fun k_=>(γ k_∨w.heap.size≤k_)) (.slice ar l0.length ae) B)∧Aside0 (Kept w w' (fun k_=>γ k_))∧Aside0 (Below w0.heap.size w0 w'))
  case atStart=>exact⟨(l0),(μ),(wrap64 (μ + 1)),rfl,rfl,H',⟨Nat.le_refl _⟩,⟨by(with_reducible repeat first|apply Kd.Qs|apply Kd.Qr|apply Kd.Qu);exact ζ.out⟩,⟨by repeat(first|(with_reducible first|exact HK.out|apply Kept.alloc|apply Kept.drewN|apply Kept.drew)|exact HK.out)⟩,HB⟩
  case round=>
   clear H'
   try clear c4
   try clear c4b0
   try clear c4b1
   obtain⟨B,J,Y,rfl,rfl,HA,af,O,HK,HB⟩:=hrel
   have ρ:=(Kd.Qt O.out).1
   rw[ρ] at O
   (try simp only[ρ])
   cases gk with
   |zero=>exact absurd HA.out (by simp[api_Inside_90.l0])
   |succ k1=>
    have H:=HA.out
    clear HA
    simp only[api_Inside_90.l0] at H
    by_cases c9:Y<(B.length:Int)
    ·rw[if_pos c9] at H
     have c9b0:=decide_eq_true c9
     clear c9
     by_cases c10:0≤Y
     ·rw[if_pos c10] at H
      have c10b0:=decide_eq_true c10
      clear c10
      obtain⟨ξ,bu,H⟩:=qQ H
      by_cases a3: ξ = true
      ·subst a3
       rw[if_pos rfl] at H
       have H':=aK H
       clear H
       have ι :0≤(Y:Int):=of_decide_eq_true (by assumption)
       have τ :Y<(B.length:Int):=of_decide_eq_true (by assumption)
       obtain⟨X,aw,a0,ac⟩:=Xi (Kd.Qt O.out).2.2 Y ι τ
       cases aw
       replace ι :=eq_true ι
       replace τ :=eq_true τ
       go_wp2_with (first|((with_reducible refine Qe (N:=7) rfl ?_);refine qE 7 #[nI 0,nI 0] 86 ?_;intro θ hg eh hbox hb;have δ :=aK hbox;have a8:=aK ((by rw[hg];exact(by first|exact HK.out.1|exact(show Kept w _ (fun k_=>γ k_) from by repeat(first|(with_reducible first|exact HK.out|apply Kept.alloc|apply Kept.drewN|apply Kept.drew)|exact HK.out)).1):w.heap.size ≤ θ));have am:=aK ((by rw[hg];exact(Qm bel):w0.heap.size ≤ θ));replace O:=aK (Kd.Zn (Kd.Yd (kra O) θ (Nat.le_of_eq hg.symm)) hb);replace HK:=aK (Kept.below (S:=(fun k_=>γ k_)) (by repeat(first|(with_reducible first|exact HK.out|apply Kept.alloc|apply Kept.drewN|apply Kept.drew)|exact HK.out)) hb);replace HB:=sHb hb;clear hb hbox hg;obtain⟨cb,cd,ce,cf⟩:=qD2 δ.out)|(go_at_call 92;((with_reducible refine(api_Inside_without_1.calls ((Qp B Y).f0) ((Qp B Y).f1) Z true _ bu.out Ar_ nr_ cr_ gr_ gx_ zx_ (Yl HCR.out (by repeat(first|(with_reducible first|exact HK.out|apply Kept.alloc|apply Kept.drewN|apply Kept.drew|refine Kept.setCell ?_ (.inr a8.out) _)|exact HK.out)) HNR.out) (Yl HCX.out (by repeat(first|(with_reducible first|exact HK.out|apply Kept.alloc|apply Kept.drewN|apply Kept.drew|refine Kept.setCell ?_ (.inr a8.out) _)|exact HK.out)) HNX.out)).mono ?_);rintro e fb ⟨rfl,hb⟩;have φ :=aK (Kd.Zn (by(with_reducible repeat first|apply Kd.Qs|apply Kd.Qr|apply Kd.Qu);exact(Kd.Qv (Kd.Qx (Kd.Qx (Kd.Qv O.out (fun k_ hk=>(⟨hk,hk.2⟩:_∧k_ ≠ θ))) (fun _ hk=>hk.2) (nI ((Qp B Y).f0))) (fun _ hk=>hk.2) (nI ((Qp B Y).f1))) (fun _ h_=>h_.1))) hb);have χ :=aK (Q1 (g:= θ) (o:=.cells #[nI ((Qp B Y).f0),nI ((Qp B Y).f1)] 86 (0,0)) (by(with_reducible repeat first|refine Qi ?_ _|refine Qd ?_|refine Qh ?_ _);refine Qo (cs:=#[nI ((Qp B Y).f0),nI 0]) ?_ 1 _ rfl;(with_reducible repeat first|refine Qi ?_ _|refine Qd ?_|refine Qh ?_ _);refine Qo (cs:=#[nI 0,nI 0]) ?_ 0 _ rfl;(with_reducible repeat first|refine Qi ?_ _|refine Qd ?_|refine Qh ?_ _);exact δ.out) hb);have ω :=aK (Kept.below (S:=(fun k_=>γ k_)) (by repeat(first|(with_reducible first|exact HK.out|apply Kept.alloc|apply Kept.drewN|apply Kept.drew|refine Kept.setCell ?_ (.inr a8.out) _)|exact HK.out)) hb);have a6:=aK (Q6 bel hb);clear O;clear δ;clear HK;clear HB;have O:= φ;have δ := χ;have HK:= ω;have HB:=a6;clear φ χ ω a6;(try clear hb);(try clear a4);(try clear hk);(try clear hi))))
       (try simp only[← ρ])
       go_roundg k1
       case measure=>have:=af.out;omega
       case rel=>exact⟨(B),(J),(wrap64 (Y+1)),rfl,rfl,H',⟨by have:=af.out;omega⟩,⟨by(try simp only[ρ]);(with_reducible repeat first|apply Kd.Qs|apply Kd.Qr|apply Kd.Qu);exact Kd.Qv O.out (fun _ hk=>hk.1)⟩,⟨by repeat(first|(with_reducible first|exact HK.out|apply Kept.alloc|apply Kept.drewN|apply Kept.drew|refine Kept.setCell ?_ (.inr a8.out) _)|exact HK.out)⟩,HB⟩
      ·replace a3:=Bool.eq_false_iff.mpr a3
       subst a3
       rw[if_neg nft] at H
       by_cases ab:0≤J
       ·rw[if_pos ab] at H
        have c16b0:=decide_eq_true ab
        clear ab
        by_cases ψ :J<(B.length:Int)
        ·rw[if_pos ψ] at H
         have c17b0:=decide_eq_true ψ
         clear ψ
         obtain⟨κ,η⟩:∃ y_:List (S86),y_=(B.set (J:Int).toNat (⟨(Qp B Y).f0,(Qp B Y).f1⟩:S86)):=⟨_,rfl⟩
         replace H:(api_Inside_90.l0 k1 κ Z (wrap64 (J+1)) (wrap64 (Y+1)))=some r:=by first|(rw[η];with_reducible exact H)|(have ag:=(Option.bind_some _ _).symm.trans H;rw[η];with_reducible exact ag)|(have ag:=(Option.bind_some _ _).symm.trans H;with_reducible exact ag)|with_reducible exact H|(rw[η];exact H)|exact H
         have a2:=aK η
         clear η
         have H':=aK H
         clear H
         have ι :0≤(Y:Int):=of_decide_eq_true (by assumption)
         have τ :Y<(B.length:Int):=of_decide_eq_true (by assumption)
         obtain⟨X,aw,a0,ac⟩:=Xi (Kd.Qt O.out).2.2 Y ι τ
         cases aw
         replace ι :=eq_true ι
         replace τ :=eq_true τ
         go_wp2_with (first|((with_reducible refine Qe (N:=7) rfl ?_);refine qE 7 #[nI 0,nI 0] 86 ?_;intro θ hg b6 hbox hb;have δ :=aK hbox;have a8:=aK ((by rw[hg];exact(by first|exact HK.out.1|exact(show Kept w _ (fun k_=>γ k_) from by repeat(first|(with_reducible first|exact HK.out|apply Kept.alloc|apply Kept.drewN|apply Kept.drew)|exact HK.out)).1):w.heap.size ≤ θ));have am:=aK ((by rw[hg];exact(Qm HB.out):w0.heap.size ≤ θ));replace O:=aK (Kd.Zn (Kd.Yd O.out θ (Nat.le_of_eq hg.symm)) hb);replace HK:=aK (Kept.below (S:=(fun k_=>γ k_)) (by repeat(first|(with_reducible first|exact HK.out|apply Kept.alloc|apply Kept.drewN|apply Kept.drew)|exact HK.out)) hb);replace HB:=sHb hb;clear hb hbox hg;obtain⟨a7,a9,aa,an⟩:=qD2 δ.out)|(go_at_call 92;((with_reducible refine(api_Inside_without_1.calls ((Qp B Y).f0) ((Qp B Y).f1) Z false _ bu.out Ar_ nr_ cr_ gr_ gx_ zx_ (Yl HCR.out (by repeat(first|(with_reducible first|exact HK.out|apply Kept.alloc|apply Kept.drewN|apply Kept.drew|refine Kept.setCell ?_ (.inr a8.out) _)|exact HK.out)) HNR.out) (Yl HCX.out (by repeat(first|(with_reducible first|exact HK.out|apply Kept.alloc|apply Kept.drewN|apply Kept.drew|refine Kept.setCell ?_ (.inr a8.out) _)|exact HK.out)) HNX.out)).mono ?_);rintro e bo ⟨rfl,hb⟩;have φ :=aK (Kd.Zn (by(with_reducible repeat first|apply Kd.Qs|apply Kd.Qr|apply Kd.Qu);exact(Kd.Qv (Kd.fR (Kd.fR (Kd.Qv O.out (fun k_ hk=>(⟨hk,hk.2⟩:_∧k_ ≠ θ))))) (fun _ h_=>h_.1))) hb);have χ :=aK (Q1 (g:= θ) (o:=.cells #[nI ((Qp B Y).f0),nI ((Qp B Y).f1)] 86 (0,0)) (by(with_reducible repeat first|refine Qi ?_ _|refine Qd ?_|refine Qh ?_ _);refine Qo (cs:=#[nI ((Qp B Y).f0),nI 0]) ?_ 1 _ rfl;(with_reducible repeat first|refine Qi ?_ _|refine Qd ?_|refine Qh ?_ _);refine Qo (cs:=#[nI 0,nI 0]) ?_ 0 _ rfl;(with_reducible repeat first|refine Qi ?_ _|refine Qd ?_|refine Qh ?_ _);exact δ.out) hb);have ω :=aK (Kept.below (S:=(fun k_=>γ k_)) (by repeat(first|(with_reducible first|exact HK.out|apply Kept.alloc|apply Kept.drewN|apply Kept.drew|refine Kept.setCell ?_ (.inr a8.out) _)|exact HK.out)) hb);have a6:=aK (Q6 (by repeat(first|(with_reducible first|exact HB.out|apply Qq|apply Qn|apply Qj|refine Qz ?_ am.out)|exact HB.out)) hb);clear O;clear δ;clear HK;clear HB;have O:= φ;have δ := χ;have HK:= ω;have HB:=a6;clear φ χ ω a6;(try clear hb);(try clear a4);(try clear hk);(try clear hi);obtain⟨az,b0,b1,b2⟩:=qD2 δ.out;have ax:0≤(J:Int):=of_decide_eq_true (by first|(with_reducible assumption)|assumption);have b4:(J:Int)<((B.length:Int):Int):=of_decide_eq_true (by first|(with_reducible assumption)|assumption);obtain⟨ε,d3,bm,b7,bk,cx,b9⟩:=Kd.U2 O.out (by omega);(first|cases bm|(injection bm with ea_ en_ ec_;(first|subst ea_|(injection ea_ with ea_;subst ea_));subst ec_;clear en_));have al:=aK b7;have cy:=aK b9;clear b7 bk b9;have d9:=aK (show(γ ε ∨ w.heap.size ≤ ε) from(O.out.1 _ rfl).1);(first|simp only[add_plain] at a0|skip);(first|simp only[add_plain] at ac|skip);obtain⟨cz,bb,ba,ν,σ⟩:=Kd.J3 O.out z86 (J:Int) ax b4;obtain rfl:=Kn ba;have br:bo.cell? ⟨ε,(J:Int).toNat * 2,none⟩=some (nI ((Qp B J).f0)):= ν 0 _ rfl;have bs:bo.cell? ⟨ε,(J:Int).toNat * 2+1,none⟩=some (nI ((Qp B J).f1)):= ν 1 _ rfl;have bv:bo.frozen? ⟨ε,(J:Int).toNat * 2,none⟩=false:=σ 0;have bw:bo.frozen? ⟨ε,(J:Int).toNat * 2+1,none⟩=false:=σ 1;clear bb ν σ ba;replace ax:=eq_true ax;replace b4:=eq_true b4;have bz:=aK (show Kd.R k86 86 bo w0.heap.size (fun k_=>(γ k_∨w.heap.size≤k_)∧k_ ≠ θ) (.slice (some ⟨ε,0,none⟩) B.length ae) B from(by(with_reducible repeat first|apply Kd.Qs|apply Kd.Qr|apply Kd.Qu);exact O.out));obtain⟨dc,bj,ca,ao,av⟩:=Kd.J3 bz.out z86 (J:Int) (of_decide_eq_true (by first|(with_reducible assumption)|assumption)) (by have h_:(J:Int)<((B.length:Int):Int):=of_decide_eq_true (by first|(with_reducible assumption)|assumption);first|exact h_|(have e_:=(Kd.Qt O.out).1;omega)|simpa using h_);obtain rfl:=Kn ca;have bh:=Kd.Mm bz.out (J:Int) (of_decide_eq_true (by first|(with_reducible assumption)|assumption)) (by have h_:(J:Int)<((B.length:Int):Int):=of_decide_eq_true (by first|(with_reducible assumption)|assumption);first|exact h_|(have e_:=(Kd.Qt O.out).1;omega)|simpa using h_) (seg:=[nI ((Qp B Y).f0),nI ((Qp B Y).f1)]) (j:=0) bj ao (show 2≤2 from by decide) (x':=(⟨(Qp B Y).f0,(Qp B Y).f1⟩:S86)) (Up _ _ _ (⟨(Qp B Y).f0,(Qp B Y).f1⟩:S86)) (fun _ hk=>hk);have cg:=ao 0 _ rfl;(try simp only[show(k86).sz=2 from rfl,Nat.mul_one,Nat.add_zero] at cg);have ch:=av 0;(try simp only[show(k86).sz=2 from rfl,Nat.mul_one,Nat.add_zero] at ch);have ci:=ao 1 _ rfl;(try simp only[show(k86).sz=2 from rfl,Nat.mul_one,Nat.add_zero] at ci);have cj:=av 1;(try simp only[show(k86).sz=2 from rfl,Nat.mul_one,Nat.add_zero] at cj);clear bj ao av ca))|((with_reducible refine Y8 (t:=86) (p:=33) rfl ?_);refine Yy (t:=86) (p:=33) (v:=?vo_w24) (w1:=((bo.setCell ⟨ε,(J:Int).toNat * 2,none⟩ (nI ((Qp B Y).f0))).setCell ⟨ε,(J:Int).toNat * 2+1,none⟩ (nI ((Qp B Y).f1)))) ?hg ?ho ?hn ?hr ?_;(case ho=>rfl);(case hg=>rfl);(case hn=>rfl);(case hr=>go_simp <;> rfl);intro cm hw;have hg:bo.grownBy cm (some ε):=(by rw[hw];exact bh.2);have hp_:Kd.R k86 86 cm w0.heap.size (fun k_=>(γ k_∨w.heap.size≤k_)∧k_ ≠ θ) (.slice (some ⟨ε,0,none⟩) B.length ae) κ :=(by rw[hw,a2.out];exact bh.1);clear bh;replace δ :=aK (Qy (g:= θ) (o:=.cells #[nI ((Qp B Y).f0),nI ((Qp B Y).f1)] 86 (0,0)) δ.out hg (Kd.J4 O.out (fun _ hk=>hk.2)));replace HB:=aK ((by rw[hw];exact Qz (Qz (HB.out) al.out) al.out:Below w0.heap.size w0 cm));replace HK:=aK (Kept.Vp (S:=(fun k_=>γ k_)) hg (by repeat(first|(with_reducible first|exact HK.out|apply Kept.alloc|apply Kept.drewN|apply Kept.drew|refine Kept.setCell ?_ (.inr a8.out) _)|exact HK.out)) (fun k_ e_=>(O.out.1 k_ e_).1));replace O:=aK hp_;clear hg hw hp_))
         (try simp only[← ρ])
         go_roundg k1
         case measure=>have:=af.out;omega
         case rel=>exact⟨(κ),(wrap64 (J+1)),(wrap64 (Y+1)),rfl,rfl,H',⟨by have:=af.out;omega⟩,⟨by(try simp only[ρ]);(with_reducible repeat first|apply Kd.Qs|apply Kd.Qr|apply Kd.Qu);exact Kd.Qv O.out (fun _ hk=>hk.1)⟩,⟨by repeat(first|(with_reducible first|exact HK.out|apply Kept.alloc|apply Kept.drewN|apply Kept.drew|refine Kept.setCell ?_ (.inr a8.out) _)|exact HK.out)⟩,HB⟩
        ·rw[if_neg ψ] at H
         exact absurd H (by simp)
       ·rw[if_neg ab] at H
        exact absurd H (by simp)
     ·rw[if_neg c10] at H
      exact absurd H (by simp)
    ·rw[if_neg c9] at H
     have c9b0:=decide_eq_false c9
     clear c9
     by_cases b8:0≤J
     ·rw[if_pos b8] at H
      have c25b0:=eq_true b8
      have c25b1:=decide_eq_true b8
      clear b8
      by_cases ay:J≤(B.length:Int)
      ·rw[if_pos ay] at H
       have c26b0:=eq_true ay
       have c26b1:=decide_eq_true ay
       clear ay
       obtain⟨ak,ah⟩:∃ y_:List (S86),y_=(B.drop (J:Int).toNat):=⟨_,rfl⟩
       replace H:(some (B.take (J:Int).toNat))=some r:=by first|(rw[ah];with_reducible exact H)|(have ag:=(Option.bind_some _ _).symm.trans H;rw[ah];with_reducible exact ag)|(have ag:=(Option.bind_some _ _).symm.trans H;with_reducible exact ag)|with_reducible exact H|(rw[ah];exact H)|exact H
       have bl:=aK ah
       clear ah
       have c27b0:=eq_true (of_decide_eq_true (by assumption):J≤(B.length:Int))
       obtain⟨bi,aj⟩:∃ y_:List (S86),y_=(B.take (J:Int).toNat):=⟨_,rfl⟩
       replace H:(some bi)=some r:=by first|(rw[aj];with_reducible exact H)|(have ag:=(Option.bind_some _ _).symm.trans H;rw[aj];with_reducible exact ag)|(have ag:=(Option.bind_some _ _).symm.trans H;with_reducible exact ag)|with_reducible exact H|(rw[aj];exact H)|exact H
       have bc:=aK aj
       clear aj
       obtain rfl:=qJ H
       have ck:(J:Int)≤((B.length:Int):Int):=of_decide_eq_true (by assumption)
       obtain⟨dd,bn,_,bp,_⟩:=info_parts Gt
       have hroom28:B.length≤ae:=(Kd.Qt O.out).2.1
       have cn:Kd.C k86 _ ar B.length B:=(Kd.Qt O.out).2.2
       have d0:(0:Int)≤(J:Int):=of_decide_eq_true (by assumption)
       have co:=Ey (P:=Try.prog) 48 86 .i64 Try.underlying48 bn 2 bp ar B.length ae J d0 ck
       have au:=Kd.Bj (m:=(J:Int).toNat) (c:=ae) cn (by omega) hroom28
       obtain⟨ei,bd⟩:∃ A1,A1=(if ae=(J:Int).toNat then ar else (ar:Option Addr).map (·.add ((J:Int).toNat * 2))):=⟨_,rfl⟩
       obtain⟨b5,be⟩:∃ c1,c1=ae - (J:Int).toNat:=⟨_,rfl⟩
       have bf:ak.length=B.length - (J:Int).toNat:=(by rw[bl.out,List.length_drop] <;> omega)
       rw[show(B).drop (J:Int).toNat=ak from bl.out.symm] at au
       replace au:Kd.C k86 _ ei ak.length ak:=(by rw[bd];exact au)
       rw[← bf,← bd,← be] at co
       have da:=aK au
       have db:=aK (show ak.length≤b5 from by rw[bf,be];exact Nat.sub_le_sub_right hroom28 _)
       have d1:=aK be
       clear au cn hroom28 bn bp be
       have d2:=aK bf
       have d4:=aK bd
       clear bf bd
       have d5:=aK (show(J:Int).toNat≤B.length from by omega)
       replace ck:=eq_true ck
       have cp:(J:Int)≤((B.length:Int):Int):=of_decide_eq_true (by assumption)
       obtain⟨de,bq,_,ct,_⟩:=info_parts Gt
       have cq:=C8 (P:=Try.prog) 48 86 .i64 Try.underlying48 bq ar B.length ae J (of_decide_eq_true (by assumption)) cp (Kd.Qt O.out).2.1
       have bg:=Kd.Bc (m:=(J:Int).toNat) O.out (by omega)
       have cr:bi.length=(J:Int).toNat:=(by rw[bc.out,List.length_take];omega)
       rw[← bc.out] at bg
       rw[← cr] at bg cq
       clear cr bq ct
       have a5:=aK bg
       clear bg
       replace cp:=eq_true cp
       go_wp2_with (first|((with_reducible refine Z3 (b:=.clear) (xs:=#[.tmp 38]) rfl ?_);refine L1 flatI (w:=w) (S:=fun k_=>γ k_) rfl (.tmp 38) 48 rfl Try.underlying48 (.agg #[nI 0,nI 0]) zeroI (by decide) rfl ar ei ae b5 ak.length B O.out (J:Int).toNat d5.out d4.out d2.out d1.out rfl HB.out HK.out (fun _ hk=>hk) bi (bc.out) ?_;intro df cu cv cw;have φ :=aK cu;have χ :=aK cv;have ω :=aK cw;clear cu cv cw O a5 HB HK;have a5:= φ;have HB:= χ;have HK:= ω;clear φ χ ω))
       go_ret
       exact⟨_,rfl,by(with_reducible repeat first|apply Kd.Qs|apply Kd.Qr|apply Kd.Qu);exact a5.out,HB.out,by repeat(first|(with_reducible first|exact HK.out|apply Kept.alloc|apply Kept.drewN|apply Kept.drew)|exact HK.out)⟩
      ·rw[if_neg ay] at H
       exact absurd H (by simp)
     ·rw[if_neg b8] at H
      exact absurd H (by simp)
def api_Hall_89.l0:Nat→List (S36)→Int→Int→Int→Int→Int→Int→Option (Int×Bool)
 |0,_,_,_,_,_,_,_=>none
 |k+1,B,Z,Y,O,J,X,γ=>if Y<O then (if 0≤(wrap64 ((IntKind.u64.wrap (wrap64 (Y+O))) / 2)) then (if (wrap64 ((IntKind.u64.wrap (wrap64 (Y+O))) / 2))<(B.length:Int) then ((call_halls_1.f ((Qb B (wrap64 ((IntKind.u64.wrap (wrap64 (Y+O))) / 2))).f0) ((Qb B (wrap64 ((IntKind.u64.wrap (wrap64 (Y+O))) / 2))).f1) ((Qb B (wrap64 ((IntKind.u64.wrap (wrap64 (Y+O))) / 2))).f2) J X γ).bind fun a0=>(if a0<0 then (api_Hall_89.l0 k B Z (wrap64 ((wrap64 ((IntKind.u64.wrap (wrap64 (Y+O))) / 2))+1)) O J X γ) else (api_Hall_89.l0 k B Z Y (wrap64 ((IntKind.u64.wrap (wrap64 (Y+O))) / 2)) J X γ))) else (none)) else (none)) else (if Y<Z then (if 0≤Y then (if Y<(B.length:Int) then ((call_halls_1.f ((Qb B Y).f0) ((Qb B Y).f1) ((Qb B Y).f2) J X γ).bind fun θ =>(some (Y,(θ == 0)))) else (none)) else (none)) else (some (Y,false)))
def api_Hall_89.f (k:Nat) (l0:List (S36)) (X:Int) (ζ :Int) (ι :Int) (a2:Int):Option (Int×Bool):=api_Hall_89.l0 k l0 (l0.length:Int) 0 (l0.length:Int) X ζ ι
def api_Hall_89.T5:Bool×List (List Nat×List Nat):=(true,[([],[]),([],[]),([],[]),([1,2],[1,2]),([3],[3]),([],[]),([0,4,5],[0,4,5]),([6],[6])])
def api_Hall_89.B5:List Nat:=[0,0,0,6,14,0,63,127]
theorem api_Hall_89.Di:rtab .any (opsOf Try.f89 5)=api_Hall_89.T5:=by kernel_rfl
theorem api_Hall_89.Mk:Zq api_Hall_89.T5.2 api_Hall_89.B5=true:=by kernel_rfl
def api_Hall_89.T8:Bool×List (List Nat×List Nat):=(true,[([],[]),([],[]),([],[]),([1,2],[1,2]),([3],[3]),([4],[4]),([4],[4]),([4],[4]),([6,7,4],[4,6,7]),([8,4],[4,8]),([4],[4]),([5,9,10,4,4],[4,5,9,10]),([11,4],[4,11]),([4,12],[4,12]),([0,11,0],[0]),([13,14,0,1,2,3,4,5,6,7,8,9,10,11,12,13,14],[13])])
def api_Hall_89.B8:List Nat:=[0,0,0,6,14,30,30,30,222,478,30,2046,4094,8190,4095,32767]
theorem api_Hall_89.Dh:rtab .any (opsOf Try.f89 8)=api_Hall_89.T8:=by kernel_rfl
theorem api_Hall_89.Mj:Zq api_Hall_89.T8.2 api_Hall_89.B8=true:=by kernel_rfl
theorem api_Hall_89.calls (k:Nat) (A0:Option Addr) (c0:Nat) (l0:List (S36)) (X:Int) (ζ :Int) (ι :Int) (a2:Int) (r1:Int) (r2:Bool) (w:World) (ε :Kd.C k36 w A0 l0.length l0) (Y:l0.length≤c0) (h:api_Hall_89.f k l0 X ζ ι a2=some (r1,r2)):
 Calls Try.prog 89 #[.slice A0 l0.length c0,.agg #[nI X,nI ζ,nI ι],.func (.func 79) #[] #[]] w fun e w'=>e = .returned (.tuple #[nI r1,.bool r2])∧Below w.heap.size w w':=by
 have cg:=Try.underlying36
 have ν :=aK ε
 have ah:=aK Y
 clear ε Y
 have HB:=aK (Below.refl w.heap.size w)
 have H:(api_Hall_89.l0 k l0 (l0.length:Int) 0 (l0.length:Int) X ζ ι)=some (r1,r2):=h
 clear h
 have H':=aK H
 clear H
 go_enter Try.func89,Try.ntmps89
 go_wp2_with (first|((with_reducible refine Qe (N:=4) rfl ?_);refine qE 4 #[nI X,nI ζ,nI ι] 36 ?_;intro μ hg w4 hbox hb;have J:=aK hbox;have ai:=sGe hg;have aj:=sGe hg;replace HB:=sHb hb;clear hb hbox hg))
 go_loopg [9,10] k (fun kq v9 dq w'=>∃ (B:Int) (κ :Int),v9=nI B∧dq=nI κ ∧ Aside0 (api_Hall_89.l0 kq l0 (l0.length:Int) B κ X ζ ι = some (r1,r2))∧Aside0 (kq≤k)∧Aside0 (w'.heap[μ]?=some (.cells #[nI X,nI ζ,nI ι] 36 (0,0)))∧Aside0 (Below w.heap.size w w'))
 case atStart=>exact⟨(0),((l0.length:Int)),rfl,rfl,H',⟨Nat.le_refl _⟩,J,HB⟩
 case round=>
  clear H'
  obtain⟨B,κ,rfl,rfl,HA,af,J,HB⟩:=hrel
  cases gk with
  |zero=>exact absurd HA.out (by simp[api_Hall_89.l0])
  |succ k1=>
   have H:=HA.out
   clear HA
   simp only[api_Hall_89.l0] at H
   by_cases c5:B < κ
   ·rw[if_pos c5] at H
    have c5b0:=decide_eq_true c5
    clear c5
    obtain⟨O,a5⟩:∃ j_:Int,(wrap64 ((IntKind.u64.wrap (wrap64 (B + κ))) / 2))=j_:=⟨_,rfl⟩
    replace H:(if 0≤(O) then (if (O)<(l0.length:Int) then ((call_halls_1.f ((Qb l0 (O)).f0) ((Qb l0 (O)).f1) ((Qb l0 (O)).f2) X ζ ι).bind fun a0=>(if a0<0 then (api_Hall_89.l0 k1 l0 (l0.length:Int) (wrap64 ((O)+1)) κ X ζ ι) else (api_Hall_89.l0 k1 l0 (l0.length:Int) B O X ζ ι))) else (none)) else (none))=some (r1,r2):=by first|(rw[a5] at H;exact H)|(simp only[a5] at H ⊢;exact H)
    have hji6w:(IntKind.i64.wrap ((IntKind.u64.wrap (wrap64 (B + κ))) / 2))=O:=(Zy _).trans a5
    by_cases c7:0≤(O)
    ·rw[if_pos c7] at H
     have c7b0:=decide_eq_true c7
     clear c7
     by_cases c8:(O)<(l0.length:Int)
     ·rw[if_pos c8] at H
      have c8b0:=decide_eq_true c8
      clear c8
      obtain⟨a0,A9,H⟩:=qQ H
      by_cases c10:a0<0
      ·rw[if_pos c10] at H
       have c10b0:=decide_eq_true c10
       clear c10
       have H':=aK H
       clear H
       try go_wp2
       replace J:=aK (Qd J.out)
       replace HB:=aK (Qj HB.out)
       have a6:0≤((O):Int):=of_decide_eq_true (by assumption)
       have a7:(O)<(l0.length:Int):=of_decide_eq_true (by assumption)
       obtain⟨η,ag,Z,γ,δ⟩:=Z4 ν.out (O) a6 a7
       have τ := δ
       have φ :=γ
       have χ :=Z
       cases ag
       replace Z:=sCl HB Z
       replace γ:=sCl HB γ
       replace δ :=sCl HB δ
       replace a6:=eq_true a6
       replace a7:=eq_true a7
       refine Zg (n:=8) (S:=fun w'=>cI w' μ 0 X∧cI w' μ 1 ζ ∧ cI w' μ 2 ι ∧ w'.cell? (η.add (((O)).toNat * 3))=some (nI ((Qb l0 (O)).f0))∧w'.cell? ⟨(η.add (((O)).toNat * 3)).block,(η.add (((O)).toNat * 3)).off+1,none⟩=some (nI ((Qb l0 (O)).f1))∧w'.cell? ⟨(η.add (((O)).toNat * 3)).block,(η.add (((O)).toNat * 3)).off+2,none⟩=some (nI ((Qb l0 (O)).f2))) (ds:=[]) #[false,false,false,false,false,false,false,false] kr rfl rfl ⟨(Qa J.out 0).trans rfl,(Qa J.out 1).trans rfl,(Qa J.out 2).trans rfl,(sCl HB χ),(sCl HB φ),(sCl HB τ)⟩ (fun hHeld=>?_);refine Zb api_Hall_89.Di api_Hall_89.Mk (fun HT_ HW_=>?_)
       generalize wr.drew=d1 at J HB Z γ δ hHeld ⊢
       refine qP 0 (some 24) (bN 8 1) HT_ ?_
       refine qP 1 (some 25) (bN 8 3) HT_ ?_
       refine qP 2 (some 26) (bN 8 7) HT_ ?_
       refine qP 3 (some 27) (bN 8 15) HT_ ?_
       refine qT 4 (some 28) (bN 8 31) HT_ HW_ hHeld ?_
       refine qT 5 (some 29) (bN 8 63) HT_ HW_ hHeld ?_
       refine qK 6 (some 30) (bN 8 127) HT_ fun K hK=>?_
       refine Yk Try.func79 kr rfl #[] #[] #[.agg #[nI ((Qb l0 (O)).f0),nI ((Qb l0 (O)).f1),nI ((Qb l0 (O)).f2)],.agg #[nI X,nI ζ,nI ι]] #[.agg #[nI ((Qb l0 (O)).f0),nI ((Qb l0 (O)).f1),nI ((Qb l0 (O)).f2)],.agg #[nI X,nI ζ,nI ι]] rfl (by rfl) rfl rfl rfl (by(try simp only[List.map_toArray,List.map_cons,List.map_nil]);first|done|(simp only[a5];rfl)|rfl|(simp only[List.length_drop,List.length_take];rfl)) ?_
       with_reducible refine(call_halls_1.calls ((Qb l0 (O)).f0) ((Qb l0 (O)).f1) ((Qb l0 (O)).f2) X ζ ι a0 _ A9.out).mono ?_
       rintro e dn ⟨rfl,hb⟩
       refine⟨_,rfl, ?_⟩
       replace J:=sBk J hb
       replace HB:=sHb hb
       (try clear hb)
       (try clear a4)
       (try clear hk)
       (try clear hi)
       refine hK.out _ _ ⟨qc J,qc J,qc J,(sCl HB χ),(sCl HB φ),(sCl HB τ)⟩ (fun hHeld=>?_)
       clear hK K
       refine qN (some 30) ?_
       refine qP 7 (some 31) (bN 8 255) HT_ ?_
       refine Zl (Ze HT_.out kr) ?_
       try go_wp2
       go_roundg k1
       case measure=>have:=af.out;omega
       case rel=>exact⟨(wrap64 ((O)+1)),(κ),(by first|rfl|(simp;done)|(simp only[← a5] <;> (first|rfl|simp))|(simp[*];done)),rfl,H',⟨by have:=af.out;omega⟩,J,HB⟩
      ·rw[if_neg c10] at H
       have c10b0:=decide_eq_false c10
       clear c10
       have H':=aK H
       clear H
       try go_wp2
       replace J:=aK (Qd J.out)
       replace HB:=aK (Qj HB.out)
       have a6:0≤((O):Int):=of_decide_eq_true (by assumption)
       have a7:(O)<(l0.length:Int):=of_decide_eq_true (by assumption)
       obtain⟨η,ag,Z,γ,δ⟩:=Z4 ν.out (O) a6 a7
       have τ := δ
       have φ :=γ
       have χ :=Z
       cases ag
       replace Z:=sCl HB Z
       replace γ:=sCl HB γ
       replace δ :=sCl HB δ
       replace a6:=eq_true a6
       replace a7:=eq_true a7
       refine Zg (n:=8) (S:=fun w'=>cI w' μ 0 X∧cI w' μ 1 ζ ∧ cI w' μ 2 ι ∧ w'.cell? (η.add (((O)).toNat * 3))=some (nI ((Qb l0 (O)).f0))∧w'.cell? ⟨(η.add (((O)).toNat * 3)).block,(η.add (((O)).toNat * 3)).off+1,none⟩=some (nI ((Qb l0 (O)).f1))∧w'.cell? ⟨(η.add (((O)).toNat * 3)).block,(η.add (((O)).toNat * 3)).off+2,none⟩=some (nI ((Qb l0 (O)).f2))) (ds:=[]) #[false,false,false,false,false,false,false,false] kr rfl rfl ⟨(Qa J.out 0).trans rfl,(Qa J.out 1).trans rfl,(Qa J.out 2).trans rfl,(sCl HB χ),(sCl HB φ),(sCl HB τ)⟩ (fun hHeld=>?_);refine Zb api_Hall_89.Di api_Hall_89.Mk (fun HT_ HW_=>?_)
       generalize wr.drew=eh at J HB Z γ δ hHeld ⊢
       refine qP 0 (some 24) (bN 8 1) HT_ ?_
       refine qP 1 (some 25) (bN 8 3) HT_ ?_
       refine qP 2 (some 26) (bN 8 7) HT_ ?_
       refine qP 3 (some 27) (bN 8 15) HT_ ?_
       refine qT 4 (some 28) (bN 8 31) HT_ HW_ hHeld ?_
       refine qT 5 (some 29) (bN 8 63) HT_ HW_ hHeld ?_
       refine qK 6 (some 30) (bN 8 127) HT_ fun K hK=>?_
       refine Yk Try.func79 kr rfl #[] #[] #[.agg #[nI ((Qb l0 (O)).f0),nI ((Qb l0 (O)).f1),nI ((Qb l0 (O)).f2)],.agg #[nI X,nI ζ,nI ι]] #[.agg #[nI ((Qb l0 (O)).f0),nI ((Qb l0 (O)).f1),nI ((Qb l0 (O)).f2)],.agg #[nI X,nI ζ,nI ι]] rfl (by rfl) rfl rfl rfl (by(try simp only[List.map_toArray,List.map_cons,List.map_nil]);first|done|(simp only[a5];rfl)|rfl|(simp only[List.length_drop,List.length_take];rfl)) ?_
       with_reducible refine(call_halls_1.calls ((Qb l0 (O)).f0) ((Qb l0 (O)).f1) ((Qb l0 (O)).f2) X ζ ι a0 _ A9.out).mono ?_
       rintro e cb ⟨rfl,hb⟩
       refine⟨_,rfl, ?_⟩
       replace J:=sBk J hb
       replace HB:=sHb hb
       (try clear hb)
       (try clear a4)
       (try clear hk)
       (try clear hi)
       refine hK.out _ _ ⟨qc J,qc J,qc J,(sCl HB χ),(sCl HB φ),(sCl HB τ)⟩ (fun hHeld=>?_)
       clear hK K
       refine qN (some 30) ?_
       refine qP 7 (some 31) (bN 8 255) HT_ ?_
       refine Zl (Ze HT_.out kr) ?_
       try go_wp2
       go_roundg k1
       case measure=>have:=af.out;omega
       case rel=>exact⟨(B),(O),rfl,(by first|rfl|(simp;done)|(simp only[← a5] <;> (first|rfl|simp))|(simp[*];done)),H',⟨by have:=af.out;omega⟩,J,HB⟩
     ·rw[if_neg c8] at H
      exact absurd H (by simp)
    ·rw[if_neg c7] at H
     exact absurd H (by simp)
   ·rw[if_neg c5] at H
    have c5b0:=decide_eq_false c5
    clear c5
    by_cases a8:B<(l0.length:Int)
    ·rw[if_pos a8] at H
     have c15b0:=decide_eq_true a8
     clear a8
     by_cases ab:0≤B
     ·rw[if_pos ab] at H
      have c16b0:=decide_eq_true ab
      clear ab
      by_cases ψ :B<(l0.length:Int)
      ·rw[if_pos ψ] at H
       have c17b0:=decide_eq_true ψ
       clear ψ
       obtain⟨θ,bd,H⟩:=qQ H
       simp only[Option.some.injEq,Prod.mk.injEq] at H
       obtain⟨rfl,rfl⟩:=H
       try go_wp2
       replace J:=aK (Qd J.out)
       replace HB:=aK (Qj HB.out)
       have ρ:0≤(B:Int):=of_decide_eq_true (by assumption)
       have σ:B<(l0.length:Int):=of_decide_eq_true (by assumption)
       obtain⟨ω,a9,ξ,a1,a3⟩:=Z4 ν.out B ρ σ
       have aa:=a3
       have ac:=a1
       have ae:= ξ
       cases a9
       replace ξ :=sCl HB ξ
       replace a1:=sCl HB a1
       replace a3:=sCl HB a3
       replace ρ:=eq_true ρ
       replace σ:=eq_true σ
       refine Zg (n:=16) (S:=fun w'=>cI w' μ 0 X∧cI w' μ 1 ζ ∧ cI w' μ 2 ι ∧ w'.cell? (ω.add ((B).toNat * 3))=some (nI ((Qb l0 B).f0))∧w'.cell? ⟨(ω.add ((B).toNat * 3)).block,(ω.add ((B).toNat * 3)).off+1,none⟩=some (nI ((Qb l0 B).f1))∧w'.cell? ⟨(ω.add ((B).toNat * 3)).block,(ω.add ((B).toNat * 3)).off+2,none⟩=some (nI ((Qb l0 B).f2))) (ds:=[]) #[false,false,false,false,false,false,false,false,false,false,false,false,false,false,false,false] kr rfl rfl ⟨(Qa J.out 0).trans rfl,(Qa J.out 1).trans rfl,(Qa J.out 2).trans rfl,(sCl HB ae),(sCl HB ac),(sCl HB aa)⟩ (fun hHeld=>?_);refine Zb api_Hall_89.Dh api_Hall_89.Mj (fun HT_ HW_=>?_)
       generalize wr.drew=b6 at J HB ξ a1 a3 hHeld ⊢
       refine qP 0 (some 35) (bN 16 1) HT_ ?_
       refine qP 1 (some 36) (bN 16 3) HT_ ?_
       refine qP 2 (some 37) (bN 16 7) HT_ ?_
       refine qP 3 (some 38) (bN 16 15) HT_ ?_
       refine qP 4 (some 39) (bN 16 31) HT_ ?_
       refine qP 5 (some 40) (bN 16 63) HT_ ?_
       refine qP 6 (some 41) (bN 16 127) HT_ ?_
       refine qP 7 (some 42) (bN 16 255) HT_ ?_
       refine qP 8 (some 43) (bN 16 511) HT_ ?_
       refine qT 9 (some 44) (bN 16 1023) HT_ HW_ hHeld ?_
       refine qT 10 (some 45) (bN 16 2047) HT_ HW_ hHeld ?_
       refine qK 11 (some 46) (bN 16 4095) HT_ fun K hK=>?_
       refine Yk Try.func79 kr rfl #[] #[] #[.agg #[nI ((Qb l0 B).f0),nI ((Qb l0 B).f1),nI ((Qb l0 B).f2)],.agg #[nI X,nI ζ,nI ι]] #[.agg #[nI ((Qb l0 B).f0),nI ((Qb l0 B).f1),nI ((Qb l0 B).f2)],.agg #[nI X,nI ζ,nI ι]] rfl (by rfl) rfl rfl rfl qM ?_
       with_reducible refine(call_halls_1.calls ((Qb l0 B).f0) ((Qb l0 B).f1) ((Qb l0 B).f2) X ζ ι θ _ bd.out).mono ?_
       rintro e dw ⟨rfl,hb⟩
       refine⟨_,rfl, ?_⟩
       replace J:=sBk J hb
       replace HB:=sHb hb
       (try clear hb)
       (try clear a4)
       (try clear hk)
       (try clear hi)
       refine hK.out _ _ ⟨qc J,qc J,qc J,(sCl HB ae),(sCl HB ac),(sCl HB aa)⟩ (fun hHeld=>?_)
       clear hK K
       refine qN (some 46) ?_
       refine qP 12 (some 47) (bN 16 8191) HT_ ?_
       refine qP 13 (some 48) (bN 16 16383) HT_ ?_
       refine qP 14 (some 6) (bN 16 32767) HT_ ?_
       refine qP 15 (some 7) (bN 16 65535) HT_ ?_
       refine Zl (Ze HT_.out kr) ?_
       try go_wp2
       go_ret2
       exact⟨rfl,HB.out⟩
      ·rw[if_neg ψ] at H
       exact absurd H (by simp)
     ·rw[if_neg ab] at H
      exact absurd H (by simp)
    ·rw[if_neg a8] at H
     have c15b0:=decide_eq_false a8
     clear a8
     simp only[Option.some.injEq,Prod.mk.injEq] at H
     obtain⟨rfl,rfl⟩:=H
     try go_wp2
     replace J:=aK (Qd J.out)
     replace HB:=aK (Qj HB.out)
     refine Zg (n:=16) (S:=fun w'=>True) (ds:=[]) #[false,false,false,false,false,false,false,false,false,false,false,false,false,false,false,false] kr rfl rfl trivial (fun hHeld=>?_);refine Zb api_Hall_89.Dh api_Hall_89.Mj (fun HT_ HW_=>?_)
     generalize wr.drew=bo at J HB hHeld ⊢
     refine qP 0 (some 35) (bN 16 1) HT_ ?_
     refine qP 1 (some 36) (bN 16 3) HT_ ?_
     refine qP 2 (some 37) (bN 16 7) HT_ ?_
     refine qP 3 (some 38) (bN 16 15) HT_ ?_
     refine qP 4 (some 39) (bN 16 31) HT_ ?_
     refine qU 5 (some 40) (bN 16 63) HT_ ?_
     refine qU 6 (some 41) (bN 16 127) HT_ ?_
     refine qU 7 (some 42) (bN 16 255) HT_ ?_
     refine qU 8 (some 43) (bN 16 511) HT_ ?_
     refine qU 9 (some 44) (bN 16 1023) HT_ ?_
     refine qU 10 (some 45) (bN 16 2047) HT_ ?_
     refine qU 11 (some 46) (bN 16 4095) HT_ ?_
     refine qU 12 (some 47) (bN 16 8191) HT_ ?_
     refine qP 13 (some 48) (bN 16 16383) HT_ ?_
     refine qP 14 (some 6) (bN 16 32767) HT_ ?_
     refine qP 15 (some 7) (bN 16 65535) HT_ ?_
     refine Zl (Ze HT_.out kr) ?_
     try go_wp2
     go_ret2
     exact⟨rfl,HB.out⟩
mutual
def api_Hall_right.l0:Nat→Int→List (S36)→Int→Int→List (S36)→Int→Option (Bool)
 |0,_,_,_,_,_,_=>none
 |k+1,J,Z,Y,O,B,X=>if O<Y then (if 0≤O then (if O<(Z.length:Int) then ((call_hall_1.f ((Qb Z O).f0) ((Qb Z O).f1) ((Qb Z O).f2) J).bind fun ξ =>(if ξ = true then (if O>0 then (if 0≤(wrap64 (O-1)) then (if (wrap64 (O-1))<(B.length:Int) then ((call_halls_1.f ((Qb B (wrap64 (O-1))).f0) ((Qb B (wrap64 (O-1))).f1) ((Qb B (wrap64 (O-1))).f2) ((Qb Z O).f0) ((Qb Z O).f1) ((Qb Z O).f2)).bind fun a3=>(api_Hall_right.j1 k J Z Y O (decide (a3≥0)) B X)) else (none)) else (none)) else (api_Hall_right.j1 k J Z Y O false B X)) else (api_Hall_right.j1 k J Z Y O true B X))) else (none)) else (none)) else (some true)
def api_Hall_right.j1:Nat→Int→List (S36)→Int→Int→Bool→List (S36)→Int→Option (Bool)
 |0,_,_,_,_,_,_,_=>none
 |k+1,J,Z,Y,O,ν,B,X=>if ν = true then (some false) else (api_Hall_right.l0 k J Z Y (wrap64 (O+1)) B X)
end
def api_Hall_right.f (k:Nat) (B:List (S36)) (J:Int) (Z:Int):Option (Bool):=api_Hall_right.l0 k Z B (B.length:Int) 0 B J
def api_Hall_right.T4:Bool×List (List Nat×List Nat):=(true,[([],[]),([],[]),([0,1],[0,1]),([2],[2]),([3,2],[3]),([4],[4]),([5,4],[4,5]),([6,4,4],[4,6]),([7],[7]),([8,7],[7,8]),([7],[7]),([10,7],[7,10]),([7],[7]),([12,7],[7,12]),([11,13,7],[7,11,13]),([14,7],[7,14]),([7],[7]),([9,15,16,7,7],[7,9,15,16]),([17,7],[7,17]),([7,18,4],[4,7,18]),([4,19],[4,19])])
def api_Hall_right.B4:List Nat:=[0,0,3,7,15,31,63,127,255,511,255,1279,255,4351,15615,31999,255,131071,262143,524287,1048575]
theorem api_Hall_right.Vf:rtab .any (opsOf Try.f64 4)=api_Hall_right.T4:=by kernel_rfl
theorem api_Hall_right.Kf:Zq api_Hall_right.T4.2 api_Hall_right.B4=true:=by kernel_rfl
theorem api_Hall_right.calls (k:Nat) (ρ:Option Addr) (μ :Nat) (B:List (S36)) (J:Int) (Z:Int) (r:Bool) (w:World) (ak:Kd.C k36 w ρ B.length B) (au:B.length ≤ μ) (h:api_Hall_right.f k B J Z=some r) (gh_:Nat) (hgh_:w.heap[gh_]?=some (.cells #[nI (Y4 Z),nI (Y3 Z)] 59 (0,0))):
 Calls Try.prog 64 #[.agg #[.slice ρ B.length μ,.func (.func 79) #[] #[]],.func (.func 82) #[] #[.pointer (some ⟨gh_,0,none⟩)]] w fun e w'=>e = .returned (.bool r)∧Below w.heap.size w w':=by
 have HCH:=aK hgh_
 clear hgh_
 have ce:=Try.underlying109
 have cg:=Try.underlying36
 have av:=aK ak
 have bl:=aK au
 clear ak au
 have HB:=aK (Below.refl w.heap.size w)
 have H:(api_Hall_right.l0 k Z B (B.length:Int) 0 B J)=some r:=h
 clear h
 have H':=aK H
 clear H
 go_enter Try.func64,Try.ntmps64
 go_wp2_with (first|((with_reducible refine Qe (N:=2) rfl ?_);refine qE 2 #[.slice ρ B.length μ,.func (.func 79) #[] #[]] 109 ?_;intro ν hg w3 hbox hb;have γ:=aK hbox;have bk:=sGe hg;have aj:=sGe hg;replace HB:=sHb hb;clear hb hbox hg;obtain⟨a9,aa,ae,ag⟩:=qD2 γ.out))
 go_loopg [10] k (fun kq dq w'=>∃ (κ :Int),dq=nI κ ∧ Aside0 (api_Hall_right.l0 kq Z B (B.length:Int) κ B J=some r)∧Aside0 (kq≤k)∧Aside0 (w'.heap[ν]?=some (.cells #[(.slice ρ B.length μ),.func (.func 79) #[] #[]] 109 (0,0)))∧Aside0 (Below w.heap.size w w'))
 case atStart=>exact⟨(0),rfl,H',⟨Nat.le_refl _⟩,γ,HB⟩
 case round=>
  clear H'
  try clear a9
  try clear aa
  try clear ae
  try clear ag
  obtain⟨κ,rfl,HA,af,γ,HB⟩:=hrel
  cases gk with
  |zero=>exact absurd HA.out (by simp[api_Hall_right.l0])
  |succ k1=>
   have H:=HA.out
   clear HA
   simp only[api_Hall_right.l0] at H
   by_cases c5: κ < (B.length:Int)
   ·rw[if_pos c5] at H
    have c5b0:=decide_eq_true c5
    clear c5
    by_cases c6:0 ≤ κ
    ·rw[if_pos c6] at H
     have c6b0:=decide_eq_true c6
     clear c6
     by_cases c7: κ < (B.length:Int)
     ·rw[if_pos c7] at H
      have c7b0:=decide_eq_true c7
      clear c7
      have co:=aK H
      clear H
      have ι :0≤(κ :Int):=of_decide_eq_true (by assumption)
      have τ : κ < (B.length:Int):=of_decide_eq_true (by assumption)
      obtain⟨X,aw,a0,ac,al⟩:=Z4 av.out κ ι τ
      cases aw
      replace a0:=sCl HB a0
      replace ac:=sCl HB ac
      replace al:=sCl HB al
      replace ι :=eq_true ι
      replace τ :=eq_true τ
      go_upto_region 4 with(first|((with_reducible refine Qe (N:=6) rfl ?_);refine qE 6 #[nI 0,nI 0,nI 0] 36 ?_;intro θ hg w9 hbox hb;have δ :=aK hbox;have a8:=sGe hg;have am:=sGe hg;have an:=sNl γ hg;have ao:=sNg γ hg;replace γ:=sBk γ hb;replace HB:=sHb hb;clear hb hbox hg;have cx:=ao.out;have dj:=an.out;obtain⟨ci,cp,bg,cq,cr,bh⟩:=qD3 δ.out))
      (try simp only[Act.put,qS])
      go_cut [35] (fun ax wc=>∃ (kq:Nat) (ζ :Bool),ax = .bool ζ ∧ Aside0 (api_Hall_right.j1 kq Z B (B.length:Int) κ ζ B J=some r)∧Aside0 (kq≤k1)∧Aside0 (wc.heap[ν]?=some (.cells #[(.slice (some X) B.length μ),.func (.func 79) #[] #[]] 109 (0,0)))∧Aside0 (wc.heap[θ]?=some (.cells #[nI ((Qb B κ).f0),nI ((Qb B κ).f1),nI ((Qb B κ).f2)] 36 (0,0)))∧Aside0 (Below w.heap.size w wc))
      case first=>
       have H:=co.out
       clear co
       obtain⟨ξ,b8,H⟩:=qQ H
       by_cases a2: ξ = true
       ·subst a2
        rw[if_pos rfl] at H
        by_cases σ: κ > 0
        ·rw[if_pos σ] at H
         have c14b0:decide (0 < κ)=true:=decide_eq_true σ
         clear σ
         (first|rw[c14b0]|(simp only[Zy,Z8];rw[c14b0])|skip)
         obtain⟨ε,a7⟩:∃ j_:Int,(wrap64 (κ - 1))=j_:=⟨_,rfl⟩
         replace H:(if 0≤(ε) then (if (ε)<(B.length:Int) then ((call_halls_1.f ((Qb B (ε)).f0) ((Qb B (ε)).f1) ((Qb B (ε)).f2) ((Qb B κ).f0) ((Qb B κ).f1) ((Qb B κ).f2)).bind fun a3=>(api_Hall_right.j1 k1 Z B (B.length:Int) κ (decide (a3≥0)) B J)) else (none)) else (none))=some r:=by first|(rw[a7] at H;exact H)|(simp only[a7] at H ⊢;exact H)
         (try rw[a7] at b8)
         have hji15w:(IntKind.i64.wrap (κ - 1)) = ε :=(Zy _).trans a7
         by_cases ab:0≤(ε)
         ·rw[if_pos ab] at H
          have c16b0:=decide_eq_true ab
          clear ab
          by_cases ψ :(ε)<(B.length:Int)
          ·rw[if_pos ψ] at H
           have c17b0:=decide_eq_true ψ
           clear ψ
           obtain⟨a3,bd,H⟩:=qQ H
           have H':=aK H
           clear H
           try go_wp2
           have φ :Aside0 ((((w9.setCell ⟨θ,0,none⟩ (nI ((Qb B κ).f0))).setCell ⟨θ,1,none⟩ (nI ((Qb B κ).f1))).setCell ⟨θ,2,none⟩ (nI ((Qb B κ).f2))).heap[ν]?=some (.cells #[.slice (some X) B.length μ,.func (.func 79) #[] #[]] 109 (0,0))):=⟨bka γ⟩
           have χ :Aside0 ((((w9.setCell ⟨θ,0,none⟩ (nI ((Qb B κ).f0))).setCell ⟨θ,1,none⟩ (nI ((Qb B κ).f1))).setCell ⟨θ,2,none⟩ (nI ((Qb B κ).f2))).heap[θ]?=some (.cells #[nI ((Qb B κ).f0),nI ((Qb B κ).f1),nI ((Qb B κ).f2)] 36 (0,0))):=⟨by refine Qo (cs:=#[nI ((Qb B κ).f0),nI ((Qb B κ).f1),nI 0]) ?_ 2 _ rfl;refine Qo (cs:=#[nI ((Qb B κ).f0),nI 0,nI 0]) ?_ 1 _ rfl;refine Qo (cs:=#[nI 0,nI 0,nI 0]) ?_ 0 _ rfl;exact δ.out⟩
           have ω :Aside0 (Below w.heap.size w (((w9.setCell ⟨θ,0,none⟩ (nI ((Qb B κ).f0))).setCell ⟨θ,1,none⟩ (nI ((Qb B κ).f1))).setCell ⟨θ,2,none⟩ (nI ((Qb B κ).f2)))):=⟨bel⟩
           (try clear γ)
           (try clear δ)
           (try clear HB)
           generalize(((w9.setCell ⟨θ,0,none⟩ (nI ((Qb B κ).f0))).setCell ⟨θ,1,none⟩ (nI ((Qb B κ).f1))).setCell ⟨θ,2,none⟩ (nI ((Qb B κ).f2)))=b6 at φ χ ω ⊢
           have γ:= φ
           have δ := χ
           have HB:= ω
           clear φ χ ω
           replace γ:=aK (Qd γ.out)
           replace δ :=aK (Qd δ.out)
           replace HB:=aK (Qj HB.out)
           have ap:0≤((ε):Int):=of_decide_eq_true (by assumption)
           have ar:(ε)<(B.length:Int):=of_decide_eq_true (by assumption)
           obtain⟨ay,az,O,Y,η⟩:=Z4 av.out (ε) ap ar
           have a6:= η
           have ah:=Y
           have ai:=O
           obtain rfl:X=ay:=(by injection az)
           replace O:=sCl HB O
           replace Y:=sCl HB Y
           replace η :=sCl HB η
           replace ap:=eq_true ap
           replace ar:=eq_true ar
           refine Zg (n:=21) (S:=fun w'=>cI w' θ 0 ((Qb B κ).f0)∧cI w' θ 1 ((Qb B κ).f1)∧cI w' θ 2 ((Qb B κ).f2)∧w'.cell? ⟨ν,0,none⟩=some (.slice (some X) B.length μ)∧w'.cell? ⟨ν,1,none⟩=some (.func (.func 79) #[] #[])∧w'.cell? (X.add (((ε)).toNat * 3))=some (nI ((Qb B (ε)).f0))∧w'.cell? ⟨(X.add (((ε)).toNat * 3)).block,(X.add (((ε)).toNat * 3)).off+1,none⟩=some (nI ((Qb B (ε)).f1))∧w'.cell? ⟨(X.add (((ε)).toNat * 3)).block,(X.add (((ε)).toNat * 3)).off+2,none⟩=some (nI ((Qb B (ε)).f2))) (ds:=[]) #[false,false,false,false,false,false,false,false,false,false,false,false,false,false,false,false,false,false,false,false,false] kr rfl rfl ⟨(Qa δ.out 0).trans rfl,(Qa δ.out 1).trans rfl,(Qa δ.out 2).trans rfl,(Qa γ.out 0).trans rfl,(Qa γ.out 1).trans rfl,(sCl HB ai),(sCl HB ah),(sCl HB a6)⟩ (fun hHeld=>?_);refine Zb api_Hall_right.Vf api_Hall_right.Kf (fun HT_ HW_=>?_)
           generalize b6.drew=dw at γ δ HB O Y η hHeld ⊢
           refine qP 0 (some 15) (bN 21 1) HT_ ?_
           refine qT 1 (some 16) (bN 21 3) HT_ HW_ hHeld ?_
           refine qK 2 (some 17) (bN 21 7) HT_ fun K hK=>?_
           refine Yk Try.func82 kr rfl #[] #[.pointer (some ⟨gh_,0,none⟩)] #[.agg #[nI ((Qb B κ).f0),nI ((Qb B κ).f1),nI ((Qb B κ).f2)]] #[.agg #[nI ((Qb B κ).f0),nI ((Qb B κ).f1),nI ((Qb B κ).f2)],.pointer (some ⟨gh_,0,none⟩)] rfl (by rfl) rfl rfl rfl qM ?_
           with_reducible refine(call_hall_1.calls ((Qb B κ).f0) ((Qb B κ).f1) ((Qb B κ).f2) Z true _ b8.out gh_ (Xd HCH.out (by repeat(first|(with_reducible first|exact HB.out|apply Qq|apply Qn|apply Qj)|exact HB.out|(refine Qz ?_ (Aside0.out (by assumption))))))).mono ?_
           rintro e bo ⟨rfl,hb⟩
           refine⟨_,rfl, ?_⟩
           replace γ:=sBk γ hb
           replace δ :=sBk δ hb
           replace HB:=sHb hb
           (try clear hb)
           (try clear a4)
           (try clear hk)
           (try clear hi)
           refine hK.out _ _ ⟨qc δ,qc δ,qc δ,qc γ,qc γ,(sCl HB ai),(sCl HB ah),(sCl HB a6)⟩ (fun hHeld=>?_)
           clear hK K
           refine qN (some 17) ?_
           refine qP 3 (some 18) (bN 21 15) HT_ ?_
           refine qP 4 (some 19) (bN 21 31) HT_ ?_
           refine qP 5 (some 20) (bN 21 63) HT_ ?_
           refine qP 6 (some 21) (bN 21 127) HT_ ?_
           refine qP 7 (some 22) (bN 21 255) HT_ ?_
           refine qP 8 (some 23) (bN 21 511) HT_ ?_
           refine qP 10 (some 25) (bN 21 1535) HT_ ?_
           refine qP 12 (some 27) (bN 21 5631) HT_ ?_
           refine qP 13 (some 28) (bN 21 13823) HT_ ?_
           refine qT 9 (some 24) (bN 21 14335) HT_ HW_ hHeld ?_
           refine qT 11 (some 26) (bN 21 16383) HT_ HW_ hHeld ?_
           refine qP 14 (some 29) (bN 21 32767) HT_ ?_
           refine qT 15 (some 30) (bN 21 65535) HT_ HW_ hHeld ?_
           refine qT 16 (some 31) (bN 21 131071) HT_ HW_ hHeld ?_
           refine qK 17 (some 32) (bN 21 262143) HT_ fun K hK=>?_
           refine Yk Try.func79 kr rfl #[] #[] #[.agg #[nI ((Qb B (ε)).f0),nI ((Qb B (ε)).f1),nI ((Qb B (ε)).f2)],.agg #[nI ((Qb B κ).f0),nI ((Qb B κ).f1),nI ((Qb B κ).f2)]] #[.agg #[nI ((Qb B (ε)).f0),nI ((Qb B (ε)).f1),nI ((Qb B (ε)).f2)],.agg #[nI ((Qb B κ).f0),nI ((Qb B κ).f1),nI ((Qb B κ).f2)]] rfl (by rfl) rfl rfl rfl (by(try simp only[List.map_toArray,List.map_cons,List.map_nil]);first|done|(simp only[a7];rfl)|rfl|(simp only[List.length_drop,List.length_take];rfl)) ?_
           with_reducible refine(call_halls_1.calls ((Qb B (ε)).f0) ((Qb B (ε)).f1) ((Qb B (ε)).f2) ((Qb B κ).f0) ((Qb B κ).f1) ((Qb B κ).f2) a3 _ bd.out).mono ?_
           rintro e bj ⟨rfl,hb⟩
           refine⟨_,rfl, ?_⟩
           replace γ:=sBk γ hb
           replace δ :=sBk δ hb
           replace HB:=sHb hb
           (try clear hb)
           (try clear a4)
           (try clear hk)
           (try clear hi)
           refine hK.out _ _ ⟨qc δ,qc δ,qc δ,qc γ,qc γ,(sCl HB ai),(sCl HB ah),(sCl HB a6)⟩ (fun hHeld=>?_)
           clear hK K
           refine qN (some 32) ?_
           refine qP 18 (some 33) (bN 21 524287) HT_ ?_
           refine qP 19 (some 34) (bN 21 1048575) HT_ ?_
           refine qP 20 (some 35) (bN 21 2097151) HT_ ?_
           refine Zl (Ze HT_.out kr) ?_
           try go_wp2
           go_meet
           case rel=>exact⟨_,(decide (a3≥0)),rfl,H',⟨by have:=af.out;omega⟩,γ,δ,HB⟩
          ·rw[if_neg ψ] at H
           exact absurd H (by simp)
         ·rw[if_neg ab] at H
          exact absurd H (by simp)
        ·rw[if_neg σ] at H
         have c14b0:decide (0 < κ)=false:=decide_eq_false σ
         clear σ
         (first|rw[c14b0]|(simp only[Zy,Z8];rw[c14b0])|skip)
         have H':=aK H
         clear H
         try go_wp2
         have φ :Aside0 ((((w9.setCell ⟨θ,0,none⟩ (nI ((Qb B κ).f0))).setCell ⟨θ,1,none⟩ (nI ((Qb B κ).f1))).setCell ⟨θ,2,none⟩ (nI ((Qb B κ).f2))).heap[ν]?=some (.cells #[.slice (some X) B.length μ,.func (.func 79) #[] #[]] 109 (0,0))):=⟨bka γ⟩
         have χ :Aside0 ((((w9.setCell ⟨θ,0,none⟩ (nI ((Qb B κ).f0))).setCell ⟨θ,1,none⟩ (nI ((Qb B κ).f1))).setCell ⟨θ,2,none⟩ (nI ((Qb B κ).f2))).heap[θ]?=some (.cells #[nI ((Qb B κ).f0),nI ((Qb B κ).f1),nI ((Qb B κ).f2)] 36 (0,0))):=⟨by refine Qo (cs:=#[nI ((Qb B κ).f0),nI ((Qb B κ).f1),nI 0]) ?_ 2 _ rfl;refine Qo (cs:=#[nI ((Qb B κ).f0),nI 0,nI 0]) ?_ 1 _ rfl;refine Qo (cs:=#[nI 0,nI 0,nI 0]) ?_ 0 _ rfl;exact δ.out⟩
         have ω :Aside0 (Below w.heap.size w (((w9.setCell ⟨θ,0,none⟩ (nI ((Qb B κ).f0))).setCell ⟨θ,1,none⟩ (nI ((Qb B κ).f1))).setCell ⟨θ,2,none⟩ (nI ((Qb B κ).f2)))):=⟨bel⟩
         (try clear γ)
         (try clear δ)
         (try clear HB)
         generalize(((w9.setCell ⟨θ,0,none⟩ (nI ((Qb B κ).f0))).setCell ⟨θ,1,none⟩ (nI ((Qb B κ).f1))).setCell ⟨θ,2,none⟩ (nI ((Qb B κ).f2)))=bi at φ χ ω ⊢
         have γ:= φ
         have δ := χ
         have HB:= ω
         clear φ χ ω
         replace γ:=aK (Qd γ.out)
         replace δ :=aK (Qd δ.out)
         replace HB:=aK (Qj HB.out)
         refine Zg (n:=21) (S:=fun w'=>cI w' θ 0 ((Qb B κ).f0)∧cI w' θ 1 ((Qb B κ).f1)∧cI w' θ 2 ((Qb B κ).f2)) (ds:=[]) #[false,false,false,false,false,false,false,false,false,false,false,false,false,false,false,false,false,false,false,false,false] kr rfl rfl ⟨(Qa δ.out 0).trans rfl,(Qa δ.out 1).trans rfl,(Qa δ.out 2).trans rfl⟩ (fun hHeld=>?_);refine Zb api_Hall_right.Vf api_Hall_right.Kf (fun HT_ HW_=>?_)
         generalize bi.drew=cm at γ δ HB hHeld ⊢
         refine qP 0 (some 15) (bN 21 1) HT_ ?_
         refine qT 1 (some 16) (bN 21 3) HT_ HW_ hHeld ?_
         refine qK 2 (some 17) (bN 21 7) HT_ fun K hK=>?_
         refine Yk Try.func82 kr rfl #[] #[.pointer (some ⟨gh_,0,none⟩)] #[.agg #[nI ((Qb B κ).f0),nI ((Qb B κ).f1),nI ((Qb B κ).f2)]] #[.agg #[nI ((Qb B κ).f0),nI ((Qb B κ).f1),nI ((Qb B κ).f2)],.pointer (some ⟨gh_,0,none⟩)] rfl (by rfl) rfl rfl rfl qM ?_
         with_reducible refine(call_hall_1.calls ((Qb B κ).f0) ((Qb B κ).f1) ((Qb B κ).f2) Z true _ b8.out gh_ (Xd HCH.out (by repeat(first|(with_reducible first|exact HB.out|apply Qq|apply Qn|apply Qj)|exact HB.out|(refine Qz ?_ (Aside0.out (by assumption))))))).mono ?_
         rintro e dt ⟨rfl,hb⟩
         refine⟨_,rfl, ?_⟩
         replace γ:=sBk γ hb
         replace δ :=sBk δ hb
         replace HB:=sHb hb
         (try clear hb)
         (try clear a4)
         (try clear hk)
         (try clear hi)
         refine hK.out _ _ ⟨qc δ,qc δ,qc δ⟩ (fun hHeld=>?_)
         clear hK K
         refine qN (some 17) ?_
         refine qP 3 (some 18) (bN 21 15) HT_ ?_
         refine qP 4 (some 19) (bN 21 31) HT_ ?_
         refine qP 5 (some 20) (bN 21 63) HT_ ?_
         refine qP 6 (some 21) (bN 21 127) HT_ ?_
         refine qP 7 (some 22) (bN 21 255) HT_ ?_
         refine qU 8 (some 23) (bN 21 511) HT_ ?_
         refine qU 9 (some 24) (bN 21 1023) HT_ ?_
         refine qU 10 (some 25) (bN 21 2047) HT_ ?_
         refine qU 11 (some 26) (bN 21 4095) HT_ ?_
         refine qU 12 (some 27) (bN 21 8191) HT_ ?_
         refine qU 13 (some 28) (bN 21 16383) HT_ ?_
         refine qU 14 (some 29) (bN 21 32767) HT_ ?_
         refine qU 15 (some 30) (bN 21 65535) HT_ ?_
         refine qU 16 (some 31) (bN 21 131071) HT_ ?_
         refine qU 17 (some 32) (bN 21 262143) HT_ ?_
         refine qU 18 (some 33) (bN 21 524287) HT_ ?_
         refine qP 19 (some 34) (bN 21 1048575) HT_ ?_
         refine qP 20 (some 35) (bN 21 2097151) HT_ ?_
         refine Zl (Ze HT_.out kr) ?_
         try go_wp2
         go_meet
         case rel=>exact⟨_,(false),rfl,H',⟨by have:=af.out;omega⟩,γ,δ,HB⟩
       ·replace a2:=Bool.eq_false_iff.mpr a2
        subst a2
        rw[if_neg nft] at H
        have H':=aK H
        clear H
        try go_wp2
        have φ :Aside0 ((((w9.setCell ⟨θ,0,none⟩ (nI ((Qb B κ).f0))).setCell ⟨θ,1,none⟩ (nI ((Qb B κ).f1))).setCell ⟨θ,2,none⟩ (nI ((Qb B κ).f2))).heap[ν]?=some (.cells #[.slice (some X) B.length μ,.func (.func 79) #[] #[]] 109 (0,0))):=⟨bka γ⟩
        have χ :Aside0 ((((w9.setCell ⟨θ,0,none⟩ (nI ((Qb B κ).f0))).setCell ⟨θ,1,none⟩ (nI ((Qb B κ).f1))).setCell ⟨θ,2,none⟩ (nI ((Qb B κ).f2))).heap[θ]?=some (.cells #[nI ((Qb B κ).f0),nI ((Qb B κ).f1),nI ((Qb B κ).f2)] 36 (0,0))):=⟨by refine Qo (cs:=#[nI ((Qb B κ).f0),nI ((Qb B κ).f1),nI 0]) ?_ 2 _ rfl;refine Qo (cs:=#[nI ((Qb B κ).f0),nI 0,nI 0]) ?_ 1 _ rfl;refine Qo (cs:=#[nI 0,nI 0,nI 0]) ?_ 0 _ rfl;exact δ.out⟩
        have ω :Aside0 (Below w.heap.size w (((w9.setCell ⟨θ,0,none⟩ (nI ((Qb B κ).f0))).setCell ⟨θ,1,none⟩ (nI ((Qb B κ).f1))).setCell ⟨θ,2,none⟩ (nI ((Qb B κ).f2)))):=⟨bel⟩
        (try clear γ)
        (try clear δ)
        (try clear HB)
        generalize(((w9.setCell ⟨θ,0,none⟩ (nI ((Qb B κ).f0))).setCell ⟨θ,1,none⟩ (nI ((Qb B κ).f1))).setCell ⟨θ,2,none⟩ (nI ((Qb B κ).f2)))=hu at φ χ ω ⊢
        have γ:= φ
        have δ := χ
        have HB:= ω
        clear φ χ ω
        replace γ:=aK (Qd γ.out)
        replace δ :=aK (Qd δ.out)
        replace HB:=aK (Qj HB.out)
        refine Zg (n:=21) (S:=fun w'=>cI w' θ 0 ((Qb B κ).f0)∧cI w' θ 1 ((Qb B κ).f1)∧cI w' θ 2 ((Qb B κ).f2)) (ds:=[]) #[false,false,false,false,false,false,false,false,false,false,false,false,false,false,false,false,false,false,false,false,false] kr rfl rfl ⟨(Qa δ.out 0).trans rfl,(Qa δ.out 1).trans rfl,(Qa δ.out 2).trans rfl⟩ (fun hHeld=>?_);refine Zb api_Hall_right.Vf api_Hall_right.Kf (fun HT_ HW_=>?_)
        generalize hu.drew=dk at γ δ HB hHeld ⊢
        refine qP 0 (some 15) (bN 21 1) HT_ ?_
        refine qT 1 (some 16) (bN 21 3) HT_ HW_ hHeld ?_
        refine qK 2 (some 17) (bN 21 7) HT_ fun K hK=>?_
        refine Yk Try.func82 kr rfl #[] #[.pointer (some ⟨gh_,0,none⟩)] #[.agg #[nI ((Qb B κ).f0),nI ((Qb B κ).f1),nI ((Qb B κ).f2)]] #[.agg #[nI ((Qb B κ).f0),nI ((Qb B κ).f1),nI ((Qb B κ).f2)],.pointer (some ⟨gh_,0,none⟩)] rfl (by rfl) rfl rfl rfl qM ?_
        with_reducible refine(call_hall_1.calls ((Qb B κ).f0) ((Qb B κ).f1) ((Qb B κ).f2) Z false _ b8.out gh_ (Xd HCH.out (by repeat(first|(with_reducible first|exact HB.out|apply Qq|apply Qn|apply Qj)|exact HB.out|(refine Qz ?_ (Aside0.out (by assumption))))))).mono ?_
        rintro e ed ⟨rfl,hb⟩
        refine⟨_,rfl, ?_⟩
        replace γ:=sBk γ hb
        replace δ :=sBk δ hb
        replace HB:=sHb hb
        (try clear hb)
        (try clear a4)
        (try clear hk)
        (try clear hi)
        refine hK.out _ _ ⟨qc δ,qc δ,qc δ⟩ (fun hHeld=>?_)
        clear hK K
        refine qN (some 17) ?_
        refine qP 3 (some 18) (bN 21 15) HT_ ?_
        refine qP 4 (some 19) (bN 21 31) HT_ ?_
        refine qU 5 (some 20) (bN 21 63) HT_ ?_
        refine qU 6 (some 21) (bN 21 127) HT_ ?_
        refine qU 7 (some 22) (bN 21 255) HT_ ?_
        refine qU 8 (some 23) (bN 21 511) HT_ ?_
        refine qU 9 (some 24) (bN 21 1023) HT_ ?_
        refine qU 10 (some 25) (bN 21 2047) HT_ ?_
        refine qU 11 (some 26) (bN 21 4095) HT_ ?_
        refine qU 12 (some 27) (bN 21 8191) HT_ ?_
        refine qU 13 (some 28) (bN 21 16383) HT_ ?_
        refine qU 14 (some 29) (bN 21 32767) HT_ ?_
        refine qU 15 (some 30) (bN 21 65535) HT_ ?_
        refine qU 16 (some 31) (bN 21 131071) HT_ ?_
        refine qU 17 (some 32) (bN 21 262143) HT_ ?_
        refine qU 18 (some 33) (bN 21 524287) HT_ ?_
        refine qU 19 (some 34) (bN 21 1048575) HT_ ?_
        refine qP 20 (some 35) (bN 21 2097151) HT_ ?_
        refine Zl (Ze HT_.out kr) ?_
        try go_wp2
        go_meet
        case rel=>exact⟨_,(true),rfl,H',⟨by have:=af.out;omega⟩,γ,δ,HB⟩
      case rest=>
       clear co
       obtain⟨kq,ζ,rfl,HA,ei,γ,δ,HB⟩:=hcut
       cases kq with
       |zero=>exact absurd HA.out (by simp[api_Hall_right.j1])
       |succ er=>
        have H:=HA.out
        clear HA
        simp only[api_Hall_right.j1] at H
        by_cases a5: ζ = true
        ·subst a5
         rw[if_pos rfl] at H
         obtain rfl:=qJ H
         go_wp2
         go_ret
         exact⟨rfl,HB.out⟩
        ·replace a5:=Bool.eq_false_iff.mpr a5
         subst a5
         rw[if_neg nft] at H
         have H':=aK H
         clear H
         go_wp2
         go_roundg er
         case measure=>have:=af.out;have:=ei.out;omega
         case rel=>exact⟨(wrap64 (κ + 1)),rfl,H',⟨by have:=af.out;have:=ei.out;omega⟩,γ,HB⟩
     ·rw[if_neg c7] at H
      exact absurd H (by simp)
    ·rw[if_neg c6] at H
     exact absurd H (by simp)
   ·rw[if_neg c5] at H
    have c5b0:=decide_eq_false c5
    clear c5
    obtain rfl:=qJ H
    go_wp2
    go_ret
    exact⟨rfl,HB.out⟩
mutual
def api_Inside_right.l0:Nat→Int→List (S86)→Int→Int→List (S86)→Int→Option (Bool)
 |0,_,_,_,_,_,_=>none
 |k+1,J,Z,Y,O,B,X=>if O<Y then (if 0≤O then (if O<(Z.length:Int) then ((call_inside_1.f ((Qp Z O).f0) ((Qp Z O).f1) J).bind fun a6=>(if a6=true then (if O>0 then (if 0≤(wrap64 (O-1)) then (if (wrap64 (O-1))<(B.length:Int) then ((call_ins_1.f ((Qp B (wrap64 (O-1))).f0) ((Qp B (wrap64 (O-1))).f1) ((Qp Z O).f0) ((Qp Z O).f1)).bind fun δ =>(api_Inside_right.j1 k J Z Y O (decide (δ ≥ 0)) B X)) else (none)) else (none)) else (api_Inside_right.j1 k J Z Y O false B X)) else (api_Inside_right.j1 k J Z Y O true B X))) else (none)) else (none)) else (some true)
def api_Inside_right.j1:Nat→Int→List (S86)→Int→Int→Bool→List (S86)→Int→Option (Bool)
 |0,_,_,_,_,_,_,_=>none
 |k+1,J,Z,Y,O,ν,B,X=>if ν = true then (some false) else (api_Inside_right.l0 k J Z Y (wrap64 (O+1)) B X)
end
def api_Inside_right.f (k:Nat) (B:List (S86)) (J:Int) (Z:Int):Option (Bool):=api_Inside_right.l0 k Z B (B.length:Int) 0 B J
def api_Inside_right.T4:Bool×List (List Nat×List Nat):=(true,[([],[]),([],[]),([0,1],[0,1]),([2],[2]),([3,2],[3]),([4],[4]),([5,4],[4,5]),([6,4,4],[4,6]),([7],[7]),([8,7],[7,8]),([7],[7]),([10,7],[7,10]),([7],[7]),([12,7],[7,12]),([11,13,7],[7,11,13]),([14,7],[7,14]),([7],[7]),([9,15,16,7,7],[7,9,15,16]),([17,7],[7,17]),([7,18,4],[4,7,18]),([4,19],[4,19])])
def api_Inside_right.B4:List Nat:=[0,0,3,7,15,31,63,127,255,511,255,1279,255,4351,15615,31999,255,131071,262143,524287,1048575]
theorem api_Inside_right.Vf:rtab .any (opsOf Try.f67 4)=api_Inside_right.T4:=by kernel_rfl
theorem api_Inside_right.Kf:Zq api_Inside_right.T4.2 api_Inside_right.B4=true:=by kernel_rfl
theorem api_Inside_right.calls (k:Nat) (ρ:Option Addr) (μ :Nat) (B:List (S86)) (J:Int) (Z:Int) (r:Bool) (w:World) (ak:Kd.C k86 w ρ B.length B) (au:B.length ≤ μ) (h:api_Inside_right.f k B J Z=some r) (gh_:Nat) (hgh_:w.heap[gh_]?=some (.cells #[nI (Y4 Z),nI (Y3 Z)] 59 (0,0))):
 Calls Try.prog 67 #[.agg #[.slice ρ B.length μ,.func (.func 83) #[] #[]],.func (.func 84) #[] #[.pointer (some ⟨gh_,0,none⟩)]] w fun e w'=>e = .returned (.bool r)∧Below w.heap.size w w':=by
 have HCH:=aK hgh_
 clear hgh_
 have ar:=Try.underlying116
 have d8:=Try.underlying86
 have av:=aK ak
 have bl:=aK au
 clear ak au
 have HB:=aK (Below.refl w.heap.size w)
 have H:(api_Inside_right.l0 k Z B (B.length:Int) 0 B J)=some r:=h
 clear h
 have H':=aK H
 clear H
 go_enter Try.func67,Try.ntmps67
 go_wp2_with (first|((with_reducible refine Qe (N:=2) rfl ?_);refine qE 2 #[.slice ρ B.length μ,.func (.func 83) #[] #[]] 116 ?_;intro η hg w3 hbox hb;have X:=aK hbox;have aw:=sGe hg;have ay:=sGe hg;replace HB:=sHb hb;clear hb hbox hg;obtain⟨a9,aa,ae,ag⟩:=qD2 X.out))
 go_loopg [10] k (fun kq dq w'=>∃ (κ :Int),dq=nI κ ∧ Aside0 (api_Inside_right.l0 kq Z B (B.length:Int) κ B J=some r)∧Aside0 (kq≤k)∧Aside0 (w'.heap[η]?=some (.cells #[(.slice ρ B.length μ),.func (.func 83) #[] #[]] 116 (0,0)))∧Aside0 (Below w.heap.size w w'))
 case atStart=>exact⟨(0),rfl,H',⟨Nat.le_refl _⟩,X,HB⟩
 case round=>
  clear H'
  try clear a9
  try clear aa
  try clear ae
  try clear ag
  obtain⟨κ,rfl,HA,af,X,HB⟩:=hrel
  cases gk with
  |zero=>exact absurd HA.out (by simp[api_Inside_right.l0])
  |succ k1=>
   have H:=HA.out
   clear HA
   simp only[api_Inside_right.l0] at H
   by_cases c5: κ < (B.length:Int)
   ·rw[if_pos c5] at H
    have c5b0:=decide_eq_true c5
    clear c5
    by_cases c6:0 ≤ κ
    ·rw[if_pos c6] at H
     have c6b0:=decide_eq_true c6
     clear c6
     by_cases c7: κ < (B.length:Int)
     ·rw[if_pos c7] at H
      have c7b0:=decide_eq_true c7
      clear c7
      have co:=aK H
      clear H
      have ah:0≤(κ :Int):=of_decide_eq_true (by assumption)
      have ai: κ < (B.length:Int):=of_decide_eq_true (by assumption)
      obtain⟨γ,ao,a0,a3⟩:=Xi av.out κ ah ai
      cases ao
      replace a0:=sCl HB a0
      replace a3:=sCl HB a3
      replace ah:=eq_true ah
      replace ai:=eq_true ai
      go_upto_region 4 with(first|((with_reducible refine Qe (N:=6) rfl ?_);refine qE 6 #[nI 0,nI 0] 86 ?_;intro Y hg w9 hbox hb;have O:=aK hbox;have am:=sGe hg;have θ :=sGe hg;have a8:=sNl X hg;have ac:=sNg X hg;replace X:=sBk X hb;replace HB:=sHb hb;clear hb hbox hg;have cx:=ac.out;have dj:=a8.out;obtain⟨ci,cp,cq,cr⟩:=qD2 O.out))
      (try simp only[Act.put,qS])
      go_cut [35] (fun ax wc=>∃ (kq:Nat) (ζ :Bool),ax = .bool ζ ∧ Aside0 (api_Inside_right.j1 kq Z B (B.length:Int) κ ζ B J=some r)∧Aside0 (kq≤k1)∧Aside0 (wc.heap[η]?=some (.cells #[(.slice (some γ) B.length μ),.func (.func 83) #[] #[]] 116 (0,0)))∧Aside0 (wc.heap[Y]?=some (.cells #[nI ((Qp B κ).f0),nI ((Qp B κ).f1)] 86 (0,0)))∧Aside0 (Below w.heap.size w wc))
      case first=>
       have H:=co.out
       clear co
       obtain⟨a6,b8,H⟩:=qQ H
       by_cases a2:a6=true
       ·subst a2
        rw[if_pos rfl] at H
        by_cases σ: κ > 0
        ·rw[if_pos σ] at H
         have c14b0:decide (0 < κ)=true:=decide_eq_true σ
         clear σ
         (first|rw[c14b0]|(simp only[Zy,Z8];rw[c14b0])|skip)
         obtain⟨ε,a7⟩:∃ j_:Int,(wrap64 (κ - 1))=j_:=⟨_,rfl⟩
         replace H:(if 0≤(ε) then (if (ε)<(B.length:Int) then ((call_ins_1.f ((Qp B (ε)).f0) ((Qp B (ε)).f1) ((Qp B κ).f0) ((Qp B κ).f1)).bind fun δ =>(api_Inside_right.j1 k1 Z B (B.length:Int) κ (decide (δ ≥ 0)) B J)) else (none)) else (none))=some r:=by first|(rw[a7] at H;exact H)|(simp only[a7] at H ⊢;exact H)
         (try rw[a7] at b8)
         have hji15w:(IntKind.i64.wrap (κ - 1)) = ε :=(Zy _).trans a7
         by_cases ab:0≤(ε)
         ·rw[if_pos ab] at H
          have c16b0:=decide_eq_true ab
          clear ab
          by_cases ψ :(ε)<(B.length:Int)
          ·rw[if_pos ψ] at H
           have c17b0:=decide_eq_true ψ
           clear ψ
           obtain⟨δ,bd,H⟩:=qQ H
           have H':=aK H
           clear H
           try go_wp2
           have φ :Aside0 (((w9.setCell ⟨Y,0,none⟩ (nI ((Qp B κ).f0))).setCell ⟨Y,1,none⟩ (nI ((Qp B κ).f1))).heap[η]?=some (.cells #[.slice (some γ) B.length μ,.func (.func 83) #[] #[]] 116 (0,0))):=⟨bka X⟩
           have χ :Aside0 (((w9.setCell ⟨Y,0,none⟩ (nI ((Qp B κ).f0))).setCell ⟨Y,1,none⟩ (nI ((Qp B κ).f1))).heap[Y]?=some (.cells #[nI ((Qp B κ).f0),nI ((Qp B κ).f1)] 86 (0,0))):=⟨by refine Qo (cs:=#[nI ((Qp B κ).f0),nI 0]) ?_ 1 _ rfl;refine Qo (cs:=#[nI 0,nI 0]) ?_ 0 _ rfl;exact O.out⟩
           have ω :Aside0 (Below w.heap.size w ((w9.setCell ⟨Y,0,none⟩ (nI ((Qp B κ).f0))).setCell ⟨Y,1,none⟩ (nI ((Qp B κ).f1)))):=⟨bel⟩
           (try clear X)
           (try clear O)
           (try clear HB)
           generalize((w9.setCell ⟨Y,0,none⟩ (nI ((Qp B κ).f0))).setCell ⟨Y,1,none⟩ (nI ((Qp B κ).f1)))=b6 at φ χ ω ⊢
           have X:= φ
           have O:= χ
           have HB:= ω
           clear φ χ ω
           replace X:=aK (Qd X.out)
           replace O:=aK (Qd O.out)
           replace HB:=aK (Qj HB.out)
           have aj:0≤((ε):Int):=of_decide_eq_true (by assumption)
           have al:(ε)<(B.length:Int):=of_decide_eq_true (by assumption)
           obtain⟨an,ap,ι,ν⟩:=Xi av.out (ε) aj al
           have ξ := ν
           have τ := ι
           obtain rfl:γ=an:=(by injection ap)
           replace ι :=sCl HB ι
           replace ν :=sCl HB ν
           replace aj:=eq_true aj
           replace al:=eq_true al
           refine Zg (n:=21) (S:=fun w'=>cI w' Y 0 ((Qp B κ).f0)∧cI w' Y 1 ((Qp B κ).f1)∧w'.cell? ⟨η,0,none⟩=some (.slice (some γ) B.length μ)∧w'.cell? ⟨η,1,none⟩=some (.func (.func 83) #[] #[])∧w'.cell? (γ.add (((ε)).toNat * 2))=some (nI ((Qp B (ε)).f0))∧w'.cell? ⟨(γ.add (((ε)).toNat * 2)).block,(γ.add (((ε)).toNat * 2)).off+1,none⟩=some (nI ((Qp B (ε)).f1))) (ds:=[]) #[false,false,false,false,false,false,false,false,false,false,false,false,false,false,false,false,false,false,false,false,false] kr rfl rfl ⟨(Qa O.out 0).trans rfl,(Qa O.out 1).trans rfl,(Qa X.out 0).trans rfl,(Qa X.out 1).trans rfl,(sCl HB τ),(sCl HB ξ)⟩ (fun hHeld=>?_);refine Zb api_Inside_right.Vf api_Inside_right.Kf (fun HT_ HW_=>?_)
           generalize b6.drew=dw at X O HB ι ν hHeld ⊢
           refine qP 0 (some 15) (bN 21 1) HT_ ?_
           refine qT 1 (some 16) (bN 21 3) HT_ HW_ hHeld ?_
           refine qK 2 (some 17) (bN 21 7) HT_ fun K hK=>?_
           refine Yk Try.func84 kr rfl #[] #[.pointer (some ⟨gh_,0,none⟩)] #[.agg #[nI ((Qp B κ).f0),nI ((Qp B κ).f1)]] #[.agg #[nI ((Qp B κ).f0),nI ((Qp B κ).f1)],.pointer (some ⟨gh_,0,none⟩)] rfl (by rfl) rfl rfl rfl qM ?_
           with_reducible refine(call_inside_1.calls ((Qp B κ).f0) ((Qp B κ).f1) Z true _ b8.out gh_ (Xd HCH.out (by repeat(first|(with_reducible first|exact HB.out|apply Qq|apply Qn|apply Qj)|exact HB.out|(refine Qz ?_ (Aside0.out (by assumption))))))).mono ?_
           rintro e bo ⟨rfl,hb⟩
           refine⟨_,rfl, ?_⟩
           replace X:=sBk X hb
           replace O:=sBk O hb
           replace HB:=sHb hb
           (try clear hb)
           (try clear a4)
           (try clear hk)
           (try clear hi)
           refine hK.out _ _ ⟨qc O,qc O,qc X,qc X,(sCl HB τ),(sCl HB ξ)⟩ (fun hHeld=>?_)
           clear hK K
           refine qN (some 17) ?_
           refine qP 3 (some 18) (bN 21 15) HT_ ?_
           refine qP 4 (some 19) (bN 21 31) HT_ ?_
           refine qP 5 (some 20) (bN 21 63) HT_ ?_
           refine qP 6 (some 21) (bN 21 127) HT_ ?_
           refine qP 7 (some 22) (bN 21 255) HT_ ?_
           refine qP 8 (some 23) (bN 21 511) HT_ ?_
           refine qP 10 (some 25) (bN 21 1535) HT_ ?_
           refine qP 12 (some 27) (bN 21 5631) HT_ ?_
           refine qP 13 (some 28) (bN 21 13823) HT_ ?_
           refine qT 9 (some 24) (bN 21 14335) HT_ HW_ hHeld ?_
           refine qT 11 (some 26) (bN 21 16383) HT_ HW_ hHeld ?_
           refine qP 14 (some 29) (bN 21 32767) HT_ ?_
           refine qT 15 (some 30) (bN 21 65535) HT_ HW_ hHeld ?_
           refine qT 16 (some 31) (bN 21 131071) HT_ HW_ hHeld ?_
           refine qK 17 (some 32) (bN 21 262143) HT_ fun K hK=>?_
           refine Yk Try.func83 kr rfl #[] #[] #[.agg #[nI ((Qp B (ε)).f0),nI ((Qp B (ε)).f1)],.agg #[nI ((Qp B κ).f0),nI ((Qp B κ).f1)]] #[.agg #[nI ((Qp B (ε)).f0),nI ((Qp B (ε)).f1)],.agg #[nI ((Qp B κ).f0),nI ((Qp B κ).f1)]] rfl (by rfl) rfl rfl rfl (by(try simp only[List.map_toArray,List.map_cons,List.map_nil]);first|done|(simp only[a7];rfl)|rfl|(simp only[List.length_drop,List.length_take];rfl)) ?_
           with_reducible refine(call_ins_1.calls ((Qp B (ε)).f0) ((Qp B (ε)).f1) ((Qp B κ).f0) ((Qp B κ).f1) δ _ bd.out).mono ?_
           rintro e bj ⟨rfl,hb⟩
           refine⟨_,rfl, ?_⟩
           replace X:=sBk X hb
           replace O:=sBk O hb
           replace HB:=sHb hb
           (try clear hb)
           (try clear a4)
           (try clear hk)
           (try clear hi)
           refine hK.out _ _ ⟨qc O,qc O,qc X,qc X,(sCl HB τ),(sCl HB ξ)⟩ (fun hHeld=>?_)
           clear hK K
           refine qN (some 32) ?_
           refine qP 18 (some 33) (bN 21 524287) HT_ ?_
           refine qP 19 (some 34) (bN 21 1048575) HT_ ?_
           refine qP 20 (some 35) (bN 21 2097151) HT_ ?_
           refine Zl (Ze HT_.out kr) ?_
           try go_wp2
           go_meet
           case rel=>exact⟨_,(decide (δ ≥ 0)),rfl,H',⟨by have:=af.out;omega⟩,X,O,HB⟩
          ·rw[if_neg ψ] at H
           exact absurd H (by simp)
         ·rw[if_neg ab] at H
          exact absurd H (by simp)
        ·rw[if_neg σ] at H
         have c14b0:decide (0 < κ)=false:=decide_eq_false σ
         clear σ
         (first|rw[c14b0]|(simp only[Zy,Z8];rw[c14b0])|skip)
         have H':=aK H
         clear H
         try go_wp2
         have φ :Aside0 (((w9.setCell ⟨Y,0,none⟩ (nI ((Qp B κ).f0))).setCell ⟨Y,1,none⟩ (nI ((Qp B κ).f1))).heap[η]?=some (.cells #[.slice (some γ) B.length μ,.func (.func 83) #[] #[]] 116 (0,0))):=⟨bka X⟩
         have χ :Aside0 (((w9.setCell ⟨Y,0,none⟩ (nI ((Qp B κ).f0))).setCell ⟨Y,1,none⟩ (nI ((Qp B κ).f1))).heap[Y]?=some (.cells #[nI ((Qp B κ).f0),nI ((Qp B κ).f1)] 86 (0,0))):=⟨by refine Qo (cs:=#[nI ((Qp B κ).f0),nI 0]) ?_ 1 _ rfl;refine Qo (cs:=#[nI 0,nI 0]) ?_ 0 _ rfl;exact O.out⟩
         have ω :Aside0 (Below w.heap.size w ((w9.setCell ⟨Y,0,none⟩ (nI ((Qp B κ).f0))).setCell ⟨Y,1,none⟩ (nI ((Qp B κ).f1)))):=⟨bel⟩
         (try clear X)
         (try clear O)
         (try clear HB)
         generalize((w9.setCell ⟨Y,0,none⟩ (nI ((Qp B κ).f0))).setCell ⟨Y,1,none⟩ (nI ((Qp B κ).f1)))=bi at φ χ ω ⊢
         have X:= φ
         have O:= χ
         have HB:= ω
         clear φ χ ω
         replace X:=aK (Qd X.out)
         replace O:=aK (Qd O.out)
         replace HB:=aK (Qj HB.out)
         refine Zg (n:=21) (S:=fun w'=>cI w' Y 0 ((Qp B κ).f0)∧cI w' Y 1 ((Qp B κ).f1)) (ds:=[]) #[false,false,false,false,false,false,false,false,false,false,false,false,false,false,false,false,false,false,false,false,false] kr rfl rfl ⟨(Qa O.out 0).trans rfl,(Qa O.out 1).trans rfl⟩ (fun hHeld=>?_);refine Zb api_Inside_right.Vf api_Inside_right.Kf (fun HT_ HW_=>?_)
         generalize bi.drew=cm at X O HB hHeld ⊢
         refine qP 0 (some 15) (bN 21 1) HT_ ?_
         refine qT 1 (some 16) (bN 21 3) HT_ HW_ hHeld ?_
         refine qK 2 (some 17) (bN 21 7) HT_ fun K hK=>?_
         refine Yk Try.func84 kr rfl #[] #[.pointer (some ⟨gh_,0,none⟩)] #[.agg #[nI ((Qp B κ).f0),nI ((Qp B κ).f1)]] #[.agg #[nI ((Qp B κ).f0),nI ((Qp B κ).f1)],.pointer (some ⟨gh_,0,none⟩)] rfl (by rfl) rfl rfl rfl qM ?_
         with_reducible refine(call_inside_1.calls ((Qp B κ).f0) ((Qp B κ).f1) Z true _ b8.out gh_ (Xd HCH.out (by repeat(first|(with_reducible first|exact HB.out|apply Qq|apply Qn|apply Qj)|exact HB.out|(refine Qz ?_ (Aside0.out (by assumption))))))).mono ?_
         rintro e dt ⟨rfl,hb⟩
         refine⟨_,rfl, ?_⟩
         replace X:=sBk X hb
         replace O:=sBk O hb
         replace HB:=sHb hb
         (try clear hb)
         (try clear a4)
         (try clear hk)
         (try clear hi)
         refine hK.out _ _ ⟨qc O,qc O⟩ (fun hHeld=>?_)
         clear hK K
         refine qN (some 17) ?_
         refine qP 3 (some 18) (bN 21 15) HT_ ?_
         refine qP 4 (some 19) (bN 21 31) HT_ ?_
         refine qP 5 (some 20) (bN 21 63) HT_ ?_
         refine qP 6 (some 21) (bN 21 127) HT_ ?_
         refine qP 7 (some 22) (bN 21 255) HT_ ?_
         refine qU 8 (some 23) (bN 21 511) HT_ ?_
         refine qU 9 (some 24) (bN 21 1023) HT_ ?_
         refine qU 10 (some 25) (bN 21 2047) HT_ ?_
         refine qU 11 (some 26) (bN 21 4095) HT_ ?_
         refine qU 12 (some 27) (bN 21 8191) HT_ ?_
         refine qU 13 (some 28) (bN 21 16383) HT_ ?_
         refine qU 14 (some 29) (bN 21 32767) HT_ ?_
         refine qU 15 (some 30) (bN 21 65535) HT_ ?_
         refine qU 16 (some 31) (bN 21 131071) HT_ ?_
         refine qU 17 (some 32) (bN 21 262143) HT_ ?_
         refine qU 18 (some 33) (bN 21 524287) HT_ ?_
         refine qP 19 (some 34) (bN 21 1048575) HT_ ?_
         refine qP 20 (some 35) (bN 21 2097151) HT_ ?_
         refine Zl (Ze HT_.out kr) ?_
         try go_wp2
         go_meet
         case rel=>exact⟨_,(false),rfl,H',⟨by have:=af.out;omega⟩,X,O,HB⟩
       ·replace a2:=Bool.eq_false_iff.mpr a2
        subst a2
        rw[if_neg nft] at H
        have H':=aK H
        clear H
        try go_wp2
        have φ :Aside0 (((w9.setCell ⟨Y,0,none⟩ (nI ((Qp B κ).f0))).setCell ⟨Y,1,none⟩ (nI ((Qp B κ).f1))).heap[η]?=some (.cells #[.slice (some γ) B.length μ,.func (.func 83) #[] #[]] 116 (0,0))):=⟨bka X⟩
        have χ :Aside0 (((w9.setCell ⟨Y,0,none⟩ (nI ((Qp B κ).f0))).setCell ⟨Y,1,none⟩ (nI ((Qp B κ).f1))).heap[Y]?=some (.cells #[nI ((Qp B κ).f0),nI ((Qp B κ).f1)] 86 (0,0))):=⟨by refine Qo (cs:=#[nI ((Qp B κ).f0),nI 0]) ?_ 1 _ rfl;refine Qo (cs:=#[nI 0,nI 0]) ?_ 0 _ rfl;exact O.out⟩
        have ω :Aside0 (Below w.heap.size w ((w9.setCell ⟨Y,0,none⟩ (nI ((Qp B κ).f0))).setCell ⟨Y,1,none⟩ (nI ((Qp B κ).f1)))):=⟨bel⟩
        (try clear X)
        (try clear O)
        (try clear HB)
        generalize((w9.setCell ⟨Y,0,none⟩ (nI ((Qp B κ).f0))).setCell ⟨Y,1,none⟩ (nI ((Qp B κ).f1)))=hu at φ χ ω ⊢
        have X:= φ
        have O:= χ
        have HB:= ω
        clear φ χ ω
        replace X:=aK (Qd X.out)
        replace O:=aK (Qd O.out)
        replace HB:=aK (Qj HB.out)
        refine Zg (n:=21) (S:=fun w'=>cI w' Y 0 ((Qp B κ).f0)∧cI w' Y 1 ((Qp B κ).f1)) (ds:=[]) #[false,false,false,false,false,false,false,false,false,false,false,false,false,false,false,false,false,false,false,false,false] kr rfl rfl ⟨(Qa O.out 0).trans rfl,(Qa O.out 1).trans rfl⟩ (fun hHeld=>?_);refine Zb api_Inside_right.Vf api_Inside_right.Kf (fun HT_ HW_=>?_)
        generalize hu.drew=dk at X O HB hHeld ⊢
        refine qP 0 (some 15) (bN 21 1) HT_ ?_
        refine qT 1 (some 16) (bN 21 3) HT_ HW_ hHeld ?_
        refine qK 2 (some 17) (bN 21 7) HT_ fun K hK=>?_
        refine Yk Try.func84 kr rfl #[] #[.pointer (some ⟨gh_,0,none⟩)] #[.agg #[nI ((Qp B κ).f0),nI ((Qp B κ).f1)]] #[.agg #[nI ((Qp B κ).f0),nI ((Qp B κ).f1)],.pointer (some ⟨gh_,0,none⟩)] rfl (by rfl) rfl rfl rfl qM ?_
        with_reducible refine(call_inside_1.calls ((Qp B κ).f0) ((Qp B κ).f1) Z false _ b8.out gh_ (Xd HCH.out (by repeat(first|(with_reducible first|exact HB.out|apply Qq|apply Qn|apply Qj)|exact HB.out|(refine Qz ?_ (Aside0.out (by assumption))))))).mono ?_
        rintro e ed ⟨rfl,hb⟩
        refine⟨_,rfl, ?_⟩
        replace X:=sBk X hb
        replace O:=sBk O hb
        replace HB:=sHb hb
        (try clear hb)
        (try clear a4)
        (try clear hk)
        (try clear hi)
        refine hK.out _ _ ⟨qc O,qc O⟩ (fun hHeld=>?_)
        clear hK K
        refine qN (some 17) ?_
        refine qP 3 (some 18) (bN 21 15) HT_ ?_
        refine qP 4 (some 19) (bN 21 31) HT_ ?_
        refine qU 5 (some 20) (bN 21 63) HT_ ?_
        refine qU 6 (some 21) (bN 21 127) HT_ ?_
        refine qU 7 (some 22) (bN 21 255) HT_ ?_
        refine qU 8 (some 23) (bN 21 511) HT_ ?_
        refine qU 9 (some 24) (bN 21 1023) HT_ ?_
        refine qU 10 (some 25) (bN 21 2047) HT_ ?_
        refine qU 11 (some 26) (bN 21 4095) HT_ ?_
        refine qU 12 (some 27) (bN 21 8191) HT_ ?_
        refine qU 13 (some 28) (bN 21 16383) HT_ ?_
        refine qU 14 (some 29) (bN 21 32767) HT_ ?_
        refine qU 15 (some 30) (bN 21 65535) HT_ ?_
        refine qU 16 (some 31) (bN 21 131071) HT_ ?_
        refine qU 17 (some 32) (bN 21 262143) HT_ ?_
        refine qU 18 (some 33) (bN 21 524287) HT_ ?_
        refine qU 19 (some 34) (bN 21 1048575) HT_ ?_
        refine qP 20 (some 35) (bN 21 2097151) HT_ ?_
        refine Zl (Ze HT_.out kr) ?_
        try go_wp2
        go_meet
        case rel=>exact⟨_,(true),rfl,H',⟨by have:=af.out;omega⟩,X,O,HB⟩
      case rest=>
       clear co
       obtain⟨kq,ζ,rfl,HA,ei,X,O,HB⟩:=hcut
       cases kq with
       |zero=>exact absurd HA.out (by simp[api_Inside_right.j1])
       |succ er=>
        have H:=HA.out
        clear HA
        simp only[api_Inside_right.j1] at H
        by_cases a5: ζ = true
        ·subst a5
         rw[if_pos rfl] at H
         obtain rfl:=qJ H
         go_wp2
         go_ret
         exact⟨rfl,HB.out⟩
        ·replace a5:=Bool.eq_false_iff.mpr a5
         subst a5
         rw[if_neg nft] at H
         have H':=aK H
         clear H
         go_wp2
         go_roundg er
         case measure=>have:=af.out;have:=ei.out;omega
         case rel=>exact⟨(wrap64 (κ + 1)),rfl,H',⟨by have:=af.out;have:=ei.out;omega⟩,X,HB⟩
     ·rw[if_neg c7] at H
      exact absurd H (by simp)
    ·rw[if_neg c6] at H
     exact absurd H (by simp)
   ·rw[if_neg c5] at H
    have c5b0:=decide_eq_false c5
    clear c5
    obtain rfl:=qJ H
    go_wp2
    go_ret
    exact⟨rfl,HB.out⟩
end Go.Proofs.Ytmfffemidlhcpaa.C
namespace Go.Proofs.Ytmfffemidlhcpaa.Call
open Go.RowKit Go.Proofs.YtmfffemidlhcpaaW.PrintWords Go.Proofs.YtmfffemidlhcpaaW.PrintLast Go.Proofs.YtmfffemidlhcpaaW.PrintMore Go.Proofs.Ytmfffemidlhcpaa.C
theorem Ut (a b:Int):Uv a b<0↔a<b:=by unfold Uv;split <;> (try split) <;> omega
theorem Uu (a b:Int):Uv a b=0↔a=b:=by unfold Uv;split <;> (try split) <;> omega
theorem Gk (a b c d:Int):Yv a b c d<0↔(a<c∨(a=c∧b<d)):=by
 unfold Yv
 have h1:=Ut a c
 have O:=Uu a c
 have h3:=Ut b d
 split <;> omega
theorem Uw (a b c d:Int):Yv a b c d=0↔(a=c∧b=d):=by
 unfold Yv
 have h1:=Ut a c
 have O:=Uu a c
 have h3:=Uu b d
 split <;> omega
def Ly {α:Type} (q:α→Bool):Nat→List α→Int
 |_,[]=> -1
 |i,x :: l=>if q x=true then (i:Int) else Ly q (i+1) l
theorem Nl {α:Type} (q:α→Bool) (l:List α):∀ i:Nat,(Ly q i l = -1 ∧ ∀ x ∈ l,q x=false) ∨ ∃ k:Nat,∃ h:k<l.length,Ly q i l=((i+k:Nat):Int)∧q l[k]=true ∧ ∀ x ∈ l.take k,q x=false:=by
 induction l with
 |nil=>intro i;exact .inl ⟨rfl,by simp⟩
 |cons x l ih=>
  intro i
  simp only[Ly]
  by_cases h:q x=true
  ·rw[if_pos h]
   exact .inr ⟨0,by simp,by simp,by simpa using h,by simp⟩
  ·rw[if_neg h]
   have hf:q x=false:=by simpa using h
   rcases ih (i+1) with⟨e,ha⟩|⟨k,hk,e,ht,ha⟩
   ·refine .inl ⟨e,fun y hy=>?_⟩
    rcases List.mem_cons.1 hy with rfl|hy
    ·exact hf
    ·exact ha y hy
   ·refine .inr ⟨k+1,by simpa using hk,by rw[e];congr 1;omega,by simpa using ht,fun y hy=>?_⟩
    rw[List.take_succ_cons] at hy
    rcases List.mem_cons.1 hy with rfl|hy
    ·exact hf
    ·exact ha y hy
def Zm {α:Type} (may:α→Bool) (lt:α→α→Bool):Option α→List α→Bool
 |_,[]=>true
 |none,x :: l=>may x&&Zm may lt (some x) l
 |some p,x :: l=>(may x&&lt p x)&&Zm may lt (some x) l
def ltH (x y:S36):Bool:=decide (Yv x.f0 x.f1 y.f0 y.f1<0)
theorem Yj (x y:S36):ltH x y=true↔(x.f0<y.f0∨(x.f0=y.f0∧x.f1<y.f1)):=by
 unfold ltH
 rw[decide_eq_true_iff,Gk]
theorem Nh {x y z:S36} (h1:ltH x y=true) (O:ltH y z=true):ltH x z=true:=by
 rw[Yj] at *
 omega
theorem Ya (l:List S36) (i:Nat) (h:i<l.length):Qb l (i:Int)=l[i]:=by
 unfold Qb
 rw[Int.toNat_natCast,List.getD_eq_getElem?_getD,List.getElem?_eq_getElem h]
 rfl
def V0 (l:List S36) (B J:Int) (p:Nat):Prop:=p≤l.length∧(∀ y ∈ l.take p,Yv y.f0 y.f1 B J<0)∧(∀ y ∈ l.drop p,¬ Yv y.f0 y.f1 B J<0)
def V6 (l:List S36) (B J:Int) (p:Nat):Bool:=match l[p]? with|some y=>Yv y.f0 y.f1 B J==0|none=>false
theorem Ui (l:List S36) (B J Y:Int) (hm:l.length≤1000000000) (hs:l.Pairwise (fun x y=>ltH x y=true)) (d:Nat):∀ (f i j:Nat),j-i≤d→i≤j→j≤l.length→d<f→(∀ y ∈ l.take i,Yv y.f0 y.f1 B J<0)→(∀ y ∈ l.drop j,¬ Yv y.f0 y.f1 B J<0) →
 ∃ p,V0 l B J p∧api_Hall_89.l0 f l (l.length:Int) (i:Int) (j:Int) B J Y=some ((p:Int),V6 l B J p):=by
 have stop:∀ (f i:Nat),0<f→i≤l.length→(∀ y ∈ l.take i,Yv y.f0 y.f1 B J<0)→(∀ y ∈ l.drop i,¬ Yv y.f0 y.f1 B J<0) → ∃ p,V0 l B J p∧api_Hall_89.l0 f l (l.length:Int) (i:Int) (i:Int) B J Y=some ((p:Int),V6 l B J p):=by
  intro f i hf hi h1 O
  obtain⟨f,rfl⟩:∃ m,f=m+1:=⟨f-1,by omega⟩
  refine⟨i,⟨hi,h1,O⟩, ?_⟩
  simp only[api_Hall_89.l0]
  unfold V6
  rw[if_neg (by omega)]
  by_cases h:i<l.length
  ·rw[if_pos (by omega),if_pos (by omega),if_pos (by omega),Ya l i h,List.getElem?_eq_getElem h]
   rfl
  ·rw[if_neg (by omega),List.getElem?_eq_none (by omega)]
 induction d with
 |zero=>
  intro f i j hd hij hj hf h1 O
  obtain rfl:i=j:=by omega
  exact stop f i hf hj h1 O
 |succ d ih=>
  intro f i j hd hij hj hf h1 O
  by_cases he:i=j
  ·subst he
   exact stop f i (by omega) hj h1 O
  ·obtain⟨f,rfl⟩:∃ m,f=m+1:=⟨f-1,by omega⟩
   have hmid:wrap64 ((IntKind.u64.wrap (wrap64 ((i:Int)+(j:Int)))) / 2)=(((i+j) / 2:Nat):Int):=by
    rw[show wrap64 ((i:Int)+(j:Int))=(i:Int)+(j:Int) from by unfold wrap64;omega,IntKind.wrap_u64]
    unfold wrap64;omega
   have e1:wrap64 ((((i+j) / 2:Nat):Int)+1)=(((i+j) / 2+1:Nat):Int):=by unfold wrap64;omega
   simp only[api_Hall_89.l0]
   rw[if_pos (by omega),hmid]
   have hh:(i+j) / 2<l.length:=by omega
   generalize hg:(i+j) / 2=h at *
   rw[if_pos (by omega),if_pos (by omega),Ya l h hh,e1]
   unfold call_halls_1.f
   simp only[Option.bind_some]
   have hlt:∀ m:Nat,(hm:m<h)→Yv (l[m]'(by omega)).f0 (l[m]'(by omega)).f1 l[h].f0 l[h].f1<0:=by
    intro m hm
    have:=List.pairwise_iff_getElem.1 hs m h (by omega) hh hm
    exact of_decide_eq_true this
   have hgt:∀ m:Nat,h<m→(hm:m<l.length)→Yv l[h].f0 l[h].f1 l[m].f0 l[m].f1<0:=by
    intro m hm hml
    have:=List.pairwise_iff_getElem.1 hs h m hh hml hm
    exact of_decide_eq_true this
   by_cases hc:Yv l[h].f0 l[h].f1 B J<0
   ·rw[if_pos hc]
    refine ih f (h+1) j (by omega) (by omega) hj (by omega) ?_ O
    intro y hy
    obtain⟨m,hm,rfl⟩:=List.mem_iff_getElem.1 hy
    rw[List.length_take] at hm
    rw[List.getElem_take]
    by_cases hmh:m=h
    ·subst hmh;exact hc
    ·have h3:=hlt m (by omega)
     rw[Gk] at *
     omega
   ·rw[if_neg hc]
    refine ih f i h (by omega) (by omega) (by omega) (by omega) h1 ?_
    intro y hy
    obtain⟨m,hm,rfl⟩:=List.mem_iff_getElem.1 hy
    rw[List.length_drop] at hm
    rw[List.getElem_drop]
    by_cases hmh:m=0
    ·subst hmh;simpa using hc
    ·have h3:=hgt (h+m) (by omega) (by omega)
     rw[Gk] at *
     omega
theorem Ld (l:List S36) (B J Y:Int) (a2:Int) (hm:l.length≤1000000000) (hs:l.Pairwise (fun x y=>ltH x y=true)) (k:Nat) (hk:l.length<k):
 ∃ p,V0 l B J p∧api_Hall_89.f k l B J Y a2=some ((p:Int),V6 l B J p):=by
 unfold api_Hall_89.f
 have:=Ui l B J Y hm hs l.length k 0 l.length (by omega) (by omega) (by omega) hk (by simp) (by simp)
 simpa using this
theorem Wm (l:List S36) (Z tok_:Int) (hm:l.length≤1000000000) (j:Nat):∀ (f i:Nat),i+j=l.length→2 * j<f→api_Hall_right.l0 f Z l (l.length:Int) (i:Int) l tok_=some (Zm (fun x=>Xz (Y4 Z) (Y3 Z) x.f0 x.f1 x.f2) ltH (if i=0 then none else l[i-1]?) (l.drop i)):=by
 induction j with
 |zero=>
  intro f i hi hf
  obtain⟨f,rfl⟩:∃ m,f=m+1:=⟨f-1,by omega⟩
  simp only[api_Hall_right.l0]
  rw[if_neg (by omega),List.drop_of_length_le (by omega)]
  cases(if i=0 then none else l[i-1]?) <;> rfl
 |succ j ih=>
  intro f i hi hf
  obtain⟨f,rfl⟩:∃ m,f=m+2:=⟨f-2,by omega⟩
  have ha:i<l.length:=by omega
  have ei:wrap64 ((i:Int)+1)=((i+1:Nat):Int):=by unfold wrap64;omega
  have jt:api_Hall_right.j1 (f+1) Z l (l.length:Int) (i:Int) true l tok_=some false:=by simp[api_Hall_right.j1]
  have jf:api_Hall_right.j1 (f+1) Z l (l.length:Int) (i:Int) false l tok_=some (Zm (fun x=>Xz (Y4 Z) (Y3 Z) x.f0 x.f1 x.f2) ltH (some l[i]) (l.drop (i+1))):=by
   simp only[api_Hall_right.j1]
   rw[if_neg (by decide),ei,ih f (i+1) (by omega) (by omega),if_neg (by omega),Nat.add_sub_cancel,List.getElem?_eq_getElem ha]
  simp only[api_Hall_right.l0]
  rw[if_pos (by omega),if_pos (by omega),if_pos (by omega),Ya l i ha]
  unfold call_hall_1.f
  simp only[Option.bind_some]
  rw[List.drop_eq_getElem_cons ha]
  by_cases h1:Xz (Y4 Z) (Y3 Z) l[i].f0 l[i].f1 l[i].f2=true
  ·rw[if_pos h1]
   by_cases X:i=0
   ·subst X
    rw[if_neg (by omega),if_pos rfl,jf]
    simp only[Zm,h1,Bool.true_and]
   ·have ep:wrap64 ((i:Int)-1)=((i-1:Nat):Int):=by unfold wrap64;omega
    rw[if_pos (by omega),ep,if_pos (by omega),if_pos (by omega),Ya l (i-1) (by omega),if_neg X,List.getElem?_eq_getElem (by omega)]
    unfold call_halls_1.f
    simp only[Option.bind_some]
    simp only[Zm,h1,Bool.true_and]
    unfold ltH
    by_cases hc:Yv (l[i-1]'(by omega)).f0 (l[i-1]'(by omega)).f1 l[i].f0 l[i].f1<0
    ·rw[decide_eq_false (by omega),decide_eq_true hc,jf,Bool.true_and]
     rfl
    ·rw[decide_eq_true (by omega),decide_eq_false hc,jt,Bool.false_and]
  ·have h1':Xz (Y4 Z) (Y3 Z) l[i].f0 l[i].f1 l[i].f2=false:=by simpa using h1
   rw[if_neg h1,jt]
   by_cases X:i=0
   ·rw[if_pos X]
    simp only[Zm,h1',Bool.false_and]
   ·rw[if_neg X,List.getElem?_eq_getElem (by omega)]
    simp only[Zm,h1',Bool.false_and]
theorem M0 (l:List S36) (Z tok_:Int) (hm:l.length≤1000000000) (k:Nat) (hk:2 * l.length<k):api_Hall_right.f k l tok_ Z=some (Zm (fun x=>Xz (Y4 Z) (Y3 Z) x.f0 x.f1 x.f2) ltH none l):=by
 unfold api_Hall_right.f
 have:=Wm l Z tok_ hm l.length k 0 (by omega) hk
 simpa using this
theorem Wl (may:S36→Bool) (l:List S36):∀ p,Zm may ltH (some p) l=true↔((∀ x ∈ l,may x=true)∧(p :: l).Pairwise (fun x y=>ltH x y=true)):=by
 induction l with
 |nil=>intro p;simp[Zm]
 |cons x l ih=>
  intro p
  simp only[Zm,Bool.and_eq_true]
  rw[ih x]
  simp only[List.pairwise_cons,List.mem_cons,forall_eq_or_imp]
  constructor
  ·rintro⟨⟨h1,O⟩,h3,h4,J⟩
   exact⟨⟨h1,h3⟩,⟨O,fun y hy=>Nh O (h4 y hy)⟩,h4,J⟩
  ·rintro⟨⟨h1,h3⟩,⟨O,_⟩,h4,J⟩
   exact⟨⟨h1,O⟩,h3,h4,J⟩
theorem Gy (may:S36→Bool) (l:List S36):Zm may ltH none l=true↔((∀ x ∈ l,may x=true)∧l.Pairwise (fun x y=>ltH x y=true)):=by
 cases l with
 |nil=>simp[Zm]
 |cons x l=>
  simp only[Zm,Bool.and_eq_true]
  rw[Wl]
  simp only[List.mem_cons,forall_eq_or_imp]
  constructor
  ·rintro⟨h1,O,h3⟩
   exact⟨⟨h1,O⟩,h3⟩
  ·rintro⟨⟨h1,O⟩,h3⟩
   exact⟨h1,O,h3⟩
abbrev qI (Z:Int) (x:S86):Bool:=Yv (Y4 Z) (Y3 Z) x.f0 x.f1==0
def ltI (x y:S86):Bool:=decide (Yv x.f0 x.f1 y.f0 y.f1<0)
theorem Gg (x y:S86):ltI x y=true↔(x.f0<y.f0∨(x.f0=y.f0∧x.f1<y.f1)):=by
 unfold ltI
 rw[decide_eq_true_iff,Gk]
theorem Ng {x y z:S86} (h1:ltI x y=true) (O:ltI y z=true):ltI x z=true:=by
 rw[Gg] at *
 omega
theorem Jp (l:List S86) (i:Nat) (h:i<l.length):Qp l (i:Int)=l[i]:=by
 unfold Qp
 rw[Int.toNat_natCast,List.getD_eq_getElem?_getD,List.getElem?_eq_getElem h]
 rfl
theorem Nm (l:List S86) (Z:Int) (hm:l.length≤1000000000) (j:Nat):∀ (f i:Nat),i+j=l.length→j<f→api_Inside_100.l0 f l Z (l.length:Int) (i:Int)=some (Ly (qI Z) i (l.drop i)):=by
 induction j with
 |zero=>
  intro f i hi hf
  obtain⟨f,rfl⟩:∃ m,f=m+1:=⟨f-1,by omega⟩
  simp only[api_Inside_100.l0]
  rw[if_neg (by omega),List.drop_of_length_le (by omega)]
  rfl
 |succ j ih=>
  intro f i hi hf
  obtain⟨f,rfl⟩:∃ m,f=m+1:=⟨f-1,by omega⟩
  have ha:i<l.length:=by omega
  have ei:wrap64 ((i:Int)+1)=((i+1:Nat):Int):=by unfold wrap64;omega
  simp only[api_Inside_100.l0]
  rw[if_pos (by omega),if_pos (by omega),if_pos (by omega),Jp l i ha,ei,ih f (i+1) (by omega) (by omega)]
  unfold api_Inside_without_1.f
  simp only[Option.bind_some]
  rw[List.drop_eq_getElem_cons ha]
  simp only[Ly]
  by_cases h:qI Z l[i]=true
  ·rw[if_pos h,if_pos h]
  ·rw[if_neg h,if_neg h]
theorem D9 (l:List S86) (Z:Int) (hm:l.length≤1000000000) (k:Nat) (hk:l.length<k):api_Inside_100.f k l Z=some (Ly (qI Z) 0 l):=by
 unfold api_Inside_100.f
 have:=Nm l Z hm l.length k 0 (by omega) hk
 simpa using this
theorem Np (l:List S86) (Z:Int) (hm:l.length≤1000000000) (j:Nat):∀ (f:Nat) (x:List S86) (i m:Nat),x.length=l.length→m+j=l.length→i≤m→j<f→x.drop m=l.drop m→x.take i=(l.take m).filter (fun y=> !qI Z y) →
 api_Inside_90.l0 f x Z (i:Int) (m:Int)=some (l.filter (fun y=> !qI Z y)):=by
 induction j with
 |zero=>
  intro f x i m hx hj him hf hd ht
  obtain⟨f,rfl⟩:∃ m,f=m+1:=⟨f-1,by omega⟩
  simp only[api_Inside_90.l0]
  rw[if_neg (by omega),if_pos (by omega),if_pos (by omega),Int.toNat_natCast,ht,List.take_of_length_le (by omega)]
 |succ j ih=>
  intro f x i m hx hj him hf hd ht
  obtain⟨f,rfl⟩:∃ m,f=m+1:=⟨f-1,by omega⟩
  have ha:m<l.length:=by omega
  have hax:m<x.length:=by omega
  have em:wrap64 ((m:Int)+1)=((m+1:Nat):Int):=by unfold wrap64;omega
  have ei:wrap64 ((i:Int)+1)=((i+1:Nat):Int):=by unfold wrap64;omega
  have hxm:x[m]=l[m]:=by
   have h1:=List.drop_eq_getElem_cons hax
   have O:=List.drop_eq_getElem_cons ha
   rw[hd,O] at h1
   exact(List.cons.inj h1).1.symm
  have γ:x.drop (m+1)=l.drop (m+1):=by
   have h1:=List.drop_eq_getElem_cons hax
   have O:=List.drop_eq_getElem_cons ha
   rw[hd,O] at h1
   exact(List.cons.inj h1).2.symm
  have B:(l.take (m+1)).filter (fun y=> !qI Z y)=(l.take m).filter (fun y=> !qI Z y) ++ [l[m]].filter (fun y=> !qI Z y):=by
   rw[List.take_succ_eq_append_getElem ha,List.filter_append]
  simp only[api_Inside_90.l0]
  rw[if_pos (by omega),if_pos (by omega),Jp x m hax,hxm,em,ei]
  unfold api_Inside_without_1.f
  simp only[Option.bind_some]
  by_cases h:qI Z l[m]=true
  ·rw[if_pos h]
   refine ih f x i (m+1) hx (by omega) (by omega) (by omega) γ ?_
   rw[B,ht]
   simp only[List.filter_cons,List.filter_nil]
   rw[if_neg (by rw[h];decide),List.append_nil]
  ·have hf':qI Z l[m]=false:=by simpa using h
   rw[if_neg h,if_pos (by omega),if_pos (by omega),Int.toNat_natCast]
   refine ih f (x.set i _) (i+1) (m+1) (by rw[List.length_set];exact hx) (by omega) (by omega) (by omega) ?_ ?_
   ·rw[List.drop_set_of_lt (by omega)]
    exact γ
   ·rw[B]
    simp only[List.filter_cons,List.filter_nil]
    rw[if_pos (by rw[hf'];rfl),List.take_succ_eq_append_getElem (by rw[List.length_set];omega),List.getElem_set_self,List.take_set_of_le (by omega),ht]
theorem Cc (l:List S86) (Z:Int) (hm:l.length≤1000000000) (k:Nat) (hk:l.length+5<k):api_Inside_90.f k l Z=some (l.filter (fun y=> !qI Z y)):=by
 unfold api_Inside_90.f
 rw[D9 l Z hm k (by omega)]
 simp only[Option.bind_some]
 rcases Nl (qI Z) l 0 with⟨e,ha⟩|⟨i,hi,e,ht,ha⟩
 ·rw[e,if_pos rfl]
  congr 1
  exact(List.filter_eq_self.2 (fun y hy=>by rw[ha y hy];rfl)).symm
 ·rw[e,Nat.zero_add,if_neg (by omega)]
  have ei:wrap64 ((i:Int)+1)=((i+1:Nat):Int):=by unfold wrap64;omega
  rw[ei]
  refine Np l Z hm (l.length - (i+1)) k l i (i+1) rfl (by omega) (by omega) (by omega) rfl ?_
  rw[List.take_succ_eq_append_getElem hi,List.filter_append]
  simp only[List.filter_cons,List.filter_nil]
  rw[if_neg (by rw[ht];decide),List.append_nil]
  exact(List.filter_eq_self.2 (fun y hy=>by rw[ha y hy];rfl)).symm
theorem Wk (l:List S86) (Z tok_:Int) (hm:l.length≤1000000000) (j:Nat):∀ (f i:Nat),i+j=l.length→2 * j<f→api_Inside_right.l0 f Z l (l.length:Int) (i:Int) l tok_=some (Zm (fun x=>Jd (Y4 Z) (Y3 Z) x.f0 x.f1) ltI (if i=0 then none else l[i-1]?) (l.drop i)):=by
 induction j with
 |zero=>
  intro f i hi hf
  obtain⟨f,rfl⟩:∃ m,f=m+1:=⟨f-1,by omega⟩
  simp only[api_Inside_right.l0]
  rw[if_neg (by omega),List.drop_of_length_le (by omega)]
  cases(if i=0 then none else l[i-1]?) <;> rfl
 |succ j ih=>
  intro f i hi hf
  obtain⟨f,rfl⟩:∃ m,f=m+2:=⟨f-2,by omega⟩
  have ha:i<l.length:=by omega
  have ei:wrap64 ((i:Int)+1)=((i+1:Nat):Int):=by unfold wrap64;omega
  have jt:api_Inside_right.j1 (f+1) Z l (l.length:Int) (i:Int) true l tok_=some false:=by simp[api_Inside_right.j1]
  have jf:api_Inside_right.j1 (f+1) Z l (l.length:Int) (i:Int) false l tok_=some (Zm (fun x=>Jd (Y4 Z) (Y3 Z) x.f0 x.f1) ltI (some l[i]) (l.drop (i+1))):=by
   simp only[api_Inside_right.j1]
   rw[if_neg (by decide),ei,ih f (i+1) (by omega) (by omega),if_neg (by omega),Nat.add_sub_cancel,List.getElem?_eq_getElem ha]
  simp only[api_Inside_right.l0]
  rw[if_pos (by omega),if_pos (by omega),if_pos (by omega),Jp l i ha]
  unfold call_inside_1.f
  simp only[Option.bind_some]
  rw[List.drop_eq_getElem_cons ha]
  by_cases h1:Jd (Y4 Z) (Y3 Z) l[i].f0 l[i].f1=true
  ·rw[if_pos h1]
   by_cases X:i=0
   ·subst X
    rw[if_neg (by omega),if_pos rfl,jf]
    simp only[Zm,h1,Bool.true_and]
   ·have ep:wrap64 ((i:Int)-1)=((i-1:Nat):Int):=by unfold wrap64;omega
    rw[if_pos (by omega),ep,if_pos (by omega),if_pos (by omega),Jp l (i-1) (by omega),if_neg X,List.getElem?_eq_getElem (by omega)]
    unfold call_ins_1.f
    simp only[Option.bind_some]
    simp only[Zm,h1,Bool.true_and]
    unfold ltI
    by_cases hc:Yv (l[i-1]'(by omega)).f0 (l[i-1]'(by omega)).f1 l[i].f0 l[i].f1<0
    ·rw[decide_eq_false (by omega),decide_eq_true hc,jf,Bool.true_and]
     rfl
    ·rw[decide_eq_true (by omega),decide_eq_false hc,jt,Bool.false_and]
  ·have h1':Jd (Y4 Z) (Y3 Z) l[i].f0 l[i].f1=false:=by simpa using h1
   rw[if_neg h1,jt]
   by_cases X:i=0
   ·rw[if_pos X]
    simp only[Zm,h1',Bool.false_and]
   ·rw[if_neg X,List.getElem?_eq_getElem (by omega)]
    simp only[Zm,h1',Bool.false_and]
theorem Mz (l:List S86) (Z tok_:Int) (hm:l.length≤1000000000) (k:Nat) (hk:2 * l.length<k):api_Inside_right.f k l tok_ Z=some (Zm (fun x=>Jd (Y4 Z) (Y3 Z) x.f0 x.f1) ltI none l):=by
 unfold api_Inside_right.f
 have:=Wk l Z tok_ hm l.length k 0 (by omega) hk
 simpa using this
theorem Wi (may:S86→Bool) (l:List S86):∀ p,Zm may ltI (some p) l=true↔((∀ x ∈ l,may x=true)∧(p :: l).Pairwise (fun x y=>ltI x y=true)):=by
 induction l with
 |nil=>intro p;simp[Zm]
 |cons x l ih=>
  intro p
  simp only[Zm,Bool.and_eq_true]
  rw[ih x]
  simp only[List.pairwise_cons,List.mem_cons,forall_eq_or_imp]
  constructor
  ·rintro⟨⟨h1,O⟩,h3,h4,J⟩
   exact⟨⟨h1,h3⟩,⟨O,fun y hy=>Ng O (h4 y hy)⟩,h4,J⟩
  ·rintro⟨⟨h1,h3⟩,⟨O,_⟩,h4,J⟩
   exact⟨⟨h1,O⟩,h3,h4,J⟩
theorem Wj (may:S86→Bool) (l:List S86):Zm may ltI none l=true↔((∀ x ∈ l,may x=true)∧l.Pairwise (fun x y=>ltI x y=true)):=by
 cases l with
 |nil=>simp[Zm]
 |cons x l=>
  simp only[Zm,Bool.and_eq_true]
  rw[Wi]
  simp only[List.mem_cons,forall_eq_or_imp]
  constructor
  ·rintro⟨h1,O,h3⟩
   exact⟨⟨h1,O⟩,h3⟩
  ·rintro⟨⟨h1,O⟩,h3⟩
   exact⟨h1,O,h3⟩
end Go.Proofs.Ytmfffemidlhcpaa.Call
namespace Go.Proofs.Ytmfffemidlhcpaa.C
open Go.RowKit Go.Proofs.YtmfffemidlhcpaaW.PrintWords Go.Proofs.YtmfffemidlhcpaaW.PrintLast Go.Proofs.YtmfffemidlhcpaaW.PrintMore
attribute [local go_sem] Z2 Z0 Xb Xa Zt Zs Z1 Zz
def newellaw19_Own.f (B:List (S36)) (J:List (S86)):Option ((List (S36))×(List (S86))):=(some (([]:List (S36)):List (S36))).bind fun θ =>(if θ.length+B.length<5864062014805 then ((some (([]:List (S86)):List (S86))).bind fun δ =>(if δ.length+J.length<8796093022208 then (some ((θ ++ B),(δ ++ J))) else (none))) else (none))
def newellaw19_Own.T1:Bool×List (List Nat×List Nat):=(true,[([],[]),([],[]),([1],[1]),([0,2],[0,2]),([],[]),([],[]),([5],[5]),([4,6,3],[4,6]),([3,7],[3,7]),([8,7,0,1,2,3,4,5,6,7,8],[8])])
def newellaw19_Own.B1:List Nat:=[0,0,2,7,0,0,32,127,255,511]
theorem newellaw19_Own.K7:rtab .any (opsOf Try.f15 1)=newellaw19_Own.T1:=by kernel_rfl
theorem newellaw19_Own.Ji:Zq newellaw19_Own.T1.2 newellaw19_Own.B1=true:=by kernel_rfl
theorem newellaw19_Own.calls (ρ:Option Addr) (μ :Nat) (B:List (S36)) (ξ :Option Addr) (ν :Nat) (J:List (S86)) (r1:List (S36)) (r2:List (S86)) (w:World) (ak:Kd.C k36 w ρ B.length B) (au:B.length ≤ μ) (aw:Kd.C k86 w ξ J.length J) (ax:J.length ≤ ν) (h:newellaw19_Own.f B J=some (r1,r2)):
 Calls Try.prog 15 #[.agg #[.slice ρ B.length μ,.slice ξ J.length ν]] w fun e w'=>∃ b3 d7:Value,e = .returned (.agg #[b3,d7])∧Kd.R k36 36 w' w.heap.size (fun _=>True) b3 r1∧Kd.R k86 86 w' w.heap.size (fun _=>True) d7 r2∧Below w.heap.size w w':=by
 have d0:=Try.underlying50
 have av:=aK ak
 have bl:=aK au
 clear ak au
 have bk:=aK aw
 have d9:=aK ax
 clear aw ax
 have HB:=aK (Below.refl w.heap.size w)
 have H:((some (([]:List (S36)):List (S36))).bind fun θ =>(if θ.length+B.length<5864062014805 then ((some (([]:List (S86)):List (S86))).bind fun δ =>(if δ.length+J.length<8796093022208 then (some ((θ ++ B),(δ ++ J))) else (none))) else (none)))=some (r1,r2):=h
 clear h
 obtain⟨θ,a3⟩:∃ y_:List (S36),y_=(([]:List (S36))):=⟨_,rfl⟩
 replace H:(if θ.length+B.length<5864062014805 then ((some (([]:List (S86)):List (S86))).bind fun δ =>(if δ.length+J.length<8796093022208 then (some ((θ ++ B),(δ ++ J))) else (none))) else (none))=some (r1,r2):=by first|(rw[a3];with_reducible exact H)|(have ag:=(Option.bind_some _ _).symm.trans H;rw[a3];with_reducible exact ag)|(have ag:=(Option.bind_some _ _).symm.trans H;with_reducible exact ag)|with_reducible exact H|(rw[a3];exact H)|exact H
 have ab:=aK a3
 clear a3
 by_cases c2: θ.length+B.length<5864062014805
 ·rw[if_pos c2] at H
  have af:=aK c2
  clear c2
  obtain⟨a1,a4⟩:∃ y_:List (S36),y_=(θ ++ B):=⟨_,rfl⟩
  replace H:((some (([]:List (S86)):List (S86))).bind fun δ =>(if δ.length+J.length<8796093022208 then (some (a1,(δ ++ J))) else (none)))=some (r1,r2):=by first|(rw[a4];with_reducible exact H)|(have ag:=(Option.bind_some _ _).symm.trans H;rw[a4];with_reducible exact ag)|(have ag:=(Option.bind_some _ _).symm.trans H;with_reducible exact ag)|with_reducible exact H|(rw[a4];exact H)|exact H
  have ae:=aK a4
  clear a4
  obtain⟨δ,a5⟩:∃ y_:List (S86),y_=(([]:List (S86))):=⟨_,rfl⟩
  replace H:(if δ.length+J.length<8796093022208 then (some (a1,(δ ++ J))) else (none))=some (r1,r2):=by first|(rw[a5];with_reducible exact H)|(have ag:=(Option.bind_some _ _).symm.trans H;rw[a5];with_reducible exact ag)|(have ag:=(Option.bind_some _ _).symm.trans H;with_reducible exact ag)|with_reducible exact H|(rw[a5];exact H)|exact H
  have a0:=aK a5
  clear a5
  by_cases c3: δ.length+J.length<8796093022208
  ·rw[if_pos c3] at H
   have ay:=aK c3
   clear c3
   obtain⟨aj,a7⟩:∃ y_:List (S86),y_=(δ ++ J):=⟨_,rfl⟩
   replace H:(some (a1,aj))=some (r1,r2):=by first|(rw[a7];with_reducible exact H)|(have ag:=(Option.bind_some _ _).symm.trans H;rw[a7];with_reducible exact ag)|(have ag:=(Option.bind_some _ _).symm.trans H;with_reducible exact ag)|with_reducible exact H|(rw[a7];exact H)|exact H
   have am:=aK a7
   clear a7
   simp only[Option.some.injEq,Prod.mk.injEq] at H
   obtain⟨rfl,rfl⟩:=H
   go_enter Try.func15,Try.ntmps15
   try go_wp2_with (first|((with_reducible refine Qe (N:=1) rfl ?_);refine qE 1 #[.slice ρ B.length μ,.slice ξ J.length ν] 50 ?_;intro ε hg w4 hbox hb;have O:=aK hbox;have b4:=sGe hg;have b5:=sGe hg;replace HB:=sHb hb;clear hb hbox hg)|((with_reducible refine Qe (N:=2) rfl ?_);refine qE 2 #[.slice none 0 0,.slice none 0 0] 50 ?_;intro ι hg w5 hbox hb;have X:=aK hbox;have b6:=sGe hg;have b7:=sGe hg;have η :=sNl O hg;have a8:=sNg O hg;replace O:=sBk O hb;replace HB:=sHb hb;clear hb hbox hg))
   replace O:=aK (Qd O.out)
   replace X:=aK (Qd X.out)
   replace HB:=aK (Qj HB.out)
   refine Zg (n:=10) (S:=fun w'=>w'.cell? ⟨ε,0,none⟩=some (.slice ρ B.length μ)∧w'.cell? ⟨ε,1,none⟩=some (.slice ξ J.length ν)) (ds:=[]) #[false,false,false,false,false,false,false,false,false,false] kr rfl rfl ⟨(Qa O.out 0).trans rfl,(Qa O.out 1).trans rfl⟩ (fun hHeld=>?_);refine Zb newellaw19_Own.K7 newellaw19_Own.Ji (fun HT_ HW_=>?_)
   generalize w5.drew=w6 at O X HB hHeld ⊢
   refine qP 1 (some 4) (bN 10 2) HT_ ?_
   refine qP 5 (some 8) (bN 10 34) HT_ ?_
   refine qT 2 (some 5) (bN 10 38) HT_ HW_ hHeld ?_
   refine qT 6 (some 9) (bN 10 102) HT_ HW_ hHeld ?_
   refine Y1 (σ:=Value×Value×Value) 3 (bN 10 127) (fun s_=>[(3,s_.1),(6,s_.2.1),(7,s_.2.2)]) (fun s_ w'=>(w'.cell? ⟨ε,0,none⟩=some (.slice ρ B.length μ)∧w'.cell? ⟨ε,1,none⟩=some (.slice ξ J.length ν))∧(Kd.R k36 36 w' w.heap.size (fun _=>True) s_.2.1 a1)∧(Kd.R k86 86 w' w.heap.size (fun _=>True) s_.2.2 δ)∧(w'.heap[ε]?=some (.cells #[.slice ρ B.length μ,.slice ξ J.length ν] 50 (0,0)))∧(w'.heap[ι]?=some (.cells #[.slice none 0 0,.slice none 0 0] 50 (0,0)))∧(Below w.heap.size w w')) ?_ ?_
   rotate_left
   ·intro hCont
    refine K4 (i:=0) (j:=4) (Ni:=some 3) (Nj:=some 7) (bN 10 103) (bN 10 118) rfl rfl rfl rfl (Yg HT_.out kr) (by decide) (by decide) (fun K hK=>?_) (fun K hK=>?_)
    ·skip
     refine Kd.Z7 k36 _ 36 ?hg (N:=3) ?hd (xs:=([]:List (S36))) (inner:=[]) (ok:=fun _=>True) (okp:=fun _=>True) ?hr ?hp (fun _ hk=>hk) trivial (Below.refl _ _) (Nat.le_refl _) (by simp) ?_;(case hd=>rfl);(case hg=>rfl);(case hr=>go_simp <;> rfl);(case hp=>exact(Reps.none _ _))
     intro κ w7 τ hb hg_ hnew_
     clear hg_ hnew_
     (first|rw[← ab.out] at τ |(simp only[Int.reduceToNat] at τ;rw[← ab.out] at τ))
     have Y:=aK (Kd.Za τ (Qm HB.out))
     replace O:=sBk O hb
     replace X:=sBk X hb
     replace HB:=sHb hb
     clear hb τ
     refine hK.out _ _ ⟨qc O,qc O⟩ (fun hHeld=>?_)
     clear hK K
     refine qN (some 3) ?_
     refine K4 (i:=3) (j:=4) (Ni:=some 6) (Nj:=some 7) (bN 10 111) (bN 10 119) rfl rfl rfl rfl (Yg HT_.out kr) (by decide) (by decide) (fun K hK=>?_) (fun K hK=>?_)
     ·skip
      refine Kd.Zp k36 (w0:=w) w.heap.size (by rfl) (.tmp 3) (.tmp 5) 47 36 (.agg #[(nI 0),(nI 0),(nI 0)]) 24 rfl Try.underlying47 Y7 rfl (by decide) (by omega) κ θ B _ _ _ (fun _=>True) (fun _=>False) rfl rfl ?aO ?aR (fun _ _ h=>h) (fun _ h=>h.elim) ?aF ?aB ?aS ?aL ?_
      (case aR=>exact(Kd.Qw av.out HB.out))
      (case aB=>exact HB.out)
      (case aF=>exact(fun _ _=>trivial))
      (case aO=>exact Y.out)
      (case aS=>exact(Qm HB.out))
      (case aL=>have:=af.out;omega)
      intro a2 w9 ho hb hg hat
      rw[← ae.out] at ho
      have ζ :=aK ho
      replace O:=aK (Qy (g:= ε) (o:=.cells #[.slice ρ B.length μ,.slice ξ J.length ν] 50 (0,0)) O.out hg (Kd.Zo Y.out O.out (by decide)))
      replace X:=aK (Qy (g:= ι) (o:=.cells #[.slice none 0 0,.slice none 0 0] 50 (0,0)) X.out hg (Kd.Zo Y.out X.out (by decide)))
      replace HB:=aK hb
      clear Y
      clear ho hb hg hat
      refine hK.out _ _ ⟨qc O,qc O⟩ (fun hHeld=>?_)
      clear hK K
      refine qN (some 6) ?_
      refine qK 4 (some 7) (bN 10 127) HT_ fun K hK=>?_
      refine Kd.Z7 k86 _ 86 ?hg (N:=7) ?hd (xs:=([]:List (S86))) (inner:=[]) (ok:=fun _=>True) (okp:=fun _=>True) ?hr ?hp (fun _ hk=>hk) trivial (Below.refl _ _) (Nat.le_refl _) (by simp) ?_;(case hd=>rfl);(case hg=>rfl);(case hr=>go_simp <;> rfl);(case hp=>exact(Reps.none _ _))
      intro ψ fj ac hb hg_ hnew_
      clear hg_ hnew_
      (first|rw[← a0.out] at ac|(simp only[Int.reduceToNat] at ac;rw[← a0.out] at ac))
      have γ:=aK (Kd.Za ac (Qm HB.out))
      replace ζ :=sRb ζ hb
      replace O:=sBk O hb
      replace X:=sBk X hb
      replace HB:=sHb hb
      clear hb ac
      refine hK.out _ _ ⟨qc O,qc O⟩ (fun hHeld=>?_)
      clear hK K
      refine qN (some 7) ?_
      exact Zv (by simp only[Zc,Act.put,qS]) (hCont (κ,a2,ψ) _ ⟨hHeld,ζ.out,γ.out,O.out,X.out,HB.out⟩)
     ·skip
      refine Kd.Z7 k86 _ 86 ?hg (N:=7) ?hd (xs:=([]:List (S86))) (inner:=[]) (ok:=fun _=>True) (okp:=fun _=>True) ?hr ?hp (fun _ hk=>hk) trivial (Below.refl _ _) (Nat.le_refl _) (by simp) ?_;(case hd=>rfl);(case hg=>rfl);(case hr=>go_simp <;> rfl);(case hp=>exact(Reps.none _ _))
      intro ψ w9 Z hb hg_ hnew_
      clear hg_ hnew_
      (first|rw[← a0.out] at Z|(simp only[Int.reduceToNat] at Z;rw[← a0.out] at Z))
      have γ:=aK (Kd.Za Z (Qm HB.out))
      replace Y:=sRb Y hb
      replace O:=sBk O hb
      replace X:=sBk X hb
      replace HB:=sHb hb
      clear hb Z
      refine hK.out _ _ ⟨qc O,qc O⟩ (fun hHeld=>?_)
      clear hK K
      refine qN (some 7) ?_
      refine qK 3 (some 6) (bN 10 127) HT_ fun K hK=>?_
      refine Kd.Zp k36 (w0:=w) w.heap.size (by rfl) (.tmp 3) (.tmp 5) 47 36 (.agg #[(nI 0),(nI 0),(nI 0)]) 24 rfl Try.underlying47 Y7 rfl (by decide) (by omega) κ θ B _ _ _ (fun _=>True) (fun _=>False) rfl rfl ?aO ?aR (fun _ _ h=>h) (fun _ h=>h.elim) ?aF ?aB ?aS ?aL ?_
      (case aR=>exact(Kd.Qw av.out HB.out))
      (case aB=>exact HB.out)
      (case aF=>exact(fun _ _=>trivial))
      (case aO=>exact Y.out)
      (case aS=>exact(Qm HB.out))
      (case aL=>have:=af.out;omega)
      intro a2 d1 ho hb hg hat
      rw[← ae.out] at ho
      have ζ :=aK ho
      replace O:=aK (Qy (g:= ε) (o:=.cells #[.slice ρ B.length μ,.slice ξ J.length ν] 50 (0,0)) O.out hg (Kd.Zo Y.out O.out (by decide)))
      replace X:=aK (Qy (g:= ι) (o:=.cells #[.slice none 0 0,.slice none 0 0] 50 (0,0)) X.out hg (Kd.Zo Y.out X.out (by decide)))
      replace γ:=aK (Kd.Jk γ.out (Kd.Jj Y.out) (by decide) hg)
      replace HB:=aK hb
      clear Y
      clear ho hb hg hat
      refine hK.out _ _ ⟨qc O,qc O⟩ (fun hHeld=>?_)
      clear hK K
      refine qN (some 6) ?_
      exact Zv (by simp only[Zc,Act.put,qS]) (hCont (κ,a2,ψ) _ ⟨hHeld,ζ.out,γ.out,O.out,X.out,HB.out⟩)
    ·skip
     refine Kd.Z7 k86 _ 86 ?hg (N:=7) ?hd (xs:=([]:List (S86))) (inner:=[]) (ok:=fun _=>True) (okp:=fun _=>True) ?hr ?hp (fun _ hk=>hk) trivial (Below.refl _ _) (Nat.le_refl _) (by simp) ?_;(case hd=>rfl);(case hg=>rfl);(case hr=>go_simp <;> rfl);(case hp=>exact(Reps.none _ _))
     intro ψ w7 τ hb hg_ hnew_
     clear hg_ hnew_
     (first|rw[← a0.out] at τ |(simp only[Int.reduceToNat] at τ;rw[← a0.out] at τ))
     have γ:=aK (Kd.Za τ (Qm HB.out))
     replace O:=sBk O hb
     replace X:=sBk X hb
     replace HB:=sHb hb
     clear hb τ
     refine hK.out _ _ ⟨qc O,qc O⟩ (fun hHeld=>?_)
     clear hK K
     refine qN (some 7) ?_
     refine qK 0 (some 3) (bN 10 119) HT_ fun K hK=>?_
     refine Kd.Z7 k36 _ 36 ?hg (N:=3) ?hd (xs:=([]:List (S36))) (inner:=[]) (ok:=fun _=>True) (okp:=fun _=>True) ?hr ?hp (fun _ hk=>hk) trivial (Below.refl _ _) (Nat.le_refl _) (by simp) ?_;(case hd=>rfl);(case hg=>rfl);(case hr=>go_simp <;> rfl);(case hp=>exact(Reps.none _ _))
     intro κ w9 Z hb hg_ hnew_
     clear hg_ hnew_
     (first|rw[← ab.out] at Z|(simp only[Int.reduceToNat] at Z;rw[← ab.out] at Z))
     have Y:=aK (Kd.Za Z (Qm HB.out))
     replace γ:=sRb γ hb
     replace O:=sBk O hb
     replace X:=sBk X hb
     replace HB:=sHb hb
     clear hb Z
     refine hK.out _ _ ⟨qc O,qc O⟩ (fun hHeld=>?_)
     clear hK K
     refine qN (some 3) ?_
     refine qK 3 (some 6) (bN 10 127) HT_ fun K hK=>?_
     refine Kd.Zp k36 (w0:=w) w.heap.size (by rfl) (.tmp 3) (.tmp 5) 47 36 (.agg #[(nI 0),(nI 0),(nI 0)]) 24 rfl Try.underlying47 Y7 rfl (by decide) (by omega) κ θ B _ _ _ (fun _=>True) (fun _=>False) rfl rfl ?aO ?aR (fun _ _ h=>h) (fun _ h=>h.elim) ?aF ?aB ?aS ?aL ?_
     (case aR=>exact(Kd.Qw av.out HB.out))
     (case aB=>exact HB.out)
     (case aF=>exact(fun _ _=>trivial))
     (case aO=>exact Y.out)
     (case aS=>exact(Qm HB.out))
     (case aL=>have:=af.out;omega)
     intro a2 d1 ho hb hg hat
     rw[← ae.out] at ho
     have ζ :=aK ho
     replace O:=aK (Qy (g:= ε) (o:=.cells #[.slice ρ B.length μ,.slice ξ J.length ν] 50 (0,0)) O.out hg (Kd.Zo Y.out O.out (by decide)))
     replace X:=aK (Qy (g:= ι) (o:=.cells #[.slice none 0 0,.slice none 0 0] 50 (0,0)) X.out hg (Kd.Zo Y.out X.out (by decide)))
     replace γ:=aK (Kd.Jk γ.out (Kd.Jj Y.out) (by decide) hg)
     replace HB:=aK hb
     clear Y
     clear ho hb hg hat
     refine hK.out _ _ ⟨qc O,qc O⟩ (fun hHeld=>?_)
     clear hK K
     refine qN (some 6) ?_
     exact Zv (by simp only[Zc,Act.put,qS]) (hCont (κ,a2,ψ) _ ⟨hHeld,ζ.out,γ.out,O.out,X.out,HB.out⟩)
   rintro⟨κ,a2,ψ⟩ dn ⟨hS_,b8,b9,ba,bb,bc⟩
   have φ :Aside0 (Kd.R k36 36 dn w.heap.size (fun _=>True) a2 a1):=⟨b8⟩
   have χ :Aside0 (Kd.R k86 86 dn w.heap.size (fun _=>True) ψ δ):=⟨b9⟩
   have ω :Aside0 (dn.heap[ε]?=some (.cells #[.slice ρ B.length μ,.slice ξ J.length ν] 50 (0,0))):=⟨ba⟩
   have a6:Aside0 (dn.heap[ι]?=some (.cells #[.slice none 0 0,.slice none 0 0] 50 (0,0))):=⟨bb⟩
   have ah:Aside0 (Below w.heap.size w dn):=⟨bc⟩
   clear O
   clear X
   clear HB
   clear b8 b9 ba bb bc
   have ζ := φ
   have γ:= χ
   have O:= ω
   have X:=a6
   have HB:=ah
   clear φ χ ω a6 ah
   have hHeld:dn.cell? ⟨ε,0,none⟩=some (.slice ρ B.length μ)∧dn.cell? ⟨ε,1,none⟩=some (.slice ξ J.length ν):=hS_
   refine Zv (a':=?_) ?_ ?_
   rotate_left
   ·simp only[Zc,Act.put,qS]
    rfl
   refine qK 7 (some 10) (bN 10 255) HT_ fun K hK=>?_
   refine Kd.Zp k86 (w0:=w) w.heap.size (by rfl) (.tmp 7) (.tmp 9) 48 86 (.agg #[(nI 0),(nI 0)]) 16 rfl Try.underlying48 Gt rfl (by decide) (by omega) ψ δ J _ _ _ (fun _=>True) (fun _=>False) rfl rfl ?aO ?aR (fun _ _ h=>h) (fun _ h=>h.elim) ?aF ?aB ?aS ?aL ?_
   (case aR=>exact(Kd.Qw bk.out HB.out))
   (case aB=>exact HB.out)
   (case aF=>exact(fun _ _=>trivial))
   (case aO=>exact γ.out)
   (case aS=>exact(Qm HB.out))
   (case aL=>have:=ay.out;omega)
   intro be eh ho hb hg hat
   rw[← am.out] at ho
   have ai:=aK ho
   replace O:=aK (Qy (g:= ε) (o:=.cells #[.slice ρ B.length μ,.slice ξ J.length ν] 50 (0,0)) O.out hg (Kd.Zo γ.out O.out (by decide)))
   replace X:=aK (Qy (g:= ι) (o:=.cells #[.slice none 0 0,.slice none 0 0] 50 (0,0)) X.out hg (Kd.Zo γ.out X.out (by decide)))
   replace ζ :=aK (Kd.Jk ζ.out (Kd.Jj γ.out) (by decide) hg)
   replace HB:=aK hb
   clear γ
   clear ho hb hg hat
   obtain⟨et,eu,dw⟩:=Kd.Q7 ai.out
   (first|subst dw|(injection dw with a9 ao aa;have ap:=a9.symm;have ar:=aa.symm;clear a9 ao aa;subst ap;subst ar))
   obtain⟨ci,cp,ch⟩:=Kd.Q7 ζ.out
   (first|subst ch|(injection ch with a9 ao aa;have ap:=a9.symm;have ar:=aa.symm;clear a9 ao aa;subst ap;subst ar))
   refine hK.out _ _ ⟨qc O,qc O⟩ (fun hHeld=>?_)
   clear hK K
   refine qN (some 10) ?_
   refine qP 8 (some 11) (bN 10 511) HT_ ?_
   refine qK 9 (none) (bN 10 1023) HT_ fun K hK=>?_
   have b0:eh.cell? ⟨ι,0,none⟩=some (.slice none 0 0):=(Qa X.out 0).trans rfl
   have az:=Qg X.out 0
   have al:= η.out
   have an:=a8.out
   have bf:eh.cell? ⟨ι,1,none⟩=some (.slice none 0 0):=(Qa X.out 1).trans rfl
   have bd:=Qg X.out 1
   have b1:= η.out
   have b2:=a8.out
   refine K9 (w1:=?_) (by rfl) rfl ?_ ?_
   rotate_left
   ·go_simp
    rfl
   refine hK.out _ _ ⟨(cF η ((cF η (hHeld.1)))),(cF η ((cF η (hHeld.2))))⟩ (fun hHeld=>?_)
   clear hK K
   refine Zl (Ze HT_.out kr) ?_
   try go_wp2
   refine bodyPost_ret (results_cell_row rfl _ _ ι 50 #[.slice ci a1.length cp,.slice et aj.length eu] (0,0) _ rfl (by refine Qo (cs:=#[.slice ci a1.length cp,.slice none 0 0]) ?_ 1 _ rfl;refine Qo (cs:=#[.slice none 0 0,.slice none 0 0]) ?_ 0 _ rfl;exact X.out) Try.underlying50 rfl kr) rfl ?_
   exact⟨_,_,by first|rfl|(simp[Ql,Qk] <;> rfl)|(simp[*,Ql,Qk] <;> rfl),by(with_reducible repeat first|apply Kd.Qs|apply Kd.Qr|apply Kd.Qu);exact Kd.Qv (Kd.Qx (Kd.Qx (Kd.Q4 ζ.out X.out (by decide)) (fun _ hk=>hk.2) _) (fun _ hk=>hk.2) _) (fun _ hk=>trivial),by(with_reducible repeat first|apply Kd.Qs|apply Kd.Qr|apply Kd.Qu);exact Kd.Qv (Kd.Qx (Kd.Qx (Kd.Q4 ai.out X.out (by decide)) (fun _ hk=>hk.2) _) (fun _ hk=>hk.2) _) (fun _ hk=>trivial),bel⟩
  ·rw[if_neg c3] at H
   exact absurd H (by simp)
 ·rw[if_neg c2] at H
  exact absurd H (by simp)
def newelref19_Hall.j0:Nat→Bool→Int→Int→Int→Int→Int→Option (Bool)
 |0,_,_,_,_,_,_=>none
 |k+1,δ,J,X,B,O,Y=>if δ = true then (some false) else (if O=1 then (if B≥0 then (some (decide (B≤(wrap64 (J-2))))) else (some false)) else (if O=(-1) then (if B≥1 then (some (decide (B≤(wrap64 (J-1))))) else (some false)) else (some false)))
def newelref19_Hall.f (k:Nat) (B:Int) (J:Int) (X:Int) (ζ :Int) (ι :Int):Option (Bool):=if ι < (-1) then (newelref19_Hall.j0 k true B J X ζ ι) else (newelref19_Hall.j0 k (decide (ι ≥ J)) B J X ζ ι)
theorem newelref19_Hall.calls (k:Nat) (B:Int) (J:Int) (X:Int) (ζ :Int) (ι :Int) (r:Bool) (w:World) (h:newelref19_Hall.f k B J X ζ ι = some r):
 Calls Try.prog 18 #[.agg #[nI B,nI J],.agg #[nI X,nI ζ,nI ι]] w fun e w'=>e = .returned (.bool r)∧Below w.heap.size w w':=by
 have dw:=Try.underlying59
 have cg:=Try.underlying36
 have HB:=aK (Below.refl w.heap.size w)
 have H:(if ι < (-1) then (newelref19_Hall.j0 k true B J X ζ ι) else (newelref19_Hall.j0 k (decide (ι ≥ J)) B J X ζ ι))=some r:=h
 clear h
 have ao:=aK H
 clear H
 go_enter Try.func18,Try.ntmps18
 go_upto_region 1 with(first|((with_reducible refine Qe (N:=2) rfl ?_);refine qE 2 #[nI B,nI J] 59 ?_;intro δ hg w4 hbox hb;have Z:=aK hbox;have η :=sGe hg;have θ :=sGe hg;replace HB:=sHb hb;clear hb hbox hg)|((with_reducible refine Qe (N:=3) rfl ?_);refine qE 3 #[nI X,nI ζ,nI ι] 36 ?_;intro ε hg w5 hbox hb;have γ:=aK hbox;have κ :=sGe hg;have μ :=sGe hg;have O:=sNl Z hg;have Y:=sNg Z hg;replace Z:=sBk Z hb;replace HB:=sHb hb;clear hb hbox hg))
 (try simp only[Act.put,qS])
 go_cut [14] (fun ap wc=>∃ (kq:Nat) (ρ:Bool),ap = .bool ρ∧Aside0 (newelref19_Hall.j0 kq ρ B J X ζ ι = some r)∧Aside0 (kq≤k)∧Aside0 (wc.heap[δ]?=some (.cells #[nI B,nI J] 59 (0,0)))∧Aside0 (wc.heap[ε]?=some (.cells #[nI X,nI ζ,nI ι] 36 (0,0)))∧Aside0 (Below w.heap.size w wc))
 case first=>
  have H:=ao.out
  clear ao
  by_cases c6: ι < (-1)
  ·rw[if_pos c6] at H
   have c6b0:=decide_eq_true c6
   clear c6
   (first|rw[c6b0]|(simp only[Zy,Z8];rw[c6b0])|skip)
   have H':=aK H
   clear H
   have da:=Y.out
   have dk:=O.out
   obtain⟨ac,ae,ab,ah,al,b5⟩:=qD3 γ.out
   go_wp2
   go_meet
   case rel=>exact⟨_,(true),rfl,H',⟨by first|omega|exact Nat.le_refl _⟩,Z,γ,HB⟩
  ·rw[if_neg c6] at H
   have c6b0:=decide_eq_false c6
   clear c6
   (first|rw[c6b0]|(simp only[Zy,Z8];rw[c6b0])|skip)
   have H':=aK H
   clear H
   have jp:=Y.out
   have jq:=O.out
   obtain⟨bg,bh,du,bk,bm,dv⟩:=qD3 γ.out
   obtain⟨ci,cp,cq,cr⟩:=qD2 Z.out
   go_wp2
   go_meet
   case rel=>exact⟨_,(decide (ι ≥ J)),rfl,H',⟨by first|omega|exact Nat.le_refl _⟩,Z,γ,HB⟩
 case rest=>
  clear ao
  obtain⟨kq,ρ,rfl,HA,cf,Z,γ,HB⟩:=hcut
  cases kq with
  |zero=>exact absurd HA.out (by simp[newelref19_Hall.j0])
  |succ e3=>
   have H:=HA.out
   clear HA
   simp only[newelref19_Hall.j0] at H
   by_cases a3:ρ=true
   ·subst a3
    rw[if_pos rfl] at H
    obtain rfl:=qJ H
    go_wp2
    go_ret
    exact⟨rfl,HB.out⟩
   ·replace a3:=Bool.eq_false_iff.mpr a3
    subst a3
    rw[if_neg nft] at H
    by_cases a2: ζ = 1
    ·rw[if_pos a2] at H
     have c13b0:(ζ == 1)=true:=beq_iff_eq.mpr a2
     have c13b1:(ζ != 1)=false:=bne_eq_false_iff_eq.mpr a2
     clear a2
     by_cases σ:X≥0
     ·rw[if_pos σ] at H
      have c14b0:decide (0≤X)=true:=decide_eq_true σ
      clear σ
      obtain rfl:=qJ H
      have ge:=Y.out
      have gf:=O.out
      obtain⟨d3,d4,ω,d5,d6,b9⟩:=qD3 γ.out
      obtain⟨az,b0,b1,b2⟩:=qD2 Z.out
      go_wp2
      go_ret
      exact⟨rfl,HB.out⟩
     ·rw[if_neg σ] at H
      have c14b0:decide (0≤X)=false:=decide_eq_false σ
      clear σ
      obtain rfl:=qJ H
      have db:=Y.out
      have dc:=O.out
      obtain⟨ag,ai,b3,aj,am,b4⟩:=qD3 γ.out
      go_wp2
      go_ret
      exact⟨rfl,HB.out⟩
    ·rw[if_neg a2] at H
     have c13b0:(ζ == 1)=false:=beq_eq_false_iff_ne.mpr a2
     have c13b1:(ζ != 1)=true:=bne_iff_ne.mpr a2
     by_cases bd: ζ = (-1)
     ·rw[if_pos bd] at H
      have c20b0:(ζ == (-1))=true:=beq_iff_eq.mpr bd
      have c20b1:(ζ != (-1))=false:=bne_eq_false_iff_eq.mpr bd
      clear bd
      by_cases ak:X≥1
      ·rw[if_pos ak] at H
       have c21b0:decide (1≤X)=true:=decide_eq_true ak
       clear ak
       obtain rfl:=qJ H
       have ek:=Y.out
       have el:=O.out
       obtain⟨ct,cy,dh,cz,d2,di⟩:=qD3 γ.out
       obtain⟨au,av,aw,ax⟩:=qD2 Z.out
       go_wp2
       go_ret
       exact⟨rfl,HB.out⟩
      ·rw[if_neg ak] at H
       have c21b0:decide (1≤X)=false:=decide_eq_false ak
       clear ak
       obtain rfl:=qJ H
       have eo:=Y.out
       have ep:=O.out
       obtain⟨ay,cu,df,cw,cx,dj⟩:=qD3 γ.out
       go_wp2
       go_ret
       exact⟨rfl,HB.out⟩
     ·rw[if_neg bd] at H
      have c20b0:(ζ == (-1))=false:=beq_eq_false_iff_ne.mpr bd
      have c20b1:(ζ != (-1))=true:=bne_iff_ne.mpr bd
      obtain rfl:=qJ H
      have fy:=Y.out
      have fz:=O.out
      obtain⟨ew,fk,fl,ey,fm,fn⟩:=qD3 γ.out
      go_wp2
      go_ret
      exact⟨rfl,HB.out⟩
theorem eqA36 (d:Nat) (w:World) (B O:Int) (J X:Int) (Y Z:Int):
 (Op.equalIn (d+2) 36 (.agg #[nI B,nI J,nI Y]) (.agg #[nI O,nI X,nI Z])).run Try.prog w = .ok (B==O&&(J==X&&(Y==Z))) w:=by
 refine Ex Try.underlying36 kr ?_
 refine Vv (by rfl) (by go_simp;rfl) (by go_simp;rfl) (by go_simp) ?_
 refine Vv (by rfl) (by go_simp;rfl) (by go_simp;rfl) (by go_simp) ?_
 exact W7 (by rfl) (by go_simp;rfl) (by go_simp;rfl) (by go_simp)
theorem eqA86 (d:Nat) (w:World) (B O:Int) (J X:Int):
 (Op.equalIn (d+2) 86 (.agg #[nI B,nI J]) (.agg #[nI O,nI X])).run Try.prog w = .ok (B==O&&(J==X)) w:=by
 refine Ex Try.underlying86 kr ?_
 refine Vv (by rfl) (by go_simp;rfl) (by go_simp;rfl) (by go_simp) ?_
 exact W7 (by rfl) (by go_simp;rfl) (by go_simp;rfl) (by go_simp)
end Go.Proofs.Ytmfffemidlhcpaa.C
namespace Go.Proofs.Ytmfffemidlhcpaa.C
open Go.RowKit Go.Proofs.YtmfffemidlhcpaaW.PrintWords Go.Proofs.YtmfffemidlhcpaaW.PrintLast Go.Proofs.YtmfffemidlhcpaaW.PrintMore
attribute [local go_sem] Z2 Z0 Xb Xa Zt Zs Z1 Zz
attribute [local go_sem high] eqA36 eqA86
mutual
def newelref19_Same.j0:Nat→Bool→List (S36)→List (S86)→List (S36)→List (S86)→Option (Bool)
 |0,_,_,_,_,_=>none
 |k+1,O,B,Y,J,Z=>if O=true then (some false) else (newelref19_Same.l0 k 0 B Y J Z)
def newelref19_Same.l0:Nat→Int→List (S36)→List (S86)→List (S36)→List (S86)→Option (Bool)
 |0,_,_,_,_,_=>none
 |k+1,X,B,Y,J,Z=>if X<(B.length:Int) then (if 0≤X then (if X<(J.length:Int) then (if (!(((Qb B X).f0)==((Qb J X).f0))||(!(((Qb B X).f1)==((Qb J X).f1))||(!(((Qb B X).f2)==((Qb J X).f2)))))=true then (some false) else (newelref19_Same.l0 k (wrap64 (X+1)) B Y J Z)) else (none)) else (none)) else (newelref19_Same.l1 k 0 B Y J Z)
def newelref19_Same.l1:Nat→Int→List (S36)→List (S86)→List (S36)→List (S86)→Option (Bool)
 |0,_,_,_,_,_=>none
 |k+1,O,B,Y,J,Z=>if O<(Y.length:Int) then (if 0≤O then (if O<(Z.length:Int) then (if (!(((Qp Y O).f0)==((Qp Z O).f0))||(!(((Qp Y O).f1)==((Qp Z O).f1))))=true then (some false) else (newelref19_Same.l1 k (wrap64 (O+1)) B Y J Z)) else (none)) else (none)) else (some true)
end
def newelref19_Same.f (k:Nat) (B:List (S36)) (J:List (S86)) (O:List (S36)) (X:List (S86)):Option (Bool):=if (B.length:Int)=(O.length:Int) then (newelref19_Same.j0 k ((J.length:Int) != (X.length:Int)) B J O X) else (newelref19_Same.j0 k true B J O X)
theorem newelref19_Same.calls (k:Nat) (ρ:Option Addr) (μ :Nat) (B:List (S36)) (ξ :Option Addr) (ν :Nat) (J:List (S86)) (ι :Option Addr) (ζ :Nat) (O:List (S36)) (κ :Option Addr) (η :Nat) (X:List (S86)) (r:Bool) (w:World) (ak:Kd.C k36 w ρ B.length B) (au:B.length ≤ μ) (aw:Kd.C k86 w ξ J.length J) (ax:J.length ≤ ν) (b4:Kd.C k36 w ι O.length O) (b9:O.length ≤ ζ) (ba:Kd.C k86 w κ X.length X) (bb:X.length ≤ η) (h:newelref19_Same.f k B J O X=some r):
 Calls Try.prog 22 #[.agg #[.slice ρ B.length μ,.slice ξ J.length ν],.agg #[.slice ι O.length ζ,.slice κ X.length η]] w fun e w'=>e = .returned (.bool r)∧Below w.heap.size w w':=by
 have d0:=Try.underlying50
 have cg:=Try.underlying36
 have d8:=Try.underlying86
 have av:=aK ak
 have bl:=aK au
 clear ak au
 have bk:=aK aw
 have d9:=aK ax
 clear aw ax
 have τ :=aK b4
 have bg:=aK b9
 clear b4 b9
 have a0:=aK ba
 have bh:=aK bb
 clear ba bb
 have HB:=aK (Below.refl w.heap.size w)
 have H:(if (B.length:Int)=(O.length:Int) then (newelref19_Same.j0 k ((J.length:Int) != (X.length:Int)) B J O X) else (newelref19_Same.j0 k true B J O X))=some r:=h
 clear h
 have ao:=aK H
 clear H
 go_enter Try.func22,Try.ntmps22
 go_upto_region 1 with(first|((with_reducible refine Qe (N:=2) rfl ?_);(try(refine Zk (by rfl) ?_;dsimp only));refine qE 2 #[.slice ρ B.length μ,.slice ξ J.length ν] 50 ?_;intro Z hg w4 hbox hb;have Y:=aK hbox;have bo:=sGe hg;have bs:=sGe hg;replace HB:=sHb hb;clear hb hbox hg)|((with_reducible refine Qe (N:=3) rfl ?_);(try(refine Zk (by rfl) ?_;dsimp only));refine qE 3 #[.slice ι O.length ζ,.slice κ X.length η] 50 ?_;intro cj hg w5 hbox hb;have φ :=aK hbox;have d4:=sGe hg;have d5:=sGe hg;have ε :=sNl Y hg;have θ :=sNg Y hg;replace Y:=sBk Y hb;replace HB:=sHb hb;clear hb hbox hg))
 repeat(go_quiet (first|((with_reducible refine Qe (N:=2) rfl ?_);(try(refine Zk (by rfl) ?_;dsimp only));refine qE 2 #[.slice ρ B.length μ,.slice ξ J.length ν] 50 ?_;intro Z hg w4 hbox hb;have Y:=aK hbox;have bo:=sGe hg;have bs:=sGe hg;replace HB:=sHb hb;clear hb hbox hg)|((with_reducible refine Qe (N:=3) rfl ?_);(try(refine Zk (by rfl) ?_;dsimp only));refine qE 3 #[.slice ι O.length ζ,.slice κ X.length η] 50 ?_;intro cj hg w5 hbox hb;have φ :=aK hbox;have d4:=sGe hg;have d5:=sGe hg;have ε :=sNl Y hg;have θ :=sNg Y hg;replace Y:=sBk Y hb;replace HB:=sHb hb;clear hb hbox hg));go_upto_region 1 with(first|((with_reducible refine Qe (N:=2) rfl ?_);(try(refine Zk (by rfl) ?_;dsimp only));refine qE 2 #[.slice ρ B.length μ,.slice ξ J.length ν] 50 ?_;intro Z hg w4 hbox hb;have Y:=aK hbox;have bo:=sGe hg;have bs:=sGe hg;replace HB:=sHb hb;clear hb hbox hg)|((with_reducible refine Qe (N:=3) rfl ?_);(try(refine Zk (by rfl) ?_;dsimp only));refine qE 3 #[.slice ι O.length ζ,.slice κ X.length η] 50 ?_;intro cj hg w5 hbox hb;have φ :=aK hbox;have d4:=sGe hg;have d5:=sGe hg;have ε :=sNl Y hg;have θ :=sNg Y hg;replace Y:=sBk Y hb;replace HB:=sHb hb;clear hb hbox hg)))
 (try simp only[Act.put,qS])
 go_cut [22] (fun dh wc=>∃ (kq:Nat) (cu:Bool),dh = .bool cu∧Aside0 (newelref19_Same.j0 kq cu B J O X=some r)∧Aside0 (kq≤k)∧Aside0 (wc.heap[Z]?=some (.cells #[(.slice ρ B.length μ),(.slice ξ J.length ν)] 50 (0,0)))∧Aside0 (wc.heap[cj]?=some (.cells #[(.slice ι O.length ζ),(.slice κ X.length η)] 50 (0,0)))∧Aside0 (Below w.heap.size w wc))
 case first=>
  have H:=ao.out
  clear ao
  by_cases c6:(B.length:Int)=(O.length:Int)
  ·rw[if_pos c6] at H
   have c6b0:((B.length:Int)==(O.length:Int))=true:=beq_iff_eq.mpr c6
   have c6b1:((B.length:Int) != (O.length:Int))=false:=bne_eq_false_iff_eq.mpr c6
   have c6b2:(B.length==O.length)=true:=by first|simpa using c6|(simp at c6 ⊢;omega)
   clear c6
   (first|rw[c6b0]|(simp only[Zy,Z8];rw[c6b0])|skip)
   have H':=aK H
   clear H
   have da:= ε.out
   have dk:= θ.out
   obtain⟨ac,ae,ah,al⟩:=qD2 Y.out
   obtain⟨b6,bi,bz,ch⟩:=qD2 φ.out
   go_wp2
   repeat(go_quiet (fail);try go_wp2)
   go_meet
   case rel=>exact⟨_,(((J.length:Int) != (X.length:Int))),rfl,H',⟨by first|omega|exact Nat.le_refl _⟩,Y,φ,HB⟩
  ·rw[if_neg c6] at H
   have c6b0:((B.length:Int)==(O.length:Int))=false:=beq_eq_false_iff_ne.mpr c6
   have c6b1:((B.length:Int) != (O.length:Int))=true:=bne_iff_ne.mpr c6
   have c6b2:(B.length==O.length)=false:=by first|simpa using c6|(simp at c6 ⊢;omega)
   (first|rw[c6b0]|(simp only[Zy,Z8];rw[c6b0])|skip)
   have H':=aK H
   clear H
   have cx:= ε.out
   have dj:= θ.out
   obtain⟨ci,cp,cq,cr⟩:=qD2 Y.out
   obtain⟨a1,a3,af,ar⟩:=qD2 φ.out
   go_wp2
   repeat(go_quiet (fail);try go_wp2)
   go_meet
   case rel=>exact⟨_,(true),rfl,H',⟨by first|omega|exact Nat.le_refl _⟩,Y,φ,HB⟩
 case rest=>
  clear ao
  obtain⟨kq,cu,rfl,HA,cf,Y,φ,HB⟩:=hcut
  cases kq with
  |zero=>exact absurd HA.out (by simp[newelref19_Same.j0])
  |succ e3=>
   have H:=HA.out
   clear HA
   simp only[newelref19_Same.j0] at H
   by_cases a2:cu=true
   ·subst a2
    rw[if_pos rfl] at H
    obtain rfl:=qJ H
    go_wp2
    repeat(go_quiet (fail);try go_wp2)
    go_ret
    exact⟨rfl,HB.out⟩
   ·replace a2:=Bool.eq_false_iff.mpr a2
    subst a2
    rw[if_neg nft] at H
    have H':=aK H
    clear H
    go_wp2
    repeat(go_quiet (fail);try go_wp2)
    go_loopg [5] e3 (fun kq v5 w'=>∃ (γ:Int),v5=nI γ∧Aside0 (newelref19_Same.l0 kq γ B J O X=some r)∧Aside0 (kq≤e3)∧Aside0 (w'.heap[Z]?=some (.cells #[(.slice ρ B.length μ),(.slice ξ J.length ν)] 50 (0,0)))∧Aside0 (w'.heap[cj]?=some (.cells #[(.slice ι O.length ζ),(.slice κ X.length η)] 50 (0,0)))∧Aside0 (Below w.heap.size w w'))
    case atStart=>exact⟨(0),rfl,H',⟨Nat.le_refl _⟩,Y,φ,HB⟩
    case round=>
     clear H'
     try clear a2
     obtain⟨γ,rfl,HA,b7,Y,φ,HB⟩:=hrel
     cases gk with
     |zero=>exact absurd HA.out (by simp[newelref19_Same.l0])
     |succ k2=>
      have H:=HA.out
      clear HA
      simp only[newelref19_Same.l0] at H
      by_cases σ:γ<(B.length:Int)
      ·rw[if_pos σ] at H
       have c14b0:=decide_eq_true σ
       clear σ
       by_cases a8:0≤γ
       ·rw[if_pos a8] at H
        have c15b0:=decide_eq_true a8
        clear a8
        by_cases ab:γ<(O.length:Int)
        ·rw[if_pos ab] at H
         have c16b0:=decide_eq_true ab
         clear ab
         by_cases ψ :(!(((Qb B γ).f0)==((Qb O γ).f0))||(!(((Qb B γ).f1)==((Qb O γ).f1))||(!(((Qb B γ).f2)==((Qb O γ).f2)))))=true
         ·rw[if_pos ψ] at H
          have c17b0:(!(((Qb B γ).f0)==((Qb O γ).f0))||(!(((Qb B γ).f1)==((Qb O γ).f1))||(!(((Qb B γ).f2)==((Qb O γ).f2)))))=true:= ψ
          (try(have c17s0:=c17b0;simp only[beq_self_eq_true,bne_self_eq_false,Bool.not_true,Bool.not_false,Bool.true_and,Bool.and_true,Bool.false_or,Bool.or_false] at c17s0))
          clear ψ
          obtain rfl:=qJ H
          have db:= ε.out
          have dc:= θ.out
          obtain⟨ag,ai,aj,am⟩:=qD2 Y.out
          have bp:0≤(γ:Int):=of_decide_eq_true (by assumption)
          have bu:γ<(B.length:Int):=of_decide_eq_true (by assumption)
          obtain⟨d6,cv,χ,ω,a4⟩:=Z4 av.out γ bp bu
          cases cv
          replace χ :=sCl HB χ
          replace ω :=sCl HB ω
          replace a4:=sCl HB a4
          replace bp:=eq_true bp
          replace bu:=eq_true bu
          obtain⟨a7,a9,aa,an⟩:=qD2 φ.out
          have bv:0≤(γ:Int):=of_decide_eq_true (by assumption)
          have bw:γ<(O.length:Int):=of_decide_eq_true (by assumption)
          obtain⟨d7,cw,a6,ap,b3⟩:=Z4 τ.out γ bv bw
          cases cw
          replace a6:=sCl HB a6
          replace ap:=sCl HB ap
          replace b3:=sCl HB b3
          replace bv:=eq_true bv
          replace bw:=eq_true bw
          go_wp2
          repeat(go_quiet (fail);try go_wp2)
          go_ret
          exact⟨by first|rfl|(simp[Ql,Qk] <;> rfl)|(simp[*,Ql,Qk] <;> rfl),bel⟩
         ·rw[if_neg ψ] at H
          have c17b0:(!(((Qb B γ).f0)==((Qb O γ).f0))||(!(((Qb B γ).f1)==((Qb O γ).f1))||(!(((Qb B γ).f2)==((Qb O γ).f2)))))=false:=by simpa using ψ
          (try(have c17s0:=c17b0;simp only[beq_self_eq_true,bne_self_eq_false,Bool.not_true,Bool.not_false,Bool.true_and,Bool.and_true,Bool.false_or,Bool.or_false] at c17s0))
          clear ψ
          have H':=aK H
          clear H
          have em:= ε.out
          have en:= θ.out
          obtain⟨az,b0,b1,b2⟩:=qD2 Y.out
          have bp:0≤(γ:Int):=of_decide_eq_true (by assumption)
          have bu:γ<(B.length:Int):=of_decide_eq_true (by assumption)
          obtain⟨d6,cv,χ,ω,a4⟩:=Z4 av.out γ bp bu
          cases cv
          replace χ :=sCl HB χ
          replace ω :=sCl HB ω
          replace a4:=sCl HB a4
          replace bp:=eq_true bp
          replace bu:=eq_true bu
          obtain⟨ct,cy,cz,d2⟩:=qD2 φ.out
          have bv:0≤(γ:Int):=of_decide_eq_true (by assumption)
          have bw:γ<(O.length:Int):=of_decide_eq_true (by assumption)
          obtain⟨d7,cw,a6,ap,b3⟩:=Z4 τ.out γ bv bw
          cases cw
          replace a6:=sCl HB a6
          replace ap:=sCl HB ap
          replace b3:=sCl HB b3
          replace bv:=eq_true bv
          replace bw:=eq_true bw
          go_wp2
          repeat(go_quiet (fail);try go_wp2)
          go_roundg k2
          case measure=>have:=cf.out;have:=b7.out;omega
          case rel=>exact⟨(wrap64 (γ+1)),qR,H',⟨by have:=cf.out;have:=b7.out;omega⟩,⟨bka Y⟩,⟨bka φ⟩,⟨bel⟩⟩
        ·rw[if_neg ab] at H
         exact absurd H (by simp)
       ·rw[if_neg a8] at H
        exact absurd H (by simp)
      ·rw[if_neg σ] at H
       have c14b0:=decide_eq_false σ
       clear σ
       have H':=aK H
       clear H
       have dy:= ε.out
       have dz:= θ.out
       obtain⟨b8,bn,bq,br⟩:=qD2 Y.out
       go_wp2
       repeat(go_quiet (fail);try go_wp2)
       go_loopg [6] k2 (fun kq v6 w'=>∃ (δ :Int),v6=nI δ ∧ Aside0 (newelref19_Same.l1 kq δ B J O X=some r)∧Aside0 (kq≤k2)∧Aside0 (w'.heap[Z]?=some (.cells #[(.slice ρ B.length μ),(.slice ξ J.length ν)] 50 (0,0)))∧Aside0 (w'.heap[cj]?=some (.cells #[(.slice ι O.length ζ),(.slice κ X.length η)] 50 (0,0)))∧Aside0 (Below w.heap.size w w'))
       case atStart=>exact⟨(0),rfl,H',⟨Nat.le_refl _⟩,Y,φ,HB⟩
       case round=>
        clear H'
        try clear a2
        try clear c14b0
        try clear b8
        try clear bn
        try clear bq
        try clear br
        obtain⟨δ,rfl,HA,df,Y,φ,HB⟩:=hrel
        cases gk with
        |zero=>exact absurd HA.out (by simp[newelref19_Same.l1])
        |succ k3=>
         have H:=HA.out
         clear HA
         simp only[newelref19_Same.l1] at H
         by_cases ay: δ < (J.length:Int)
         ·rw[if_pos ay] at H
          have c26b0:=decide_eq_true ay
          clear ay
          by_cases bd:0 ≤ δ
          ·rw[if_pos bd] at H
           have c27b0:=decide_eq_true bd
           clear bd
           by_cases b5: δ < (X.length:Int)
           ·rw[if_pos b5] at H
            have c28b0:=decide_eq_true b5
            clear b5
            by_cases a5:(!(((Qp J δ).f0)==((Qp X δ).f0))||(!(((Qp J δ).f1)==((Qp X δ).f1))))=true
            ·rw[if_pos a5] at H
             have c29b0:(!(((Qp J δ).f0)==((Qp X δ).f0))||(!(((Qp J δ).f1)==((Qp X δ).f1))))=true:=a5
             (try(have c29s0:=c29b0;simp only[beq_self_eq_true,bne_self_eq_false,Bool.not_true,Bool.not_false,Bool.true_and,Bool.and_true,Bool.false_or,Bool.or_false] at c29s0))
             clear a5
             obtain rfl:=qJ H
             have dw:= ε.out
             have ea:= θ.out
             obtain⟨bj,ck,cn,co⟩:=qD2 Y.out
             have ca:0≤(δ :Int):=of_decide_eq_true (by assumption)
             have cb: δ < (J.length:Int):=of_decide_eq_true (by assumption)
             obtain⟨dd,d1,bc,be⟩:=Xi bk.out δ ca cb
             cases d1
             replace bc:=sCl HB bc
             replace be:=sCl HB be
             replace ca:=eq_true ca
             replace cb:=eq_true cb
             obtain⟨fy,fz,ga,gb⟩:=qD2 φ.out
             have cd:0≤(δ :Int):=of_decide_eq_true (by assumption)
             have ce: δ < (X.length:Int):=of_decide_eq_true (by assumption)
             obtain⟨de,d3,bf,bm⟩:=Xi a0.out δ cd ce
             cases d3
             replace bf:=sCl HB bf
             replace bm:=sCl HB bm
             replace cd:=eq_true cd
             replace ce:=eq_true ce
             go_wp2
             repeat(go_quiet (fail);try go_wp2)
             go_ret
             exact⟨by first|rfl|(simp[Ql,Qk] <;> rfl)|(simp[*,Ql,Qk] <;> rfl),bel⟩
            ·rw[if_neg a5] at H
             have c29b0:(!(((Qp J δ).f0)==((Qp X δ).f0))||(!(((Qp J δ).f1)==((Qp X δ).f1))))=false:=by simpa using a5
             (try(have c29s0:=c29b0;simp only[beq_self_eq_true,bne_self_eq_false,Bool.not_true,Bool.not_false,Bool.true_and,Bool.and_true,Bool.false_or,Bool.or_false] at c29s0))
             clear a5
             have H':=aK H
             clear H
             have gx:= ε.out
             have gy:= θ.out
             obtain⟨cm,f8,ed,fa⟩:=qD2 Y.out
             have ca:0≤(δ :Int):=of_decide_eq_true (by assumption)
             have cb: δ < (J.length:Int):=of_decide_eq_true (by assumption)
             obtain⟨dd,d1,bc,be⟩:=Xi bk.out δ ca cb
             cases d1
             replace bc:=sCl HB bc
             replace be:=sCl HB be
             replace ca:=eq_true ca
             replace cb:=eq_true cb
             obtain⟨eo,ep,et,fi⟩:=qD2 φ.out
             have cd:0≤(δ :Int):=of_decide_eq_true (by assumption)
             have ce: δ < (X.length:Int):=of_decide_eq_true (by assumption)
             obtain⟨de,d3,bf,bm⟩:=Xi a0.out δ cd ce
             cases d3
             replace bf:=sCl HB bf
             replace bm:=sCl HB bm
             replace cd:=eq_true cd
             replace ce:=eq_true ce
             go_wp2
             repeat(go_quiet (fail);try go_wp2)
             go_roundg k3
             case measure=>have:=cf.out;have:=b7.out;have:=df.out;omega
             case rel=>exact⟨(wrap64 (δ + 1)),qR,H',⟨by have:=cf.out;have:=b7.out;have:=df.out;omega⟩,⟨bka Y⟩,⟨bka φ⟩,⟨bel⟩⟩
           ·rw[if_neg b5] at H
            exact absurd H (by simp)
          ·rw[if_neg bd] at H
           exact absurd H (by simp)
         ·rw[if_neg ay] at H
          have c26b0:=decide_eq_false ay
          clear ay
          obtain rfl:=qJ H
          have dv:= ε.out
          have e9:= θ.out
          obtain⟨gr,gs,gt,hj⟩:=qD2 Y.out
          go_wp2
          repeat(go_quiet (fail);try go_wp2)
          go_ret
          exact⟨by first|rfl|(simp[Ql,Qk] <;> rfl)|(simp[*,Ql,Qk] <;> rfl),bel⟩
end Go.Proofs.Ytmfffemidlhcpaa.C
namespace Go.Proofs.Ytmfffemidlhcpaa.C
open Go.RowKit Go.Proofs.YtmfffemidlhcpaaW.PrintWords Go.Proofs.YtmfffemidlhcpaaW.PrintLast Go.Proofs.YtmfffemidlhcpaaW.PrintMore
attribute [local go_sem] Z2 Z0 Xb Xa Zt Zs Z1 Zz
def newelref19_House.f (B:Int) (J:Int):Option (Bool):=if B≥2 then (if B≤64 then (if J≥1 then (some (decide (J≤8))) else (some false)) else (some false)) else (some false)
theorem newelref19_House.calls (B:Int) (J:Int) (r:Bool) (w:World) (h:newelref19_House.f B J=some r):
 Calls Try.prog 59 #[.agg #[nI B,nI J]] w fun e w'=>e = .returned (.bool r)∧Below w.heap.size w w':=by
 have dw:=Try.underlying59
 have HB:=aK (Below.refl w.heap.size w)
 have H:(if B≥2 then (if B≤64 then (if J≥1 then (some (decide (J≤8))) else (some false)) else (some false)) else (some false))=some r:=h
 clear h
 by_cases c2:B≥2
 ·rw[if_pos c2] at H
  have c2b0:decide (2≤B)=true:=decide_eq_true c2
  clear c2
  by_cases c3:B≤64
  ·rw[if_pos c3] at H
   have c3b0:=decide_eq_true c3
   clear c3
   by_cases c4:J≥1
   ·rw[if_pos c4] at H
    have c4b0:decide (1≤J)=true:=decide_eq_true c4
    clear c4
    obtain rfl:=qJ H
    go_enter Try.func59,Try.ntmps59
    go_wp2_with (first|((with_reducible refine Qe (N:=1) rfl ?_);refine Zj ?hg (N:=1) ?hd (cs:=#[nI B,nI J]) (t:=59) ?hr ?_;(case hd=>rfl);(case hg=>rfl);(case hr=>first|(go_simp;done)|(go_simp;rfl));intro O hg w5 hbox hb;have φ :=aK (Q6 (by repeat(first|(with_reducible first|exact HB.out|apply Qq|apply Qn|apply Qj)|exact HB.out)) hb);have χ :=aK (hbox);have ω :=aK ((by rw[hg];exact(Qm (by repeat(first|(with_reducible first|exact HB.out|apply Qq|apply Qn|apply Qj)|exact HB.out))):w.heap.size≤O));have a6:=aK ((by rw[hg];exact(Qm (by repeat(first|(with_reducible first|exact HB.out|apply Qq|apply Qn|apply Qj)|exact HB.out))):w.heap.size≤O));clear HB;have HB:= φ;have X:= χ;have Z:= ω;have Y:=a6;clear φ χ ω a6;clear hb hbox hg;obtain⟨σ,ψ,a2,ab⟩:=qD2 X.out))
    go_ret
    exact⟨by first|rfl|(simp[Ql,Qk] <;> rfl)|(simp[*,Ql,Qk] <;> rfl),by repeat(first|(with_reducible first|exact HB.out|apply Qq|apply Qn|apply Qj|refine Qz ?_ Y.out)|exact HB.out)⟩
   ·rw[if_neg c4] at H
    have c4b0:decide (1≤J)=false:=decide_eq_false c4
    clear c4
    obtain rfl:=qJ H
    go_enter Try.func59,Try.ntmps59
    go_wp2_with (first|((with_reducible refine Qe (N:=1) rfl ?_);refine Zj ?hg (N:=1) ?hd (cs:=#[nI B,nI J]) (t:=59) ?hr ?_;(case hd=>rfl);(case hg=>rfl);(case hr=>first|(go_simp;done)|(go_simp;rfl));intro O hg w7 hbox hb;have φ :=aK (Q6 (by repeat(first|(with_reducible first|exact HB.out|apply Qq|apply Qn|apply Qj)|exact HB.out)) hb);have χ :=aK (hbox);have ω :=aK ((by rw[hg];exact(Qm (by repeat(first|(with_reducible first|exact HB.out|apply Qq|apply Qn|apply Qj)|exact HB.out))):w.heap.size≤O));have a6:=aK ((by rw[hg];exact(Qm (by repeat(first|(with_reducible first|exact HB.out|apply Qq|apply Qn|apply Qj)|exact HB.out))):w.heap.size≤O));clear HB;have HB:= φ;have X:= χ;have Z:= ω;have Y:=a6;clear φ χ ω a6;clear hb hbox hg;obtain⟨ac,ae,ah,al⟩:=qD2 X.out))
    go_ret
    exact⟨by first|rfl|(simp[Ql,Qk] <;> rfl)|(simp[*,Ql,Qk] <;> rfl),by repeat(first|(with_reducible first|exact HB.out|apply Qq|apply Qn|apply Qj|refine Qz ?_ Y.out)|exact HB.out)⟩
  ·rw[if_neg c3] at H
   have c3b0:=decide_eq_false c3
   clear c3
   obtain rfl:=qJ H
   go_enter Try.func59,Try.ntmps59
   go_wp2_with (first|((with_reducible refine Qe (N:=1) rfl ?_);refine Zj ?hg (N:=1) ?hd (cs:=#[nI B,nI J]) (t:=59) ?hr ?_;(case hd=>rfl);(case hg=>rfl);(case hr=>first|(go_simp;done)|(go_simp;rfl));intro O hg w9 hbox hb;have φ :=aK (Q6 (by repeat(first|(with_reducible first|exact HB.out|apply Qq|apply Qn|apply Qj)|exact HB.out)) hb);have χ :=aK (hbox);have ω :=aK ((by rw[hg];exact(Qm (by repeat(first|(with_reducible first|exact HB.out|apply Qq|apply Qn|apply Qj)|exact HB.out))):w.heap.size≤O));have a6:=aK ((by rw[hg];exact(Qm (by repeat(first|(with_reducible first|exact HB.out|apply Qq|apply Qn|apply Qj)|exact HB.out))):w.heap.size≤O));clear HB;have HB:= φ;have X:= χ;have Z:= ω;have Y:=a6;clear φ χ ω a6;clear hb hbox hg;obtain⟨bg,bh,bk,bm⟩:=qD2 X.out))
   go_ret
   exact⟨by first|rfl|(simp[Ql,Qk] <;> rfl)|(simp[*,Ql,Qk] <;> rfl),by repeat(first|(with_reducible first|exact HB.out|apply Qq|apply Qn|apply Qj|refine Qz ?_ Y.out)|exact HB.out)⟩
 ·rw[if_neg c2] at H
  have c2b0:decide (2≤B)=false:=decide_eq_false c2
  clear c2
  obtain rfl:=qJ H
  go_enter Try.func59,Try.ntmps59
  go_wp2_with (first|((with_reducible refine Qe (N:=1) rfl ?_);refine Zj ?hg (N:=1) ?hd (cs:=#[nI B,nI J]) (t:=59) ?hr ?_;(case hd=>rfl);(case hg=>rfl);(case hr=>first|(go_simp;done)|(go_simp;rfl));intro O hg d1 hbox hb;have φ :=aK (Q6 (by repeat(first|(with_reducible first|exact HB.out|apply Qq|apply Qn|apply Qj)|exact HB.out)) hb);have χ :=aK (hbox);have ω :=aK ((by rw[hg];exact(Qm (by repeat(first|(with_reducible first|exact HB.out|apply Qq|apply Qn|apply Qj)|exact HB.out))):w.heap.size≤O));have a6:=aK ((by rw[hg];exact(Qm (by repeat(first|(with_reducible first|exact HB.out|apply Qq|apply Qn|apply Qj)|exact HB.out))):w.heap.size≤O));clear HB;have HB:= φ;have X:= χ;have Z:= ω;have Y:=a6;clear φ χ ω a6;clear hb hbox hg;obtain⟨a1,a3,af,ar⟩:=qD2 X.out))
  go_ret
  exact⟨by first|rfl|(simp[Ql,Qk] <;> rfl)|(simp[*,Ql,Qk] <;> rfl),by repeat(first|(with_reducible first|exact HB.out|apply Qq|apply Qn|apply Qj|refine Qz ?_ Y.out)|exact HB.out)⟩
def newelref19_ahead.f (B:Int) (J:Int) (O:Int) (X:Int) (ζ :Int) (ι :Int):Option (Bool):=if B<X then (some true) else (if B=X then (some (decide (J < ζ))) else (some false))
theorem newelref19_ahead.calls (B:Int) (J:Int) (O:Int) (X:Int) (ζ :Int) (ι :Int) (r:Bool) (w:World) (h:newelref19_ahead.f B J O X ζ ι = some r):
 Calls Try.prog 60 #[.agg #[nI B,nI J,nI O],.agg #[nI X,nI ζ,nI ι]] w fun e w'=>e = .returned (.bool r)∧Below w.heap.size w w':=by
 have cg:=Try.underlying36
 have HB:=aK (Below.refl w.heap.size w)
 have H:(if B<X then (some true) else (if B=X then (some (decide (J < ζ))) else (some false)))=some r:=h
 clear h
 by_cases c3:B<X
 ·rw[if_pos c3] at H
  have c3b0:=decide_eq_true c3
  clear c3
  obtain rfl:=qJ H
  go_enter Try.func60,Try.ntmps60
  go_wp2_with (first|((with_reducible refine Qe (N:=2) rfl ?_);refine qE 2 #[nI B,nI J,nI O] 36 ?_;intro ε hg w4 hbox hb;have Y:=aK hbox;have η :=sGe hg;have θ :=sGe hg;replace HB:=sHb hb;clear hb hbox hg)|((with_reducible refine Qe (N:=3) rfl ?_);refine qE 3 #[nI X,nI ζ,nI ι] 36 ?_;intro κ hg w5 hbox hb;have δ :=aK hbox;have μ :=sGe hg;have ν :=sGe hg;have Z:=sNl Y hg;have γ:=sNg Y hg;replace Y:=sBk Y hb;replace HB:=sHb hb;clear hb hbox hg;have dd:=Z.out;have dt:=γ.out;obtain⟨a0,av,ba,aw,ax,bb⟩:=qD3 Y.out;obtain⟨ac,ae,ab,ah,al,b5⟩:=qD3 δ.out))
  go_ret
  exact⟨rfl,HB.out⟩
 ·rw[if_neg c3] at H
  have c3b0:=decide_eq_false c3
  clear c3
  by_cases c9:B=X
  ·rw[if_pos c9] at H
   have c9b0:(B==X)=true:=beq_iff_eq.mpr c9
   have c9b1:(B != X)=false:=bne_eq_false_iff_eq.mpr c9
   clear c9
   obtain rfl:=qJ H
   go_enter Try.func60,Try.ntmps60
   go_wp2_with (first|((with_reducible refine Qe (N:=2) rfl ?_);refine qE 2 #[nI B,nI J,nI O] 36 ?_;intro ε hg fj hbox hb;have Y:=aK hbox;have η :=sGe hg;have θ :=sGe hg;replace HB:=sHb hb;clear hb hbox hg)|((with_reducible refine Qe (N:=3) rfl ?_);refine qE 3 #[nI X,nI ζ,nI ι] 36 ?_;intro κ hg d1 hbox hb;have δ :=aK hbox;have μ :=sGe hg;have ν :=sGe hg;have Z:=sNl Y hg;have γ:=sNg Y hg;replace Y:=sBk Y hb;replace HB:=sHb hb;clear hb hbox hg;have e0:=Z.out;have e3:=γ.out;obtain⟨ao,bc,bk,ap,be,bm⟩:=qD3 Y.out;obtain⟨cb,cd,db,ce,cf,dc⟩:=qD3 δ.out))
   go_ret
   exact⟨rfl,HB.out⟩
  ·rw[if_neg c9] at H
   have c9b0:(B==X)=false:=beq_eq_false_iff_ne.mpr c9
   have c9b1:(B != X)=true:=bne_iff_ne.mpr c9
   obtain rfl:=qJ H
   go_enter Try.func60,Try.ntmps60
   go_wp2_with (first|((with_reducible refine Qe (N:=2) rfl ?_);refine qE 2 #[nI B,nI J,nI O] 36 ?_;intro ε hg fb hbox hb;have Y:=aK hbox;have η :=sGe hg;have θ :=sGe hg;replace HB:=sHb hb;clear hb hbox hg)|((with_reducible refine Qe (N:=3) rfl ?_);refine qE 3 #[nI X,nI ζ,nI ι] 36 ?_;intro κ hg cr hbox hb;have δ :=aK hbox;have μ :=sGe hg;have ν :=sGe hg;have Z:=sNl Y hg;have γ:=sNg Y hg;replace Y:=sBk Y hb;replace HB:=sHb hb;clear hb hbox hg;have et:=Z.out;have gk:=γ.out;obtain⟨bl,bz,eu,ca,ch,ev⟩:=qD3 Y.out;obtain⟨ag,ai,b3,aj,am,b4⟩:=qD3 δ.out))
   go_ret
   exact⟨rfl,HB.out⟩
end Go.Proofs.Ytmfffemidlhcpaa.C
