/- Texts of this claim, one behind the other: what the law's functions come to, walked (printed by a program, with the words that the print uses), and what that is, in plain Lean. No conditions of their own. -/
import Derived.Test.YtmfffemidlhcpaaQGroupPicks3
namespace Go.Proofs.Ytmfffemidlhcpaa.C
open Go.RowKit Go.Proofs.YtmfffemidlhcpaaW.PrintWords Go.Proofs.YtmfffemidlhcpaaW.PrintLast Go.Proofs.YtmfffemidlhcpaaW.PrintMore
attribute [local go_sem] Z0 Zy Z6 Z5 Zr Zq Zz Zx
set_option linter.unusedVariables false
set_option linter.unusedSimpArgs false
def api_Inside_90.l0:Nat→List (S86)→Int→Int→Int→Option ((List (S86)))
 |0,_,_,_,_=>none
 |k+1,B,J,X,x6=>if x6<(B.length:Int) then (if 0≤x6 then ((api_Inside_without_1.f ((Qp B x6).f0) ((Qp B x6).f1) J).bind fun a6=>(if a6=true then (api_Inside_90.l0 k B J X (wrap64 (x6+1))) else (if 0≤X then (if X<(B.length:Int) then (api_Inside_90.l0 k (B.set (X:Int).toNat (⟨(Qp B x6).f0,(Qp B x6).f1⟩:S86)) J (wrap64 (X+1)) (wrap64 (x6+1))) else (none)) else (none)))) else (none)) else (if 0≤X then (if X≤(B.length:Int) then (some (B.take (X:Int).toNat)) else (none)) else (none))
def api_Inside_90.f (k:Nat) (l0:List (S86)) (X:Int):Option ((List (S86))):=(api_Inside_100.f k l0 X).bind fun δ =>(if δ = (-1) then (some l0) else (api_Inside_90.l0 k l0 X δ (wrap64 (δ + 1))))
set_option maxHeartbeats 8000000 in
set_option maxRecDepth 100000 in
theorem api_Inside_90.calls (k:Nat) (γ:Nat→Prop) (aj:Value) (l0:List (S86)) (X:Int) (r:List (S86)) (w0 w:World) (hB:Below w0.heap.size w0 w) (af:Kd.R k86 86 w w0.heap.size γ aj l0) (h:api_Inside_90.f k l0 X=some r) (Ar_:Option Addr) (nr_ cr_ gr_ gx_:Nat) (zx_:Int) (hgr_:w.heap[gr_]?=some (.cells #[.slice Ar_ nr_ cr_,.func (.func 83) #[] #[]] 116 (0,0))) (hgx_:w.heap[gx_]?=some (.cells #[.int .i64 (Yq X),.int .i64 (Yp X)] 86 (0,0))) (hnr_:¬ γ gr_) (hnx_:¬ γ gx_):
 Calls Try.prog 90 #[aj,.func (.func 92) #[] #[.pointer (some ⟨gr_,0,none⟩),.pointer (some ⟨gx_,0,none⟩)]] w fun e w'=>∃ b8:Value,e = .returned (b8)∧Kd.R k86 86 w' w0.heap.size (fun k_=>(γ k_∨w.heap.size≤k_)) b8 r∧Below w0.heap.size w0 w'∧Kept w w' (fun k_=>γ k_):=by
 have HCR:=aK hgr_
 have HCX:=aK hgx_
 have HNR:=aK hnr_
 have HNX:=aK hnx_
 clear hgr_ hgx_ hnr_ hnx_
 have cu:=Try.underlying86
 have κ :=aK (show Kd.R k86 86 w w0.heap.size (fun k_=>(γ k_∨w.heap.size≤k_)) aj l0 from Kd.Q1 af (fun k_ hk=>(.inl hk)))
 have HK:=aK (Kept.refl w (fun k_=>γ k_))
 have dl:=aK hB.size
 have HB:=aK hB
 clear hB
 have H:((api_Inside_100.f k l0 X).bind fun δ =>(if δ = (-1) then (some l0) else (api_Inside_90.l0 k l0 X δ (wrap64 (δ + 1)))))=some r:=h
 clear h
 obtain⟨δ,a7,H⟩:=qO H
 have A3:=aK a7
 clear a7
 by_cases c4: δ = (-1)
 ·rw[if_pos c4] at H
  have c4b0:(δ == (-1))=true:=beq_iff_eq.mpr c4
  have c4b1:(δ != (-1))=false:=bne_eq_false_iff_eq.mpr c4
  clear c4
  obtain rfl:=Option.some.inj H
  obtain⟨dm,dn,db⟩:=Kd.Q7 κ.out
  subst db
  go_enter Try.func90,Try.ntmps90
  go_wp2_with (first|(go_at_call 100;((with_reducible refine(api_Inside_100.calls k _ _ l0 X δ _ ?side1 ?side2 A3.out Ar_ nr_ cr_ gr_ gx_ zx_ (X8 HCR.out (by repeat(first|(with_reducible first|exact HK.out|apply Kept.alloc|apply Kept.drewN|apply Kept.drew|refine Kept.setCell ?_ (.inr a8.out) _)|exact HK.out)) HNR.out) (X8 HCX.out (by repeat(first|(with_reducible first|exact HK.out|apply Kept.alloc|apply Kept.drewN|apply Kept.drew|refine Kept.setCell ?_ (.inr a8.out) _)|exact HK.out)) HNX.out)).mono ?_);(case side1=>exact(Kd.Qw κ.out).2.2);(case side2=>exact(Kd.Qw κ.out).2.1);rintro e w6 ⟨rfl,hb⟩;have ρ:=aK (Kd.Z8 κ.out hb);have τ :=aK (Kept.below (S:=(fun k_=>γ k_)) (by repeat(first|(with_reducible first|exact HK.out|apply Kept.alloc|apply Kept.drewN|apply Kept.drew)|exact HK.out)) hb);have ω :=aK (Q2 HB.out hb);clear κ;clear HK;clear HB;have κ :=ρ;have HK:= τ;have HB:= ω;clear ρ τ ω;(try clear hb);(try clear a4);(try clear hk);(try clear hi))))
  go_ret
  exact⟨_,rfl,by(with_reducible repeat first|apply Kd.Qv|apply Kd.Qu|apply Kd.Qy);exact κ.out,HB.out,by repeat(first|(with_reducible first|exact HK.out|apply Kept.alloc|apply Kept.drewN|apply Kept.drew)|exact HK.out)⟩
 ·rw[if_neg c4] at H
  have c4b0:(δ == (-1))=false:=beq_eq_false_iff_ne.mpr c4
  have c4b1:(δ != (-1))=true:=bne_iff_ne.mpr c4
  have H':=aK H
  clear H
  obtain⟨ao,ψ,dc⟩:=Kd.Q7 κ.out
  subst dc
  go_enter Try.func90,Try.ntmps90
  go_wp2_with (first|(go_at_call 100;((with_reducible refine(api_Inside_100.calls k _ _ l0 X δ _ ?side1 ?side2 A3.out Ar_ nr_ cr_ gr_ gx_ zx_ (X8 HCR.out (by repeat(first|(with_reducible first|exact HK.out|apply Kept.alloc|apply Kept.drewN|apply Kept.drew|refine Kept.setCell ?_ (.inr a8.out) _)|exact HK.out)) HNR.out) (X8 HCX.out (by repeat(first|(with_reducible first|exact HK.out|apply Kept.alloc|apply Kept.drewN|apply Kept.drew|refine Kept.setCell ?_ (.inr a8.out) _)|exact HK.out)) HNX.out)).mono ?_);(case side1=>exact(Kd.Qw κ.out).2.2);(case side2=>exact(Kd.Qw κ.out).2.1);rintro e w8 ⟨rfl,hb⟩;have ρ:=aK (Kd.Z8 κ.out hb);have τ :=aK (Kept.below (S:=(fun k_=>γ k_)) (by repeat(first|(with_reducible first|exact HK.out|apply Kept.alloc|apply Kept.drewN|apply Kept.drew)|exact HK.out)) hb);have ω :=aK (Q2 HB.out hb);clear κ;clear HK;clear HB;have κ :=ρ;have HK:= τ;have HB:= ω;clear ρ τ ω;(try clear hb);(try clear a4);(try clear hk);(try clear hi))))
  go_loopg [5,6] k (fun kq v5 v6 w'=>∃ (B:List (S86)) (J:Int) (Y:Int),v5 = .int .i64 J∧v6 = .int .i64 Y∧Aside0 (api_Inside_90.l0 kq B X J Y=some r)∧Aside0 (kq≤k)∧Aside0 (Kd.R k86 86 w' w0.heap.size (fun k_=>(γ k_∨w.heap.size≤k_)) (.slice ao l0.length ψ) B)∧Aside0 (Kept w w' (fun k_=>γ k_))∧Aside0 (Below w0.heap.size w0 w'))
  case atStart=>exact⟨(l0),(δ),(wrap64 (δ + 1)),rfl,rfl,H',⟨Nat.le_refl _⟩,⟨by(with_reducible repeat first|apply Kd.Qv|apply Kd.Qu|apply Kd.Qy);exact κ.out⟩,⟨by repeat(first|(with_reducible first|exact HK.out|apply Kept.alloc|apply Kept.drewN|apply Kept.drew)|exact HK.out)⟩,HB⟩
  case round=>
   clear H'
   try clear c4
   try clear c4b0
   try clear c4b1
   obtain⟨B,J,Y,rfl,rfl,HA,am,O,HK,HB⟩:=hrel
   have φ :=(Kd.Qw O.out).1
   rw[φ] at O
   (try simp only[φ])
   cases gk with
   |zero=>exact absurd HA.out (by simp[api_Inside_90.l0])
   |succ k1=>
    have H:=HA.out
    clear HA
    simp only[api_Inside_90.l0] at H
    by_cases c9:Y<(B.length:Int)
    ·rw[if_pos c9] at H
     have c9b0:=decide_eq_true c9
     clear c9
     by_cases c10:0≤Y
     ·rw[if_pos c10] at H
      have c10b0:=decide_eq_true c10
      clear c10
      obtain⟨a6,bd,H⟩:=qO H
      have cy:=aK bd
      clear bd
      by_cases a5:a6=true
      ·subst a5
       rw[if_pos rfl] at H
       have H':=aK H
       clear H
       have ι :0≤(Y:Int):=of_decide_eq_true (by assumption)
       have μ :Y<(B.length:Int):=of_decide_eq_true (by assumption)
       obtain⟨θ,ay,ab,ag⟩:=Xk (Kd.Qw O.out).2.2 Y ι μ
       cases ay
       replace ι :=eq_true ι
       replace μ :=eq_true μ
       go_wp2_with (first|((with_reducible refine Qe (N:=7) rfl ?_);refine qE 7 #[.int .i64 0,.int .i64 0] 86 ?_;intro ε hg ba hbox hb;have Z:=aK hbox;have a8:=aK ((by rw[hg];exact(by first|exact HK.out.1|exact(show Kept w _ (fun k_=>γ k_) from by repeat(first|(with_reducible first|exact HK.out|apply Kept.alloc|apply Kept.drewN|apply Kept.drew)|exact HK.out)).1):w.heap.size ≤ ε));have az:=aK ((by rw[hg];exact(Qn bel):w0.heap.size ≤ ε));replace O:=aK (Kd.Z8 (Kd.Yz (kra O) ε (Nat.le_of_eq hg.symm)) hb);replace HK:=aK (Kept.below (S:=(fun k_=>γ k_)) (by repeat(first|(with_reducible first|exact HK.out|apply Kept.alloc|apply Kept.drewN|apply Kept.drew)|exact HK.out)) hb);replace HB:=sHb hb;clear hb hbox hg;obtain⟨bw,bz,ca,cb⟩:=qD2 Z.out)|(go_at_call 92;((with_reducible refine(api_Inside_without_1.calls ((Qp B Y).f0) ((Qp B Y).f1) X true _ cy.out Ar_ nr_ cr_ gr_ gx_ zx_ (X8 HCR.out (by repeat(first|(with_reducible first|exact HK.out|apply Kept.alloc|apply Kept.drewN|apply Kept.drew|refine Kept.setCell ?_ (.inr a8.out) _)|exact HK.out)) HNR.out) (X8 HCX.out (by repeat(first|(with_reducible first|exact HK.out|apply Kept.alloc|apply Kept.drewN|apply Kept.drew|refine Kept.setCell ?_ (.inr a8.out) _)|exact HK.out)) HNX.out)).mono ?_);rintro e ez ⟨rfl,hb⟩;have ρ:=aK (Kd.Z8 (by(with_reducible repeat first|apply Kd.Qv|apply Kd.Qu|apply Kd.Qy);exact(Kd.Q1 (Kd.Qx (Kd.Qx (Kd.Q1 O.out (fun k_ hk=>(⟨hk,hk.2⟩:_∧k_ ≠ ε))) (fun _ hk=>hk.2) (.int .i64 ((Qp B Y).f0))) (fun _ hk=>hk.2) (.int .i64 ((Qp B Y).f1))) (fun _ h_=>h_.1))) hb);have τ :=aK (Qz (g:= ε) (o:=.cells #[.int .i64 ((Qp B Y).f0),.int .i64 ((Qp B Y).f1)] 86 (0,0)) (by(with_reducible repeat first|refine Qm ?_ _|refine Qd ?_|refine Ql ?_ _);refine Qq (cs:=#[.int .i64 ((Qp B Y).f0),.int .i64 0]) ?_ 1 _ rfl;(with_reducible repeat first|refine Qm ?_ _|refine Qd ?_|refine Ql ?_ _);refine Qq (cs:=#[.int .i64 0,.int .i64 0]) ?_ 0 _ rfl;(with_reducible repeat first|refine Qm ?_ _|refine Qd ?_|refine Ql ?_ _);exact Z.out) hb);have ω :=aK (Kept.below (S:=(fun k_=>γ k_)) (by repeat(first|(with_reducible first|exact HK.out|apply Kept.alloc|apply Kept.drewN|apply Kept.drew|refine Kept.setCell ?_ (.inr a8.out) _)|exact HK.out)) hb);have a3:=aK (Q2 bel hb);clear O;clear Z;clear HK;clear HB;have O:=ρ;have Z:= τ;have HK:= ω;have HB:=a3;clear ρ τ ω a3;(try clear hb);(try clear a4);(try clear hk);(try clear hi))))
       (try simp only[← φ])
       go_roundg k1
       case measure=>have:=am.out;omega
       case rel=>exact⟨(B),(J),(wrap64 (Y+1)),rfl,rfl,H',⟨by have:=am.out;omega⟩,⟨by(try simp only[φ]);(with_reducible repeat first|apply Kd.Qv|apply Kd.Qu|apply Kd.Qy);exact Kd.Q1 O.out (fun _ hk=>hk.1)⟩,⟨by repeat(first|(with_reducible first|exact HK.out|apply Kept.alloc|apply Kept.drewN|apply Kept.drew|refine Kept.setCell ?_ (.inr a8.out) _)|exact HK.out)⟩,HB⟩
      ·replace a5:=Bool.eq_false_iff.mpr a5
       subst a5
       rw[if_neg nft] at H
       by_cases χ :0≤J
       ·rw[if_pos χ] at H
        have c16b0:=decide_eq_true χ
        clear χ
        by_cases σ:J<(B.length:Int)
        ·rw[if_pos σ] at H
         have c17b0:=decide_eq_true σ
         clear σ
         obtain⟨a9,η⟩:∃ y_:List (S86),y_=(B.set (J:Int).toNat (⟨(Qp B Y).f0,(Qp B Y).f1⟩:S86)):=⟨_,rfl⟩
         replace H:(api_Inside_90.l0 k1 a9 X (wrap64 (J+1)) (wrap64 (Y+1)))=some r:=by first|(rw[η];with_reducible exact H)|(have al:=(Option.bind_some _ _).symm.trans H;rw[η];with_reducible exact al)|(have al:=(Option.bind_some _ _).symm.trans H;with_reducible exact al)|with_reducible exact H|(rw[η];exact H)|exact H
         have aa:=aK η
         clear η
         have H':=aK H
         clear H
         have ι :0≤(Y:Int):=of_decide_eq_true (by assumption)
         have μ :Y<(B.length:Int):=of_decide_eq_true (by assumption)
         obtain⟨θ,ay,ab,ag⟩:=Xk (Kd.Qw O.out).2.2 Y ι μ
         cases ay
         replace ι :=eq_true ι
         replace μ :=eq_true μ
         go_wp2_with (first|((with_reducible refine Qe (N:=7) rfl ?_);refine qE 7 #[.int .i64 0,.int .i64 0] 86 ?_;intro ε hg b5 hbox hb;have Z:=aK hbox;have a8:=aK ((by rw[hg];exact(by first|exact HK.out.1|exact(show Kept w _ (fun k_=>γ k_) from by repeat(first|(with_reducible first|exact HK.out|apply Kept.alloc|apply Kept.drewN|apply Kept.drew)|exact HK.out)).1):w.heap.size ≤ ε));have az:=aK ((by rw[hg];exact(Qn HB.out):w0.heap.size ≤ ε));replace O:=aK (Kd.Z8 (Kd.Yz O.out ε (Nat.le_of_eq hg.symm)) hb);replace HK:=aK (Kept.below (S:=(fun k_=>γ k_)) (by repeat(first|(with_reducible first|exact HK.out|apply Kept.alloc|apply Kept.drewN|apply Kept.drew)|exact HK.out)) hb);replace HB:=sHb hb;clear hb hbox hg;obtain⟨ak,an,aw,ax⟩:=qD2 Z.out)|(go_at_call 92;((with_reducible refine(api_Inside_without_1.calls ((Qp B Y).f0) ((Qp B Y).f1) X false _ cy.out Ar_ nr_ cr_ gr_ gx_ zx_ (X8 HCR.out (by repeat(first|(with_reducible first|exact HK.out|apply Kept.alloc|apply Kept.drewN|apply Kept.drew|refine Kept.setCell ?_ (.inr a8.out) _)|exact HK.out)) HNR.out) (X8 HCX.out (by repeat(first|(with_reducible first|exact HK.out|apply Kept.alloc|apply Kept.drewN|apply Kept.drew|refine Kept.setCell ?_ (.inr a8.out) _)|exact HK.out)) HNX.out)).mono ?_);rintro e b2 ⟨rfl,hb⟩;have ρ:=aK (Kd.Z8 (by(with_reducible repeat first|apply Kd.Qv|apply Kd.Qu|apply Kd.Qy);exact(Kd.Q1 (Kd.Qx (p:=⟨ε,1,none⟩) (Kd.Qx (p:=⟨ε,0,none⟩) (Kd.Q1 O.out (fun k_ hk=>(⟨hk,hk.2⟩:_∧k_ ≠ ε))) (fun _ hk=>hk.2) (.int .i64 ((Qp B Y).f0))) (fun _ hk=>hk.2) (.int .i64 ((Qp B Y).f1))) (fun _ h_=>h_.1))) hb);have τ :=aK (Qz (g:= ε) (o:=.cells #[.int .i64 ((Qp B Y).f0),.int .i64 ((Qp B Y).f1)] 86 (0,0)) (by(with_reducible repeat first|refine Qm ?_ _|refine Qd ?_|refine Ql ?_ _);refine Qq (cs:=#[.int .i64 ((Qp B Y).f0),.int .i64 0]) ?_ 1 _ rfl;(with_reducible repeat first|refine Qm ?_ _|refine Qd ?_|refine Ql ?_ _);refine Qq (cs:=#[.int .i64 0,.int .i64 0]) ?_ 0 _ rfl;(with_reducible repeat first|refine Qm ?_ _|refine Qd ?_|refine Ql ?_ _);exact Z.out) hb);have ω :=aK (Kept.below (S:=(fun k_=>γ k_)) (by repeat(first|(with_reducible first|exact HK.out|apply Kept.alloc|apply Kept.drewN|apply Kept.drew|refine Kept.setCell ?_ (.inr a8.out) _)|exact HK.out)) hb);have a3:=aK (Q2 (by repeat(first|(with_reducible first|exact HB.out|apply Qo|apply Qi|apply Qg|refine Qr ?_ az.out)|exact HB.out)) hb);clear O;clear Z;clear HK;clear HB;have O:=ρ;have Z:= τ;have HK:= ω;have HB:=a3;clear ρ τ ω a3;(try clear hb);(try clear a4);(try clear hk);(try clear hi);obtain⟨ap,ar,au,av⟩:=qD2 Z.out;have b0:0≤(J:Int):=of_decide_eq_true (by first|(with_reducible assumption)|assumption);have b1:(J:Int)<((B.length:Int):Int):=of_decide_eq_true (by first|(with_reducible assumption)|assumption);obtain⟨ζ,cz,bq,bb,bm,d3,bf⟩:=Kd.Uo O.out (by omega);(first|cases bq|(injection bq with ea_ en_ ec_;(first|subst ea_|(injection ea_ with ea_;subst ea_));subst ec_;clear en_));have ae:=aK bb;have d5:=aK bf;clear bb bm bf;have dd:=aK (show(γ ζ ∨ w.heap.size ≤ ζ) from(O.out.1 _ rfl).1);(first|simp only[add_plain] at ab|skip);(first|simp only[add_plain] at ag|skip);obtain⟨d6,bh,bg,ν,ξ⟩:=Kd.Jo O.out z86 (J:Int) b0 b1;obtain rfl:=J7 bg;have ce:b2.cell? ⟨ζ,(J:Int).toNat * 2,none⟩=some (.int .i64 ((Qp B J).f0)):= ν 0 _ rfl;have cf:b2.cell? ⟨ζ,(J:Int).toNat * 2+1,none⟩=some (.int .i64 ((Qp B J).f1)):= ν 1 _ rfl;have cg:b2.frozen? ⟨ζ,(J:Int).toNat * 2,none⟩=false:= ξ 0;have ci:b2.frozen? ⟨ζ,(J:Int).toNat * 2+1,none⟩=false:= ξ 1;clear bh ν ξ bg;replace b0:=eq_true b0;replace b1:=eq_true b1;have ch:=aK (show Kd.R k86 86 b2 w0.heap.size (fun k_=>(γ k_∨w.heap.size≤k_)∧k_ ≠ ε) (.slice (some ⟨ζ,0,none⟩) B.length ψ) B from(by(with_reducible repeat first|apply Kd.Qv|apply Kd.Qu|apply Kd.Qy);exact O.out));obtain⟨dh,bp,cj,ai,b4⟩:=Kd.Jo ch.out z86 (J:Int) (of_decide_eq_true (by first|(with_reducible assumption)|assumption)) (by have h_:(J:Int)<((B.length:Int):Int):=of_decide_eq_true (by first|(with_reducible assumption)|assumption);first|exact h_|(have e_:=(Kd.Qw O.out).1;omega)|simpa using h_);obtain rfl:=J7 cj;have bn:=Kd.Lx ch.out (J:Int) (of_decide_eq_true (by first|(with_reducible assumption)|assumption)) (by have h_:(J:Int)<((B.length:Int):Int):=of_decide_eq_true (by first|(with_reducible assumption)|assumption);first|exact h_|(have e_:=(Kd.Qw O.out).1;omega)|simpa using h_) (seg:=[.int .i64 ((Qp B Y).f0),.int .i64 ((Qp B Y).f1)]) (j:=0) bp ai (show 2≤2 from by decide) (x':=(⟨(Qp B Y).f0,(Qp B Y).f1⟩:S86)) (Uc _ _ _ (⟨(Qp B Y).f0,(Qp B Y).f1⟩:S86)) (fun _ hk=>hk);have ck:=ai 0 _ rfl;(try simp only[show(k86).sz=2 from rfl,Nat.mul_one,Nat.add_zero] at ck);have cm:=b4 0;(try simp only[show(k86).sz=2 from rfl,Nat.mul_one,Nat.add_zero] at cm);have cn:=ai 1 _ rfl;(try simp only[show(k86).sz=2 from rfl,Nat.mul_one,Nat.add_zero] at cn);have co:=b4 1;(try simp only[show(k86).sz=2 from rfl,Nat.mul_one,Nat.add_zero] at co);clear bp ai b4 cj))|((with_reducible refine Jk (t:=86) (p:=33) rfl ?_);refine Y1 (t:=86) (p:=33) (v:=?vo_w24) (w1:=((b2.setCell ⟨ζ,(J:Int).toNat * 2,none⟩ (.int .i64 ((Qp B Y).f0))).setCell ⟨ζ,(J:Int).toNat * 2+1,none⟩ (.int .i64 ((Qp B Y).f1)))) ?hg ?ho ?hn ?hr ?_;(case ho=>rfl);(case hg=>rfl);(case hn=>rfl);(case hr=>go_simp <;> rfl);intro cd hw;have hg:b2.grownBy cd (some ζ):=(by rw[hw];exact bn.2);have hp_:Kd.R k86 86 cd w0.heap.size (fun k_=>(γ k_∨w.heap.size≤k_)∧k_ ≠ ε) (.slice (some ⟨ζ,0,none⟩) B.length ψ) a9:=(by rw[hw,aa.out];exact bn.1);clear bn;replace Z:=aK (Q0 (g:= ε) (o:=.cells #[.int .i64 ((Qp B Y).f0),.int .i64 ((Qp B Y).f1)] 86 (0,0)) Z.out hg (Kd.Lf O.out (fun _ hk=>hk.2)));replace HB:=aK ((by rw[hw];exact Qr (Qr (HB.out) ae.out) ae.out:Below w0.heap.size w0 cd));replace HK:=aK (Kept.G3 (S:=(fun k_=>γ k_)) hg (by repeat(first|(with_reducible first|exact HK.out|apply Kept.alloc|apply Kept.drewN|apply Kept.drew|refine Kept.setCell ?_ (.inr a8.out) _)|exact HK.out)) (fun k_ e_=>(O.out.1 k_ e_).1));replace O:=aK hp_;clear hg hw hp_))
         (try simp only[← φ])
         go_roundg k1
         case measure=>have:=am.out;omega
         case rel=>exact⟨(a9),(wrap64 (J+1)),(wrap64 (Y+1)),rfl,rfl,H',⟨by have:=am.out;omega⟩,⟨by(try simp only[φ]);(with_reducible repeat first|apply Kd.Qv|apply Kd.Qu|apply Kd.Qy);exact Kd.Q1 O.out (fun _ hk=>hk.1)⟩,⟨by repeat(first|(with_reducible first|exact HK.out|apply Kept.alloc|apply Kept.drewN|apply Kept.drew|refine Kept.setCell ?_ (.inr a8.out) _)|exact HK.out)⟩,HB⟩
        ·rw[if_neg σ] at H
         exact absurd H (by simp)
       ·rw[if_neg χ] at H
        exact absurd H (by simp)
     ·rw[if_neg c10] at H
      exact absurd H (by simp)
    ·rw[if_neg c9] at H
     have c9b0:=decide_eq_false c9
     clear c9
     by_cases b9:0≤J
     ·rw[if_pos b9] at H
      have c25b0:=eq_true b9
      have c25b1:=decide_eq_true b9
      clear b9
      by_cases b7:J≤(B.length:Int)
      ·rw[if_pos b7] at H
       have c26b0:=eq_true b7
       have c26b1:=decide_eq_true b7
       clear b7
       obtain⟨ah,a0⟩:∃ y_:List (S86),y_=(B.drop (J:Int).toNat):=⟨_,rfl⟩
       replace H:(some (B.take (J:Int).toNat))=some r:=by first|(rw[a0];with_reducible exact H)|(have al:=(Option.bind_some _ _).symm.trans H;rw[a0];with_reducible exact al)|(have al:=(Option.bind_some _ _).symm.trans H;with_reducible exact al)|with_reducible exact H|(rw[a0];exact H)|exact H
       have br:=aK a0
       clear a0
       have c27b0:=eq_true (of_decide_eq_true (by assumption):J≤(B.length:Int))
       obtain⟨bo,ac⟩:∃ y_:List (S86),y_=(B.take (J:Int).toNat):=⟨_,rfl⟩
       replace H:(some bo)=some r:=by first|(rw[ac];with_reducible exact H)|(have al:=(Option.bind_some _ _).symm.trans H;rw[ac];with_reducible exact al)|(have al:=(Option.bind_some _ _).symm.trans H;with_reducible exact al)|with_reducible exact H|(rw[ac];exact H)|exact H
       have b6:=aK ac
       clear ac
       obtain rfl:=Option.some.inj H
       have cp:(J:Int)≤((B.length:Int):Int):=of_decide_eq_true (by assumption)
       obtain⟨di,bs,_,bu,_⟩:=info_parts Gc
       have hroom28:B.length ≤ ψ :=(Kd.Qw O.out).2.1
       have cq:Kd.C k86 _ ao B.length B:=(Kd.Qw O.out).2.2
       have d4:(0:Int)≤(J:Int):=of_decide_eq_true (by assumption)
       have cr:=N6 (P:=Try.prog) 48 86 .i64 Try.underlying48 bs 2 bu ao B.length ψ J d4 cp
       have b3:=Kd.Ct (m:=(J:Int).toNat) (c:= ψ) cq (by omega) hroom28
       obtain⟨e5,bi⟩:∃ A1,A1=(if ψ = (J:Int).toNat then ao else (ao:Option Addr).map (·.add ((J:Int).toNat * 2))):=⟨_,rfl⟩
       obtain⟨bc,bj⟩:∃ c1,c1 = ψ - (J:Int).toNat:=⟨_,rfl⟩
       have bk:ah.length=B.length - (J:Int).toNat:=(by rw[br.out,List.length_drop] <;> omega)
       rw[show(B).drop (J:Int).toNat=ah from br.out.symm] at b3
       replace b3:Kd.C k86 _ e5 ah.length ah:=(by rw[bi];exact b3)
       rw[← bk,← bi,← bj] at cr
       have de:=aK b3
       have df:=aK (show ah.length≤bc from by rw[bk,bj];exact Nat.sub_le_sub_right hroom28 _)
       have d7:=aK bj
       clear b3 cq hroom28 bs bu bj
       have d8:=aK bk
       have d9:=aK bi
       clear bk bi
       have da:=aK (show(J:Int).toNat≤B.length from by omega)
       replace cp:=eq_true cp
       have ct:(J:Int)≤((B.length:Int):Int):=of_decide_eq_true (by assumption)
       obtain⟨dj,bv,_,cx,_⟩:=info_parts Gc
       have cv:=Ch (P:=Try.prog) 48 86 .i64 Try.underlying48 bv ao B.length ψ J (of_decide_eq_true (by assumption)) ct (Kd.Qw O.out).2.1
       have bl:=Kd.Cl (m:=(J:Int).toNat) O.out (by omega)
       have cw:bo.length=(J:Int).toNat:=(by rw[b6.out,List.length_take];omega)
       rw[← b6.out] at bl
       rw[← cw] at bl cv
       clear cw bv cx
       have a2:=aK bl
       clear bl
       replace ct:=eq_true ct
       go_wp2_with (first|((with_reducible refine Z3 (b:=.clear) (xs:=#[.tmp 38]) rfl ?_);refine W8 flatI (w:=w) (S:=fun k_=>γ k_) rfl (.tmp 38) 48 rfl Try.underlying48 (.agg #[.int .i64 0,.int .i64 0]) zeroI (by decide) rfl ao e5 ψ bc ah.length B O.out (J:Int).toNat da.out d9.out d8.out d7.out rfl HB.out HK.out (fun _ hk=>hk) bo (b6.out) ?_;intro dk d0 d1 d2;have ρ:=aK d0;have τ :=aK d1;have ω :=aK d2;clear d0 d1 d2 O a2 HB HK;have a2:=ρ;have HB:= τ;have HK:= ω;clear ρ τ ω))
       go_ret
       exact⟨_,rfl,by(with_reducible repeat first|apply Kd.Qv|apply Kd.Qu|apply Kd.Qy);exact a2.out,HB.out,by repeat(first|(with_reducible first|exact HK.out|apply Kept.alloc|apply Kept.drewN|apply Kept.drew)|exact HK.out)⟩
      ·rw[if_neg b7] at H
       exact absurd H (by simp)
     ·rw[if_neg b9] at H
      exact absurd H (by simp)
def api_Hall_89.l0:Nat→List (S36)→Int→Int→Int→Int→Int→Int→Option (Int×Bool)
 |0,_,_,_,_,_,_,_=>none
 |k+1,B,Z,Y,X,J,O,γ=>if Y<X then (if 0≤(wrap64 ((IntKind.u64.wrap (wrap64 (Y+X))) / 2)) then (if (wrap64 ((IntKind.u64.wrap (wrap64 (Y+X))) / 2))<(B.length:Int) then ((call_halls_1.f ((Qc B (wrap64 ((IntKind.u64.wrap (wrap64 (Y+X))) / 2))).f0) ((Qc B (wrap64 ((IntKind.u64.wrap (wrap64 (Y+X))) / 2))).f1) ((Qc B (wrap64 ((IntKind.u64.wrap (wrap64 (Y+X))) / 2))).f2) J O γ).bind fun a6=>(if a6<0 then (api_Hall_89.l0 k B Z (wrap64 ((wrap64 ((IntKind.u64.wrap (wrap64 (Y+X))) / 2))+1)) X J O γ) else (api_Hall_89.l0 k B Z Y (wrap64 ((IntKind.u64.wrap (wrap64 (Y+X))) / 2)) J O γ))) else (none)) else (none)) else (if Y<Z then (if 0≤Y then (if Y<(B.length:Int) then ((call_halls_1.f ((Qc B Y).f0) ((Qc B Y).f1) ((Qc B Y).f2) J O γ).bind fun θ =>(some (Y,(θ == 0)))) else (none)) else (none)) else (some (Y,false)))
def api_Hall_89.f (k:Nat) (l0:List (S36)) (δ :Int) (ε :Int) (ι :Int) (a2:Int):Option (Int×Bool):=api_Hall_89.l0 k l0 (l0.length:Int) 0 (l0.length:Int) δ ε ι
def api_Hall_89.T5:Bool×List (List Nat×List Nat):=(true,[([],[]),([],[]),([],[]),([1,2],[1,2]),([3],[3]),([],[]),([0,4,5],[0,4,5]),([6],[6])])
def api_Hall_89.B5:List Nat:=[0,0,0,6,14,0,63,127]
theorem api_Hall_89.L4:rtab .any (opsOf Try.f89 5)=api_Hall_89.T5:=by kernel_rfl
theorem api_Hall_89.Vz:Zk api_Hall_89.T5.2 api_Hall_89.B5=true:=by kernel_rfl
def api_Hall_89.T8:Bool×List (List Nat×List Nat):=(true,[([],[]),([],[]),([],[]),([1,2],[1,2]),([3],[3]),([4],[4]),([4],[4]),([4],[4]),([6,7,4],[4,6,7]),([8,4],[4,8]),([4],[4]),([5,9,10,4,4],[4,5,9,10]),([11,4],[4,11]),([4,12],[4,12]),([0,11,0],[0]),([13,14,0,1,2,3,4,5,6,7,8,9,10,11,12,13,14],[13])])
def api_Hall_89.B8:List Nat:=[0,0,0,6,14,30,30,30,222,478,30,2046,4094,8190,4095,32767]
theorem api_Hall_89.En:rtab .any (opsOf Try.f89 8)=api_Hall_89.T8:=by kernel_rfl
theorem api_Hall_89.Lw:Zk api_Hall_89.T8.2 api_Hall_89.B8=true:=by kernel_rfl
set_option maxHeartbeats 8000000 in
set_option maxRecDepth 100000 in
theorem api_Hall_89.calls (k:Nat) (Z:Option Addr) (c0:Nat) (l0:List (S36)) (δ :Int) (ε :Int) (ι :Int) (a2:Int) (r1:Int) (r2:Bool) (w:World) (κ :Kd.C k36 w Z l0.length l0) (γ:l0.length≤c0) (h:api_Hall_89.f k l0 δ ε ι a2=some (r1,r2)):
 Calls Try.prog 89 #[.slice Z l0.length c0,.agg #[.int .i64 δ,.int .i64 ε,.int .i64 ι],.func (.func 79) #[] #[]] w fun e w'=>e = .returned (.tuple #[.int .i64 r1,.bool r2])∧Below w.heap.size w w':=by
 have ch:=Try.underlying36
 have ξ :=aK κ
 have ah:=aK γ
 clear κ γ
 have HB:=aK (Below.refl w.heap.size w)
 have H:(api_Hall_89.l0 k l0 (l0.length:Int) 0 (l0.length:Int) δ ε ι)=some (r1,r2):=h
 clear h
 have H':=aK H
 clear H
 go_enter Try.func89,Try.ntmps89
 go_wp2_with (first|((with_reducible refine Qe (N:=4) rfl ?_);refine qE 4 #[.int .i64 δ,.int .i64 ε,.int .i64 ι] 36 ?_;intro ν hg w4 hbox hb;have J:=aK hbox;have ai:=sGe hg;have aj:=sGe hg;replace HB:=sHb hb;clear hb hbox hg))
 go_loopg [9,10] k (fun kq v9 bd w'=>∃ (B:Int) (O:Int),v9 = .int .i64 B∧bd = .int .i64 O∧Aside0 (api_Hall_89.l0 kq l0 (l0.length:Int) B O δ ε ι = some (r1,r2))∧Aside0 (kq≤k)∧Aside0 (w'.heap[ν]?=some (.cells #[.int .i64 δ,.int .i64 ε,.int .i64 ι] 36 (0,0)))∧Aside0 (Below w.heap.size w w'))
 case atStart=>exact⟨(0),((l0.length:Int)),rfl,rfl,H',⟨Nat.le_refl _⟩,J,HB⟩
 case round=>
  clear H'
  obtain⟨B,O,rfl,rfl,HA,am,J,HB⟩:=hrel
  cases gk with
  |zero=>exact absurd HA.out (by simp[api_Hall_89.l0])
  |succ k1=>
   have H:=HA.out
   clear HA
   simp only[api_Hall_89.l0] at H
   by_cases c5:B<O
   ·rw[if_pos c5] at H
    have c5b0:=decide_eq_true c5
    clear c5
    obtain⟨X,a8⟩:∃ j_:Int,(wrap64 ((IntKind.u64.wrap (wrap64 (B+O))) / 2))=j_:=⟨_,rfl⟩
    replace H:(if 0≤(X) then (if (X)<(l0.length:Int) then ((call_halls_1.f ((Qc l0 (X)).f0) ((Qc l0 (X)).f1) ((Qc l0 (X)).f2) δ ε ι).bind fun a6=>(if a6<0 then (api_Hall_89.l0 k1 l0 (l0.length:Int) (wrap64 ((X)+1)) O δ ε ι) else (api_Hall_89.l0 k1 l0 (l0.length:Int) B X δ ε ι))) else (none)) else (none))=some (r1,r2):=by first|(rw[a8] at H;exact H)|(simp only[a8] at H ⊢;exact H)
    have hji6w:(IntKind.i64.wrap ((IntKind.u64.wrap (wrap64 (B+O))) / 2))=X:=(Za _).trans a8
    by_cases c7:0≤(X)
    ·rw[if_pos c7] at H
     have c7b0:=decide_eq_true c7
     clear c7
     by_cases c8:(X)<(l0.length:Int)
     ·rw[if_pos c8] at H
      have c8b0:=decide_eq_true c8
      clear c8
      obtain⟨a6,bw,H⟩:=qO H
      have A9:=aK bw
      clear bw
      by_cases c10:a6<0
      ·rw[if_pos c10] at H
       have c10b0:=decide_eq_true c10
       clear c10
       have H':=aK H
       clear H
       try go_wp2
       replace J:=aK (Qd J.out)
       replace HB:=aK (Qg HB.out)
       have a9:0≤((X):Int):=of_decide_eq_true (by assumption)
       have aa:(X)<(l0.length:Int):=of_decide_eq_true (by assumption)
       obtain⟨μ,ag,Y,ζ,η⟩:=Xc ξ.out (X) a9 aa
       have ψ := η
       have ω := ζ
       have a0:=Y
       cases ag
       replace Y:=sCl HB Y
       replace ζ :=sCl HB ζ
       replace η :=sCl HB η
       replace a9:=eq_true a9
       replace aa:=eq_true aa
       refine Ze (n:=8) (S:=fun w'=>w'.cell? ⟨ν,0,none⟩=some (.int .i64 δ)∧w'.cell? ⟨ν,1,none⟩=some (.int .i64 ε)∧w'.cell? ⟨ν,2,none⟩=some (.int .i64 ι)∧w'.cell? (μ.add (((X)).toNat * 3))=some (.int .i64 ((Qc l0 (X)).f0))∧w'.cell? ⟨(μ.add (((X)).toNat * 3)).block,(μ.add (((X)).toNat * 3)).off+1,none⟩=some (.int .i64 ((Qc l0 (X)).f1))∧w'.cell? ⟨(μ.add (((X)).toNat * 3)).block,(μ.add (((X)).toNat * 3)).off+2,none⟩=some (.int .i64 ((Qc l0 (X)).f2))) (ds:=[]) #[false,false,false,false,false,false,false,false] kr rfl rfl ⟨(Qa J.out 0).trans rfl,(Qa J.out 1).trans rfl,(Qa J.out 2).trans rfl,(sCl HB a0),(sCl HB ω),(sCl HB ψ)⟩ (fun hHeld=>?_);refine Q5 api_Hall_89.L4 api_Hall_89.Vz (fun HT_ HW_=>?_)
       generalize wr.drew=d4 at J HB Y ζ η hHeld ⊢
       refine qP 0 (some 24) (bN 8 1) HT_ ?_
       refine qP 1 (some 25) (bN 8 3) HT_ ?_
       refine qP 2 (some 26) (bN 8 7) HT_ ?_
       refine qP 3 (some 27) (bN 8 15) HT_ ?_
       refine qT 4 (some 28) (bN 8 31) HT_ HW_ hHeld ?_
       refine qT 5 (some 29) (bN 8 63) HT_ HW_ hHeld ?_
       refine Zf (i:=6) (N:=some 30) (bN 8 127) rfl rfl (Q3 HT_.out kr) (by decide) (fun K hK=>?_)
       refine X6 Try.func79 kr rfl #[] #[] #[.agg #[.int .i64 ((Qc l0 (X)).f0),.int .i64 ((Qc l0 (X)).f1),.int .i64 ((Qc l0 (X)).f2)],.agg #[.int .i64 δ,.int .i64 ε,.int .i64 ι]] #[.agg #[.int .i64 ((Qc l0 (X)).f0),.int .i64 ((Qc l0 (X)).f1),.int .i64 ((Qc l0 (X)).f2)],.agg #[.int .i64 δ,.int .i64 ε,.int .i64 ι]] rfl (by rfl) rfl rfl rfl (by(try simp only[List.map_toArray,List.map_cons,List.map_nil]);first|done|(simp only[a8];rfl)|rfl|(simp only[List.length_drop,List.length_take];rfl)) ?_
       with_reducible refine(call_halls_1.calls ((Qc l0 (X)).f0) ((Qc l0 (X)).f1) ((Qc l0 (X)).f2) δ ε ι a6 _ A9.out).mono ?_
       rintro e e7 ⟨rfl,hb⟩
       refine⟨_,rfl, ?_⟩
       replace J:=sBk J hb
       replace HB:=sHb hb
       (try clear hb)
       (try clear a4)
       (try clear hk)
       (try clear hi)
       refine hK.out _ _ ⟨qc J,qc J,qc J,(sCl HB a0),(sCl HB ω),(sCl HB ψ)⟩ (fun hHeld=>?_)
       clear hK K
       refine qN (some 30) ?_
       refine qP 7 (some 31) (bN 8 255) HT_ ?_
       refine Zi (Zc HT_.out kr) ?_
       try go_wp2
       go_roundg k1
       case measure=>have:=am.out;omega
       case rel=>exact⟨(wrap64 ((X)+1)),(O),(by first|rfl|(simp;done)|(simp only[← a8] <;> (first|rfl|simp))|(simp[*];done)),rfl,H',⟨by have:=am.out;omega⟩,J,HB⟩
      ·rw[if_neg c10] at H
       have c10b0:=decide_eq_false c10
       clear c10
       have H':=aK H
       clear H
       try go_wp2
       replace J:=aK (Qd J.out)
       replace HB:=aK (Qg HB.out)
       have a9:0≤((X):Int):=of_decide_eq_true (by assumption)
       have aa:(X)<(l0.length:Int):=of_decide_eq_true (by assumption)
       obtain⟨μ,ag,Y,ζ,η⟩:=Xc ξ.out (X) a9 aa
       have ψ := η
       have ω := ζ
       have a0:=Y
       cases ag
       replace Y:=sCl HB Y
       replace ζ :=sCl HB ζ
       replace η :=sCl HB η
       replace a9:=eq_true a9
       replace aa:=eq_true aa
       refine Ze (n:=8) (S:=fun w'=>w'.cell? ⟨ν,0,none⟩=some (.int .i64 δ)∧w'.cell? ⟨ν,1,none⟩=some (.int .i64 ε)∧w'.cell? ⟨ν,2,none⟩=some (.int .i64 ι)∧w'.cell? (μ.add (((X)).toNat * 3))=some (.int .i64 ((Qc l0 (X)).f0))∧w'.cell? ⟨(μ.add (((X)).toNat * 3)).block,(μ.add (((X)).toNat * 3)).off+1,none⟩=some (.int .i64 ((Qc l0 (X)).f1))∧w'.cell? ⟨(μ.add (((X)).toNat * 3)).block,(μ.add (((X)).toNat * 3)).off+2,none⟩=some (.int .i64 ((Qc l0 (X)).f2))) (ds:=[]) #[false,false,false,false,false,false,false,false] kr rfl rfl ⟨(Qa J.out 0).trans rfl,(Qa J.out 1).trans rfl,(Qa J.out 2).trans rfl,(sCl HB a0),(sCl HB ω),(sCl HB ψ)⟩ (fun hHeld=>?_);refine Q5 api_Hall_89.L4 api_Hall_89.Vz (fun HT_ HW_=>?_)
       generalize wr.drew=ba at J HB Y ζ η hHeld ⊢
       refine qP 0 (some 24) (bN 8 1) HT_ ?_
       refine qP 1 (some 25) (bN 8 3) HT_ ?_
       refine qP 2 (some 26) (bN 8 7) HT_ ?_
       refine qP 3 (some 27) (bN 8 15) HT_ ?_
       refine qT 4 (some 28) (bN 8 31) HT_ HW_ hHeld ?_
       refine qT 5 (some 29) (bN 8 63) HT_ HW_ hHeld ?_
       refine Zf (i:=6) (N:=some 30) (bN 8 127) rfl rfl (Q3 HT_.out kr) (by decide) (fun K hK=>?_)
       refine X6 Try.func79 kr rfl #[] #[] #[.agg #[.int .i64 ((Qc l0 (X)).f0),.int .i64 ((Qc l0 (X)).f1),.int .i64 ((Qc l0 (X)).f2)],.agg #[.int .i64 δ,.int .i64 ε,.int .i64 ι]] #[.agg #[.int .i64 ((Qc l0 (X)).f0),.int .i64 ((Qc l0 (X)).f1),.int .i64 ((Qc l0 (X)).f2)],.agg #[.int .i64 δ,.int .i64 ε,.int .i64 ι]] rfl (by rfl) rfl rfl rfl (by(try simp only[List.map_toArray,List.map_cons,List.map_nil]);first|done|(simp only[a8];rfl)|rfl|(simp only[List.length_drop,List.length_take];rfl)) ?_
       with_reducible refine(call_halls_1.calls ((Qc l0 (X)).f0) ((Qc l0 (X)).f1) ((Qc l0 (X)).f2) δ ε ι a6 _ A9.out).mono ?_
       rintro e bz ⟨rfl,hb⟩
       refine⟨_,rfl, ?_⟩
       replace J:=sBk J hb
       replace HB:=sHb hb
       (try clear hb)
       (try clear a4)
       (try clear hk)
       (try clear hi)
       refine hK.out _ _ ⟨qc J,qc J,qc J,(sCl HB a0),(sCl HB ω),(sCl HB ψ)⟩ (fun hHeld=>?_)
       clear hK K
       refine qN (some 30) ?_
       refine qP 7 (some 31) (bN 8 255) HT_ ?_
       refine Zi (Zc HT_.out kr) ?_
       try go_wp2
       go_roundg k1
       case measure=>have:=am.out;omega
       case rel=>exact⟨(B),(X),rfl,(by first|rfl|(simp;done)|(simp only[← a8] <;> (first|rfl|simp))|(simp[*];done)),H',⟨by have:=am.out;omega⟩,J,HB⟩
     ·rw[if_neg c8] at H
      exact absurd H (by simp)
    ·rw[if_neg c7] at H
     exact absurd H (by simp)
   ·rw[if_neg c5] at H
    have c5b0:=decide_eq_false c5
    clear c5
    by_cases a1:B<(l0.length:Int)
    ·rw[if_pos a1] at H
     have c15b0:=decide_eq_true a1
     clear a1
     by_cases χ :0≤B
     ·rw[if_pos χ] at H
      have c16b0:=decide_eq_true χ
      clear χ
      by_cases σ:B<(l0.length:Int)
      ·rw[if_pos σ] at H
       have c17b0:=decide_eq_true σ
       clear σ
       obtain⟨θ,ap,H⟩:=qO H
       have bf:=aK ap
       clear ap
       simp only[Option.some.injEq,Prod.mk.injEq] at H
       obtain⟨rfl,rfl⟩:=H
       try go_wp2
       replace J:=aK (Qd J.out)
       replace HB:=aK (Qg HB.out)
       have τ :0≤(B:Int):=of_decide_eq_true (by assumption)
       have φ :B<(l0.length:Int):=of_decide_eq_true (by assumption)
       obtain⟨a3,ab,ρ,a5,a7⟩:=Xc ξ.out B τ φ
       have ac:=a7
       have ae:=a5
       have af:=ρ
       cases ab
       replace ρ:=sCl HB ρ
       replace a5:=sCl HB a5
       replace a7:=sCl HB a7
       replace τ :=eq_true τ
       replace φ :=eq_true φ
       refine Ze (n:=16) (S:=fun w'=>w'.cell? ⟨ν,0,none⟩=some (.int .i64 δ)∧w'.cell? ⟨ν,1,none⟩=some (.int .i64 ε)∧w'.cell? ⟨ν,2,none⟩=some (.int .i64 ι)∧w'.cell? (a3.add ((B).toNat * 3))=some (.int .i64 ((Qc l0 B).f0))∧w'.cell? ⟨(a3.add ((B).toNat * 3)).block,(a3.add ((B).toNat * 3)).off+1,none⟩=some (.int .i64 ((Qc l0 B).f1))∧w'.cell? ⟨(a3.add ((B).toNat * 3)).block,(a3.add ((B).toNat * 3)).off+2,none⟩=some (.int .i64 ((Qc l0 B).f2))) (ds:=[]) #[false,false,false,false,false,false,false,false,false,false,false,false,false,false,false,false] kr rfl rfl ⟨(Qa J.out 0).trans rfl,(Qa J.out 1).trans rfl,(Qa J.out 2).trans rfl,(sCl HB af),(sCl HB ae),(sCl HB ac)⟩ (fun hHeld=>?_);refine Q5 api_Hall_89.En api_Hall_89.Lw (fun HT_ HW_=>?_)
       generalize wr.drew=b5 at J HB ρ a5 a7 hHeld ⊢
       refine qP 0 (some 35) (bN 16 1) HT_ ?_
       refine qP 1 (some 36) (bN 16 3) HT_ ?_
       refine qP 2 (some 37) (bN 16 7) HT_ ?_
       refine qP 3 (some 38) (bN 16 15) HT_ ?_
       refine qP 4 (some 39) (bN 16 31) HT_ ?_
       refine qP 5 (some 40) (bN 16 63) HT_ ?_
       refine qP 6 (some 41) (bN 16 127) HT_ ?_
       refine qP 7 (some 42) (bN 16 255) HT_ ?_
       refine qP 8 (some 43) (bN 16 511) HT_ ?_
       refine qT 9 (some 44) (bN 16 1023) HT_ HW_ hHeld ?_
       refine qT 10 (some 45) (bN 16 2047) HT_ HW_ hHeld ?_
       refine Zf (i:=11) (N:=some 46) (bN 16 4095) rfl rfl (Q3 HT_.out kr) (by decide) (fun K hK=>?_)
       refine X6 Try.func79 kr rfl #[] #[] #[.agg #[.int .i64 ((Qc l0 B).f0),.int .i64 ((Qc l0 B).f1),.int .i64 ((Qc l0 B).f2)],.agg #[.int .i64 δ,.int .i64 ε,.int .i64 ι]] #[.agg #[.int .i64 ((Qc l0 B).f0),.int .i64 ((Qc l0 B).f1),.int .i64 ((Qc l0 B).f2)],.agg #[.int .i64 δ,.int .i64 ε,.int .i64 ι]] rfl (by rfl) rfl rfl rfl qM ?_
       with_reducible refine(call_halls_1.calls ((Qc l0 B).f0) ((Qc l0 B).f1) ((Qc l0 B).f2) δ ε ι θ _ bf.out).mono ?_
       rintro e dx ⟨rfl,hb⟩
       refine⟨_,rfl, ?_⟩
       replace J:=sBk J hb
       replace HB:=sHb hb
       (try clear hb)
       (try clear a4)
       (try clear hk)
       (try clear hi)
       refine hK.out _ _ ⟨qc J,qc J,qc J,(sCl HB af),(sCl HB ae),(sCl HB ac)⟩ (fun hHeld=>?_)
       clear hK K
       refine qN (some 46) ?_
       refine qP 12 (some 47) (bN 16 8191) HT_ ?_
       refine qP 13 (some 48) (bN 16 16383) HT_ ?_
       refine qP 14 (some 6) (bN 16 32767) HT_ ?_
       refine qP 15 (some 7) (bN 16 65535) HT_ ?_
       refine Zi (Zc HT_.out kr) ?_
       try go_wp2
       go_ret2
       exact⟨rfl,HB.out⟩
      ·rw[if_neg σ] at H
       exact absurd H (by simp)
     ·rw[if_neg χ] at H
      exact absurd H (by simp)
    ·rw[if_neg a1] at H
     have c15b0:=decide_eq_false a1
     clear a1
     simp only[Option.some.injEq,Prod.mk.injEq] at H
     obtain⟨rfl,rfl⟩:=H
     try go_wp2
     replace J:=aK (Qd J.out)
     replace HB:=aK (Qg HB.out)
     refine Ze (n:=16) (S:=fun w'=>True) (ds:=[]) #[false,false,false,false,false,false,false,false,false,false,false,false,false,false,false,false] kr rfl rfl trivial (fun hHeld=>?_);refine Q5 api_Hall_89.En api_Hall_89.Lw (fun HT_ HW_=>?_)
     generalize wr.drew=b2 at J HB hHeld ⊢
     refine qP 0 (some 35) (bN 16 1) HT_ ?_
     refine qP 1 (some 36) (bN 16 3) HT_ ?_
     refine qP 2 (some 37) (bN 16 7) HT_ ?_
     refine qP 3 (some 38) (bN 16 15) HT_ ?_
     refine qP 4 (some 39) (bN 16 31) HT_ ?_
     refine qU 5 (some 40) (bN 16 63) HT_ ?_
     refine qU 6 (some 41) (bN 16 127) HT_ ?_
     refine qU 7 (some 42) (bN 16 255) HT_ ?_
     refine qU 8 (some 43) (bN 16 511) HT_ ?_
     refine qU 9 (some 44) (bN 16 1023) HT_ ?_
     refine qU 10 (some 45) (bN 16 2047) HT_ ?_
     refine qU 11 (some 46) (bN 16 4095) HT_ ?_
     refine qU 12 (some 47) (bN 16 8191) HT_ ?_
     refine qP 13 (some 48) (bN 16 16383) HT_ ?_
     refine qP 14 (some 6) (bN 16 32767) HT_ ?_
     refine qP 15 (some 7) (bN 16 65535) HT_ ?_
     refine Zi (Zc HT_.out kr) ?_
     try go_wp2
     go_ret2
     exact⟨rfl,HB.out⟩
mutual
def api_Hall_right.l0:Nat→Int→List (S36)→Int→Int→List (S36)→Int→Option (Bool)
 |0,_,_,_,_,_,_=>none
 |k+1,J,Z,Y,X,B,O=>if X<Y then (if 0≤X then (if X<(Z.length:Int) then ((call_hall_1.f ((Qc Z X).f0) ((Qc Z X).f1) ((Qc Z X).f2) J).bind fun a6=>(if a6=true then (if X>0 then (if 0≤(wrap64 (X-1)) then (if (wrap64 (X-1))<(B.length:Int) then ((call_halls_1.f ((Qc B (wrap64 (X-1))).f0) ((Qc B (wrap64 (X-1))).f1) ((Qc B (wrap64 (X-1))).f2) ((Qc Z X).f0) ((Qc Z X).f1) ((Qc Z X).f2)).bind fun a3=>(api_Hall_right.j1 k J Z Y X (decide (a3≥0)) B O)) else (none)) else (none)) else (api_Hall_right.j1 k J Z Y X false B O)) else (api_Hall_right.j1 k J Z Y X true B O))) else (none)) else (none)) else (some true)
def api_Hall_right.j1:Nat→Int→List (S36)→Int→Int→Bool→List (S36)→Int→Option (Bool)
 |0,_,_,_,_,_,_,_=>none
 |k+1,J,Z,Y,X,ν,B,O=>if ν = true then (some false) else (api_Hall_right.l0 k J Z Y (wrap64 (X+1)) B O)
end
def api_Hall_right.f (k:Nat) (B:List (S36)) (J:Int) (X:Int):Option (Bool):=api_Hall_right.l0 k X B (B.length:Int) 0 B J
def api_Hall_right.T4:Bool×List (List Nat×List Nat):=(true,[([],[]),([],[]),([0,1],[0,1]),([2],[2]),([3,2],[3]),([4],[4]),([5,4],[4,5]),([6,4,4],[4,6]),([7],[7]),([8,7],[7,8]),([7],[7]),([10,7],[7,10]),([7],[7]),([12,7],[7,12]),([11,13,7],[7,11,13]),([14,7],[7,14]),([7],[7]),([9,15,16,7,7],[7,9,15,16]),([17,7],[7,17]),([7,18,4],[4,7,18]),([4,19],[4,19])])
def api_Hall_right.B4:List Nat:=[0,0,3,7,15,31,63,127,255,511,255,1279,255,4351,15615,31999,255,131071,262143,524287,1048575]
theorem api_Hall_right.Gv:rtab .any (opsOf Try.f64 4)=api_Hall_right.T4:=by kernel_rfl
theorem api_Hall_right.Jz:Zk api_Hall_right.T4.2 api_Hall_right.B4=true:=by kernel_rfl
set_option maxHeartbeats 8000000 in
set_option maxRecDepth 100000 in
theorem api_Hall_right.calls (k:Nat) (φ :Option Addr) (κ :Nat) (B:List (S36)) (J:Int) (X:Int) (r:Bool) (w:World) (a0:Kd.C k36 w φ B.length B) (a2:B.length ≤ κ) (h:api_Hall_right.f k B J X=some r) (gh_:Nat) (hgh_:w.heap[gh_]?=some (.cells #[.int .i64 (Yq X),.int .i64 (Yp X)] 59 (0,0))):
 Calls Try.prog 64 #[.agg #[.slice φ B.length κ,.func (.func 79) #[] #[]],.func (.func 82) #[] #[.pointer (some ⟨gh_,0,none⟩)]] w fun e w'=>e = .returned (.bool r)∧Below w.heap.size w w':=by
 have HCH:=aK hgh_
 clear hgh_
 have ck:=Try.underlying109
 have ch:=Try.underlying36
 have ah:=aK a0
 have bl:=aK a2
 clear a0 a2
 have HB:=aK (Below.refl w.heap.size w)
 have H:(api_Hall_right.l0 k X B (B.length:Int) 0 B J)=some r:=h
 clear h
 have H':=aK H
 clear H
 go_enter Try.func64,Try.ntmps64
 go_wp2_with (first|((with_reducible refine Qe (N:=2) rfl ?_);refine qE 2 #[.slice φ B.length κ,.func (.func 79) #[] #[]] 109 ?_;intro ξ hg w3 hbox hb;have γ:=aK hbox;have bm:=sGe hg;have ao:=sGe hg;replace HB:=sHb hb;clear hb hbox hg;obtain⟨a9,af,ai,aj⟩:=qD2 γ.out))
 go_loopg [10] k (fun kq bd w'=>∃ (O:Int),bd = .int .i64 O∧Aside0 (api_Hall_right.l0 kq X B (B.length:Int) O B J=some r)∧Aside0 (kq≤k)∧Aside0 (w'.heap[ξ]?=some (.cells #[(.slice φ B.length κ),.func (.func 79) #[] #[]] 109 (0,0)))∧Aside0 (Below w.heap.size w w'))
 case atStart=>exact⟨(0),rfl,H',⟨Nat.le_refl _⟩,γ,HB⟩
 case round=>
  clear H'
  try clear a9
  try clear af
  try clear ai
  try clear aj
  obtain⟨O,rfl,HA,am,γ,HB⟩:=hrel
  cases gk with
  |zero=>exact absurd HA.out (by simp[api_Hall_right.l0])
  |succ k1=>
   have H:=HA.out
   clear HA
   simp only[api_Hall_right.l0] at H
   by_cases c5:O<(B.length:Int)
   ·rw[if_pos c5] at H
    have c5b0:=decide_eq_true c5
    clear c5
    by_cases c6:0≤O
    ·rw[if_pos c6] at H
     have c6b0:=decide_eq_true c6
     clear c6
     by_cases c7:O<(B.length:Int)
     ·rw[if_pos c7] at H
      have c7b0:=decide_eq_true c7
      clear c7
      have a7:=aK H
      clear H
      have ι :0≤(O:Int):=of_decide_eq_true (by assumption)
      have μ :O<(B.length:Int):=of_decide_eq_true (by assumption)
      obtain⟨θ,ay,ab,ag,an⟩:=Xc ah.out O ι μ
      cases ay
      replace ab:=sCl HB ab
      replace ag:=sCl HB ag
      replace an:=sCl HB an
      replace ι :=eq_true ι
      replace μ :=eq_true μ
      go_upto_region 4 with(first|((with_reducible refine Qe (N:=6) rfl ?_);refine qE 6 #[.int .i64 0,.int .i64 0,.int .i64 0] 36 ?_;intro ε hg w9 hbox hb;have Z:=aK hbox;have a8:=sGe hg;have az:=sGe hg;have ar:=sNl γ hg;have au:=sNg γ hg;replace γ:=sBk γ hb;replace HB:=sHb hb;clear hb hbox hg;have cf:=au.out;have cj:=ar.out;obtain⟨bs,cn,cw,co,cp,d4⟩:=qD3 Z.out))
      (try simp only[Act.put,qS])
      go_cut [35] (fun ax wc=>∃ (kq:Nat) (ζ :Bool),ax = .bool ζ ∧ Aside0 (api_Hall_right.j1 kq X B (B.length:Int) O ζ B J=some r)∧Aside0 (kq≤k1)∧Aside0 (wc.heap[ξ]?=some (.cells #[(.slice (some θ) B.length κ),.func (.func 79) #[] #[]] 109 (0,0)))∧Aside0 (wc.heap[ε]?=some (.cells #[.int .i64 ((Qc B O).f0),.int .i64 ((Qc B O).f1),.int .i64 ((Qc B O).f2)] 36 (0,0)))∧Aside0 (Below w.heap.size w wc))
      case first=>
       have H:=a7.out
       clear a7
       obtain⟨a6,b7,H⟩:=qO H
       have b6:=aK b7
       clear b7
       by_cases ψ :a6=true
       ·subst ψ
        rw[if_pos rfl] at H
        by_cases ae:O>0
        ·rw[if_pos ae] at H
         have c14b0:decide (0<O)=true:=decide_eq_true ae
         clear ae
         (first|rw[c14b0]|(simp only[Za,Zb];rw[c14b0])|skip)
         obtain⟨δ,ac⟩:∃ j_:Int,(wrap64 (O-1))=j_:=⟨_,rfl⟩
         replace H:(if 0≤(δ) then (if (δ)<(B.length:Int) then ((call_halls_1.f ((Qc B (δ)).f0) ((Qc B (δ)).f1) ((Qc B (δ)).f2) ((Qc B O).f0) ((Qc B O).f1) ((Qc B O).f2)).bind fun a3=>(api_Hall_right.j1 k1 X B (B.length:Int) O (decide (a3≥0)) B J)) else (none)) else (none))=some r:=by first|(rw[ac] at H;exact H)|(simp only[ac] at H ⊢;exact H)
         (try rw[ac] at b6)
         have hji15w:(IntKind.i64.wrap (O-1)) = δ :=(Za _).trans ac
         by_cases χ :0≤(δ)
         ·rw[if_pos χ] at H
          have c16b0:=decide_eq_true χ
          clear χ
          by_cases σ:(δ)<(B.length:Int)
          ·rw[if_pos σ] at H
           have c17b0:=decide_eq_true σ
           clear σ
           obtain⟨a3,ap,H⟩:=qO H
           have bf:=aK ap
           clear ap
           have H':=aK H
           clear H
           try go_wp2
           have ρ:Aside0 ((((w9.setCell ⟨ε,0,none⟩ (.int .i64 ((Qc B O).f0))).setCell ⟨ε,1,none⟩ (.int .i64 ((Qc B O).f1))).setCell ⟨ε,2,none⟩ (.int .i64 ((Qc B O).f2))).heap[ξ]?=some (.cells #[.slice (some θ) B.length κ,.func (.func 79) #[] #[]] 109 (0,0))):=⟨bka γ⟩
           have τ :Aside0 ((((w9.setCell ⟨ε,0,none⟩ (.int .i64 ((Qc B O).f0))).setCell ⟨ε,1,none⟩ (.int .i64 ((Qc B O).f1))).setCell ⟨ε,2,none⟩ (.int .i64 ((Qc B O).f2))).heap[ε]?=some (.cells #[.int .i64 ((Qc B O).f0),.int .i64 ((Qc B O).f1),.int .i64 ((Qc B O).f2)] 36 (0,0))):=⟨by refine Qq (cs:=#[.int .i64 ((Qc B O).f0),.int .i64 ((Qc B O).f1),.int .i64 0]) ?_ 2 _ rfl;refine Qq (cs:=#[.int .i64 ((Qc B O).f0),.int .i64 0,.int .i64 0]) ?_ 1 _ rfl;refine Qq (cs:=#[.int .i64 0,.int .i64 0,.int .i64 0]) ?_ 0 _ rfl;exact Z.out⟩
           have ω :Aside0 (Below w.heap.size w (((w9.setCell ⟨ε,0,none⟩ (.int .i64 ((Qc B O).f0))).setCell ⟨ε,1,none⟩ (.int .i64 ((Qc B O).f1))).setCell ⟨ε,2,none⟩ (.int .i64 ((Qc B O).f2)))):=⟨bel⟩
           (try clear γ)
           (try clear Z)
           (try clear HB)
           generalize(((w9.setCell ⟨ε,0,none⟩ (.int .i64 ((Qc B O).f0))).setCell ⟨ε,1,none⟩ (.int .i64 ((Qc B O).f1))).setCell ⟨ε,2,none⟩ (.int .i64 ((Qc B O).f2)))=b5 at ρ τ ω ⊢
           have γ:=ρ
           have Z:= τ
           have HB:= ω
           clear ρ τ ω
           replace γ:=aK (Qd γ.out)
           replace Z:=aK (Qd Z.out)
           replace HB:=aK (Qg HB.out)
           have av:0≤((δ):Int):=of_decide_eq_true (by assumption)
           have aw:(δ)<(B.length:Int):=of_decide_eq_true (by assumption)
           obtain⟨b1,b3,Y,η,ν⟩:=Xc ah.out (δ) av aw
           have a5:= ν
           have ak:= η
           have al:=Y
           obtain rfl: θ = b1:=(by injection b3)
           replace Y:=sCl HB Y
           replace η :=sCl HB η
           replace ν :=sCl HB ν
           replace av:=eq_true av
           replace aw:=eq_true aw
           refine Ze (n:=21) (S:=fun w'=>w'.cell? ⟨ε,0,none⟩=some (.int .i64 ((Qc B O).f0))∧w'.cell? ⟨ε,1,none⟩=some (.int .i64 ((Qc B O).f1))∧w'.cell? ⟨ε,2,none⟩=some (.int .i64 ((Qc B O).f2))∧w'.cell? ⟨ξ,0,none⟩=some (.slice (some θ) B.length κ)∧w'.cell? ⟨ξ,1,none⟩=some (.func (.func 79) #[] #[])∧w'.cell? (θ.add (((δ)).toNat * 3))=some (.int .i64 ((Qc B (δ)).f0))∧w'.cell? ⟨(θ.add (((δ)).toNat * 3)).block,(θ.add (((δ)).toNat * 3)).off+1,none⟩=some (.int .i64 ((Qc B (δ)).f1))∧w'.cell? ⟨(θ.add (((δ)).toNat * 3)).block,(θ.add (((δ)).toNat * 3)).off+2,none⟩=some (.int .i64 ((Qc B (δ)).f2))) (ds:=[]) #[false,false,false,false,false,false,false,false,false,false,false,false,false,false,false,false,false,false,false,false,false] kr rfl rfl ⟨(Qa Z.out 0).trans rfl,(Qa Z.out 1).trans rfl,(Qa Z.out 2).trans rfl,(Qa γ.out 0).trans rfl,(Qa γ.out 1).trans rfl,(sCl HB al),(sCl HB ak),(sCl HB a5)⟩ (fun hHeld=>?_);refine Q5 api_Hall_right.Gv api_Hall_right.Jz (fun HT_ HW_=>?_)
           generalize b5.drew=dx at γ Z HB Y η ν hHeld ⊢
           refine qP 0 (some 15) (bN 21 1) HT_ ?_
           refine qT 1 (some 16) (bN 21 3) HT_ HW_ hHeld ?_
           refine Zf (i:=2) (N:=some 17) (bN 21 7) rfl rfl (Q3 HT_.out kr) (by decide) (fun K hK=>?_)
           refine X6 Try.func82 kr rfl #[] #[.pointer (some ⟨gh_,0,none⟩)] #[.agg #[.int .i64 ((Qc B O).f0),.int .i64 ((Qc B O).f1),.int .i64 ((Qc B O).f2)]] #[.agg #[.int .i64 ((Qc B O).f0),.int .i64 ((Qc B O).f1),.int .i64 ((Qc B O).f2)],.pointer (some ⟨gh_,0,none⟩)] rfl (by rfl) rfl rfl rfl qM ?_
           with_reducible refine(call_hall_1.calls ((Qc B O).f0) ((Qc B O).f1) ((Qc B O).f2) X true _ b6.out gh_ (Z7 HCH.out (by repeat(first|(with_reducible first|exact HB.out|apply Qo|apply Qi|apply Qg)|exact HB.out|(refine Qr ?_ (Aside0.out (by assumption))))))).mono ?_
           rintro e b2 ⟨rfl,hb⟩
           refine⟨_,rfl, ?_⟩
           replace γ:=sBk γ hb
           replace Z:=sBk Z hb
           replace HB:=sHb hb
           (try clear hb)
           (try clear a4)
           (try clear hk)
           (try clear hi)
           refine hK.out _ _ ⟨qc Z,qc Z,qc Z,qc γ,qc γ,(sCl HB al),(sCl HB ak),(sCl HB a5)⟩ (fun hHeld=>?_)
           clear hK K
           refine qN (some 17) ?_
           refine qP 3 (some 18) (bN 21 15) HT_ ?_
           refine qP 4 (some 19) (bN 21 31) HT_ ?_
           refine qP 5 (some 20) (bN 21 63) HT_ ?_
           refine qP 6 (some 21) (bN 21 127) HT_ ?_
           refine qP 7 (some 22) (bN 21 255) HT_ ?_
           refine qP 8 (some 23) (bN 21 511) HT_ ?_
           refine qP 10 (some 25) (bN 21 1535) HT_ ?_
           refine qP 12 (some 27) (bN 21 5631) HT_ ?_
           refine qP 13 (some 28) (bN 21 13823) HT_ ?_
           refine qT 9 (some 24) (bN 21 14335) HT_ HW_ hHeld ?_
           refine qT 11 (some 26) (bN 21 16383) HT_ HW_ hHeld ?_
           refine qP 14 (some 29) (bN 21 32767) HT_ ?_
           refine qT 15 (some 30) (bN 21 65535) HT_ HW_ hHeld ?_
           refine qT 16 (some 31) (bN 21 131071) HT_ HW_ hHeld ?_
           refine Zf (i:=17) (N:=some 32) (bN 21 262143) rfl rfl (Q3 HT_.out kr) (by decide) (fun K hK=>?_)
           refine X6 Try.func79 kr rfl #[] #[] #[.agg #[.int .i64 ((Qc B (δ)).f0),.int .i64 ((Qc B (δ)).f1),.int .i64 ((Qc B (δ)).f2)],.agg #[.int .i64 ((Qc B O).f0),.int .i64 ((Qc B O).f1),.int .i64 ((Qc B O).f2)]] #[.agg #[.int .i64 ((Qc B (δ)).f0),.int .i64 ((Qc B (δ)).f1),.int .i64 ((Qc B (δ)).f2)],.agg #[.int .i64 ((Qc B O).f0),.int .i64 ((Qc B O).f1),.int .i64 ((Qc B O).f2)]] rfl (by rfl) rfl rfl rfl (by(try simp only[List.map_toArray,List.map_cons,List.map_nil]);first|done|(simp only[ac];rfl)|rfl|(simp only[List.length_drop,List.length_take];rfl)) ?_
           with_reducible refine(call_halls_1.calls ((Qc B (δ)).f0) ((Qc B (δ)).f1) ((Qc B (δ)).f2) ((Qc B O).f0) ((Qc B O).f1) ((Qc B O).f2) a3 _ bf.out).mono ?_
           rintro e bj ⟨rfl,hb⟩
           refine⟨_,rfl, ?_⟩
           replace γ:=sBk γ hb
           replace Z:=sBk Z hb
           replace HB:=sHb hb
           (try clear hb)
           (try clear a4)
           (try clear hk)
           (try clear hi)
           refine hK.out _ _ ⟨qc Z,qc Z,qc Z,qc γ,qc γ,(sCl HB al),(sCl HB ak),(sCl HB a5)⟩ (fun hHeld=>?_)
           clear hK K
           refine qN (some 32) ?_
           refine qP 18 (some 33) (bN 21 524287) HT_ ?_
           refine qP 19 (some 34) (bN 21 1048575) HT_ ?_
           refine qP 20 (some 35) (bN 21 2097151) HT_ ?_
           refine Zi (Zc HT_.out kr) ?_
           try go_wp2
           go_meet
           case rel=>exact⟨_,(decide (a3≥0)),rfl,H',⟨by have:=am.out;omega⟩,γ,Z,HB⟩
          ·rw[if_neg σ] at H
           exact absurd H (by simp)
         ·rw[if_neg χ] at H
          exact absurd H (by simp)
        ·rw[if_neg ae] at H
         have c14b0:decide (0<O)=false:=decide_eq_false ae
         clear ae
         (first|rw[c14b0]|(simp only[Za,Zb];rw[c14b0])|skip)
         have H':=aK H
         clear H
         try go_wp2
         have ρ:Aside0 ((((w9.setCell ⟨ε,0,none⟩ (.int .i64 ((Qc B O).f0))).setCell ⟨ε,1,none⟩ (.int .i64 ((Qc B O).f1))).setCell ⟨ε,2,none⟩ (.int .i64 ((Qc B O).f2))).heap[ξ]?=some (.cells #[.slice (some θ) B.length κ,.func (.func 79) #[] #[]] 109 (0,0))):=⟨bka γ⟩
         have τ :Aside0 ((((w9.setCell ⟨ε,0,none⟩ (.int .i64 ((Qc B O).f0))).setCell ⟨ε,1,none⟩ (.int .i64 ((Qc B O).f1))).setCell ⟨ε,2,none⟩ (.int .i64 ((Qc B O).f2))).heap[ε]?=some (.cells #[.int .i64 ((Qc B O).f0),.int .i64 ((Qc B O).f1),.int .i64 ((Qc B O).f2)] 36 (0,0))):=⟨by refine Qq (cs:=#[.int .i64 ((Qc B O).f0),.int .i64 ((Qc B O).f1),.int .i64 0]) ?_ 2 _ rfl;refine Qq (cs:=#[.int .i64 ((Qc B O).f0),.int .i64 0,.int .i64 0]) ?_ 1 _ rfl;refine Qq (cs:=#[.int .i64 0,.int .i64 0,.int .i64 0]) ?_ 0 _ rfl;exact Z.out⟩
         have ω :Aside0 (Below w.heap.size w (((w9.setCell ⟨ε,0,none⟩ (.int .i64 ((Qc B O).f0))).setCell ⟨ε,1,none⟩ (.int .i64 ((Qc B O).f1))).setCell ⟨ε,2,none⟩ (.int .i64 ((Qc B O).f2)))):=⟨bel⟩
         (try clear γ)
         (try clear Z)
         (try clear HB)
         generalize(((w9.setCell ⟨ε,0,none⟩ (.int .i64 ((Qc B O).f0))).setCell ⟨ε,1,none⟩ (.int .i64 ((Qc B O).f1))).setCell ⟨ε,2,none⟩ (.int .i64 ((Qc B O).f2)))=bb at ρ τ ω ⊢
         have γ:=ρ
         have Z:= τ
         have HB:= ω
         clear ρ τ ω
         replace γ:=aK (Qd γ.out)
         replace Z:=aK (Qd Z.out)
         replace HB:=aK (Qg HB.out)
         refine Ze (n:=21) (S:=fun w'=>w'.cell? ⟨ε,0,none⟩=some (.int .i64 ((Qc B O).f0))∧w'.cell? ⟨ε,1,none⟩=some (.int .i64 ((Qc B O).f1))∧w'.cell? ⟨ε,2,none⟩=some (.int .i64 ((Qc B O).f2))) (ds:=[]) #[false,false,false,false,false,false,false,false,false,false,false,false,false,false,false,false,false,false,false,false,false] kr rfl rfl ⟨(Qa Z.out 0).trans rfl,(Qa Z.out 1).trans rfl,(Qa Z.out 2).trans rfl⟩ (fun hHeld=>?_);refine Q5 api_Hall_right.Gv api_Hall_right.Jz (fun HT_ HW_=>?_)
         generalize bb.drew=cd at γ Z HB hHeld ⊢
         refine qP 0 (some 15) (bN 21 1) HT_ ?_
         refine qT 1 (some 16) (bN 21 3) HT_ HW_ hHeld ?_
         refine Zf (i:=2) (N:=some 17) (bN 21 7) rfl rfl (Q3 HT_.out kr) (by decide) (fun K hK=>?_)
         refine X6 Try.func82 kr rfl #[] #[.pointer (some ⟨gh_,0,none⟩)] #[.agg #[.int .i64 ((Qc B O).f0),.int .i64 ((Qc B O).f1),.int .i64 ((Qc B O).f2)]] #[.agg #[.int .i64 ((Qc B O).f0),.int .i64 ((Qc B O).f1),.int .i64 ((Qc B O).f2)],.pointer (some ⟨gh_,0,none⟩)] rfl (by rfl) rfl rfl rfl qM ?_
         with_reducible refine(call_hall_1.calls ((Qc B O).f0) ((Qc B O).f1) ((Qc B O).f2) X true _ b6.out gh_ (Z7 HCH.out (by repeat(first|(with_reducible first|exact HB.out|apply Qo|apply Qi|apply Qg)|exact HB.out|(refine Qr ?_ (Aside0.out (by assumption))))))).mono ?_
         rintro e dt ⟨rfl,hb⟩
         refine⟨_,rfl, ?_⟩
         replace γ:=sBk γ hb
         replace Z:=sBk Z hb
         replace HB:=sHb hb
         (try clear hb)
         (try clear a4)
         (try clear hk)
         (try clear hi)
         refine hK.out _ _ ⟨qc Z,qc Z,qc Z⟩ (fun hHeld=>?_)
         clear hK K
         refine qN (some 17) ?_
         refine qP 3 (some 18) (bN 21 15) HT_ ?_
         refine qP 4 (some 19) (bN 21 31) HT_ ?_
         refine qP 5 (some 20) (bN 21 63) HT_ ?_
         refine qP 6 (some 21) (bN 21 127) HT_ ?_
         refine qP 7 (some 22) (bN 21 255) HT_ ?_
         refine qU 8 (some 23) (bN 21 511) HT_ ?_
         refine qU 9 (some 24) (bN 21 1023) HT_ ?_
         refine qU 10 (some 25) (bN 21 2047) HT_ ?_
         refine qU 11 (some 26) (bN 21 4095) HT_ ?_
         refine qU 12 (some 27) (bN 21 8191) HT_ ?_
         refine qU 13 (some 28) (bN 21 16383) HT_ ?_
         refine qU 14 (some 29) (bN 21 32767) HT_ ?_
         refine qU 15 (some 30) (bN 21 65535) HT_ ?_
         refine qU 16 (some 31) (bN 21 131071) HT_ ?_
         refine qU 17 (some 32) (bN 21 262143) HT_ ?_
         refine qU 18 (some 33) (bN 21 524287) HT_ ?_
         refine qP 19 (some 34) (bN 21 1048575) HT_ ?_
         refine qP 20 (some 35) (bN 21 2097151) HT_ ?_
         refine Zi (Zc HT_.out kr) ?_
         try go_wp2
         go_meet
         case rel=>exact⟨_,(false),rfl,H',⟨by have:=am.out;omega⟩,γ,Z,HB⟩
       ·replace ψ :=Bool.eq_false_iff.mpr ψ
        subst ψ
        rw[if_neg nft] at H
        have H':=aK H
        clear H
        try go_wp2
        have ρ:Aside0 ((((w9.setCell ⟨ε,0,none⟩ (.int .i64 ((Qc B O).f0))).setCell ⟨ε,1,none⟩ (.int .i64 ((Qc B O).f1))).setCell ⟨ε,2,none⟩ (.int .i64 ((Qc B O).f2))).heap[ξ]?=some (.cells #[.slice (some θ) B.length κ,.func (.func 79) #[] #[]] 109 (0,0))):=⟨bka γ⟩
        have τ :Aside0 ((((w9.setCell ⟨ε,0,none⟩ (.int .i64 ((Qc B O).f0))).setCell ⟨ε,1,none⟩ (.int .i64 ((Qc B O).f1))).setCell ⟨ε,2,none⟩ (.int .i64 ((Qc B O).f2))).heap[ε]?=some (.cells #[.int .i64 ((Qc B O).f0),.int .i64 ((Qc B O).f1),.int .i64 ((Qc B O).f2)] 36 (0,0))):=⟨by refine Qq (cs:=#[.int .i64 ((Qc B O).f0),.int .i64 ((Qc B O).f1),.int .i64 0]) ?_ 2 _ rfl;refine Qq (cs:=#[.int .i64 ((Qc B O).f0),.int .i64 0,.int .i64 0]) ?_ 1 _ rfl;refine Qq (cs:=#[.int .i64 0,.int .i64 0,.int .i64 0]) ?_ 0 _ rfl;exact Z.out⟩
        have ω :Aside0 (Below w.heap.size w (((w9.setCell ⟨ε,0,none⟩ (.int .i64 ((Qc B O).f0))).setCell ⟨ε,1,none⟩ (.int .i64 ((Qc B O).f1))).setCell ⟨ε,2,none⟩ (.int .i64 ((Qc B O).f2)))):=⟨bel⟩
        (try clear γ)
        (try clear Z)
        (try clear HB)
        generalize(((w9.setCell ⟨ε,0,none⟩ (.int .i64 ((Qc B O).f0))).setCell ⟨ε,1,none⟩ (.int .i64 ((Qc B O).f1))).setCell ⟨ε,2,none⟩ (.int .i64 ((Qc B O).f2)))=ij at ρ τ ω ⊢
        have γ:=ρ
        have Z:= τ
        have HB:= ω
        clear ρ τ ω
        replace γ:=aK (Qd γ.out)
        replace Z:=aK (Qd Z.out)
        replace HB:=aK (Qg HB.out)
        refine Ze (n:=21) (S:=fun w'=>w'.cell? ⟨ε,0,none⟩=some (.int .i64 ((Qc B O).f0))∧w'.cell? ⟨ε,1,none⟩=some (.int .i64 ((Qc B O).f1))∧w'.cell? ⟨ε,2,none⟩=some (.int .i64 ((Qc B O).f2))) (ds:=[]) #[false,false,false,false,false,false,false,false,false,false,false,false,false,false,false,false,false,false,false,false,false] kr rfl rfl ⟨(Qa Z.out 0).trans rfl,(Qa Z.out 1).trans rfl,(Qa Z.out 2).trans rfl⟩ (fun hHeld=>?_);refine Q5 api_Hall_right.Gv api_Hall_right.Jz (fun HT_ HW_=>?_)
        generalize ij.drew=di at γ Z HB hHeld ⊢
        refine qP 0 (some 15) (bN 21 1) HT_ ?_
        refine qT 1 (some 16) (bN 21 3) HT_ HW_ hHeld ?_
        refine Zf (i:=2) (N:=some 17) (bN 21 7) rfl rfl (Q3 HT_.out kr) (by decide) (fun K hK=>?_)
        refine X6 Try.func82 kr rfl #[] #[.pointer (some ⟨gh_,0,none⟩)] #[.agg #[.int .i64 ((Qc B O).f0),.int .i64 ((Qc B O).f1),.int .i64 ((Qc B O).f2)]] #[.agg #[.int .i64 ((Qc B O).f0),.int .i64 ((Qc B O).f1),.int .i64 ((Qc B O).f2)],.pointer (some ⟨gh_,0,none⟩)] rfl (by rfl) rfl rfl rfl qM ?_
        with_reducible refine(call_hall_1.calls ((Qc B O).f0) ((Qc B O).f1) ((Qc B O).f2) X false _ b6.out gh_ (Z7 HCH.out (by repeat(first|(with_reducible first|exact HB.out|apply Qo|apply Qi|apply Qg)|exact HB.out|(refine Qr ?_ (Aside0.out (by assumption))))))).mono ?_
        rintro e du ⟨rfl,hb⟩
        refine⟨_,rfl, ?_⟩
        replace γ:=sBk γ hb
        replace Z:=sBk Z hb
        replace HB:=sHb hb
        (try clear hb)
        (try clear a4)
        (try clear hk)
        (try clear hi)
        refine hK.out _ _ ⟨qc Z,qc Z,qc Z⟩ (fun hHeld=>?_)
        clear hK K
        refine qN (some 17) ?_
        refine qP 3 (some 18) (bN 21 15) HT_ ?_
        refine qP 4 (some 19) (bN 21 31) HT_ ?_
        refine qU 5 (some 20) (bN 21 63) HT_ ?_
        refine qU 6 (some 21) (bN 21 127) HT_ ?_
        refine qU 7 (some 22) (bN 21 255) HT_ ?_
        refine qU 8 (some 23) (bN 21 511) HT_ ?_
        refine qU 9 (some 24) (bN 21 1023) HT_ ?_
        refine qU 10 (some 25) (bN 21 2047) HT_ ?_
        refine qU 11 (some 26) (bN 21 4095) HT_ ?_
        refine qU 12 (some 27) (bN 21 8191) HT_ ?_
        refine qU 13 (some 28) (bN 21 16383) HT_ ?_
        refine qU 14 (some 29) (bN 21 32767) HT_ ?_
        refine qU 15 (some 30) (bN 21 65535) HT_ ?_
        refine qU 16 (some 31) (bN 21 131071) HT_ ?_
        refine qU 17 (some 32) (bN 21 262143) HT_ ?_
        refine qU 18 (some 33) (bN 21 524287) HT_ ?_
        refine qU 19 (some 34) (bN 21 1048575) HT_ ?_
        refine qP 20 (some 35) (bN 21 2097151) HT_ ?_
        refine Zi (Zc HT_.out kr) ?_
        try go_wp2
        go_meet
        case rel=>exact⟨_,(true),rfl,H',⟨by have:=am.out;omega⟩,γ,Z,HB⟩
      case rest=>
       clear a7
       obtain⟨kq,ζ,rfl,HA,b0,γ,Z,HB⟩:=hcut
       cases kq with
       |zero=>exact absurd HA.out (by simp[api_Hall_right.j1])
       |succ ba=>
        have H:=HA.out
        clear HA
        simp only[api_Hall_right.j1] at H
        by_cases aa: ζ = true
        ·subst aa
         rw[if_pos rfl] at H
         obtain rfl:=Option.some.inj H
         go_wp2
         go_ret
         exact⟨rfl,HB.out⟩
        ·replace aa:=Bool.eq_false_iff.mpr aa
         subst aa
         rw[if_neg nft] at H
         have H':=aK H
         clear H
         go_wp2
         go_roundg ba
         case measure=>have:=am.out;have:=b0.out;omega
         case rel=>exact⟨(wrap64 (O+1)),rfl,H',⟨by have:=am.out;have:=b0.out;omega⟩,γ,HB⟩
     ·rw[if_neg c7] at H
      exact absurd H (by simp)
    ·rw[if_neg c6] at H
     exact absurd H (by simp)
   ·rw[if_neg c5] at H
    have c5b0:=decide_eq_false c5
    clear c5
    obtain rfl:=Option.some.inj H
    go_wp2
    go_ret
    exact⟨rfl,HB.out⟩
mutual
def api_Inside_right.l0:Nat→Int→List (S86)→Int→Int→List (S86)→Int→Option (Bool)
 |0,_,_,_,_,_,_=>none
 |k+1,J,Z,Y,X,B,O=>if X<Y then (if 0≤X then (if X<(Z.length:Int) then ((call_inside_1.f ((Qp Z X).f0) ((Qp Z X).f1) J).bind fun a5=>(if a5=true then (if X>0 then (if 0≤(wrap64 (X-1)) then (if (wrap64 (X-1))<(B.length:Int) then ((call_ins_1.f ((Qp B (wrap64 (X-1))).f0) ((Qp B (wrap64 (X-1))).f1) ((Qp Z X).f0) ((Qp Z X).f1)).bind fun η =>(api_Inside_right.j1 k J Z Y X (decide (η ≥ 0)) B O)) else (none)) else (none)) else (api_Inside_right.j1 k J Z Y X false B O)) else (api_Inside_right.j1 k J Z Y X true B O))) else (none)) else (none)) else (some true)
def api_Inside_right.j1:Nat→Int→List (S86)→Int→Int→Bool→List (S86)→Int→Option (Bool)
 |0,_,_,_,_,_,_,_=>none
 |k+1,J,Z,Y,X,ν,B,O=>if ν = true then (some false) else (api_Inside_right.l0 k J Z Y (wrap64 (X+1)) B O)
end
def api_Inside_right.f (k:Nat) (B:List (S86)) (J:Int) (X:Int):Option (Bool):=api_Inside_right.l0 k X B (B.length:Int) 0 B J
def api_Inside_right.T4:Bool×List (List Nat×List Nat):=(true,[([],[]),([],[]),([0,1],[0,1]),([2],[2]),([3,2],[3]),([4],[4]),([5,4],[4,5]),([6,4,4],[4,6]),([7],[7]),([8,7],[7,8]),([7],[7]),([10,7],[7,10]),([7],[7]),([12,7],[7,12]),([11,13,7],[7,11,13]),([14,7],[7,14]),([7],[7]),([9,15,16,7,7],[7,9,15,16]),([17,7],[7,17]),([7,18,4],[4,7,18]),([4,19],[4,19])])
def api_Inside_right.B4:List Nat:=[0,0,3,7,15,31,63,127,255,511,255,1279,255,4351,15615,31999,255,131071,262143,524287,1048575]
theorem api_Inside_right.Gv:rtab .any (opsOf Try.f67 4)=api_Inside_right.T4:=by kernel_rfl
theorem api_Inside_right.Jz:Zk api_Inside_right.T4.2 api_Inside_right.B4=true:=by kernel_rfl
set_option maxHeartbeats 8000000 in
set_option maxRecDepth 100000 in
theorem api_Inside_right.calls (k:Nat) (φ :Option Addr) (κ :Nat) (B:List (S86)) (J:Int) (X:Int) (r:Bool) (w:World) (a0:Kd.C k86 w φ B.length B) (a2:B.length ≤ κ) (h:api_Inside_right.f k B J X=some r) (gh_:Nat) (hgh_:w.heap[gh_]?=some (.cells #[.int .i64 (Yq X),.int .i64 (Yp X)] 59 (0,0))):
 Calls Try.prog 67 #[.agg #[.slice φ B.length κ,.func (.func 83) #[] #[]],.func (.func 84) #[] #[.pointer (some ⟨gh_,0,none⟩)]] w fun e w'=>e = .returned (.bool r)∧Below w.heap.size w w':=by
 have HCH:=aK hgh_
 clear hgh_
 have ay:=Try.underlying116
 have cu:=Try.underlying86
 have ah:=aK a0
 have bl:=aK a2
 clear a0 a2
 have HB:=aK (Below.refl w.heap.size w)
 have H:(api_Inside_right.l0 k X B (B.length:Int) 0 B J)=some r:=h
 clear h
 have H':=aK H
 clear H
 go_enter Try.func67,Try.ntmps67
 go_wp2_with (first|((with_reducible refine Qe (N:=2) rfl ?_);refine qE 2 #[.slice φ B.length κ,.func (.func 83) #[] #[]] 116 ?_;intro ι hg w3 hbox hb;have γ:=aK hbox;have az:=sGe hg;have b1:=sGe hg;replace HB:=sHb hb;clear hb hbox hg;obtain⟨a9,af,ai,aj⟩:=qD2 γ.out))
 go_loopg [10] k (fun kq bd w'=>∃ (O:Int),bd = .int .i64 O∧Aside0 (api_Inside_right.l0 kq X B (B.length:Int) O B J=some r)∧Aside0 (kq≤k)∧Aside0 (w'.heap[ι]?=some (.cells #[(.slice φ B.length κ),.func (.func 83) #[] #[]] 116 (0,0)))∧Aside0 (Below w.heap.size w w'))
 case atStart=>exact⟨(0),rfl,H',⟨Nat.le_refl _⟩,γ,HB⟩
 case round=>
  clear H'
  try clear a9
  try clear af
  try clear ai
  try clear aj
  obtain⟨O,rfl,HA,am,γ,HB⟩:=hrel
  cases gk with
  |zero=>exact absurd HA.out (by simp[api_Inside_right.l0])
  |succ k1=>
   have H:=HA.out
   clear HA
   simp only[api_Inside_right.l0] at H
   by_cases c5:O<(B.length:Int)
   ·rw[if_pos c5] at H
    have c5b0:=decide_eq_true c5
    clear c5
    by_cases c6:0≤O
    ·rw[if_pos c6] at H
     have c6b0:=decide_eq_true c6
     clear c6
     by_cases c7:O<(B.length:Int)
     ·rw[if_pos c7] at H
      have c7b0:=decide_eq_true c7
      clear c7
      have a7:=aK H
      clear H
      have ak:0≤(O:Int):=of_decide_eq_true (by assumption)
      have al:O<(B.length:Int):=of_decide_eq_true (by assumption)
      obtain⟨ε,av,a6,a8⟩:=Xk ah.out O ak al
      cases av
      replace a6:=sCl HB a6
      replace a8:=sCl HB a8
      replace ak:=eq_true ak
      replace al:=eq_true al
      go_upto_region 4 with(first|((with_reducible refine Qe (N:=6) rfl ?_);refine qE 6 #[.int .i64 0,.int .i64 0] 86 ?_;intro Z hg w9 hbox hb;have Y:=aK hbox;have ar:=sGe hg;have θ :=sGe hg;have ab:=sNl γ hg;have ag:=sNg γ hg;replace γ:=sBk γ hb;replace HB:=sHb hb;clear hb hbox hg;have cf:=ag.out;have cj:=ab.out;obtain⟨bs,cn,co,cp⟩:=qD2 Y.out))
      (try simp only[Act.put,qS])
      go_cut [35] (fun ax wc=>∃ (kq:Nat) (ζ :Bool),ax = .bool ζ ∧ Aside0 (api_Inside_right.j1 kq X B (B.length:Int) O ζ B J=some r)∧Aside0 (kq≤k1)∧Aside0 (wc.heap[ι]?=some (.cells #[(.slice (some ε) B.length κ),.func (.func 83) #[] #[]] 116 (0,0)))∧Aside0 (wc.heap[Z]?=some (.cells #[.int .i64 ((Qp B O).f0),.int .i64 ((Qp B O).f1)] 86 (0,0)))∧Aside0 (Below w.heap.size w wc))
      case first=>
       have H:=a7.out
       clear a7
       obtain⟨a5,b7,H⟩:=qO H
       have b6:=aK b7
       clear b7
       by_cases ψ :a5=true
       ·subst ψ
        rw[if_pos rfl] at H
        by_cases ae:O>0
        ·rw[if_pos ae] at H
         have c14b0:decide (0<O)=true:=decide_eq_true ae
         clear ae
         (first|rw[c14b0]|(simp only[Za,Zb];rw[c14b0])|skip)
         obtain⟨δ,ac⟩:∃ j_:Int,(wrap64 (O-1))=j_:=⟨_,rfl⟩
         replace H:(if 0≤(δ) then (if (δ)<(B.length:Int) then ((call_ins_1.f ((Qp B (δ)).f0) ((Qp B (δ)).f1) ((Qp B O).f0) ((Qp B O).f1)).bind fun η =>(api_Inside_right.j1 k1 X B (B.length:Int) O (decide (η ≥ 0)) B J)) else (none)) else (none))=some r:=by first|(rw[ac] at H;exact H)|(simp only[ac] at H ⊢;exact H)
         (try rw[ac] at b6)
         have hji15w:(IntKind.i64.wrap (O-1)) = δ :=(Za _).trans ac
         by_cases χ :0≤(δ)
         ·rw[if_pos χ] at H
          have c16b0:=decide_eq_true χ
          clear χ
          by_cases σ:(δ)<(B.length:Int)
          ·rw[if_pos σ] at H
           have c17b0:=decide_eq_true σ
           clear σ
           obtain⟨η,ap,H⟩:=qO H
           have bf:=aK ap
           clear ap
           have H':=aK H
           clear H
           try go_wp2
           have ρ:Aside0 (((w9.setCell ⟨Z,0,none⟩ (.int .i64 ((Qp B O).f0))).setCell ⟨Z,1,none⟩ (.int .i64 ((Qp B O).f1))).heap[ι]?=some (.cells #[.slice (some ε) B.length κ,.func (.func 83) #[] #[]] 116 (0,0))):=⟨bka γ⟩
           have τ :Aside0 (((w9.setCell ⟨Z,0,none⟩ (.int .i64 ((Qp B O).f0))).setCell ⟨Z,1,none⟩ (.int .i64 ((Qp B O).f1))).heap[Z]?=some (.cells #[.int .i64 ((Qp B O).f0),.int .i64 ((Qp B O).f1)] 86 (0,0))):=⟨by refine Qq (cs:=#[.int .i64 ((Qp B O).f0),.int .i64 0]) ?_ 1 _ rfl;refine Qq (cs:=#[.int .i64 0,.int .i64 0]) ?_ 0 _ rfl;exact Y.out⟩
           have ω :Aside0 (Below w.heap.size w ((w9.setCell ⟨Z,0,none⟩ (.int .i64 ((Qp B O).f0))).setCell ⟨Z,1,none⟩ (.int .i64 ((Qp B O).f1)))):=⟨bel⟩
           (try clear γ)
           (try clear Y)
           (try clear HB)
           generalize((w9.setCell ⟨Z,0,none⟩ (.int .i64 ((Qp B O).f0))).setCell ⟨Z,1,none⟩ (.int .i64 ((Qp B O).f1)))=b5 at ρ τ ω ⊢
           have γ:=ρ
           have Y:= τ
           have HB:= ω
           clear ρ τ ω
           replace γ:=aK (Qd γ.out)
           replace Y:=aK (Qd Y.out)
           replace HB:=aK (Qg HB.out)
           have an:0≤((δ):Int):=of_decide_eq_true (by assumption)
           have ao:(δ)<(B.length:Int):=of_decide_eq_true (by assumption)
           obtain⟨au,aw,μ,ν⟩:=Xk ah.out (δ) an ao
           have ξ := ν
           have a3:= μ
           obtain rfl: ε = au:=(by injection aw)
           replace μ :=sCl HB μ
           replace ν :=sCl HB ν
           replace an:=eq_true an
           replace ao:=eq_true ao
           refine Ze (n:=21) (S:=fun w'=>w'.cell? ⟨Z,0,none⟩=some (.int .i64 ((Qp B O).f0))∧w'.cell? ⟨Z,1,none⟩=some (.int .i64 ((Qp B O).f1))∧w'.cell? ⟨ι,0,none⟩=some (.slice (some ε) B.length κ)∧w'.cell? ⟨ι,1,none⟩=some (.func (.func 83) #[] #[])∧w'.cell? (ε.add (((δ)).toNat * 2))=some (.int .i64 ((Qp B (δ)).f0))∧w'.cell? ⟨(ε.add (((δ)).toNat * 2)).block,(ε.add (((δ)).toNat * 2)).off+1,none⟩=some (.int .i64 ((Qp B (δ)).f1))) (ds:=[]) #[false,false,false,false,false,false,false,false,false,false,false,false,false,false,false,false,false,false,false,false,false] kr rfl rfl ⟨(Qa Y.out 0).trans rfl,(Qa Y.out 1).trans rfl,(Qa γ.out 0).trans rfl,(Qa γ.out 1).trans rfl,(sCl HB a3),(sCl HB ξ)⟩ (fun hHeld=>?_);refine Q5 api_Inside_right.Gv api_Inside_right.Jz (fun HT_ HW_=>?_)
           generalize b5.drew=dx at γ Y HB μ ν hHeld ⊢
           refine qP 0 (some 15) (bN 21 1) HT_ ?_
           refine qT 1 (some 16) (bN 21 3) HT_ HW_ hHeld ?_
           refine Zf (i:=2) (N:=some 17) (bN 21 7) rfl rfl (Q3 HT_.out kr) (by decide) (fun K hK=>?_)
           refine X6 Try.func84 kr rfl #[] #[.pointer (some ⟨gh_,0,none⟩)] #[.agg #[.int .i64 ((Qp B O).f0),.int .i64 ((Qp B O).f1)]] #[.agg #[.int .i64 ((Qp B O).f0),.int .i64 ((Qp B O).f1)],.pointer (some ⟨gh_,0,none⟩)] rfl (by rfl) rfl rfl rfl qM ?_
           with_reducible refine(call_inside_1.calls ((Qp B O).f0) ((Qp B O).f1) X true _ b6.out gh_ (Z7 HCH.out (by repeat(first|(with_reducible first|exact HB.out|apply Qo|apply Qi|apply Qg)|exact HB.out|(refine Qr ?_ (Aside0.out (by assumption))))))).mono ?_
           rintro e b2 ⟨rfl,hb⟩
           refine⟨_,rfl, ?_⟩
           replace γ:=sBk γ hb
           replace Y:=sBk Y hb
           replace HB:=sHb hb
           (try clear hb)
           (try clear a4)
           (try clear hk)
           (try clear hi)
           refine hK.out _ _ ⟨qc Y,qc Y,qc γ,qc γ,(sCl HB a3),(sCl HB ξ)⟩ (fun hHeld=>?_)
           clear hK K
           refine qN (some 17) ?_
           refine qP 3 (some 18) (bN 21 15) HT_ ?_
           refine qP 4 (some 19) (bN 21 31) HT_ ?_
           refine qP 5 (some 20) (bN 21 63) HT_ ?_
           refine qP 6 (some 21) (bN 21 127) HT_ ?_
           refine qP 7 (some 22) (bN 21 255) HT_ ?_
           refine qP 8 (some 23) (bN 21 511) HT_ ?_
           refine qP 10 (some 25) (bN 21 1535) HT_ ?_
           refine qP 12 (some 27) (bN 21 5631) HT_ ?_
           refine qP 13 (some 28) (bN 21 13823) HT_ ?_
           refine qT 9 (some 24) (bN 21 14335) HT_ HW_ hHeld ?_
           refine qT 11 (some 26) (bN 21 16383) HT_ HW_ hHeld ?_
           refine qP 14 (some 29) (bN 21 32767) HT_ ?_
           refine qT 15 (some 30) (bN 21 65535) HT_ HW_ hHeld ?_
           refine qT 16 (some 31) (bN 21 131071) HT_ HW_ hHeld ?_
           refine Zf (i:=17) (N:=some 32) (bN 21 262143) rfl rfl (Q3 HT_.out kr) (by decide) (fun K hK=>?_)
           refine X6 Try.func83 kr rfl #[] #[] #[.agg #[.int .i64 ((Qp B (δ)).f0),.int .i64 ((Qp B (δ)).f1)],.agg #[.int .i64 ((Qp B O).f0),.int .i64 ((Qp B O).f1)]] #[.agg #[.int .i64 ((Qp B (δ)).f0),.int .i64 ((Qp B (δ)).f1)],.agg #[.int .i64 ((Qp B O).f0),.int .i64 ((Qp B O).f1)]] rfl (by rfl) rfl rfl rfl (by(try simp only[List.map_toArray,List.map_cons,List.map_nil]);first|done|(simp only[ac];rfl)|rfl|(simp only[List.length_drop,List.length_take];rfl)) ?_
           with_reducible refine(call_ins_1.calls ((Qp B (δ)).f0) ((Qp B (δ)).f1) ((Qp B O).f0) ((Qp B O).f1) η _ bf.out).mono ?_
           rintro e bj ⟨rfl,hb⟩
           refine⟨_,rfl, ?_⟩
           replace γ:=sBk γ hb
           replace Y:=sBk Y hb
           replace HB:=sHb hb
           (try clear hb)
           (try clear a4)
           (try clear hk)
           (try clear hi)
           refine hK.out _ _ ⟨qc Y,qc Y,qc γ,qc γ,(sCl HB a3),(sCl HB ξ)⟩ (fun hHeld=>?_)
           clear hK K
           refine qN (some 32) ?_
           refine qP 18 (some 33) (bN 21 524287) HT_ ?_
           refine qP 19 (some 34) (bN 21 1048575) HT_ ?_
           refine qP 20 (some 35) (bN 21 2097151) HT_ ?_
           refine Zi (Zc HT_.out kr) ?_
           try go_wp2
           go_meet
           case rel=>exact⟨_,(decide (η ≥ 0)),rfl,H',⟨by have:=am.out;omega⟩,γ,Y,HB⟩
          ·rw[if_neg σ] at H
           exact absurd H (by simp)
         ·rw[if_neg χ] at H
          exact absurd H (by simp)
        ·rw[if_neg ae] at H
         have c14b0:decide (0<O)=false:=decide_eq_false ae
         clear ae
         (first|rw[c14b0]|(simp only[Za,Zb];rw[c14b0])|skip)
         have H':=aK H
         clear H
         try go_wp2
         have ρ:Aside0 (((w9.setCell ⟨Z,0,none⟩ (.int .i64 ((Qp B O).f0))).setCell ⟨Z,1,none⟩ (.int .i64 ((Qp B O).f1))).heap[ι]?=some (.cells #[.slice (some ε) B.length κ,.func (.func 83) #[] #[]] 116 (0,0))):=⟨bka γ⟩
         have τ :Aside0 (((w9.setCell ⟨Z,0,none⟩ (.int .i64 ((Qp B O).f0))).setCell ⟨Z,1,none⟩ (.int .i64 ((Qp B O).f1))).heap[Z]?=some (.cells #[.int .i64 ((Qp B O).f0),.int .i64 ((Qp B O).f1)] 86 (0,0))):=⟨by refine Qq (cs:=#[.int .i64 ((Qp B O).f0),.int .i64 0]) ?_ 1 _ rfl;refine Qq (cs:=#[.int .i64 0,.int .i64 0]) ?_ 0 _ rfl;exact Y.out⟩
         have ω :Aside0 (Below w.heap.size w ((w9.setCell ⟨Z,0,none⟩ (.int .i64 ((Qp B O).f0))).setCell ⟨Z,1,none⟩ (.int .i64 ((Qp B O).f1)))):=⟨bel⟩
         (try clear γ)
         (try clear Y)
         (try clear HB)
         generalize((w9.setCell ⟨Z,0,none⟩ (.int .i64 ((Qp B O).f0))).setCell ⟨Z,1,none⟩ (.int .i64 ((Qp B O).f1)))=bb at ρ τ ω ⊢
         have γ:=ρ
         have Y:= τ
         have HB:= ω
         clear ρ τ ω
         replace γ:=aK (Qd γ.out)
         replace Y:=aK (Qd Y.out)
         replace HB:=aK (Qg HB.out)
         refine Ze (n:=21) (S:=fun w'=>w'.cell? ⟨Z,0,none⟩=some (.int .i64 ((Qp B O).f0))∧w'.cell? ⟨Z,1,none⟩=some (.int .i64 ((Qp B O).f1))) (ds:=[]) #[false,false,false,false,false,false,false,false,false,false,false,false,false,false,false,false,false,false,false,false,false] kr rfl rfl ⟨(Qa Y.out 0).trans rfl,(Qa Y.out 1).trans rfl⟩ (fun hHeld=>?_);refine Q5 api_Inside_right.Gv api_Inside_right.Jz (fun HT_ HW_=>?_)
         generalize bb.drew=cd at γ Y HB hHeld ⊢
         refine qP 0 (some 15) (bN 21 1) HT_ ?_
         refine qT 1 (some 16) (bN 21 3) HT_ HW_ hHeld ?_
         refine Zf (i:=2) (N:=some 17) (bN 21 7) rfl rfl (Q3 HT_.out kr) (by decide) (fun K hK=>?_)
         refine X6 Try.func84 kr rfl #[] #[.pointer (some ⟨gh_,0,none⟩)] #[.agg #[.int .i64 ((Qp B O).f0),.int .i64 ((Qp B O).f1)]] #[.agg #[.int .i64 ((Qp B O).f0),.int .i64 ((Qp B O).f1)],.pointer (some ⟨gh_,0,none⟩)] rfl (by rfl) rfl rfl rfl qM ?_
         with_reducible refine(call_inside_1.calls ((Qp B O).f0) ((Qp B O).f1) X true _ b6.out gh_ (Z7 HCH.out (by repeat(first|(with_reducible first|exact HB.out|apply Qo|apply Qi|apply Qg)|exact HB.out|(refine Qr ?_ (Aside0.out (by assumption))))))).mono ?_
         rintro e dt ⟨rfl,hb⟩
         refine⟨_,rfl, ?_⟩
         replace γ:=sBk γ hb
         replace Y:=sBk Y hb
         replace HB:=sHb hb
         (try clear hb)
         (try clear a4)
         (try clear hk)
         (try clear hi)
         refine hK.out _ _ ⟨qc Y,qc Y⟩ (fun hHeld=>?_)
         clear hK K
         refine qN (some 17) ?_
         refine qP 3 (some 18) (bN 21 15) HT_ ?_
         refine qP 4 (some 19) (bN 21 31) HT_ ?_
         refine qP 5 (some 20) (bN 21 63) HT_ ?_
         refine qP 6 (some 21) (bN 21 127) HT_ ?_
         refine qP 7 (some 22) (bN 21 255) HT_ ?_
         refine qU 8 (some 23) (bN 21 511) HT_ ?_
         refine qU 9 (some 24) (bN 21 1023) HT_ ?_
         refine qU 10 (some 25) (bN 21 2047) HT_ ?_
         refine qU 11 (some 26) (bN 21 4095) HT_ ?_
         refine qU 12 (some 27) (bN 21 8191) HT_ ?_
         refine qU 13 (some 28) (bN 21 16383) HT_ ?_
         refine qU 14 (some 29) (bN 21 32767) HT_ ?_
         refine qU 15 (some 30) (bN 21 65535) HT_ ?_
         refine qU 16 (some 31) (bN 21 131071) HT_ ?_
         refine qU 17 (some 32) (bN 21 262143) HT_ ?_
         refine qU 18 (some 33) (bN 21 524287) HT_ ?_
         refine qP 19 (some 34) (bN 21 1048575) HT_ ?_
         refine qP 20 (some 35) (bN 21 2097151) HT_ ?_
         refine Zi (Zc HT_.out kr) ?_
         try go_wp2
         go_meet
         case rel=>exact⟨_,(false),rfl,H',⟨by have:=am.out;omega⟩,γ,Y,HB⟩
       ·replace ψ :=Bool.eq_false_iff.mpr ψ
        subst ψ
        rw[if_neg nft] at H
        have H':=aK H
        clear H
        try go_wp2
        have ρ:Aside0 (((w9.setCell ⟨Z,0,none⟩ (.int .i64 ((Qp B O).f0))).setCell ⟨Z,1,none⟩ (.int .i64 ((Qp B O).f1))).heap[ι]?=some (.cells #[.slice (some ε) B.length κ,.func (.func 83) #[] #[]] 116 (0,0))):=⟨bka γ⟩
        have τ :Aside0 (((w9.setCell ⟨Z,0,none⟩ (.int .i64 ((Qp B O).f0))).setCell ⟨Z,1,none⟩ (.int .i64 ((Qp B O).f1))).heap[Z]?=some (.cells #[.int .i64 ((Qp B O).f0),.int .i64 ((Qp B O).f1)] 86 (0,0))):=⟨by refine Qq (cs:=#[.int .i64 ((Qp B O).f0),.int .i64 0]) ?_ 1 _ rfl;refine Qq (cs:=#[.int .i64 0,.int .i64 0]) ?_ 0 _ rfl;exact Y.out⟩
        have ω :Aside0 (Below w.heap.size w ((w9.setCell ⟨Z,0,none⟩ (.int .i64 ((Qp B O).f0))).setCell ⟨Z,1,none⟩ (.int .i64 ((Qp B O).f1)))):=⟨bel⟩
        (try clear γ)
        (try clear Y)
        (try clear HB)
        generalize((w9.setCell ⟨Z,0,none⟩ (.int .i64 ((Qp B O).f0))).setCell ⟨Z,1,none⟩ (.int .i64 ((Qp B O).f1)))=ij at ρ τ ω ⊢
        have γ:=ρ
        have Y:= τ
        have HB:= ω
        clear ρ τ ω
        replace γ:=aK (Qd γ.out)
        replace Y:=aK (Qd Y.out)
        replace HB:=aK (Qg HB.out)
        refine Ze (n:=21) (S:=fun w'=>w'.cell? ⟨Z,0,none⟩=some (.int .i64 ((Qp B O).f0))∧w'.cell? ⟨Z,1,none⟩=some (.int .i64 ((Qp B O).f1))) (ds:=[]) #[false,false,false,false,false,false,false,false,false,false,false,false,false,false,false,false,false,false,false,false,false] kr rfl rfl ⟨(Qa Y.out 0).trans rfl,(Qa Y.out 1).trans rfl⟩ (fun hHeld=>?_);refine Q5 api_Inside_right.Gv api_Inside_right.Jz (fun HT_ HW_=>?_)
        generalize ij.drew=di at γ Y HB hHeld ⊢
        refine qP 0 (some 15) (bN 21 1) HT_ ?_
        refine qT 1 (some 16) (bN 21 3) HT_ HW_ hHeld ?_
        refine Zf (i:=2) (N:=some 17) (bN 21 7) rfl rfl (Q3 HT_.out kr) (by decide) (fun K hK=>?_)
        refine X6 Try.func84 kr rfl #[] #[.pointer (some ⟨gh_,0,none⟩)] #[.agg #[.int .i64 ((Qp B O).f0),.int .i64 ((Qp B O).f1)]] #[.agg #[.int .i64 ((Qp B O).f0),.int .i64 ((Qp B O).f1)],.pointer (some ⟨gh_,0,none⟩)] rfl (by rfl) rfl rfl rfl qM ?_
        with_reducible refine(call_inside_1.calls ((Qp B O).f0) ((Qp B O).f1) X false _ b6.out gh_ (Z7 HCH.out (by repeat(first|(with_reducible first|exact HB.out|apply Qo|apply Qi|apply Qg)|exact HB.out|(refine Qr ?_ (Aside0.out (by assumption))))))).mono ?_
        rintro e du ⟨rfl,hb⟩
        refine⟨_,rfl, ?_⟩
        replace γ:=sBk γ hb
        replace Y:=sBk Y hb
        replace HB:=sHb hb
        (try clear hb)
        (try clear a4)
        (try clear hk)
        (try clear hi)
        refine hK.out _ _ ⟨qc Y,qc Y⟩ (fun hHeld=>?_)
        clear hK K
        refine qN (some 17) ?_
        refine qP 3 (some 18) (bN 21 15) HT_ ?_
        refine qP 4 (some 19) (bN 21 31) HT_ ?_
        refine qU 5 (some 20) (bN 21 63) HT_ ?_
        refine qU 6 (some 21) (bN 21 127) HT_ ?_
        refine qU 7 (some 22) (bN 21 255) HT_ ?_
        refine qU 8 (some 23) (bN 21 511) HT_ ?_
        refine qU 9 (some 24) (bN 21 1023) HT_ ?_
        refine qU 10 (some 25) (bN 21 2047) HT_ ?_
        refine qU 11 (some 26) (bN 21 4095) HT_ ?_
        refine qU 12 (some 27) (bN 21 8191) HT_ ?_
        refine qU 13 (some 28) (bN 21 16383) HT_ ?_
        refine qU 14 (some 29) (bN 21 32767) HT_ ?_
        refine qU 15 (some 30) (bN 21 65535) HT_ ?_
        refine qU 16 (some 31) (bN 21 131071) HT_ ?_
        refine qU 17 (some 32) (bN 21 262143) HT_ ?_
        refine qU 18 (some 33) (bN 21 524287) HT_ ?_
        refine qU 19 (some 34) (bN 21 1048575) HT_ ?_
        refine qP 20 (some 35) (bN 21 2097151) HT_ ?_
        refine Zi (Zc HT_.out kr) ?_
        try go_wp2
        go_meet
        case rel=>exact⟨_,(true),rfl,H',⟨by have:=am.out;omega⟩,γ,Y,HB⟩
      case rest=>
       clear a7
       obtain⟨kq,ζ,rfl,HA,b0,γ,Y,HB⟩:=hcut
       cases kq with
       |zero=>exact absurd HA.out (by simp[api_Inside_right.j1])
       |succ ba=>
        have H:=HA.out
        clear HA
        simp only[api_Inside_right.j1] at H
        by_cases aa: ζ = true
        ·subst aa
         rw[if_pos rfl] at H
         obtain rfl:=Option.some.inj H
         go_wp2
         go_ret
         exact⟨rfl,HB.out⟩
        ·replace aa:=Bool.eq_false_iff.mpr aa
         subst aa
         rw[if_neg nft] at H
         have H':=aK H
         clear H
         go_wp2
         go_roundg ba
         case measure=>have:=am.out;have:=b0.out;omega
         case rel=>exact⟨(wrap64 (O+1)),rfl,H',⟨by have:=am.out;have:=b0.out;omega⟩,γ,HB⟩
     ·rw[if_neg c7] at H
      exact absurd H (by simp)
    ·rw[if_neg c6] at H
     exact absurd H (by simp)
   ·rw[if_neg c5] at H
    have c5b0:=decide_eq_false c5
    clear c5
    obtain rfl:=Option.some.inj H
    go_wp2
    go_ret
    exact⟨rfl,HB.out⟩
end Go.Proofs.Ytmfffemidlhcpaa.C
namespace Go.Proofs.Ytmfffemidlhcpaa.Call
open Go.RowKit Go.Proofs.YtmfffemidlhcpaaW.PrintWords Go.Proofs.YtmfffemidlhcpaaW.PrintLast Go.Proofs.YtmfffemidlhcpaaW.PrintMore Go.Proofs.Ytmfffemidlhcpaa.C
set_option linter.unusedVariables false
set_option linter.unusedSimpArgs false
theorem Ug (a b:Int):Ui a b<0↔a<b:=by unfold Ui;split <;> (try split) <;> omega
theorem Uh (a b:Int):Ui a b=0↔a=b:=by unfold Ui;split <;> (try split) <;> omega
theorem K4 (a b c d:Int):Yc a b c d<0↔(a<c∨(a=c∧b<d)):=by
 unfold Yc
 have h1:=Ug a c
 have O:=Uh a c
 have Z:=Ug b d
 split <;> omega
theorem Gp (a b c d:Int):Yc a b c d=0↔(a=c∧b=d):=by
 unfold Yc
 have h1:=Ug a c
 have O:=Uh a c
 have Z:=Uh b d
 split <;> omega
def W5 {α:Type} (q:α→Bool):Nat→List α→Int
 |_,[]=> -1
 |i,x :: l=>if q x=true then (i:Int) else W5 q (i+1) l
theorem Mq {α:Type} (q:α→Bool) (l:List α):∀ i:Nat,(W5 q i l = -1 ∧ ∀ x ∈ l,q x=false) ∨ ∃ k:Nat,∃ h:k<l.length,W5 q i l=((i+k:Nat):Int)∧q l[k]=true ∧ ∀ x ∈ l.take k,q x=false:=by
 induction l with
 |nil=>intro i;exact .inl ⟨rfl,by simp⟩
 |cons x l ih=>
  intro i
  simp only[W5]
  by_cases h:q x=true
  ·rw[if_pos h]
   exact .inr ⟨0,by simp,by simp,by simpa using h,by simp⟩
  ·rw[if_neg h]
   have hf:q x=false:=by simpa using h
   rcases ih (i+1) with⟨e,ha⟩|⟨k,hk,e,ht,ha⟩
   ·refine .inl ⟨e,fun y hy=>?_⟩
    rcases List.mem_cons.1 hy with rfl|hy
    ·exact hf
    ·exact ha y hy
   ·refine .inr ⟨k+1,by simpa using hk,by rw[e];congr 1;omega,by simpa using ht,fun y hy=>?_⟩
    rw[List.take_succ_cons] at hy
    rcases List.mem_cons.1 hy with rfl|hy
    ·exact hf
    ·exact ha y hy
def Zj {α:Type} (may:α→Bool) (lt:α→α→Bool):Option α→List α→Bool
 |_,[]=>true
 |none,x :: l=>may x&&Zj may lt (some x) l
 |some p,x :: l=>(may x&&lt p x)&&Zj may lt (some x) l
def ltH (x y:S36):Bool:=decide (Yc x.f0 x.f1 y.f0 y.f1<0)
theorem Y5 (x y:S36):ltH x y=true↔(x.f0<y.f0∨(x.f0=y.f0∧x.f1<y.f1)):=by
 unfold ltH
 rw[decide_eq_true_iff,K4]
theorem Mp {x y z:S36} (h1:ltH x y=true) (O:ltH y z=true):ltH x z=true:=by
 rw[Y5] at *
 omega
theorem Jw (l:List S36) (i:Nat) (h:i<l.length):Qc l (i:Int)=l[i]:=by
 unfold Qc
 rw[Int.toNat_natCast,List.getD_eq_getElem?_getD,List.getElem?_eq_getElem h]
 rfl
def Vk (l:List S36) (B J:Int) (p:Nat):Prop:=p≤l.length∧(∀ y ∈ l.take p,Yc y.f0 y.f1 B J<0)∧(∀ y ∈ l.drop p,¬ Yc y.f0 y.f1 B J<0)
def Vr (l:List S36) (B J:Int) (p:Nat):Bool:=match l[p]? with|some y=>Yc y.f0 y.f1 B J==0|none=>false
theorem V7 (l:List S36) (B J X:Int) (hm:l.length≤1000000000) (hs:l.Pairwise (fun x y=>ltH x y=true)) (d:Nat):∀ (f i j:Nat),j-i≤d→i≤j→j≤l.length→d<f→(∀ y ∈ l.take i,Yc y.f0 y.f1 B J<0)→(∀ y ∈ l.drop j,¬ Yc y.f0 y.f1 B J<0) →
 ∃ p,Vk l B J p∧api_Hall_89.l0 f l (l.length:Int) (i:Int) (j:Int) B J X=some ((p:Int),Vr l B J p):=by
 have stop:∀ (f i:Nat),0<f→i≤l.length→(∀ y ∈ l.take i,Yc y.f0 y.f1 B J<0)→(∀ y ∈ l.drop i,¬ Yc y.f0 y.f1 B J<0) → ∃ p,Vk l B J p∧api_Hall_89.l0 f l (l.length:Int) (i:Int) (i:Int) B J X=some ((p:Int),Vr l B J p):=by
  intro f i hf hi h1 O
  obtain⟨f,rfl⟩:∃ m,f=m+1:=⟨f-1,by omega⟩
  refine⟨i,⟨hi,h1,O⟩, ?_⟩
  simp only[api_Hall_89.l0]
  unfold Vr
  rw[if_neg (by omega)]
  by_cases h:i<l.length
  ·rw[if_pos (by omega),if_pos (by omega),if_pos (by omega),Jw l i h,List.getElem?_eq_getElem h]
   rfl
  ·rw[if_neg (by omega),List.getElem?_eq_none (by omega)]
 induction d with
 |zero=>
  intro f i j hd hij hj hf h1 O
  obtain rfl:i=j:=by omega
  exact stop f i hf hj h1 O
 |succ d ih=>
  intro f i j hd hij hj hf h1 O
  by_cases he:i=j
  ·subst he
   exact stop f i (by omega) hj h1 O
  ·obtain⟨f,rfl⟩:∃ m,f=m+1:=⟨f-1,by omega⟩
   have hmid:wrap64 ((IntKind.u64.wrap (wrap64 ((i:Int)+(j:Int)))) / 2)=(((i+j) / 2:Nat):Int):=by
    rw[show wrap64 ((i:Int)+(j:Int))=(i:Int)+(j:Int) from by unfold wrap64;omega,IntKind.wrap_u64]
    unfold wrap64;omega
   have e1:wrap64 ((((i+j) / 2:Nat):Int)+1)=(((i+j) / 2+1:Nat):Int):=by unfold wrap64;omega
   simp only[api_Hall_89.l0]
   rw[if_pos (by omega),hmid]
   have hh:(i+j) / 2<l.length:=by omega
   generalize hg:(i+j) / 2=h at *
   rw[if_pos (by omega),if_pos (by omega),Jw l h hh,e1]
   unfold call_halls_1.f
   simp only[Option.bind_some]
   have hlt:∀ m:Nat,(hm:m<h)→Yc (l[m]'(by omega)).f0 (l[m]'(by omega)).f1 l[h].f0 l[h].f1<0:=by
    intro m hm
    have:=List.pairwise_iff_getElem.1 hs m h (by omega) hh hm
    exact of_decide_eq_true this
   have hgt:∀ m:Nat,h<m→(hm:m<l.length)→Yc l[h].f0 l[h].f1 l[m].f0 l[m].f1<0:=by
    intro m hm hml
    have:=List.pairwise_iff_getElem.1 hs h m hh hml hm
    exact of_decide_eq_true this
   by_cases hc:Yc l[h].f0 l[h].f1 B J<0
   ·rw[if_pos hc]
    refine ih f (h+1) j (by omega) (by omega) hj (by omega) ?_ O
    intro y hy
    obtain⟨m,hm,rfl⟩:=List.mem_iff_getElem.1 hy
    rw[List.length_take] at hm
    rw[List.getElem_take]
    by_cases hmh:m=h
    ·subst hmh;exact hc
    ·have Z:=hlt m (by omega)
     rw[K4] at *
     omega
   ·rw[if_neg hc]
    refine ih f i h (by omega) (by omega) (by omega) (by omega) h1 ?_
    intro y hy
    obtain⟨m,hm,rfl⟩:=List.mem_iff_getElem.1 hy
    rw[List.length_drop] at hm
    rw[List.getElem_drop]
    by_cases hmh:m=0
    ·subst hmh;simpa using hc
    ·have Z:=hgt (h+m) (by omega) (by omega)
     rw[K4] at *
     omega
theorem Wq (l:List S36) (B J X:Int) (a2:Int) (hm:l.length≤1000000000) (hs:l.Pairwise (fun x y=>ltH x y=true)) (k:Nat) (hk:l.length<k):
 ∃ p,Vk l B J p∧api_Hall_89.f k l B J X a2=some ((p:Int),Vr l B J p):=by
 unfold api_Hall_89.f
 have:=V7 l B J X hm hs l.length k 0 l.length (by omega) (by omega) (by omega) hk (by simp) (by simp)
 simpa using this
theorem U7 (l:List S36) (X tok_:Int) (hm:l.length≤1000000000) (j:Nat):∀ (f i:Nat),i+j=l.length→2 * j<f→api_Hall_right.l0 f X l (l.length:Int) (i:Int) l tok_=some (Zj (fun x=>Xf (Yq X) (Yp X) x.f0 x.f1 x.f2) ltH (if i=0 then none else l[i-1]?) (l.drop i)):=by
 induction j with
 |zero=>
  intro f i hi hf
  obtain⟨f,rfl⟩:∃ m,f=m+1:=⟨f-1,by omega⟩
  simp only[api_Hall_right.l0]
  rw[if_neg (by omega),List.drop_of_length_le (by omega)]
  cases(if i=0 then none else l[i-1]?) <;> rfl
 |succ j ih=>
  intro f i hi hf
  obtain⟨f,rfl⟩:∃ m,f=m+2:=⟨f-2,by omega⟩
  have ha:i<l.length:=by omega
  have ei:wrap64 ((i:Int)+1)=((i+1:Nat):Int):=by unfold wrap64;omega
  have jt:api_Hall_right.j1 (f+1) X l (l.length:Int) (i:Int) true l tok_=some false:=by simp[api_Hall_right.j1]
  have jf:api_Hall_right.j1 (f+1) X l (l.length:Int) (i:Int) false l tok_=some (Zj (fun x=>Xf (Yq X) (Yp X) x.f0 x.f1 x.f2) ltH (some l[i]) (l.drop (i+1))):=by
   simp only[api_Hall_right.j1]
   rw[if_neg (by decide),ei,ih f (i+1) (by omega) (by omega),if_neg (by omega),Nat.add_sub_cancel,List.getElem?_eq_getElem ha]
  simp only[api_Hall_right.l0]
  rw[if_pos (by omega),if_pos (by omega),if_pos (by omega),Jw l i ha]
  unfold call_hall_1.f
  simp only[Option.bind_some]
  rw[List.drop_eq_getElem_cons ha]
  by_cases h1:Xf (Yq X) (Yp X) l[i].f0 l[i].f1 l[i].f2=true
  ·rw[if_pos h1]
   by_cases Y:i=0
   ·subst Y
    rw[if_neg (by omega),if_pos rfl,jf]
    simp only[Zj,h1,Bool.true_and]
   ·have ep:wrap64 ((i:Int)-1)=((i-1:Nat):Int):=by unfold wrap64;omega
    rw[if_pos (by omega),ep,if_pos (by omega),if_pos (by omega),Jw l (i-1) (by omega),if_neg Y,List.getElem?_eq_getElem (by omega)]
    unfold call_halls_1.f
    simp only[Option.bind_some]
    simp only[Zj,h1,Bool.true_and]
    unfold ltH
    by_cases hc:Yc (l[i-1]'(by omega)).f0 (l[i-1]'(by omega)).f1 l[i].f0 l[i].f1<0
    ·rw[decide_eq_false (by omega),decide_eq_true hc,jf,Bool.true_and]
     rfl
    ·rw[decide_eq_true (by omega),decide_eq_false hc,jt,Bool.false_and]
  ·have h1':Xf (Yq X) (Yp X) l[i].f0 l[i].f1 l[i].f2=false:=by simpa using h1
   rw[if_neg h1,jt]
   by_cases Y:i=0
   ·rw[if_pos Y]
    simp only[Zj,h1',Bool.false_and]
   ·rw[if_neg Y,List.getElem?_eq_getElem (by omega)]
    simp only[Zj,h1',Bool.false_and]
theorem L9 (l:List S36) (X tok_:Int) (hm:l.length≤1000000000) (k:Nat) (hk:2 * l.length<k):api_Hall_right.f k l tok_ X=some (Zj (fun x=>Xf (Yq X) (Yp X) x.f0 x.f1 x.f2) ltH none l):=by
 unfold api_Hall_right.f
 have:=U7 l X tok_ hm l.length k 0 (by omega) hk
 simpa using this
theorem U6 (may:S36→Bool) (l:List S36):∀ p,Zj may ltH (some p) l=true↔((∀ x ∈ l,may x=true)∧(p :: l).Pairwise (fun x y=>ltH x y=true)):=by
 induction l with
 |nil=>intro p;simp[Zj]
 |cons x l ih=>
  intro p
  simp only[Zj,Bool.and_eq_true]
  rw[ih x]
  simp only[List.pairwise_cons,List.mem_cons,forall_eq_or_imp]
  constructor
  ·rintro⟨⟨h1,O⟩,Z,h4,J⟩
   exact⟨⟨h1,Z⟩,⟨O,fun y hy=>Mp O (h4 y hy)⟩,h4,J⟩
  ·rintro⟨⟨h1,Z⟩,⟨O,_⟩,h4,J⟩
   exact⟨⟨h1,O⟩,Z,h4,J⟩
theorem Js (may:S36→Bool) (l:List S36):Zj may ltH none l=true↔((∀ x ∈ l,may x=true)∧l.Pairwise (fun x y=>ltH x y=true)):=by
 cases l with
 |nil=>simp[Zj]
 |cons x l=>
  simp only[Zj,Bool.and_eq_true]
  rw[U6]
  simp only[List.mem_cons,forall_eq_or_imp]
  constructor
  ·rintro⟨h1,O,Z⟩
   exact⟨⟨h1,O⟩,Z⟩
  ·rintro⟨⟨h1,O⟩,Z⟩
   exact⟨h1,O,Z⟩
abbrev qI (X:Int) (x:S86):Bool:=Yc (Yq X) (Yp X) x.f0 x.f1==0
def ltI (x y:S86):Bool:=decide (Yc x.f0 x.f1 y.f0 y.f1<0)
theorem Kw (x y:S86):ltI x y=true↔(x.f0<y.f0∨(x.f0=y.f0∧x.f1<y.f1)):=by
 unfold ltI
 rw[decide_eq_true_iff,K4]
theorem Mo {x y z:S86} (h1:ltI x y=true) (O:ltI y z=true):ltI x z=true:=by
 rw[Kw] at *
 omega
theorem Jv (l:List S86) (i:Nat) (h:i<l.length):Qp l (i:Int)=l[i]:=by
 unfold Qp
 rw[Int.toNat_natCast,List.getD_eq_getElem?_getD,List.getElem?_eq_getElem h]
 rfl
theorem Mr (l:List S86) (X:Int) (hm:l.length≤1000000000) (j:Nat):∀ (f i:Nat),i+j=l.length→j<f→api_Inside_100.l0 f l X (l.length:Int) (i:Int)=some (W5 (qI X) i (l.drop i)):=by
 induction j with
 |zero=>
  intro f i hi hf
  obtain⟨f,rfl⟩:∃ m,f=m+1:=⟨f-1,by omega⟩
  simp only[api_Inside_100.l0]
  rw[if_neg (by omega),List.drop_of_length_le (by omega)]
  rfl
 |succ j ih=>
  intro f i hi hf
  obtain⟨f,rfl⟩:∃ m,f=m+1:=⟨f-1,by omega⟩
  have ha:i<l.length:=by omega
  have ei:wrap64 ((i:Int)+1)=((i+1:Nat):Int):=by unfold wrap64;omega
  simp only[api_Inside_100.l0]
  rw[if_pos (by omega),if_pos (by omega),if_pos (by omega),Jv l i ha,ei,ih f (i+1) (by omega) (by omega)]
  unfold api_Inside_without_1.f
  simp only[Option.bind_some]
  rw[List.drop_eq_getElem_cons ha]
  simp only[W5]
  by_cases h:qI X l[i]=true
  ·rw[if_pos h,if_pos h]
  ·rw[if_neg h,if_neg h]
theorem E8 (l:List S86) (X:Int) (hm:l.length≤1000000000) (k:Nat) (hk:l.length<k):api_Inside_100.f k l X=some (W5 (qI X) 0 l):=by
 unfold api_Inside_100.f
 have:=Mr l X hm l.length k 0 (by omega) hk
 simpa using this
theorem Ms (l:List S86) (X:Int) (hm:l.length≤1000000000) (j:Nat):∀ (f:Nat) (x:List S86) (i m:Nat),x.length=l.length→m+j=l.length→i≤m→j<f→x.drop m=l.drop m→x.take i=(l.take m).filter (fun y=> !qI X y) →
 api_Inside_90.l0 f x X (i:Int) (m:Int)=some (l.filter (fun y=> !qI X y)):=by
 induction j with
 |zero=>
  intro f x i m hx hj him hf hd ht
  obtain⟨f,rfl⟩:∃ m,f=m+1:=⟨f-1,by omega⟩
  simp only[api_Inside_90.l0]
  rw[if_neg (by omega),if_pos (by omega),if_pos (by omega),Int.toNat_natCast,ht,List.take_of_length_le (by omega)]
 |succ j ih=>
  intro f x i m hx hj him hf hd ht
  obtain⟨f,rfl⟩:∃ m,f=m+1:=⟨f-1,by omega⟩
  have ha:m<l.length:=by omega
  have hax:m<x.length:=by omega
  have em:wrap64 ((m:Int)+1)=((m+1:Nat):Int):=by unfold wrap64;omega
  have ei:wrap64 ((i:Int)+1)=((i+1:Nat):Int):=by unfold wrap64;omega
  have hxm:x[m]=l[m]:=by
   have h1:=List.drop_eq_getElem_cons hax
   have O:=List.drop_eq_getElem_cons ha
   rw[hd,O] at h1
   exact(List.cons.inj h1).1.symm
  have Z:x.drop (m+1)=l.drop (m+1):=by
   have h1:=List.drop_eq_getElem_cons hax
   have O:=List.drop_eq_getElem_cons ha
   rw[hd,O] at h1
   exact(List.cons.inj h1).2.symm
  have B:(l.take (m+1)).filter (fun y=> !qI X y)=(l.take m).filter (fun y=> !qI X y) ++ [l[m]].filter (fun y=> !qI X y):=by
   rw[List.take_succ_eq_append_getElem ha,List.filter_append]
  simp only[api_Inside_90.l0]
  rw[if_pos (by omega),if_pos (by omega),Jv x m hax,hxm,em,ei]
  unfold api_Inside_without_1.f
  simp only[Option.bind_some]
  by_cases h:qI X l[m]=true
  ·rw[if_pos h]
   refine ih f x i (m+1) hx (by omega) (by omega) (by omega) Z ?_
   rw[B,ht]
   simp only[List.filter_cons,List.filter_nil]
   rw[if_neg (by rw[h];decide),List.append_nil]
  ·have hf':qI X l[m]=false:=by simpa using h
   rw[if_neg h,if_pos (by omega),if_pos (by omega),Int.toNat_natCast]
   refine ih f (x.set i _) (i+1) (m+1) (by rw[List.length_set];exact hx) (by omega) (by omega) (by omega) ?_ ?_
   ·rw[List.drop_set_of_lt (by omega)]
    exact Z
   ·rw[B]
    simp only[List.filter_cons,List.filter_nil]
    rw[if_pos (by rw[hf'];rfl),List.take_succ_eq_append_getElem (by rw[List.length_set];omega),List.getElem_set_self,List.take_set_of_le (by omega),ht]
theorem Dd (l:List S86) (X:Int) (hm:l.length≤1000000000) (k:Nat) (hk:l.length+5<k):api_Inside_90.f k l X=some (l.filter (fun y=> !qI X y)):=by
 unfold api_Inside_90.f
 rw[E8 l X hm k (by omega)]
 simp only[Option.bind_some]
 rcases Mq (qI X) l 0 with⟨e,ha⟩|⟨i,hi,e,ht,ha⟩
 ·rw[e,if_pos rfl]
  congr 1
  exact(List.filter_eq_self.2 (fun y hy=>by rw[ha y hy];rfl)).symm
 ·rw[e,Nat.zero_add,if_neg (by omega)]
  have ei:wrap64 ((i:Int)+1)=((i+1:Nat):Int):=by unfold wrap64;omega
  rw[ei]
  refine Ms l X hm (l.length - (i+1)) k l i (i+1) rfl (by omega) (by omega) (by omega) rfl ?_
  rw[List.take_succ_eq_append_getElem hi,List.filter_append]
  simp only[List.filter_cons,List.filter_nil]
  rw[if_neg (by rw[ht];decide),List.append_nil]
  exact(List.filter_eq_self.2 (fun y hy=>by rw[ha y hy];rfl)).symm
theorem U5 (l:List S86) (X tok_:Int) (hm:l.length≤1000000000) (j:Nat):∀ (f i:Nat),i+j=l.length→2 * j<f→api_Inside_right.l0 f X l (l.length:Int) (i:Int) l tok_=some (Zj (fun x=>Y0 (Yq X) (Yp X) x.f0 x.f1) ltI (if i=0 then none else l[i-1]?) (l.drop i)):=by
 induction j with
 |zero=>
  intro f i hi hf
  obtain⟨f,rfl⟩:∃ m,f=m+1:=⟨f-1,by omega⟩
  simp only[api_Inside_right.l0]
  rw[if_neg (by omega),List.drop_of_length_le (by omega)]
  cases(if i=0 then none else l[i-1]?) <;> rfl
 |succ j ih=>
  intro f i hi hf
  obtain⟨f,rfl⟩:∃ m,f=m+2:=⟨f-2,by omega⟩
  have ha:i<l.length:=by omega
  have ei:wrap64 ((i:Int)+1)=((i+1:Nat):Int):=by unfold wrap64;omega
  have jt:api_Inside_right.j1 (f+1) X l (l.length:Int) (i:Int) true l tok_=some false:=by simp[api_Inside_right.j1]
  have jf:api_Inside_right.j1 (f+1) X l (l.length:Int) (i:Int) false l tok_=some (Zj (fun x=>Y0 (Yq X) (Yp X) x.f0 x.f1) ltI (some l[i]) (l.drop (i+1))):=by
   simp only[api_Inside_right.j1]
   rw[if_neg (by decide),ei,ih f (i+1) (by omega) (by omega),if_neg (by omega),Nat.add_sub_cancel,List.getElem?_eq_getElem ha]
  simp only[api_Inside_right.l0]
  rw[if_pos (by omega),if_pos (by omega),if_pos (by omega),Jv l i ha]
  unfold call_inside_1.f
  simp only[Option.bind_some]
  rw[List.drop_eq_getElem_cons ha]
  by_cases h1:Y0 (Yq X) (Yp X) l[i].f0 l[i].f1=true
  ·rw[if_pos h1]
   by_cases Y:i=0
   ·subst Y
    rw[if_neg (by omega),if_pos rfl,jf]
    simp only[Zj,h1,Bool.true_and]
   ·have ep:wrap64 ((i:Int)-1)=((i-1:Nat):Int):=by unfold wrap64;omega
    rw[if_pos (by omega),ep,if_pos (by omega),if_pos (by omega),Jv l (i-1) (by omega),if_neg Y,List.getElem?_eq_getElem (by omega)]
    unfold call_ins_1.f
    simp only[Option.bind_some]
    simp only[Zj,h1,Bool.true_and]
    unfold ltI
    by_cases hc:Yc (l[i-1]'(by omega)).f0 (l[i-1]'(by omega)).f1 l[i].f0 l[i].f1<0
    ·rw[decide_eq_false (by omega),decide_eq_true hc,jf,Bool.true_and]
     rfl
    ·rw[decide_eq_true (by omega),decide_eq_false hc,jt,Bool.false_and]
  ·have h1':Y0 (Yq X) (Yp X) l[i].f0 l[i].f1=false:=by simpa using h1
   rw[if_neg h1,jt]
   by_cases Y:i=0
   ·rw[if_pos Y]
    simp only[Zj,h1',Bool.false_and]
   ·rw[if_neg Y,List.getElem?_eq_getElem (by omega)]
    simp only[Zj,h1',Bool.false_and]
theorem L8 (l:List S86) (X tok_:Int) (hm:l.length≤1000000000) (k:Nat) (hk:2 * l.length<k):api_Inside_right.f k l tok_ X=some (Zj (fun x=>Y0 (Yq X) (Yp X) x.f0 x.f1) ltI none l):=by
 unfold api_Inside_right.f
 have:=U5 l X tok_ hm l.length k 0 (by omega) hk
 simpa using this
theorem U3 (may:S86→Bool) (l:List S86):∀ p,Zj may ltI (some p) l=true↔((∀ x ∈ l,may x=true)∧(p :: l).Pairwise (fun x y=>ltI x y=true)):=by
 induction l with
 |nil=>intro p;simp[Zj]
 |cons x l ih=>
  intro p
  simp only[Zj,Bool.and_eq_true]
  rw[ih x]
  simp only[List.pairwise_cons,List.mem_cons,forall_eq_or_imp]
  constructor
  ·rintro⟨⟨h1,O⟩,Z,h4,J⟩
   exact⟨⟨h1,Z⟩,⟨O,fun y hy=>Mo O (h4 y hy)⟩,h4,J⟩
  ·rintro⟨⟨h1,Z⟩,⟨O,_⟩,h4,J⟩
   exact⟨⟨h1,O⟩,Z,h4,J⟩
theorem U4 (may:S86→Bool) (l:List S86):Zj may ltI none l=true↔((∀ x ∈ l,may x=true)∧l.Pairwise (fun x y=>ltI x y=true)):=by
 cases l with
 |nil=>simp[Zj]
 |cons x l=>
  simp only[Zj,Bool.and_eq_true]
  rw[U3]
  simp only[List.mem_cons,forall_eq_or_imp]
  constructor
  ·rintro⟨h1,O,Z⟩
   exact⟨⟨h1,O⟩,Z⟩
  ·rintro⟨⟨h1,O⟩,Z⟩
   exact⟨h1,O,Z⟩
end Go.Proofs.Ytmfffemidlhcpaa.Call
namespace Go.Proofs.Ytmfffemidlhcpaa.C
open Go.RowKit Go.Proofs.YtmfffemidlhcpaaW.PrintWords Go.Proofs.YtmfffemidlhcpaaW.PrintLast Go.Proofs.YtmfffemidlhcpaaW.PrintMore
attribute [local go_sem] Z0 Zy Z6 Z5 Zr Zq Zz Zx
set_option linter.unusedVariables false
set_option linter.unusedSimpArgs false
def newellaw19_Own.f (B:List (S36)) (Z:List (S86)):Option ((List (S36))×(List (S86))):=(some (([]:List (S36)):List (S36))).bind fun ι =>(if ι.length+B.length<5864062014805 then ((some (([]:List (S86)):List (S86))).bind fun δ =>(if δ.length+Z.length<8796093022208 then (some ((ι ++ B),(δ ++ Z))) else (none))) else (none))
def newellaw19_Own.T1:Bool×List (List Nat×List Nat):=(true,[([],[]),([],[]),([1],[1]),([0,2],[0,2]),([],[]),([],[]),([5],[5]),([4,6,3],[4,6]),([3,7],[3,7]),([8,7,0,1,2,3,4,5,6,7,8],[8])])
def newellaw19_Own.B1:List Nat:=[0,0,2,7,0,0,32,127,255,511]
theorem newellaw19_Own.Kr:rtab .any (opsOf Try.f15 1)=newellaw19_Own.T1:=by kernel_rfl
theorem newellaw19_Own.Y6:Zk newellaw19_Own.T1.2 newellaw19_Own.B1=true:=by kernel_rfl
set_option maxHeartbeats 8000000 in
set_option maxRecDepth 100000 in
theorem newellaw19_Own.calls (φ :Option Addr) (κ :Nat) (B:List (S36)) (ψ :Option Addr) (χ :Nat) (Z:List (S86)) (r1:List (S36)) (r2:List (S86)) (w:World) (a0:Kd.C k36 w φ B.length B) (a2:B.length ≤ κ) (bb:Kd.C k86 w ψ Z.length Z) (bc:Z.length ≤ χ) (h:newellaw19_Own.f B Z=some (r1,r2)):
 Calls Try.prog 15 #[.agg #[.slice φ B.length κ,.slice ψ Z.length χ]] w fun e w'=>∃ b8 dv:Value,e = .returned (.agg #[b8,dv])∧Kd.R k36 36 w' w.heap.size (fun _=>True) b8 r1∧Kd.R k86 86 w' w.heap.size (fun _=>True) dv r2∧Below w.heap.size w w':=by
 have dc:=Try.underlying50
 have ah:=aK a0
 have bl:=aK a2
 clear a0 a2
 have bk:=aK bb
 have dr:=aK bc
 clear bb bc
 have HB:=aK (Below.refl w.heap.size w)
 have H:((some (([]:List (S36)):List (S36))).bind fun ι =>(if ι.length+B.length<5864062014805 then ((some (([]:List (S86)):List (S86))).bind fun δ =>(if δ.length+Z.length<8796093022208 then (some ((ι ++ B),(δ ++ Z))) else (none))) else (none)))=some (r1,r2):=h
 clear h
 obtain⟨ι,a7⟩:∃ y_:List (S36),y_=(([]:List (S36))):=⟨_,rfl⟩
 replace H:(if ι.length+B.length<5864062014805 then ((some (([]:List (S86)):List (S86))).bind fun δ =>(if δ.length+Z.length<8796093022208 then (some ((ι ++ B),(δ ++ Z))) else (none))) else (none))=some (r1,r2):=by first|(rw[a7];with_reducible exact H)|(have al:=(Option.bind_some _ _).symm.trans H;rw[a7];with_reducible exact al)|(have al:=(Option.bind_some _ _).symm.trans H;with_reducible exact al)|with_reducible exact H|(rw[a7];exact H)|exact H
 have ac:=aK a7
 clear a7
 by_cases c2: ι.length+B.length<5864062014805
 ·rw[if_pos c2] at H
  have ag:=aK c2
  clear c2
  obtain⟨a4,a8⟩:∃ y_:List (S36),y_=(ι ++ B):=⟨_,rfl⟩
  replace H:((some (([]:List (S86)):List (S86))).bind fun δ =>(if δ.length+Z.length<8796093022208 then (some (a4,(δ ++ Z))) else (none)))=some (r1,r2):=by first|(rw[a8];with_reducible exact H)|(have al:=(Option.bind_some _ _).symm.trans H;rw[a8];with_reducible exact al)|(have al:=(Option.bind_some _ _).symm.trans H;with_reducible exact al)|with_reducible exact H|(rw[a8];exact H)|exact H
  have af:=aK a8
  clear a8
  obtain⟨δ,a9⟩:∃ y_:List (S86),y_=(([]:List (S86))):=⟨_,rfl⟩
  replace H:(if δ.length+Z.length<8796093022208 then (some (a4,(δ ++ Z))) else (none))=some (r1,r2):=by first|(rw[a9];with_reducible exact H)|(have al:=(Option.bind_some _ _).symm.trans H;rw[a9];with_reducible exact al)|(have al:=(Option.bind_some _ _).symm.trans H;with_reducible exact al)|with_reducible exact H|(rw[a9];exact H)|exact H
  have a1:=aK a9
  clear a9
  by_cases c3: δ.length+Z.length<8796093022208
  ·rw[if_pos c3] at H
   have b1:=aK c3
   clear c3
   obtain⟨ar,aa⟩:∃ y_:List (S86),y_=(δ ++ Z):=⟨_,rfl⟩
   replace H:(some (a4,ar))=some (r1,r2):=by first|(rw[aa];with_reducible exact H)|(have al:=(Option.bind_some _ _).symm.trans H;rw[aa];with_reducible exact al)|(have al:=(Option.bind_some _ _).symm.trans H;with_reducible exact al)|with_reducible exact H|(rw[aa];exact H)|exact H
   have az:=aK aa
   clear aa
   simp only[Option.some.injEq,Prod.mk.injEq] at H
   obtain⟨rfl,rfl⟩:=H
   go_enter Try.func15,Try.ntmps15
   try go_wp2_with (first|((with_reducible refine Qe (N:=1) rfl ?_);refine qE 1 #[.slice φ B.length κ,.slice ψ Z.length χ] 50 ?_;intro ζ hg w4 hbox hb;have J:=aK hbox;have b6:=sGe hg;have b7:=sGe hg;replace HB:=sHb hb;clear hb hbox hg)|((with_reducible refine Qe (N:=2) rfl ?_);refine qE 2 #[.slice none 0 0,.slice none 0 0] 50 ?_;intro ε hg w5 hbox hb;have O:=aK hbox;have b9:=sGe hg;have bj:=sGe hg;have θ :=sNl J hg;have ab:=sNg J hg;replace J:=sBk J hb;replace HB:=sHb hb;clear hb hbox hg))
   replace J:=aK (Qd J.out)
   replace O:=aK (Qd O.out)
   replace HB:=aK (Qg HB.out)
   refine Ze (n:=10) (S:=fun w'=>w'.cell? ⟨ζ,0,none⟩=some (.slice φ B.length κ)∧w'.cell? ⟨ζ,1,none⟩=some (.slice ψ Z.length χ)) (ds:=[]) #[false,false,false,false,false,false,false,false,false,false] kr rfl rfl ⟨(Qa J.out 0).trans rfl,(Qa J.out 1).trans rfl⟩ (fun hHeld=>?_);refine Q5 newellaw19_Own.Kr newellaw19_Own.Y6 (fun HT_ HW_=>?_)
   generalize w5.drew=w6 at J O HB hHeld ⊢
   refine qP 1 (some 4) (bN 10 2) HT_ ?_
   refine qP 5 (some 8) (bN 10 34) HT_ ?_
   refine qT 2 (some 5) (bN 10 38) HT_ HW_ hHeld ?_
   refine qT 6 (some 9) (bN 10 102) HT_ HW_ hHeld ?_
   refine Yu (σ:=Value×Value×Value) 3 (bN 10 127) (fun s_=>[(3,s_.1),(6,s_.2.1),(7,s_.2.2)]) (fun s_ w'=>(w'.cell? ⟨ζ,0,none⟩=some (.slice φ B.length κ)∧w'.cell? ⟨ζ,1,none⟩=some (.slice ψ Z.length χ))∧(Kd.R k36 36 w' w.heap.size (fun _=>True) s_.2.1 a4)∧(Kd.R k86 86 w' w.heap.size (fun _=>True) s_.2.2 δ)∧(w'.heap[ζ]?=some (.cells #[.slice φ B.length κ,.slice ψ Z.length χ] 50 (0,0)))∧(w'.heap[ε]?=some (.cells #[.slice none 0 0,.slice none 0 0] 50 (0,0)))∧(Below w.heap.size w w')) ?_ ?_
   rotate_left
   ·intro hCont
    refine Vo (i:=0) (j:=4) (Ni:=some 3) (Nj:=some 7) (bN 10 103) (bN 10 118) rfl rfl rfl rfl (Y9 HT_.out kr) (by decide) (by decide) (fun K hK=>?_) (fun K hK=>?_)
    ·skip
     refine Kd.Zv k36 _ 36 ?hg (N:=3) ?hd (xs:=([]:List (S36))) (inner:=[]) (ok:=fun _=>True) (okp:=fun _=>True) ?hr ?hp (fun _ hk=>hk) trivial (Below.refl _ _) (Nat.le_refl _) (by simp) ?_;(case hd=>rfl);(case hg=>rfl);(case hr=>go_simp <;> rfl);(case hp=>exact(Reps.none _ _))
     intro μ w7 ν hb hg_ hnew_
     clear hg_ hnew_
     (first|rw[← ac.out] at ν |(simp only[Int.reduceToNat] at ν;rw[← ac.out] at ν))
     have Y:=aK (Kd.Q8 ν (Qn HB.out))
     replace J:=sBk J hb
     replace O:=sBk O hb
     replace HB:=sHb hb
     clear hb ν
     refine hK.out _ _ ⟨qc J,qc J⟩ (fun hHeld=>?_)
     clear hK K
     refine qN (some 3) ?_
     refine Vo (i:=3) (j:=4) (Ni:=some 6) (Nj:=some 7) (bN 10 111) (bN 10 119) rfl rfl rfl rfl (Y9 HT_.out kr) (by decide) (by decide) (fun K hK=>?_) (fun K hK=>?_)
     ·skip
      refine Kd.Zl k36 (w0:=w) w.heap.size (by rfl) (.tmp 3) (.tmp 5) 47 36 (.agg #[(.int .i64 0),(.int .i64 0),(.int .i64 0)]) 24 rfl Try.underlying47 Jy rfl (by decide) (by omega) μ ι B _ _ _ (fun _=>True) (fun _=>False) rfl rfl ?aO ?aR (fun _ _ h=>h) (fun _ h=>h.elim) ?aF ?aB ?aS ?aL ?_
      (case aR=>exact(Kd.Qs ah.out HB.out))
      (case aB=>exact HB.out)
      (case aF=>exact(fun _ _=>trivial))
      (case aO=>exact Y.out)
      (case aS=>exact(Qn HB.out))
      (case aL=>have:=ag.out;omega)
      intro a5 w9 ho hb hg hat
      rw[← af.out] at ho
      have η :=aK ho
      replace J:=aK (Q0 (g:= ζ) (o:=.cells #[.slice φ B.length κ,.slice ψ Z.length χ] 50 (0,0)) J.out hg (Kd.Zo Y.out J.out (by decide)))
      replace O:=aK (Q0 (g:= ε) (o:=.cells #[.slice none 0 0,.slice none 0 0] 50 (0,0)) O.out hg (Kd.Zo Y.out O.out (by decide)))
      replace HB:=aK hb
      clear Y
      clear ho hb hg hat
      refine hK.out _ _ ⟨qc J,qc J⟩ (fun hHeld=>?_)
      clear hK K
      refine qN (some 6) ?_
      refine Zf (i:=4) (N:=some 7) (bN 10 127) rfl rfl (Q3 HT_.out kr) (by decide) (fun K hK=>?_)
      refine Kd.Zv k86 _ 86 ?hg (N:=7) ?hd (xs:=([]:List (S86))) (inner:=[]) (ok:=fun _=>True) (okp:=fun _=>True) ?hr ?hp (fun _ hk=>hk) trivial (Below.refl _ _) (Nat.le_refl _) (by simp) ?_;(case hd=>rfl);(case hg=>rfl);(case hr=>go_simp <;> rfl);(case hp=>exact(Reps.none _ _))
      intro ξ fj ae hb hg_ hnew_
      clear hg_ hnew_
      (first|rw[← a1.out] at ae|(simp only[Int.reduceToNat] at ae;rw[← a1.out] at ae))
      have γ:=aK (Kd.Q8 ae (Qn HB.out))
      replace η :=sRb η hb
      replace J:=sBk J hb
      replace O:=sBk O hb
      replace HB:=sHb hb
      clear hb ae
      refine hK.out _ _ ⟨qc J,qc J⟩ (fun hHeld=>?_)
      clear hK K
      refine qN (some 7) ?_
      exact Zw (by simp only[Q9,Act.put,qS]) (hCont (μ,a5,ξ) _ ⟨hHeld,η.out,γ.out,J.out,O.out,HB.out⟩)
     ·skip
      refine Kd.Zv k86 _ 86 ?hg (N:=7) ?hd (xs:=([]:List (S86))) (inner:=[]) (ok:=fun _=>True) (okp:=fun _=>True) ?hr ?hp (fun _ hk=>hk) trivial (Below.refl _ _) (Nat.le_refl _) (by simp) ?_;(case hd=>rfl);(case hg=>rfl);(case hr=>go_simp <;> rfl);(case hp=>exact(Reps.none _ _))
      intro ξ w9 X hb hg_ hnew_
      clear hg_ hnew_
      (first|rw[← a1.out] at X|(simp only[Int.reduceToNat] at X;rw[← a1.out] at X))
      have γ:=aK (Kd.Q8 X (Qn HB.out))
      replace Y:=sRb Y hb
      replace J:=sBk J hb
      replace O:=sBk O hb
      replace HB:=sHb hb
      clear hb X
      refine hK.out _ _ ⟨qc J,qc J⟩ (fun hHeld=>?_)
      clear hK K
      refine qN (some 7) ?_
      refine Zf (i:=3) (N:=some 6) (bN 10 127) rfl rfl (Q3 HT_.out kr) (by decide) (fun K hK=>?_)
      refine Kd.Zl k36 (w0:=w) w.heap.size (by rfl) (.tmp 3) (.tmp 5) 47 36 (.agg #[(.int .i64 0),(.int .i64 0),(.int .i64 0)]) 24 rfl Try.underlying47 Jy rfl (by decide) (by omega) μ ι B _ _ _ (fun _=>True) (fun _=>False) rfl rfl ?aO ?aR (fun _ _ h=>h) (fun _ h=>h.elim) ?aF ?aB ?aS ?aL ?_
      (case aR=>exact(Kd.Qs ah.out HB.out))
      (case aB=>exact HB.out)
      (case aF=>exact(fun _ _=>trivial))
      (case aO=>exact Y.out)
      (case aS=>exact(Qn HB.out))
      (case aL=>have:=ag.out;omega)
      intro a5 d4 ho hb hg hat
      rw[← af.out] at ho
      have η :=aK ho
      replace J:=aK (Q0 (g:= ζ) (o:=.cells #[.slice φ B.length κ,.slice ψ Z.length χ] 50 (0,0)) J.out hg (Kd.Zo Y.out J.out (by decide)))
      replace O:=aK (Q0 (g:= ε) (o:=.cells #[.slice none 0 0,.slice none 0 0] 50 (0,0)) O.out hg (Kd.Zo Y.out O.out (by decide)))
      replace γ:=aK (Kd.Y8 γ.out (Kd.Y7 Y.out) (by decide) hg)
      replace HB:=aK hb
      clear Y
      clear ho hb hg hat
      refine hK.out _ _ ⟨qc J,qc J⟩ (fun hHeld=>?_)
      clear hK K
      refine qN (some 6) ?_
      exact Zw (by simp only[Q9,Act.put,qS]) (hCont (μ,a5,ξ) _ ⟨hHeld,η.out,γ.out,J.out,O.out,HB.out⟩)
    ·skip
     refine Kd.Zv k86 _ 86 ?hg (N:=7) ?hd (xs:=([]:List (S86))) (inner:=[]) (ok:=fun _=>True) (okp:=fun _=>True) ?hr ?hp (fun _ hk=>hk) trivial (Below.refl _ _) (Nat.le_refl _) (by simp) ?_;(case hd=>rfl);(case hg=>rfl);(case hr=>go_simp <;> rfl);(case hp=>exact(Reps.none _ _))
     intro ξ w7 ν hb hg_ hnew_
     clear hg_ hnew_
     (first|rw[← a1.out] at ν |(simp only[Int.reduceToNat] at ν;rw[← a1.out] at ν))
     have γ:=aK (Kd.Q8 ν (Qn HB.out))
     replace J:=sBk J hb
     replace O:=sBk O hb
     replace HB:=sHb hb
     clear hb ν
     refine hK.out _ _ ⟨qc J,qc J⟩ (fun hHeld=>?_)
     clear hK K
     refine qN (some 7) ?_
     refine Zf (i:=0) (N:=some 3) (bN 10 119) rfl rfl (Q3 HT_.out kr) (by decide) (fun K hK=>?_)
     refine Kd.Zv k36 _ 36 ?hg (N:=3) ?hd (xs:=([]:List (S36))) (inner:=[]) (ok:=fun _=>True) (okp:=fun _=>True) ?hr ?hp (fun _ hk=>hk) trivial (Below.refl _ _) (Nat.le_refl _) (by simp) ?_;(case hd=>rfl);(case hg=>rfl);(case hr=>go_simp <;> rfl);(case hp=>exact(Reps.none _ _))
     intro μ w9 X hb hg_ hnew_
     clear hg_ hnew_
     (first|rw[← ac.out] at X|(simp only[Int.reduceToNat] at X;rw[← ac.out] at X))
     have Y:=aK (Kd.Q8 X (Qn HB.out))
     replace γ:=sRb γ hb
     replace J:=sBk J hb
     replace O:=sBk O hb
     replace HB:=sHb hb
     clear hb X
     refine hK.out _ _ ⟨qc J,qc J⟩ (fun hHeld=>?_)
     clear hK K
     refine qN (some 3) ?_
     refine Zf (i:=3) (N:=some 6) (bN 10 127) rfl rfl (Q3 HT_.out kr) (by decide) (fun K hK=>?_)
     refine Kd.Zl k36 (w0:=w) w.heap.size (by rfl) (.tmp 3) (.tmp 5) 47 36 (.agg #[(.int .i64 0),(.int .i64 0),(.int .i64 0)]) 24 rfl Try.underlying47 Jy rfl (by decide) (by omega) μ ι B _ _ _ (fun _=>True) (fun _=>False) rfl rfl ?aO ?aR (fun _ _ h=>h) (fun _ h=>h.elim) ?aF ?aB ?aS ?aL ?_
     (case aR=>exact(Kd.Qs ah.out HB.out))
     (case aB=>exact HB.out)
     (case aF=>exact(fun _ _=>trivial))
     (case aO=>exact Y.out)
     (case aS=>exact(Qn HB.out))
     (case aL=>have:=ag.out;omega)
     intro a5 d4 ho hb hg hat
     rw[← af.out] at ho
     have η :=aK ho
     replace J:=aK (Q0 (g:= ζ) (o:=.cells #[.slice φ B.length κ,.slice ψ Z.length χ] 50 (0,0)) J.out hg (Kd.Zo Y.out J.out (by decide)))
     replace O:=aK (Q0 (g:= ε) (o:=.cells #[.slice none 0 0,.slice none 0 0] 50 (0,0)) O.out hg (Kd.Zo Y.out O.out (by decide)))
     replace γ:=aK (Kd.Y8 γ.out (Kd.Y7 Y.out) (by decide) hg)
     replace HB:=aK hb
     clear Y
     clear ho hb hg hat
     refine hK.out _ _ ⟨qc J,qc J⟩ (fun hHeld=>?_)
     clear hK K
     refine qN (some 6) ?_
     exact Zw (by simp only[Q9,Act.put,qS]) (hCont (μ,a5,ξ) _ ⟨hHeld,η.out,γ.out,J.out,O.out,HB.out⟩)
   rintro⟨μ,a5,ξ⟩ e7 ⟨hS_,bd,bf,bg,bh,bi⟩
   have ρ:Aside0 (Kd.R k36 36 e7 w.heap.size (fun _=>True) a5 a4):=⟨bd⟩
   have τ :Aside0 (Kd.R k86 86 e7 w.heap.size (fun _=>True) ξ δ):=⟨bf⟩
   have ω :Aside0 (e7.heap[ζ]?=some (.cells #[.slice φ B.length κ,.slice ψ Z.length χ] 50 (0,0))):=⟨bg⟩
   have a3:Aside0 (e7.heap[ε]?=some (.cells #[.slice none 0 0,.slice none 0 0] 50 (0,0))):=⟨bh⟩
   have an:Aside0 (Below w.heap.size w e7):=⟨bi⟩
   clear J
   clear O
   clear HB
   clear bd bf bg bh bi
   have η :=ρ
   have γ:= τ
   have J:= ω
   have O:=a3
   have HB:=an
   clear ρ τ ω a3 an
   have hHeld:e7.cell? ⟨ζ,0,none⟩=some (.slice φ B.length κ)∧e7.cell? ⟨ζ,1,none⟩=some (.slice ψ Z.length χ):=hS_
   refine Zw (a':=?_) ?_ ?_
   rotate_left
   ·simp only[Q9,Act.put,qS]
    rfl
   refine Zf (i:=7) (N:=some 10) (bN 10 255) rfl rfl (Q3 HT_.out kr) (by decide) (fun K hK=>?_)
   refine Kd.Zl k86 (w0:=w) w.heap.size (by rfl) (.tmp 7) (.tmp 9) 48 86 (.agg #[(.int .i64 0),(.int .i64 0)]) 16 rfl Try.underlying48 Gc rfl (by decide) (by omega) ξ δ Z _ _ _ (fun _=>True) (fun _=>False) rfl rfl ?aO ?aR (fun _ _ h=>h) (fun _ h=>h.elim) ?aF ?aB ?aS ?aL ?_
   (case aR=>exact(Kd.Qs bk.out HB.out))
   (case aB=>exact HB.out)
   (case aF=>exact(fun _ _=>trivial))
   (case aO=>exact γ.out)
   (case aS=>exact(Qn HB.out))
   (case aL=>have:=b1.out;omega)
   intro bo ba ho hb hg hat
   rw[← az.out] at ho
   have ai:=aK ho
   replace J:=aK (Q0 (g:= ζ) (o:=.cells #[.slice φ B.length κ,.slice ψ Z.length χ] 50 (0,0)) J.out hg (Kd.Zo γ.out J.out (by decide)))
   replace O:=aK (Q0 (g:= ε) (o:=.cells #[.slice none 0 0,.slice none 0 0] 50 (0,0)) O.out hg (Kd.Zo γ.out O.out (by decide)))
   replace η :=aK (Kd.Y8 η.out (Kd.Y7 γ.out) (by decide) hg)
   replace HB:=aK hb
   clear γ
   clear ho hb hg hat
   obtain⟨b2,b3,au⟩:=Kd.Q7 ai.out
   (first|subst au|(injection au with aj aw ak;have ax:=aj.symm;have ay:=ak.symm;clear aj aw ak;subst ax;subst ay))
   obtain⟨am,ap,a6⟩:=Kd.Q7 η.out
   (first|subst a6|(injection a6 with aj aw ak;have ax:=aj.symm;have ay:=ak.symm;clear aj aw ak;subst ax;subst ay))
   refine hK.out _ _ ⟨qc J,qc J⟩ (fun hHeld=>?_)
   clear hK K
   refine qN (some 10) ?_
   refine qP 8 (some 11) (bN 10 511) HT_ ?_
   refine Zf (i:=9) (N:=none) (bN 10 1023) rfl rfl (Q3 HT_.out kr) (by decide) (fun K hK=>?_)
   have bm:ba.cell? ⟨ε,0,none⟩=some (.slice none 0 0):=(Qa O.out 0).trans rfl
   have b0:=Qh O.out 0
   have ao:= θ.out
   have av:=ab.out
   have bp:ba.cell? ⟨ε,1,none⟩=some (.slice none 0 0):=(Qa O.out 1).trans rfl
   have bn:=Qh O.out 1
   have b4:= θ.out
   have b5:=ab.out
   refine Gx (w1:=?_) (by rfl) rfl ?_ ?_
   rotate_left
   ·go_simp
    rfl
   refine hK.out _ _ ⟨((cell_far (p:=⟨ε,_,none⟩) θ.out _).trans (((cell_far (p:=⟨ε,_,none⟩) θ.out _).trans (hHeld.1)))),((cell_far (p:=⟨ε,_,none⟩) θ.out _).trans (((cell_far (p:=⟨ε,_,none⟩) θ.out _).trans (hHeld.2))))⟩ (fun hHeld=>?_)
   clear hK K
   refine Zi (Zc HT_.out kr) ?_
   try go_wp2
   refine bodyPost_ret (results_cell_row rfl _ _ ε 50 #[.slice am a4.length ap,.slice b2 ar.length b3] (0,0) _ rfl (by refine Qq (cs:=#[.slice am a4.length ap,.slice none 0 0]) ?_ 1 _ rfl;refine Qq (cs:=#[.slice none 0 0,.slice none 0 0]) ?_ 0 _ rfl;exact O.out) Try.underlying50 rfl kr) rfl ?_
   exact⟨_,_,by first|rfl|(simp[Qk,Qj] <;> rfl)|(simp[*,Qk,Qj] <;> rfl),by(with_reducible repeat first|apply Kd.Qv|apply Kd.Qu|apply Kd.Qy);exact Kd.Q1 (Kd.Qx (Kd.Qx (Kd.Q4 η.out O.out (by decide)) (fun _ hk=>hk.2) _) (fun _ hk=>hk.2) _) (fun _ hk=>trivial),by(with_reducible repeat first|apply Kd.Qv|apply Kd.Qu|apply Kd.Qy);exact Kd.Q1 (Kd.Qx (Kd.Qx (Kd.Q4 ai.out O.out (by decide)) (fun _ hk=>hk.2) _) (fun _ hk=>hk.2) _) (fun _ hk=>trivial),bel⟩
  ·rw[if_neg c3] at H
   exact absurd H (by simp)
 ·rw[if_neg c2] at H
  exact absurd H (by simp)
def newelref19_Hall.j0:Nat→Bool→Int→Int→Int→Int→Int→Option (Bool)
 |0,_,_,_,_,_,_=>none
 |k+1,δ,J,X,B,O,Y=>if δ = true then (some false) else (if O=1 then (if B≥0 then (some (decide (B≤(wrap64 (J-2))))) else (some false)) else (if O=(-1) then (if B≥1 then (some (decide (B≤(wrap64 (J-1))))) else (some false)) else (some false)))
def newelref19_Hall.f (k:Nat) (B:Int) (J:Int) (δ :Int) (ε :Int) (ι :Int):Option (Bool):=if ι < (-1) then (newelref19_Hall.j0 k true B J δ ε ι) else (newelref19_Hall.j0 k (decide (ι ≥ J)) B J δ ε ι)
set_option maxHeartbeats 8000000 in
set_option maxRecDepth 100000 in
theorem newelref19_Hall.calls (k:Nat) (B:Int) (J:Int) (δ :Int) (ε :Int) (ι :Int) (r:Bool) (w:World) (h:newelref19_Hall.f k B J δ ε ι = some r):
 Calls Try.prog 18 #[.agg #[.int .i64 B,.int .i64 J],.agg #[.int .i64 δ,.int .i64 ε,.int .i64 ι]] w fun e w'=>e = .returned (.bool r)∧Below w.heap.size w w':=by
 have dw:=Try.underlying59
 have ch:=Try.underlying36
 have HB:=aK (Below.refl w.heap.size w)
 have H:(if ι < (-1) then (newelref19_Hall.j0 k true B J δ ε ι) else (newelref19_Hall.j0 k (decide (ι ≥ J)) B J δ ε ι))=some r:=h
 clear h
 have a2:=aK H
 clear H
 go_enter Try.func18,Try.ntmps18
 go_upto_region 1 with(first|((with_reducible refine Qe (N:=2) rfl ?_);refine qE 2 #[.int .i64 B,.int .i64 J] 59 ?_;intro γ hg w4 hbox hb;have Y:=aK hbox;have η :=sGe hg;have θ :=sGe hg;replace HB:=sHb hb;clear hb hbox hg)|((with_reducible refine Qe (N:=3) rfl ?_);refine qE 3 #[.int .i64 δ,.int .i64 ε,.int .i64 ι] 36 ?_;intro ζ hg w5 hbox hb;have Z:=aK hbox;have κ :=sGe hg;have μ :=sGe hg;have O:=sNl Y hg;have X:=sNg Y hg;replace Y:=sBk Y hb;replace HB:=sHb hb;clear hb hbox hg))
 (try simp only[Act.put,qS])
 go_cut [14] (fun al wc=>∃ (kq:Nat) (a0:Bool),al = .bool a0∧Aside0 (newelref19_Hall.j0 kq a0 B J δ ε ι = some r)∧Aside0 (kq≤k)∧Aside0 (wc.heap[γ]?=some (.cells #[.int .i64 B,.int .i64 J] 59 (0,0)))∧Aside0 (wc.heap[ζ]?=some (.cells #[.int .i64 δ,.int .i64 ε,.int .i64 ι] 36 (0,0)))∧Aside0 (Below w.heap.size w wc))
 case first=>
  have H:=a2.out
  clear a2
  by_cases c6: ι < (-1)
  ·rw[if_pos c6] at H
   have c6b0:=decide_eq_true c6
   clear c6
   (first|rw[c6b0]|(simp only[Za,Zb];rw[c6b0])|skip)
   have H':=aK H
   clear H
   have dx:=X.out
   have fi:=O.out
   obtain⟨a8,a9,ao,aa,ab,b2⟩:=qD3 Z.out
   go_wp2
   go_meet
   case rel=>exact⟨_,(true),rfl,H',⟨by first|omega|exact Nat.le_refl _⟩,Y,Z,HB⟩
  ·rw[if_neg c6] at H
   have c6b0:=decide_eq_false c6
   clear c6
   (first|rw[c6b0]|(simp only[Za,Zb];rw[c6b0])|skip)
   have H':=aK H
   clear H
   have bk:=X.out
   have bl:=O.out
   obtain⟨af,bd,du,bf,cw,ee⟩:=qD3 Z.out
   obtain⟨bs,cn,co,cp⟩:=qD2 Y.out
   go_wp2
   go_meet
   case rel=>exact⟨_,(decide (ι ≥ J)),rfl,H',⟨by first|omega|exact Nat.le_refl _⟩,Y,Z,HB⟩
 case rest=>
  clear a2
  obtain⟨kq,a0,rfl,HA,lh,Y,Z,HB⟩:=hcut
  cases kq with
  |zero=>exact absurd HA.out (by simp[newelref19_Hall.j0])
  |succ ll=>
   have H:=HA.out
   clear HA
   simp only[newelref19_Hall.j0] at H
   by_cases a5:a0=true
   ·subst a5
    rw[if_pos rfl] at H
    obtain rfl:=Option.some.inj H
    go_wp2
    go_ret
    exact⟨rfl,HB.out⟩
   ·replace a5:=Bool.eq_false_iff.mpr a5
    subst a5
    rw[if_neg nft] at H
    by_cases ψ : ε = 1
    ·rw[if_pos ψ] at H
     have c13b0:(ε == 1)=true:=beq_iff_eq.mpr ψ
     have c13b1:(ε != 1)=false:=bne_eq_false_iff_eq.mpr ψ
     clear ψ
     by_cases ae: δ ≥ 0
     ·rw[if_pos ae] at H
      have c14b0:decide (0 ≤ δ)=true:=decide_eq_true ae
      clear ae
      obtain rfl:=Option.some.inj H
      have gt:=X.out
      have gu:=O.out
      obtain⟨cx,cy,χ,cz,d0,ω⟩:=qD3 Z.out
      obtain⟨ap,ar,au,av⟩:=qD2 Y.out
      go_wp2
      go_ret
      exact⟨rfl,HB.out⟩
     ·rw[if_neg ae] at H
      have c14b0:decide (0 ≤ δ)=false:=decide_eq_false ae
      clear ae
      obtain rfl:=Option.some.inj H
      have d5:=X.out
      have d6:=O.out
      obtain⟨ag,ah,b5,ai,aj,b8⟩:=qD3 Z.out
      go_wp2
      go_ret
      exact⟨rfl,HB.out⟩
    ·rw[if_neg ψ] at H
     have c13b0:(ε == 1)=false:=beq_eq_false_iff_ne.mpr ψ
     have c13b1:(ε != 1)=true:=bne_iff_ne.mpr ψ
     by_cases φ : ε = (-1)
     ·rw[if_pos φ] at H
      have c20b0:(ε == (-1))=true:=beq_iff_eq.mpr φ
      have c20b1:(ε != (-1))=false:=bne_eq_false_iff_eq.mpr φ
      clear φ
      by_cases ac: δ ≥ 1
      ·rw[if_pos ac] at H
       have c21b0:decide (1 ≤ δ)=true:=decide_eq_true ac
       clear ac
       obtain rfl:=Option.some.inj H
       have el:=X.out
       have em:=O.out
       obtain⟨bb,de,df,dh,dj,dl⟩:=qD3 Z.out
       obtain⟨ay,az,b0,b1⟩:=qD2 Y.out
       go_wp2
       go_ret
       exact⟨rfl,HB.out⟩
      ·rw[if_neg ac] at H
       have c21b0:decide (1 ≤ δ)=false:=decide_eq_false ac
       clear ac
       obtain rfl:=Option.some.inj H
       have en:=X.out
       have eo:=O.out
       obtain⟨b9,cf,dd,cj,ck,dk⟩:=qD3 Z.out
       go_wp2
       go_ret
       exact⟨rfl,HB.out⟩
     ·rw[if_neg φ] at H
      have c20b0:(ε == (-1))=false:=beq_eq_false_iff_ne.mpr φ
      have c20b1:(ε != (-1))=true:=bne_iff_ne.mpr φ
      obtain rfl:=Option.some.inj H
      have b6:=X.out
      have b7:=O.out
      obtain⟨fq,gi,gj,fr,gk,gl⟩:=qD3 Z.out
      go_wp2
      go_ret
      exact⟨rfl,HB.out⟩
theorem eqA36 (d:Nat) (w:World) (B O:Int) (J Y:Int) (X Z:Int):
 (Op.equalIn (d+2) 36 (.agg #[.int .i64 B,.int .i64 J,.int .i64 X]) (.agg #[.int .i64 O,.int .i64 Y,.int .i64 Z])).run Try.prog w = .ok (B==O&&(J==Y&&(X==Z))) w:=by
 refine N5 Try.underlying36 kr ?_
 refine G8 (by rfl) (by go_simp;rfl) (by go_simp;rfl) (by go_simp) ?_
 refine G8 (by rfl) (by go_simp;rfl) (by go_simp;rfl) (by go_simp) ?_
 exact Wl (by rfl) (by go_simp;rfl) (by go_simp;rfl) (by go_simp)
theorem eqA86 (d:Nat) (w:World) (B O:Int) (J Y:Int):
 (Op.equalIn (d+2) 86 (.agg #[.int .i64 B,.int .i64 J]) (.agg #[.int .i64 O,.int .i64 Y])).run Try.prog w = .ok (B==O&&(J==Y)) w:=by
 refine N5 Try.underlying86 kr ?_
 refine G8 (by rfl) (by go_simp;rfl) (by go_simp;rfl) (by go_simp) ?_
 exact Wl (by rfl) (by go_simp;rfl) (by go_simp;rfl) (by go_simp)
def newelref19_House.f (B:Int) (J:Int):Option (Bool):=if B≥2 then (if B≤64 then (if J≥1 then (some (decide (J≤8))) else (some false)) else (some false)) else (some false)
set_option maxHeartbeats 8000000 in
set_option maxRecDepth 100000 in
theorem newelref19_House.calls (B:Int) (J:Int) (r:Bool) (w:World) (h:newelref19_House.f B J=some r):
 Calls Try.prog 59 #[.agg #[.int .i64 B,.int .i64 J]] w fun e w'=>e = .returned (.bool r)∧Below w.heap.size w w':=by
 have dw:=Try.underlying59
 have HB:=aK (Below.refl w.heap.size w)
 have H:(if B≥2 then (if B≤64 then (if J≥1 then (some (decide (J≤8))) else (some false)) else (some false)) else (some false))=some r:=h
 clear h
 by_cases c2:B≥2
 ·rw[if_pos c2] at H
  have c2b0:decide (2≤B)=true:=decide_eq_true c2
  clear c2
  by_cases c3:B≤64
  ·rw[if_pos c3] at H
   have c3b0:=decide_eq_true c3
   clear c3
   by_cases c4:J≥1
   ·rw[if_pos c4] at H
    have c4b0:decide (1≤J)=true:=decide_eq_true c4
    clear c4
    obtain rfl:=Option.some.inj H
    go_enter Try.func59,Try.ntmps59
    go_wp2_with (first|((with_reducible refine Qe (N:=1) rfl ?_);refine Zh ?hg (N:=1) ?hd (cs:=#[.int .i64 B,.int .i64 J]) (t:=59) ?hr ?_;(case hd=>rfl);(case hg=>rfl);(case hr=>first|(go_simp;done)|(go_simp;rfl));intro O hg w5 hbox hb;have ρ:=aK (Q2 (by repeat(first|(with_reducible first|exact HB.out|apply Qo|apply Qi|apply Qg)|exact HB.out)) hb);have τ :=aK (hbox);have ω :=aK ((by rw[hg];exact(Qn (by repeat(first|(with_reducible first|exact HB.out|apply Qo|apply Qi|apply Qg)|exact HB.out))):w.heap.size≤O));have a3:=aK ((by rw[hg];exact(Qn (by repeat(first|(with_reducible first|exact HB.out|apply Qo|apply Qi|apply Qg)|exact HB.out))):w.heap.size≤O));clear HB;have HB:=ρ;have X:= τ;have Z:= ω;have Y:=a3;clear ρ τ ω a3;clear hb hbox hg;obtain⟨σ,a6,ao,b2⟩:=qD2 X.out))
    go_ret
    exact⟨by first|rfl|(simp[Qk,Qj] <;> rfl)|(simp[*,Qk,Qj] <;> rfl),by repeat(first|(with_reducible first|exact HB.out|apply Qo|apply Qi|apply Qg|refine Qr ?_ Y.out)|exact HB.out)⟩
   ·rw[if_neg c4] at H
    have c4b0:decide (1≤J)=false:=decide_eq_false c4
    clear c4
    obtain rfl:=Option.some.inj H
    go_enter Try.func59,Try.ntmps59
    go_wp2_with (first|((with_reducible refine Qe (N:=1) rfl ?_);refine Zh ?hg (N:=1) ?hd (cs:=#[.int .i64 B,.int .i64 J]) (t:=59) ?hr ?_;(case hd=>rfl);(case hg=>rfl);(case hr=>first|(go_simp;done)|(go_simp;rfl));intro O hg w7 hbox hb;have ρ:=aK (Q2 (by repeat(first|(with_reducible first|exact HB.out|apply Qo|apply Qi|apply Qg)|exact HB.out)) hb);have τ :=aK (hbox);have ω :=aK ((by rw[hg];exact(Qn (by repeat(first|(with_reducible first|exact HB.out|apply Qo|apply Qi|apply Qg)|exact HB.out))):w.heap.size≤O));have a3:=aK ((by rw[hg];exact(Qn (by repeat(first|(with_reducible first|exact HB.out|apply Qo|apply Qi|apply Qg)|exact HB.out))):w.heap.size≤O));clear HB;have HB:=ρ;have X:= τ;have Z:= ω;have Y:=a3;clear ρ τ ω a3;clear hb hbox hg;obtain⟨a8,a9,aa,ab⟩:=qD2 X.out))
    go_ret
    exact⟨by first|rfl|(simp[Qk,Qj] <;> rfl)|(simp[*,Qk,Qj] <;> rfl),by repeat(first|(with_reducible first|exact HB.out|apply Qo|apply Qi|apply Qg|refine Qr ?_ Y.out)|exact HB.out)⟩
  ·rw[if_neg c3] at H
   have c3b0:=decide_eq_false c3
   clear c3
   obtain rfl:=Option.some.inj H
   go_enter Try.func59,Try.ntmps59
   go_wp2_with (first|((with_reducible refine Qe (N:=1) rfl ?_);refine Zh ?hg (N:=1) ?hd (cs:=#[.int .i64 B,.int .i64 J]) (t:=59) ?hr ?_;(case hd=>rfl);(case hg=>rfl);(case hr=>first|(go_simp;done)|(go_simp;rfl));intro O hg w9 hbox hb;have ρ:=aK (Q2 (by repeat(first|(with_reducible first|exact HB.out|apply Qo|apply Qi|apply Qg)|exact HB.out)) hb);have τ :=aK (hbox);have ω :=aK ((by rw[hg];exact(Qn (by repeat(first|(with_reducible first|exact HB.out|apply Qo|apply Qi|apply Qg)|exact HB.out))):w.heap.size≤O));have a3:=aK ((by rw[hg];exact(Qn (by repeat(first|(with_reducible first|exact HB.out|apply Qo|apply Qi|apply Qg)|exact HB.out))):w.heap.size≤O));clear HB;have HB:=ρ;have X:= τ;have Z:= ω;have Y:=a3;clear ρ τ ω a3;clear hb hbox hg;obtain⟨af,bd,bf,cw⟩:=qD2 X.out))
   go_ret
   exact⟨by first|rfl|(simp[Qk,Qj] <;> rfl)|(simp[*,Qk,Qj] <;> rfl),by repeat(first|(with_reducible first|exact HB.out|apply Qo|apply Qi|apply Qg|refine Qr ?_ Y.out)|exact HB.out)⟩
 ·rw[if_neg c2] at H
  have c2b0:decide (2≤B)=false:=decide_eq_false c2
  clear c2
  obtain rfl:=Option.some.inj H
  go_enter Try.func59,Try.ntmps59
  go_wp2_with (first|((with_reducible refine Qe (N:=1) rfl ?_);refine Zh ?hg (N:=1) ?hd (cs:=#[.int .i64 B,.int .i64 J]) (t:=59) ?hr ?_;(case hd=>rfl);(case hg=>rfl);(case hr=>first|(go_simp;done)|(go_simp;rfl));intro O hg d4 hbox hb;have ρ:=aK (Q2 (by repeat(first|(with_reducible first|exact HB.out|apply Qo|apply Qi|apply Qg)|exact HB.out)) hb);have τ :=aK (hbox);have ω :=aK ((by rw[hg];exact(Qn (by repeat(first|(with_reducible first|exact HB.out|apply Qo|apply Qi|apply Qg)|exact HB.out))):w.heap.size≤O));have a3:=aK ((by rw[hg];exact(Qn (by repeat(first|(with_reducible first|exact HB.out|apply Qo|apply Qi|apply Qg)|exact HB.out))):w.heap.size≤O));clear HB;have HB:=ρ;have X:= τ;have Z:= ω;have Y:=a3;clear ρ τ ω a3;clear hb hbox hg;obtain⟨a5,am,b3,b4⟩:=qD2 X.out))
  go_ret
  exact⟨by first|rfl|(simp[Qk,Qj] <;> rfl)|(simp[*,Qk,Qj] <;> rfl),by repeat(first|(with_reducible first|exact HB.out|apply Qo|apply Qi|apply Qg|refine Qr ?_ Y.out)|exact HB.out)⟩
def newelref19_ahead.f (B:Int) (J:Int) (O:Int) (δ :Int) (ε :Int) (ι :Int):Option (Bool):=if B < δ then (some true) else (if B = δ then (some (decide (J < ε))) else (some false))
set_option maxHeartbeats 8000000 in
set_option maxRecDepth 100000 in
theorem newelref19_ahead.calls (B:Int) (J:Int) (O:Int) (δ :Int) (ε :Int) (ι :Int) (r:Bool) (w:World) (h:newelref19_ahead.f B J O δ ε ι = some r):
 Calls Try.prog 60 #[.agg #[.int .i64 B,.int .i64 J,.int .i64 O],.agg #[.int .i64 δ,.int .i64 ε,.int .i64 ι]] w fun e w'=>e = .returned (.bool r)∧Below w.heap.size w w':=by
 have ch:=Try.underlying36
 have HB:=aK (Below.refl w.heap.size w)
 have H:(if B < δ then (some true) else (if B = δ then (some (decide (J < ε))) else (some false)))=some r:=h
 clear h
 by_cases c3:B < δ
 ·rw[if_pos c3] at H
  have c3b0:=decide_eq_true c3
  clear c3
  obtain rfl:=Option.some.inj H
  go_enter Try.func60,Try.ntmps60
  go_wp2_with (first|((with_reducible refine Qe (N:=2) rfl ?_);refine qE 2 #[.int .i64 B,.int .i64 J,.int .i64 O] 36 ?_;intro ζ hg w4 hbox hb;have X:=aK hbox;have η :=sGe hg;have θ :=sGe hg;replace HB:=sHb hb;clear hb hbox hg)|((with_reducible refine Qe (N:=3) rfl ?_);refine qE 3 #[.int .i64 δ,.int .i64 ε,.int .i64 ι] 36 ?_;intro κ hg w5 hbox hb;have γ:=aK hbox;have μ :=sGe hg;have ν :=sGe hg;have Y:=sNl X hg;have Z:=sNg X hg;replace X:=sBk X hb;replace HB:=sHb hb;clear hb hbox hg;have cr:=Y.out;have cv:=Z.out;obtain⟨a0,a2,b1,ae,ay,bc⟩:=qD3 X.out;obtain⟨a8,a9,ao,aa,ab,b2⟩:=qD3 γ.out))
  go_ret
  exact⟨rfl,HB.out⟩
 ·rw[if_neg c3] at H
  have c3b0:=decide_eq_false c3
  clear c3
  by_cases c9:B = δ
  ·rw[if_pos c9] at H
   have c9b0:(B == δ)=true:=beq_iff_eq.mpr c9
   have c9b1:(B != δ)=false:=bne_eq_false_iff_eq.mpr c9
   clear c9
   obtain rfl:=Option.some.inj H
   go_enter Try.func60,Try.ntmps60
   go_wp2_with (first|((with_reducible refine Qe (N:=2) rfl ?_);refine qE 2 #[.int .i64 B,.int .i64 J,.int .i64 O] 36 ?_;intro ζ hg fj hbox hb;have X:=aK hbox;have η :=sGe hg;have θ :=sGe hg;replace HB:=sHb hb;clear hb hbox hg)|((with_reducible refine Qe (N:=3) rfl ?_);refine qE 3 #[.int .i64 δ,.int .i64 ε,.int .i64 ι] 36 ?_;intro κ hg d4 hbox hb;have γ:=aK hbox;have μ :=sGe hg;have ν :=sGe hg;have Y:=sNl X hg;have Z:=sNg X hg;replace X:=sBk X hb;replace HB:=sHb hb;clear hb hbox hg;have ev:=Y.out;have f7:=Z.out;obtain⟨af,bd,bu,ba,bf,bv⟩:=qD3 X.out;obtain⟨bw,bz,d5,ca,cb,d6⟩:=qD3 γ.out))
   go_ret
   exact⟨rfl,HB.out⟩
  ·rw[if_neg c9] at H
   have c9b0:(B == δ)=false:=beq_eq_false_iff_ne.mpr c9
   have c9b1:(B != δ)=true:=bne_iff_ne.mpr c9
   obtain rfl:=Option.some.inj H
   go_enter Try.func60,Try.ntmps60
   go_wp2_with (first|((with_reducible refine Qe (N:=2) rfl ?_);refine qE 2 #[.int .i64 B,.int .i64 J,.int .i64 O] 36 ?_;intro ζ hg ez hbox hb;have X:=aK hbox;have η :=sGe hg;have θ :=sGe hg;replace HB:=sHb hb;clear hb hbox hg)|((with_reducible refine Qe (N:=3) rfl ?_);refine qE 3 #[.int .i64 δ,.int .i64 ε,.int .i64 ι] 36 ?_;intro κ hg cx hbox hb;have γ:=aK hbox;have μ :=sGe hg;have ν :=sGe hg;have Y:=sNl X hg;have Z:=sNg X hg;replace X:=sBk X hb;replace HB:=sHb hb;clear hb hbox hg;have k7:=Y.out;have k8:=Z.out;obtain⟨bg,bh,er,bi,bj,et⟩:=qD3 X.out;obtain⟨ag,ah,b5,ai,aj,b8⟩:=qD3 γ.out))
   go_ret
   exact⟨rfl,HB.out⟩
def newelref19_Inside.f (B:Int) (J:Int) (δ :Int) (ε :Int):Option (Bool):=if δ ≥ 0 then (if δ < J then (if ε ≥ 0 then (some (decide (ε < B))) else (some false)) else (some false)) else (some false)
set_option maxHeartbeats 8000000 in
set_option maxRecDepth 100000 in
theorem newelref19_Inside.calls (B:Int) (J:Int) (δ :Int) (ε :Int) (r:Bool) (w:World) (h:newelref19_Inside.f B J δ ε = some r):
 Calls Try.prog 61 #[.agg #[.int .i64 B,.int .i64 J],.agg #[.int .i64 δ,.int .i64 ε]] w fun e w'=>e = .returned (.bool r)∧Below w.heap.size w w':=by
 have dw:=Try.underlying59
 have cu:=Try.underlying86
 have HB:=aK (Below.refl w.heap.size w)
 have H:(if δ ≥ 0 then (if δ < J then (if ε ≥ 0 then (some (decide (ε < B))) else (some false)) else (some false)) else (some false))=some r:=h
 clear h
 by_cases c3: δ ≥ 0
 ·rw[if_pos c3] at H
  have c3b0:decide (0 ≤ δ)=true:=decide_eq_true c3
  clear c3
  by_cases c4: δ < J
  ·rw[if_pos c4] at H
   have c4b0:=decide_eq_true c4
   clear c4
   by_cases c5: ε ≥ 0
   ·rw[if_pos c5] at H
    have c5b0:decide (0 ≤ ε)=true:=decide_eq_true c5
    clear c5
    obtain rfl:=Option.some.inj H
    go_enter Try.func61,Try.ntmps61
    go_wp2_with (first|((with_reducible refine Qe (N:=2) rfl ?_);refine qE 2 #[.int .i64 B,.int .i64 J] 59 ?_;intro γ hg w6 hbox hb;have O:=aK hbox;have ζ :=sGe hg;have η :=sGe hg;replace HB:=sHb hb;clear hb hbox hg)|((with_reducible refine Qe (N:=3) rfl ?_);refine qE 3 #[.int .i64 δ,.int .i64 ε] 86 ?_;intro θ hg w7 hbox hb;have Z:=aK hbox;have ι :=sGe hg;have κ :=sGe hg;have X:=sNl O hg;have Y:=sNg O hg;replace O:=sBk O hb;replace HB:=sHb hb;clear hb hbox hg;have b9:=Y.out;have bn:=X.out;obtain⟨ao,b7,bi,bk⟩:=qD2 Z.out;obtain⟨af,bd,bf,cw⟩:=qD2 O.out))
    go_ret
    exact⟨rfl,HB.out⟩
   ·rw[if_neg c5] at H
    have c5b0:decide (0 ≤ ε)=false:=decide_eq_false c5
    clear c5
    obtain rfl:=Option.some.inj H
    go_enter Try.func61,Try.ntmps61
    go_wp2_with (first|((with_reducible refine Qe (N:=2) rfl ?_);refine qE 2 #[.int .i64 B,.int .i64 J] 59 ?_;intro γ hg d4 hbox hb;have O:=aK hbox;have ζ :=sGe hg;have η :=sGe hg;replace HB:=sHb hb;clear hb hbox hg)|((with_reducible refine Qe (N:=3) rfl ?_);refine qE 3 #[.int .i64 δ,.int .i64 ε] 86 ?_;intro θ hg e7 hbox hb;have Z:=aK hbox;have ι :=sGe hg;have κ :=sGe hg;have X:=sNl O hg;have Y:=sNg O hg;replace O:=sBk O hb;replace HB:=sHb hb;clear hb hbox hg;have gp:=Y.out;have gq:=X.out;obtain⟨bw,bz,ca,cb⟩:=qD2 Z.out;obtain⟨bu,bv,ci,cm⟩:=qD2 O.out))
    go_ret
    exact⟨rfl,HB.out⟩
  ·rw[if_neg c4] at H
   have c4b0:=decide_eq_false c4
   clear c4
   obtain rfl:=Option.some.inj H
   go_enter Try.func61,Try.ntmps61
   go_wp2_with (first|((with_reducible refine Qe (N:=2) rfl ?_);refine qE 2 #[.int .i64 B,.int .i64 J] 59 ?_;intro γ hg cx hbox hb;have O:=aK hbox;have ζ :=sGe hg;have η :=sGe hg;replace HB:=sHb hb;clear hb hbox hg)|((with_reducible refine Qe (N:=3) rfl ?_);refine qE 3 #[.int .i64 δ,.int .i64 ε] 86 ?_;intro θ hg d1 hbox hb;have Z:=aK hbox;have ι :=sGe hg;have κ :=sGe hg;have X:=sNl O hg;have Y:=sNg O hg;replace O:=sBk O hb;replace HB:=sHb hb;clear hb hbox hg;have d5:=Y.out;have d6:=X.out;obtain⟨ag,ah,ai,aj⟩:=qD2 Z.out;obtain⟨ak,an,aw,ax⟩:=qD2 O.out))
   go_ret
   exact⟨rfl,HB.out⟩
 ·rw[if_neg c3] at H
  have c3b0:decide (0 ≤ δ)=false:=decide_eq_false c3
  clear c3
  obtain rfl:=Option.some.inj H
  go_enter Try.func61,Try.ntmps61
  go_wp2_with (first|((with_reducible refine Qe (N:=2) rfl ?_);refine qE 2 #[.int .i64 B,.int .i64 J] 59 ?_;intro γ hg b2 hbox hb;have O:=aK hbox;have ζ :=sGe hg;have η :=sGe hg;replace HB:=sHb hb;clear hb hbox hg)|((with_reducible refine Qe (N:=3) rfl ?_);refine qE 3 #[.int .i64 δ,.int .i64 ε] 86 ?_;intro θ hg bj hbox hb;have Z:=aK hbox;have ι :=sGe hg;have κ :=sGe hg;have X:=sNl O hg;have Y:=sNg O hg;replace O:=sBk O hb;replace HB:=sHb hb;clear hb hbox hg;have dl:=Y.out;have dy:=X.out;obtain⟨ay,az,b0,b1⟩:=qD2 Z.out))
  go_ret
  exact⟨rfl,HB.out⟩
def newelref19_before.f (B:Int) (J:Int) (δ :Int) (ε :Int):Option (Bool):=if B < δ then (some true) else (if B = δ then (some (decide (J < ε))) else (some false))
set_option maxHeartbeats 8000000 in
set_option maxRecDepth 100000 in
theorem newelref19_before.calls (B:Int) (J:Int) (δ :Int) (ε :Int) (r:Bool) (w:World) (h:newelref19_before.f B J δ ε = some r):
 Calls Try.prog 62 #[.agg #[.int .i64 B,.int .i64 J],.agg #[.int .i64 δ,.int .i64 ε]] w fun e w'=>e = .returned (.bool r)∧Below w.heap.size w w':=by
 have cu:=Try.underlying86
 have HB:=aK (Below.refl w.heap.size w)
 have H:(if B < δ then (some true) else (if B = δ then (some (decide (J < ε))) else (some false)))=some r:=h
 clear h
 by_cases c3:B < δ
 ·rw[if_pos c3] at H
  have c3b0:=decide_eq_true c3
  clear c3
  obtain rfl:=Option.some.inj H
  go_enter Try.func62,Try.ntmps62
  go_wp2_with (first|((with_reducible refine Qe (N:=2) rfl ?_);refine qE 2 #[.int .i64 B,.int .i64 J] 86 ?_;intro γ hg w4 hbox hb;have O:=aK hbox;have ζ :=sGe hg;have η :=sGe hg;replace HB:=sHb hb;clear hb hbox hg)|((with_reducible refine Qe (N:=3) rfl ?_);refine qE 3 #[.int .i64 δ,.int .i64 ε] 86 ?_;intro θ hg w5 hbox hb;have Z:=aK hbox;have ι :=sGe hg;have κ :=sGe hg;have X:=sNl O hg;have Y:=sNg O hg;replace O:=sBk O hb;replace HB:=sHb hb;clear hb hbox hg;have cr:=X.out;have cv:=Y.out;obtain⟨a0,a2,ae,ay⟩:=qD2 O.out;obtain⟨a8,a9,aa,ab⟩:=qD2 Z.out))
  go_ret
  exact⟨rfl,HB.out⟩
 ·rw[if_neg c3] at H
  have c3b0:=decide_eq_false c3
  clear c3
  by_cases c9:B = δ
  ·rw[if_pos c9] at H
   have c9b0:(B == δ)=true:=beq_iff_eq.mpr c9
   have c9b1:(B != δ)=false:=bne_eq_false_iff_eq.mpr c9
   clear c9
   obtain rfl:=Option.some.inj H
   go_enter Try.func62,Try.ntmps62
   go_wp2_with (first|((with_reducible refine Qe (N:=2) rfl ?_);refine qE 2 #[.int .i64 B,.int .i64 J] 86 ?_;intro γ hg fj hbox hb;have O:=aK hbox;have ζ :=sGe hg;have η :=sGe hg;replace HB:=sHb hb;clear hb hbox hg)|((with_reducible refine Qe (N:=3) rfl ?_);refine qE 3 #[.int .i64 δ,.int .i64 ε] 86 ?_;intro θ hg d4 hbox hb;have Z:=aK hbox;have ι :=sGe hg;have κ :=sGe hg;have X:=sNl O hg;have Y:=sNg O hg;replace O:=sBk O hb;replace HB:=sHb hb;clear hb hbox hg;have ev:=X.out;have f7:=Y.out;obtain⟨af,bd,ba,bf⟩:=qD2 O.out;obtain⟨bw,bz,ca,cb⟩:=qD2 Z.out))
   go_ret
   exact⟨rfl,HB.out⟩
  ·rw[if_neg c9] at H
   have c9b0:(B == δ)=false:=beq_eq_false_iff_ne.mpr c9
   have c9b1:(B != δ)=true:=bne_iff_ne.mpr c9
   obtain rfl:=Option.some.inj H
   go_enter Try.func62,Try.ntmps62
   go_wp2_with (first|((with_reducible refine Qe (N:=2) rfl ?_);refine qE 2 #[.int .i64 B,.int .i64 J] 86 ?_;intro γ hg ez hbox hb;have O:=aK hbox;have ζ :=sGe hg;have η :=sGe hg;replace HB:=sHb hb;clear hb hbox hg)|((with_reducible refine Qe (N:=3) rfl ?_);refine qE 3 #[.int .i64 δ,.int .i64 ε] 86 ?_;intro θ hg cx hbox hb;have Z:=aK hbox;have ι :=sGe hg;have κ :=sGe hg;have X:=sNl O hg;have Y:=sNg O hg;replace O:=sBk O hb;replace HB:=sHb hb;clear hb hbox hg;have k7:=X.out;have k8:=Y.out;obtain⟨bg,bh,bi,bj⟩:=qD2 O.out;obtain⟨ag,ah,ai,aj⟩:=qD2 Z.out))
   go_ret
   exact⟨rfl,HB.out⟩
end Go.Proofs.Ytmfffemidlhcpaa.C
